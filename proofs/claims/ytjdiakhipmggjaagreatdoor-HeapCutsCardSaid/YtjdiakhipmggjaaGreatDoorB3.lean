/- Parts of a proof about the given program: its functions as texts of their own, what each computes, plain laws of that. The conditions of each stand in its statement. -/
import Derived.Test.YtjdiakhipmggjaaGreatDoorB2
import Derived.Test.YtjdiakhipmggjaaGreatDoorB1
import Derived.ChangeArms
import Derived.DataReads
import Derived.SizedLaws
import Derived.Deep.AppendSrc
import Derived.Laws.StructEq
set_option linter.unnecessarySimpa false
set_option linter.defProp false
set_option linter.unusedSectionVars false
set_option linter.unusedVariables false
set_option linter.unusedSimpArgs false
namespace Go.Proofs.YtjdiakhipmggjaaGreatDoor
open Go.Emb
instance z_x:TZ P T.x 1 0 (.tuple #[]):=⟨by kernel_rfl⟩
instance g_x:TG P T.x false:=⟨by kernel_rfl⟩
instance z_int64:TZ P T.a1 1 8 (.int .i64 0):=⟨by kernel_rfl⟩
instance g_int64:TG P T.a1 false:=⟨by kernel_rfl⟩
instance z_int:TZ P T.e 1 8 (.int .i64 0):=⟨by kernel_rfl⟩
instance g_int:TG P T.e false:=⟨by kernel_rfl⟩
instance z_bool:TZ P T.v 1 1 (.bool false):=⟨by kernel_rfl⟩
instance g_bool:TG P T.v false:=⟨by kernel_rfl⟩
instance z_uint8:TZ P T.a3 1 1 (.int .u8 0):=⟨by kernel_rfl⟩
instance g_uint8:TG P T.a3 false:=⟨by kernel_rfl⟩
instance z_string:TZ P T.c 1 16 (.string ⟨#[]⟩):=⟨by kernel_rfl⟩
instance g_string:TG P T.c false:=⟨by kernel_rfl⟩
instance z_uintptr:TZ P T.av 1 8 (.int .u64 0):=⟨by kernel_rfl⟩
instance g_uintptr:TG P T.av false:=⟨by kernel_rfl⟩
instance z_int32:TZ P T.an 1 4 (.int .i32 0):=⟨by kernel_rfl⟩
instance g_int32:TG P T.an false:=⟨by kernel_rfl⟩
instance z_P_hier_Table:TZ P T.s 1 8 (.pointer none):=⟨by kernel_rfl⟩
instance g_P_hier_Table:TG P T.s false:=⟨by kernel_rfl⟩
instance z_api_Errno:TZ P T.z 1 8 (.int .i64 0):=⟨by kernel_rfl⟩
instance g_api_Errno:TG P T.z false:=⟨by kernel_rfl⟩
instance z_S_api_Class:TZ P T.i 1 24 (.slice none 0 0):=⟨by kernel_rfl⟩
instance g_S_api_Class:TG P T.i false:=⟨by kernel_rfl⟩
instance s_S_api_Class:TS P T.i 85:=⟨by kernel_rfl⟩
instance z_P_heap_Heap:TZ P T.a5 1 8 (.pointer none):=⟨by kernel_rfl⟩
instance g_P_heap_Heap:TG P T.a5 false:=⟨by kernel_rfl⟩
instance z_api_Value:TZ P T.g 4 40 (.agg #[.int .i64 0, .int .i64 0, .string ⟨#[]⟩, .int .i64 0]):=⟨by kernel_rfl⟩
instance g_api_Value:TG P T.g true:=⟨by kernel_rfl⟩
instance f_api_Value_0:TF P T.g 0 0 3:=⟨by kernel_rfl⟩
instance f_api_Value_1:TF P T.g 1 1 2:=⟨by kernel_rfl⟩
instance f_api_Value_2:TF P T.g 2 2 9:=⟨by kernel_rfl⟩
instance f_api_Value_3:TF P T.g 3 3 3:=⟨by kernel_rfl⟩
instance z_S_api_Cell:TZ P T.f 1 24 (.slice none 0 0):=⟨by kernel_rfl⟩
instance g_S_api_Cell:TG P T.f false:=⟨by kernel_rfl⟩
instance s_S_api_Cell:TS P T.f 78:=⟨by kernel_rfl⟩
instance z_uint16:TZ P T.aq 1 2 (.int .u16 0):=⟨by kernel_rfl⟩
instance g_uint16:TG P T.aq false:=⟨by kernel_rfl⟩
instance z_S_squinchref09_Act:TZ P T.q 1 24 (.slice none 0 0):=⟨by kernel_rfl⟩
instance g_S_squinchref09_Act:TG P T.q false:=⟨by kernel_rfl⟩
instance s_S_squinchref09_Act:TS P T.q 51:=⟨by kernel_rfl⟩
instance z_squinchref09_Heap:TZ P T.a 3 56 (.agg #[.slice none 0 0, .int .i64 0, .slice none 0 0]):=⟨by kernel_rfl⟩
instance g_squinchref09_Heap:TG P T.a true:=⟨by kernel_rfl⟩
instance f_squinchref09_Heap_0:TF P T.a 0 0 26:=⟨by kernel_rfl⟩
instance f_squinchref09_Heap_1:TF P T.a 1 1 3:=⟨by kernel_rfl⟩
instance f_squinchref09_Heap_2:TF P T.a 2 2 37:=⟨by kernel_rfl⟩
instance z_squinchref09_Act:TZ P T.m 8 80 (.agg #[.int .i64 0, .string ⟨#[]⟩, .int .i64 0, .int .i64 0, .int .i64 0, .int .i64 0, .string ⟨#[]⟩, .int .i64 0]):=⟨by kernel_rfl⟩
instance g_squinchref09_Act:TG P T.m true:=⟨by kernel_rfl⟩
instance f_squinchref09_Act_0:TF P T.m 0 0 3:=⟨by kernel_rfl⟩
instance f_squinchref09_Act_1:TF P T.m 1 1 9:=⟨by kernel_rfl⟩
instance f_squinchref09_Act_2:TF P T.m 2 2 2:=⟨by kernel_rfl⟩
instance f_squinchref09_Act_3:TF P T.m 3 3 3:=⟨by kernel_rfl⟩
instance f_squinchref09_Act_4:TF P T.m 4 4 33:=⟨by kernel_rfl⟩
instance z_S_string:TZ P T.h 1 24 (.slice none 0 0):=⟨by kernel_rfl⟩
instance g_S_string:TG P T.h false:=⟨by kernel_rfl⟩
instance s_S_string:TS P T.h 9:=⟨by kernel_rfl⟩
instance z_S_api_Field:TZ P T.k 1 24 (.slice none 0 0):=⟨by kernel_rfl⟩
instance g_S_api_Field:TG P T.k false:=⟨by kernel_rfl⟩
instance s_S_api_Field:TS P T.k 69:=⟨by kernel_rfl⟩
instance z_api_Field:TZ P T.o 3 40 (.agg #[.string ⟨#[]⟩, .string ⟨#[]⟩, .bool false]):=⟨by kernel_rfl⟩
instance g_api_Field:TG P T.o true:=⟨by kernel_rfl⟩
instance f_api_Field_0:TF P T.o 0 0 9:=⟨by kernel_rfl⟩
instance f_api_Field_1:TF P T.o 1 1 9:=⟨by kernel_rfl⟩
instance f_api_Field_2:TF P T.o 2 2 4:=⟨by kernel_rfl⟩
instance z_func_int_2:TZ P T.ak 1 8 .nilFunc:=⟨by kernel_rfl⟩
instance g_func_int_2:TG P T.ak false:=⟨by kernel_rfl⟩
instance z_S_api_Value:TZ P T.l 1 24 (.slice none 0 0):=⟨by kernel_rfl⟩
instance g_S_api_Value:TG P T.l false:=⟨by kernel_rfl⟩
instance s_S_api_Value:TS P T.l 33:=⟨by kernel_rfl⟩
instance z_api_Cell:TZ P T.n 2 40 (.agg #[.string ⟨#[]⟩, .slice none 0 0]):=⟨by kernel_rfl⟩
instance g_api_Cell:TG P T.n true:=⟨by kernel_rfl⟩
instance f_api_Cell_0:TF P T.n 0 0 9:=⟨by kernel_rfl⟩
instance f_api_Cell_1:TF P T.n 1 1 76:=⟨by kernel_rfl⟩
instance z_M_string_int:TZ P T.a2 1 8 (.map none):=⟨by kernel_rfl⟩
instance g_M_string_int:TG P T.a2 false:=⟨by kernel_rfl⟩
instance m_M_string_int:TM P T.a2 9 3:=⟨by kernel_rfl⟩
instance z_hier_Table:TZ P T.a0 2 32 (.agg #[.slice none 0 0, .map none]):=⟨by kernel_rfl⟩
instance g_hier_Table:TG P T.a0 true:=⟨by kernel_rfl⟩
instance f_hier_Table_0:TF P T.a0 0 0 26:=⟨by kernel_rfl⟩
instance f_hier_Table_1:TF P T.a0 1 1 80:=⟨by kernel_rfl⟩
instance z_S_api_Method:TZ P T.j 1 24 (.slice none 0 0):=⟨by kernel_rfl⟩
instance g_S_api_Method:TG P T.j false:=⟨by kernel_rfl⟩
instance s_S_api_Method:TS P T.j 98:=⟨by kernel_rfl⟩
instance z_api_Class:TZ P T.b 8 112 (.agg #[.string ⟨#[]⟩, .string ⟨#[]⟩, .slice none 0 0, .bool false, .bool false, .bool false, .slice none 0 0, .slice none 0 0]):=⟨by kernel_rfl⟩
instance g_api_Class:TG P T.b true:=⟨by kernel_rfl⟩
instance f_api_Class_0:TF P T.b 0 0 9:=⟨by kernel_rfl⟩
instance f_api_Class_1:TF P T.b 1 1 9:=⟨by kernel_rfl⟩
instance f_api_Class_2:TF P T.b 2 2 54:=⟨by kernel_rfl⟩
instance f_api_Class_3:TF P T.b 3 3 4:=⟨by kernel_rfl⟩
instance f_api_Class_4:TF P T.b 4 4 4:=⟨by kernel_rfl⟩
instance f_api_Class_5:TF P T.b 5 5 4:=⟨by kernel_rfl⟩
instance f_api_Class_6:TF P T.b 6 6 65:=⟨by kernel_rfl⟩
instance f_api_Class_7:TF P T.b 7 7 83:=⟨by kernel_rfl⟩
instance z_func_string_bool:TZ P T.a4 1 8 .nilFunc:=⟨by kernel_rfl⟩
instance g_func_string_bool:TG P T.a4 false:=⟨by kernel_rfl⟩
instance z_S_int:TZ P T.a7 1 24 (.slice none 0 0):=⟨by kernel_rfl⟩
instance g_S_int:TG P T.a7 false:=⟨by kernel_rfl⟩
instance s_S_int:TS P T.a7 3:=⟨by kernel_rfl⟩
instance z_api_Instr:TZ P T.w 3 40 (.agg #[.string ⟨#[]⟩, .int .i64 0, .string ⟨#[]⟩]):=⟨by kernel_rfl⟩
instance g_api_Instr:TG P T.w true:=⟨by kernel_rfl⟩
instance f_api_Instr_0:TF P T.w 0 0 9:=⟨by kernel_rfl⟩
instance f_api_Instr_1:TF P T.w 1 1 2:=⟨by kernel_rfl⟩
instance f_api_Instr_2:TF P T.w 2 2 9:=⟨by kernel_rfl⟩
instance z_S_api_Instr:TZ P T.r 1 24 (.slice none 0 0):=⟨by kernel_rfl⟩
instance g_S_api_Instr:TG P T.r false:=⟨by kernel_rfl⟩
instance s_S_api_Instr:TS P T.r 94:=⟨by kernel_rfl⟩
instance z_S_api_Catch:TZ P T.t 1 24 (.slice none 0 0):=⟨by kernel_rfl⟩
instance g_S_api_Catch:TG P T.t false:=⟨by kernel_rfl⟩
instance s_S_api_Catch:TS P T.t 172:=⟨by kernel_rfl⟩
instance z_api_Method:TZ P T.d 7 120 (.agg #[.string ⟨#[]⟩, .slice none 0 0, .string ⟨#[]⟩, .bool false, .int .i64 0, .slice none 0 0, .slice none 0 0]):=⟨by kernel_rfl⟩
instance g_api_Method:TG P T.d true:=⟨by kernel_rfl⟩
instance f_api_Method_0:TF P T.d 0 0 9:=⟨by kernel_rfl⟩
instance f_api_Method_1:TF P T.d 1 1 54:=⟨by kernel_rfl⟩
instance f_api_Method_2:TF P T.d 2 2 9:=⟨by kernel_rfl⟩
instance f_api_Method_3:TF P T.d 3 3 4:=⟨by kernel_rfl⟩
instance f_api_Method_4:TF P T.d 4 4 3:=⟨by kernel_rfl⟩
instance f_api_Method_5:TF P T.d 5 5 95:=⟨by kernel_rfl⟩
instance f_api_Method_6:TF P T.d 6 6 96:=⟨by kernel_rfl⟩
instance z_heap_Heap:TZ P T.p 4 48 (.agg #[.pointer none, .int .i64 0, .int .i64 0, .slice none 0 0]):=⟨by kernel_rfl⟩
instance g_heap_Heap:TG P T.p true:=⟨by kernel_rfl⟩
instance f_heap_Heap_0:TF P T.p 0 0 22:=⟨by kernel_rfl⟩
instance f_heap_Heap_1:TF P T.p 1 1 3:=⟨by kernel_rfl⟩
instance f_heap_Heap_2:TF P T.p 2 2 3:=⟨by kernel_rfl⟩
instance f_heap_Heap_3:TF P T.p 3 3 37:=⟨by kernel_rfl⟩
instance z_func_string_string:TZ P T.ac 1 8 .nilFunc:=⟨by kernel_rfl⟩
instance g_func_string_string:TG P T.ac false:=⟨by kernel_rfl⟩
instance z_A6_string:TZ P T.ao 6 96 (.agg #[.string ⟨#[]⟩, .string ⟨#[]⟩, .string ⟨#[]⟩, .string ⟨#[]⟩, .string ⟨#[]⟩, .string ⟨#[]⟩]):=⟨by kernel_rfl⟩
instance g_A6_string:TG P T.ao true:=⟨by kernel_rfl⟩
instance a_A6_string:TA P T.ao 6 9:=⟨by kernel_rfl⟩
instance z_M_string_string:TZ P T.y 1 8 (.map none):=⟨by kernel_rfl⟩
instance g_M_string_string:TG P T.y false:=⟨by kernel_rfl⟩
instance m_M_string_string:TM P T.y 9 9:=⟨by kernel_rfl⟩
instance z_func_api_Method_string:TZ P T.a9 1 8 .nilFunc:=⟨by kernel_rfl⟩
instance g_func_api_Method_string:TG P T.a9 false:=⟨by kernel_rfl⟩
instance z_func_api_Method_bool:TZ P T.ae 1 8 .nilFunc:=⟨by kernel_rfl⟩
instance g_func_api_Method_bool:TG P T.ae false:=⟨by kernel_rfl⟩
instance z_S_S_bool:TZ P T.a8 1 24 (.slice none 0 0):=⟨by kernel_rfl⟩
instance g_S_S_bool:TG P T.a8 false:=⟨by kernel_rfl⟩
instance s_S_S_bool:TS P T.a8 148:=⟨by kernel_rfl⟩
instance z_S_bool:TZ P T.a6 1 24 (.slice none 0 0):=⟨by kernel_rfl⟩
instance g_S_bool:TG P T.a6 false:=⟨by kernel_rfl⟩
instance s_S_bool:TS P T.a6 4:=⟨by kernel_rfl⟩
instance g_A256_uint8:TG P T.au true:=⟨by kernel_rfl⟩
instance a_A256_uint8:TA P T.au 256 5:=⟨by kernel_rfl⟩
instance z_utf8_acceptRange:TZ P T.aj 2 2 (.agg #[.int .u8 0, .int .u8 0]):=⟨by kernel_rfl⟩
instance g_utf8_acceptRange:TG P T.aj true:=⟨by kernel_rfl⟩
instance f_utf8_acceptRange_0:TF P T.aj 0 0 5:=⟨by kernel_rfl⟩
instance f_utf8_acceptRange_1:TF P T.aj 1 1 5:=⟨by kernel_rfl⟩
instance z_A16_utf8_acceptRange:TZ P T.al 32 32 (.agg #[.int .u8 0, .int .u8 0, .int .u8 0, .int .u8 0, .int .u8 0, .int .u8 0, .int .u8 0, .int .u8 0, .int .u8 0, .int .u8 0, .int .u8 0, .int .u8 0, .int .u8 0, .int .u8 0, .int .u8 0, .int .u8 0, .int .u8 0, .int .u8 0, .int .u8 0, .int .u8 0, .int .u8 0, .int .u8 0, .int .u8 0, .int .u8 0, .int .u8 0, .int .u8 0, .int .u8 0, .int .u8 0, .int .u8 0, .int .u8 0, .int .u8 0, .int .u8 0]):=⟨by kernel_rfl⟩
instance g_A16_utf8_acceptRange:TG P T.al true:=⟨by kernel_rfl⟩
instance a_A16_utf8_acceptRange:TA P T.al 16 156:=⟨by kernel_rfl⟩
instance z_func_api_Field_string:TZ P T.aa 1 8 .nilFunc:=⟨by kernel_rfl⟩
instance g_func_api_Field_string:TG P T.aa false:=⟨by kernel_rfl⟩
instance z_func_api_Field_bool:TZ P T.ag 1 8 .nilFunc:=⟨by kernel_rfl⟩
instance g_func_api_Field_bool:TG P T.ag false:=⟨by kernel_rfl⟩
instance z_api_Catch:TZ P T.u 4 40 (.agg #[.int .i64 0, .int .i64 0, .int .i64 0, .string ⟨#[]⟩]):=⟨by kernel_rfl⟩
instance g_api_Catch:TG P T.u true:=⟨by kernel_rfl⟩
instance f_api_Catch_0:TF P T.u 0 0 3:=⟨by kernel_rfl⟩
instance f_api_Catch_1:TF P T.u 1 1 3:=⟨by kernel_rfl⟩
instance f_api_Catch_2:TF P T.u 2 2 3:=⟨by kernel_rfl⟩
instance f_api_Catch_3:TF P T.u 3 3 9:=⟨by kernel_rfl⟩
instance z_uint64:TZ P T.ax 1 8 (.int .u64 0):=⟨by kernel_rfl⟩
instance g_uint64:TG P T.ax false:=⟨by kernel_rfl⟩
instance g_strings_asciiSet:TG P T.ab true:=⟨by kernel_rfl⟩
instance a_strings_asciiSet:TA P T.ab 256 4:=⟨by kernel_rfl⟩
instance z_func_api_Catch_bool:TZ P T.ah 1 8 .nilFunc:=⟨by kernel_rfl⟩
instance g_func_api_Catch_bool:TG P T.ah false:=⟨by kernel_rfl⟩
instance z_func_api_Instr_bool:TZ P T.ai 1 8 .nilFunc:=⟨by kernel_rfl⟩
instance g_func_api_Instr_bool:TG P T.ai false:=⟨by kernel_rfl⟩
instance z_S_uint8:TZ P T.ar 1 24 (.slice none 0 0):=⟨by kernel_rfl⟩
instance g_S_uint8:TG P T.ar false:=⟨by kernel_rfl⟩
instance s_S_uint8:TS P T.ar 5:=⟨by kernel_rfl⟩
instance z_strings_Builder:TZ P T.am 2 32 (.agg #[.pointer none, .slice none 0 0]):=⟨by kernel_rfl⟩
instance g_strings_Builder:TG P T.am true:=⟨by kernel_rfl⟩
instance f_strings_Builder_0:TF P T.am 0 0 202:=⟨by kernel_rfl⟩
instance f_strings_Builder_1:TF P T.am 1 1 203:=⟨by kernel_rfl⟩
instance z_P_uint8:TZ P T.aw 1 8 (.pointer none):=⟨by kernel_rfl⟩
instance g_P_uint8:TG P T.aw false:=⟨by kernel_rfl⟩
instance z_code_op:TZ P T.ad 3 24 (.agg #[.string ⟨#[]⟩, .bool false, .bool false]):=⟨by kernel_rfl⟩
instance g_code_op:TG P T.ad true:=⟨by kernel_rfl⟩
instance f_code_op_0:TF P T.ad 0 0 9:=⟨by kernel_rfl⟩
instance f_code_op_1:TF P T.ad 1 1 4:=⟨by kernel_rfl⟩
instance f_code_op_2:TF P T.ad 2 2 4:=⟨by kernel_rfl⟩
instance g_A42_code_op:TG P T.af true:=⟨by kernel_rfl⟩
instance a_A42_code_op:TA P T.af 42 225:=⟨by kernel_rfl⟩
instance z_S_code_op:TZ P T.ap 1 24 (.slice none 0 0):=⟨by kernel_rfl⟩
instance g_S_code_op:TG P T.ap false:=⟨by kernel_rfl⟩
instance s_S_code_op:TS P T.ap 225:=⟨by kernel_rfl⟩
instance z_uint32:TZ P T.ay 1 4 (.int .u32 0):=⟨by kernel_rfl⟩
instance g_uint32:TG P T.ay false:=⟨by kernel_rfl⟩
end Go.Proofs.YtjdiakhipmggjaaGreatDoor

namespace Go.Emb
theorem aS {p:Prop} (h:p:=by (first | assumption | exact Stp.sat (by assumption) | exact Hst.sat (by assumption))):p:=h
theorem aL {p:Prop} (h:p:=by (first | assumption | exact Sl.lift (by assumption) (by (repeat (first | exact SLe.refl _ | refine SLe.more ?_ (by assumption) | refine SLe.more ?_ (Nxt.le (by assumption)) | refine SLe.step ?_ (by assumption)))) | exact Z5.lift (by assumption) (by (repeat (first | exact SLe.refl _ | refine SLe.more ?_ (by assumption) | refine SLe.more ?_ (Nxt.le (by assumption)) | refine SLe.step ?_ (by assumption)))) | exact Xk.lift (by assumption) (by (repeat (first | exact SLe.refl _ | refine SLe.more ?_ (by assumption) | refine SLe.more ?_ (Nxt.le (by assumption)) | refine SLe.step ?_ (by assumption)))) | exact RCl_lift (by assumption) (by (repeat (first | exact SLe.refl _ | refine SLe.more ?_ (by assumption) | refine SLe.more ?_ (Nxt.le (by assumption)) | refine SLe.step ?_ (by assumption)))) | exact RMe_lift (by assumption) (by (repeat (first | exact SLe.refl _ | refine SLe.more ?_ (by assumption) | refine SLe.more ?_ (Nxt.le (by assumption)) | refine SLe.step ?_ (by assumption)))) | exact Glb.lift (by assumption) (by (repeat (first | exact SLe.refl _ | refine SLe.more ?_ (by assumption) | refine SLe.more ?_ (Nxt.le (by assumption)) | refine SLe.step ?_ (by assumption)))) | exact Tab.lift (by assumption) (by (repeat (first | exact SLe.refl _ | refine SLe.more ?_ (by assumption) | refine SLe.more ?_ (Nxt.le (by assumption)) | refine SLe.step ?_ (by assumption)))) | exact RIn_any (by assumption) | exact RFd_any (by assumption) | exact RCa_any (by assumption))):p:=h
theorem aR {p:Prop} (h:p:=by with_unfolding_all rfl):p:=h
theorem aF {p:Prop} (a:p:=by (refine Eq.subst (motive:=fun b=>K b _) ?_ (h _ _ (by (repeat (first | exact Stp.refl (by (first | assumption | exact Stp.sat (by assumption) | exact Hst.sat (by assumption))) | assumption | refine Stp.trans ?_ (by first | assumption | exact Hst.stp (by assumption))))));clear h;(try clear hA);(try clear hB);(try clear hC);first | rfl | ((try simp only[Bool.not_eq_true',Bool.not_eq_false',Bool.not_true,Bool.not_false,Bool.not_eq_true] at*);simp only[*,Mb,reduceIte];done) | (simp[*];done) | simp_all)):p:=a
theorem au {p:Prop} (h:p:=by (first | assumption | (first | assumption | exact Stp.sat (by assumption) | exact Hst.sat (by assumption)) | (first | assumption | exact Sl.lift (by assumption) (by (repeat (first | exact SLe.refl _ | refine SLe.more ?_ (by assumption) | refine SLe.more ?_ (Nxt.le (by assumption)) | refine SLe.step ?_ (by assumption)))) | exact Z5.lift (by assumption) (by (repeat (first | exact SLe.refl _ | refine SLe.more ?_ (by assumption) | refine SLe.more ?_ (Nxt.le (by assumption)) | refine SLe.step ?_ (by assumption)))) | exact Xk.lift (by assumption) (by (repeat (first | exact SLe.refl _ | refine SLe.more ?_ (by assumption) | refine SLe.more ?_ (Nxt.le (by assumption)) | refine SLe.step ?_ (by assumption)))) | exact RCl_lift (by assumption) (by (repeat (first | exact SLe.refl _ | refine SLe.more ?_ (by assumption) | refine SLe.more ?_ (Nxt.le (by assumption)) | refine SLe.step ?_ (by assumption)))) | exact RMe_lift (by assumption) (by (repeat (first | exact SLe.refl _ | refine SLe.more ?_ (by assumption) | refine SLe.more ?_ (Nxt.le (by assumption)) | refine SLe.step ?_ (by assumption)))) | exact Glb.lift (by assumption) (by (repeat (first | exact SLe.refl _ | refine SLe.more ?_ (by assumption) | refine SLe.more ?_ (Nxt.le (by assumption)) | refine SLe.step ?_ (by assumption)))) | exact Tab.lift (by assumption) (by (repeat (first | exact SLe.refl _ | refine SLe.more ?_ (by assumption) | refine SLe.more ?_ (Nxt.le (by assumption)) | refine SLe.step ?_ (by assumption)))) | exact RIn_any (by assumption) | exact RFd_any (by assumption) | exact RCa_any (by assumption)) | exact Nat.le_trans (by assumption) (by decide) | omega)):p:=h
end Go.Emb
namespace Go.Proofs.YtjdiakhipmggjaaGreatDoor
open Go.Emb
theorem X3N {a:List UInt8} {cs:List Bool} {r:TypeId} {w:World} {K:Value→World→Prop}:X2 P .len [T.c] r cs [S a] w K=K (I a.length) w:=R9 X8
theorem X3H {d c:Operand} {a b:Bool} {w:World} {K:Value→World→Prop}:Q3 P .eql T.v d c (.bool a) (.bool b) w K=K (.bool (a==b)) w:=Q5e Q2U
theorem X3A {d c:Operand} {a b:Bool} {w:World} {K:Value→World→Prop}:Q3 P .neq T.v d c (.bool a) (.bool b) w K=K (.bool (!(a==b))) w:=Q6i Q2U
def Mm:=And.intro @fa <| And.intro @L8 <| And.intro @Qh <| And.intro @X3N <| And.intro @X3H @X3A
def M1:=And.intro Mm Mr
def M2:=And.intro Mm Mp
end Go.Proofs.YtjdiakhipmggjaaGreatDoor

namespace Go.Proofs.YtjdiakhipmggjaaGreatDoor
open Go.Emb Go.RowKit Go.Kd Go.Hm
variable {w : World} {K : Value → World → Prop} {σ : Q6}
def Wk (m:Hm.Met):Bool:=decide (32<m.params.length)||decide (32<m.catches.length)||decide (200<m.code.length)||decide (64<m.locals)
def Zv (c:Cla):Bool:=c.methods.any Wk||decide (32<c.like.length)||decide (32<c.fields.length)||decide (32<c.methods.length)
theorem X3h {c : Cla} {cs : List Value} (hs : X3 w σ) (hc : V0 σ c cs) (h : ∀ w', Below w.heap.size w w' → K (.bool (Zv c)) w') : Q1 P F.cG [.agg cs.toArray] w K := Q5F (by
  obtain ⟨lv, fv, mv, rfl, hl, hf, hm, hn, hsu⟩ := hc
  unfold Q0c
  refine E7 hs fun a w1 σ1 hk ha => ?_
  have hs := hk.sat
  replace hl := hl.up hk
  replace hf := hf.up hk
  replace hm := hm.up hk
  simp only [Value.cells] at ha
  ((try simp only [↓M1, M1, Mb, reduceIte]); repeat ((first | refine ld (by assumption) (by assumption) rfl ?_ | refine X7 (by assumption) (by assumption) rfl ?_ | refine Q8 (by assumption) ?_); (try simp only [↓M1, M1, Mb, reduceIte])))
  refine U2 c.methods.length (fun n w' => Below w1.heap.size w1 w' ∧ ((c.methods.take n).any Wk) = false) ⟨Below.refl _ _, by simp⟩ fun n w2 d hn hi => ?_
  obtain ⟨hb, hp⟩ := hi
  have hs2 := hs.below hb
  ((try simp only [↓M1, M1, Mb, reduceIte]); repeat ((first | refine ld (by assumption) (by assumption) rfl ?_ | refine X7 (by assumption) (by assumption) rfl ?_ | refine Q8 (by assumption) ?_); (try simp only [↓M1, M1, Mb, reduceIte])))
  refine Q7 (fun hc => ?_) (fun hc => ?_)
  · have hn' : n < c.methods.length := by simpa using hc
    refine M7 hm hn' fun p cs hl1 hlen hr => ?_
    refine Y4 hs2 hl1 hlen ?_
    refine Y8 hs2 (by rfl) hlen (Rep.one hr) fun q w3 σ3 hk3 hq => ?_
    obtain ⟨pv, cv, hv, rfl, g1, g2, g3, g4⟩ := hr
    have hs3 := hk3.sat
    replace g1 := g1.up hk3
    replace g2 := g2.up hk3
    replace g3 := g3.up hk3
    ((try simp only [↓M1, M1, Mb, reduceIte]); repeat ((first | refine ld (by assumption) (by assumption) rfl ?_ | refine X7 (by assumption) (by assumption) rfl ?_ | refine Q8 (by assumption) ?_); (try simp only [↓M1, M1, Mb, reduceIte])))
    (repeat' ((first | refine Z8 (fun hh => ?_) (fun hh => ?_) | refine Q7 (fun hh => ?_) (fun hh => ?_)) <;> (try simp only [hh, Bool.not_true, Bool.not_false, ↓M1, M1, Mb, reduceIte]) <;> ((try simp only [↓M1, M1, Mb, reduceIte]); repeat ((first | refine ld (by assumption) (by assumption) rfl ?_ | refine X7 (by assumption) (by assumption) rfl ?_ | refine Q8 (by assumption) ?_); (try simp only [↓M1, M1, Mb, reduceIte])))))
    all_goals first
      | refine Y5 hm.max hn' ⟨bt hb hk3.bel, ?_⟩
        rw [L2 hn', hp]; simp only [Wk]; (first | (simp only [decide_eq_true_eq, decide_eq_false_iff_not, Bool.not_true, Bool.not_false, Bool.not_eq_true', Bool.not_eq_false', Bool.or_eq_true, Bool.and_eq_true, Bool.or_eq_false_iff, Bool.and_eq_false_iff, Bool.false_or, Bool.true_and, Bool.or_false, Bool.and_true] at *; first | omega | (and_intros <;> omega)) | (rw [Bool.eq_iff_iff]; (simp only [decide_eq_true_eq, decide_eq_false_iff_not, Bool.not_true, Bool.not_false, Bool.not_eq_true', Bool.not_eq_false', Bool.or_eq_true, Bool.and_eq_true, Bool.or_eq_false_iff, Bool.and_eq_false_iff, Bool.false_or, Bool.true_and, Bool.or_false, Bool.and_true] at *; first | omega | (and_intros <;> omega))))
      | have e : Zv c = true := by
          have : Wk c.methods[n] = true := by simp only [Wk]; (first | (simp only [decide_eq_true_eq, decide_eq_false_iff_not, Bool.not_true, Bool.not_false, Bool.not_eq_true', Bool.not_eq_false', Bool.or_eq_true, Bool.and_eq_true, Bool.or_eq_false_iff, Bool.and_eq_false_iff, Bool.false_or, Bool.true_and, Bool.or_false, Bool.and_true] at *; first | omega | (and_intros <;> omega)) | (rw [Bool.eq_iff_iff]; (simp only [decide_eq_true_eq, decide_eq_false_iff_not, Bool.not_true, Bool.not_false, Bool.not_eq_true', Bool.not_eq_false', Bool.or_eq_true, Bool.and_eq_true, Bool.or_eq_false_iff, Bool.and_eq_false_iff, Bool.false_or, Bool.true_and, Bool.or_false, Bool.and_true] at *; first | omega | (and_intros <;> omega))))
          simp [Zv, C2 hn' this]
        rw [← e]; exact h _ (bt hk.bel (bt hb hk3.bel))
  · have hn' : ¬ n < c.methods.length := by simpa using hc
    rw [E3 hn'] at hp
    have h := h w2 (bt hk.bel hb)
    ((try simp only [↓M1, M1, Mb, reduceIte]); repeat ((first | refine ld (by assumption) (by assumption) rfl ?_ | refine X7 (by assumption) (by assumption) rfl ?_ | refine Q8 (by assumption) ?_); (try simp only [↓M1, M1, Mb, reduceIte])))
    (repeat' ((first | refine Z8 (fun hh => ?_) (fun hh => ?_) | refine Q7 (fun hh => ?_) (fun hh => ?_)) <;> (try simp only [hh, Bool.not_true, Bool.not_false, ↓M1, M1, Mb, reduceIte]) <;> ((try simp only [↓M1, M1, Mb, reduceIte]); repeat ((first | refine ld (by assumption) (by assumption) rfl ?_ | refine X7 (by assumption) (by assumption) rfl ?_ | refine Q8 (by assumption) ?_); (try simp only [↓M1, M1, Mb, reduceIte])))))
    all_goals
      refine Eq.subst (motive := fun b => K (.bool b) w2) ?_ h
      simp only [Zv, hp]
      (first | (simp only [decide_eq_true_eq, decide_eq_false_iff_not, Bool.not_true, Bool.not_false, Bool.not_eq_true', Bool.not_eq_false', Bool.or_eq_true, Bool.and_eq_true, Bool.or_eq_false_iff, Bool.and_eq_false_iff, Bool.false_or, Bool.true_and, Bool.or_false, Bool.and_true] at *; first | omega | (and_intros <;> omega)) | (rw [Bool.eq_iff_iff]; (simp only [decide_eq_true_eq, decide_eq_false_iff_not, Bool.not_true, Bool.not_false, Bool.not_eq_true', Bool.not_eq_false', Bool.or_eq_true, Bool.and_eq_true, Bool.or_eq_false_iff, Bool.and_eq_false_iff, Bool.false_or, Bool.true_and, Bool.or_false, Bool.and_true] at *; first | omega | (and_intros <;> omega)))))
end Go.Proofs.YtjdiakhipmggjaaGreatDoor

namespace Go.Emb
open Go.RowKit Go.Hm
variable {H : Type} {enc : TypeId × Value → H} {P : Program} {W : World} {t : TypeId} {cs : List Value} {fuel : Nat} {x : DataW H × List MemPlace}
def Wi (W:World):Q6:=fun b=>W.heap[b]?
theorem X07:X3 W (Wi W):=fun b o h=>h
def Wt (P:Program) (t:TypeId) (d:DataW H):Prop:= ∀n∈d.weights P t,n≤reachBytes
theorem X1R {a:Addr} {n:Nat} (h:W.cells? 0 a n=some cs) (A:0<n):cs.length=n∧Z5 (Wi W) a cs:=by
 obtain ⟨_,m,s⟩:=World.cells?_some h
 refine ⟨m,?_⟩
 have key: ∀i v,cs[i]? =some v→ ∃arr e f,W.heap[a.block]? =some (.cells arr e f)∧(a.add i).spot=none∧arr[a.off+i]? =some v:=by
  intro i v g
  have D:i<cs.length:=(List.getElem?_eq_some_iff.1 g).1
  have b:=s i (by omega)
  rw[g] at b
  unfold World.cell? at b
  rw[S9,Qe] at b
  cases k:W.heap[a.block]? with
  | none=>rw[k] at b;cases b
  | some o=>
   rw[k] at b
   cases o with
   | cells arr e f=>
    simp only at b
    split at b
    ·cases b
    ·rename_i w
     exact ⟨arr,e,f,rfl,by simpa using w,b⟩
   | _=>cases b
 cases j:cs with
 | nil=>subst j;simp at m;omega
 | cons c r=>
  obtain ⟨arr,e,f,p,q,B⟩:=key 0 c (by rw[j];rfl)
  refine ⟨by simpa [Addr.add] using q,arr,e,f,p,fun i v g=>?_⟩
  obtain ⟨l,C,y,d,z,u⟩:=key i v (by rw[j];exact g)
  rw[p] at d
  injection d with d
  injection d with d
  subst d
  exact u
theorem Q9G (b:P.underlying t=some .string) (h:DataW.trod enc P W 0 (fun _=>true) true fuel t cs=some x) (a:Wt P t x.1): ∃s:Kd.X0,cs=[S s]∧s.length≤U1:=by
 obtain ⟨⟨⟨s⟩⟩,rfl,rfl,_⟩:=DataW.trod_string b h
 refine ⟨s,rfl,?_⟩
 have:=a s.length (by simp[DataW.weights])
 exact this
theorem Gv (b:P.underlying t=some (.int .i64)) (h:DataW.trod enc P W 0 (fun _=>true) true fuel t cs=some x): ∃n,cs=[I n]∧Yw n:=by
 obtain ⟨n,c,_,a⟩:=DataW.trod_int b h
 refine ⟨n,c,?_⟩
 simp only[Lit.wf,Bool.and_eq_true,decide_eq_true_eq] at a
 exact ⟨a.1,a.2⟩
theorem X1w {α:Type} {Q:Nat→α→Prop}: ∀(n:Nat),(∀i,i<n→ ∃y,Q i y)→ ∃xs:List α,xs.length=n∧ ∀i y,xs[i]? =some y→Q i y:=by
 intro n
 induction n with
 | zero=>intro _;exact ⟨[],rfl,by simp⟩
 | succ n f=>
  intro h
  obtain ⟨xs,e,c⟩:=f fun i b=>h i (by omega)
  obtain ⟨y,d⟩:=h n (by omega)
  refine ⟨xs++[y],by simp[e],fun i z a=>?_⟩
  by_cases b:i<xs.length
  ·rw[List.getElem?_append_left b] at a;exact c i z a
  ·rw[List.getElem?_append_right (by omega)] at a
   have:i-xs.length=0:=by
    have:=(List.getElem?_eq_some_iff.1 a).1
    simp at this;omega
   rw[this] at a
   simp at a
   subst a
   rw[show i=n by omega];exact d
theorem X2I {e:TypeId} {d:DataW H}: ∀{l:List (DataW H)},d∈l→ ∀n∈d.weights P e,n∈DataW.weightsAll P e l:=by
 intro l
 induction l with
 | nil=>intro h;simp at h
 | cons a r c=>
  intro h n b
  simp only[DataW.weightsAll,List.mem_append]
  rcases List.mem_cons.1 h with rfl | h
  ·exact .inl b
  ·exact .inr (c h n b)
theorem X3M {α:Type} {R:Q6→α→List Value→Prop} {e:TypeId} {sz:Nat} (w:P.underlying t=some (.slice e)) (L:P.cellsOf e=sz) (O:0<sz)
 (s: ∀fuel cs (x:DataW H×List MemPlace),DataW.trod enc P W 0 (fun _=>true) true fuel e cs=some x→Wt P e x.1→ ∃y,R (Wi W) y cs)
 (h:DataW.trod enc P W 0 (fun _=>true) true fuel t cs=some x) (J:Wt P t x.1): ∃v xs,cs=[v]∧Sl sz R (Wi W) v xs:=by
 rcases DataW.trod_slice w h with ⟨rfl,rfl⟩ | ⟨a,g,p,d,u,n,_,rfl,rfl,_,M,r,z,f,_⟩
 ·exact ⟨_,[],rfl,Sl.nil⟩
 subst L
 have step: ∀i,i<g→ ∃y,∃c,Z5 (Wi W) (a.add (i*P.cellsOf e)) c∧c.length=P.cellsOf e∧R (Wi W) y c:=by
  intro i Q
  have A:=f i Q
  have l:i<d.length:=by omega
  rw[List.getElem?_eq_getElem l] at A
  obtain ⟨c,N,D⟩:=Option.bind_eq_some_iff.1 A
  obtain ⟨E,q⟩:=X1R N O
  obtain ⟨y,o⟩:=s n c _ D (fun m r=>J m (by
   simp only[DataW.weights,w,List.mem_cons,List.mem_append]
   exact .inr (.inl (X2I (List.mem_map.2 ⟨_,List.getElem_mem l,rfl⟩) m r))))
  exact ⟨y,c,q,E,o⟩
 obtain ⟨xs,j,k⟩:=X1w g step
 refine ⟨_,xs,rfl,some a,p,by rw[j],by rw[j];exact M,r,by simp,fun b C=>?_⟩
 cases C
 refine ⟨fun B=>?_,fun i y o=>k i y o⟩
 obtain ⟨y,o⟩: ∃y,xs[0]? =some y:=⟨xs[0],List.getElem?_eq_getElem B⟩
 obtain ⟨c,q,_,_⟩:=k 0 y o
 have:=q.1
 simpa [Addr.add] using this
theorem Q7D: ∀{a:List TypeId} {l:List (DataW H)} {i:Nat} {u:TypeId} {d:DataW H},a[i]? =some u→l[i]? =some d→ ∀n∈d.weights P u,n∈DataW.weightsEach P a l:=
 fun c b n e=>DataW.weights_mem_each c b n e
theorem Li {e:Array Field} (c:P.underlying t=some (.struct e)) (h:DataW.trod enc P W 0 (fun _=>true) true fuel t cs=some x) (l:Wt P t x.1) (i:Nat) {o:Nat} {b:TypeId}
 (j:(e[i]?).map (fun f=>(f.type,f.offset))=some (b,o)) (p:P.cellsOf b=1): ∃n y,DataW.trod enc P W 0 (fun _=>true) true n b ((cs.drop o).take 1)=some y∧Wt P b y.1:=by
 obtain ⟨xs,n,_,rfl,v,q,k⟩:=DataW.trod_struct c h
 obtain ⟨f,a,r⟩:=Option.map_eq_some_iff.1 j
 cases r
 have d:=k i f a
 have g:i<xs.length:=by rw[q];exact (Array.getElem?_eq_some_iff.1 a).1
 rw[List.getElem?_eq_getElem g,p] at d
 refine ⟨n,_,d,fun m s=>l m ?_⟩
 simp only[DataW.weights,c]
 exact Q7D (i:=i) (u:=f.type) (by rw[List.getElem?_map,Array.getElem?_toList,a];rfl) (by rw[List.getElem?_map,List.getElem?_eq_getElem g];rfl) m s
theorem Q9P {b:Array Field} {k:Nat} (c:P.underlying t=some (.struct b)) (a:P.cellsOf t=k) (h:DataW.trod enc P W 0 (fun _=>true) true fuel t cs=some x):cs.length=k:=by
 obtain ⟨_,_,_,_,d,_,_⟩:=DataW.trod_struct c h
 rw[d,a]
theorem X18 {α:Type} {l:List α} (h:l.length=3): ∃a b c,l=[a,b,c]:=by
 match l,h with
 | [a,b,c],_=>exact ⟨a,b,c,rfl⟩
theorem X3U {α:Type} {l:List α} (h:l.length=4): ∃a b c d,l=[a,b,c,d]:=by
 match l,h with
 | [a,b,c,d],_=>exact ⟨a,b,c,d,rfl⟩
theorem X3z {α:Type} {l:List α} (h:l.length=8): ∃a b c d e f g i,l=[a,b,c,d,e,f,g,i]:=by
 match l,h with
 | [a,b,c,d,e,f,g,i],_=>exact ⟨a,b,c,d,e,f,g,i,rfl⟩
end Go.Emb
namespace Go.Proofs.YtjdiakhipmggjaaGreatDoor
open Go.Emb Go.RowKit Go.Kd Go.Hm
variable {H : Type} {enc : TypeId × Value → H} {W : World} {cs : List Value} {fuel : Nat} {x : DataW H × List MemPlace}
theorem Pj:P.cellsOf T.c=1:=by kernel_rfl
theorem X37:P.cellsOf T.v=1:=by kernel_rfl
theorem Q51:P.cellsOf T.e=1:=by kernel_rfl
end Go.Proofs.YtjdiakhipmggjaaGreatDoor

namespace Go.Emb
def J5 {α β:Type} (a:β→α→Bool×β):β→List α→Nat→Option Nat×β
 | s,[],_=>(none,s)
 | s,x::xs,i=>if (a s x).1 then (some i,(a s x).2) else J5 a (a s x).2 xs (i+1)
def L5 (o:Option Nat):Int:=match o with | some i=>i | none=> -1
theorem P0 {α:Type} (p:α→Bool): ∀(xs:List α) (i:Nat),(J5 (fun (_:Unit) x=>(p x,())) () xs i).1=(xs.findIdx? p).map (· +i):=by
 intro xs
 induction xs with
 | nil=>intro i;rfl
 | cons x r ih=>
  intro i
  rw[List.findIdx?_cons]
  simp only[J5]
  cases p x with
  | true=>simp
  | false=>
   simp only[Bool.false_eq_true,if_false]
   rw[ih (i+1),Option.map_map]
   congr 1;funext n;simp only[Function.comp];omega
theorem Dt {α β:Type} (a:β→α→Bool×β) (s:β) (xs:List α) (i:Nat):decide ((0:Int)≤L5 (J5 a s xs i).1)=(J5 a s xs i).1.isSome:=by
 cases (J5 a s xs i).1<;>simp[L5]
end Go.Emb
namespace Go.Proofs.YtjdiakhipmggjaaGreatDoor
open Go.Emb Go.RowKit Go.Kd Go.Hm
variable {w : World} {K : Value → World → Prop} {σ : Q6}
theorem Vr {β:Type} {xs:List Hm.Met} {v f:Value} (a:β→Hm.Met→Bool×β) (j:β) (b:β→World→Prop) (D:Nat→Prop) (i: ∀s w,b s w→X3 w σ) (z:b j w) (t:Sl 7 E8 σ v xs)
 (y: ∀s x cs (w1:World) (K:Value→World→Prop),x∈xs→Kpt D w w1→b s w1→E8 σ x cs→cs.length=7→(∀w',Kpt D w w'→b (a s x).2 w'→K (.bool (a s x).1) w')→Z3 P f [.agg cs.toArray] w1 K)
 (h: ∀w',Kpt D w w'→b (J5 a j xs 0).2 w'→K (I (L5 (J5 a j xs 0).1)) w'):Q1 P F.g [v,f] w K:=Xy (by
 unfold B9
 ((try simp only[↓M1,M1,Mb,reduceIte]);repeat ((first | refine ld (by assumption) (by assumption) rfl ?_ | refine X7 (by assumption) (by assumption) rfl ?_ | refine Q8 (by assumption) ?_);(try simp only[↓M1,M1,Mb,reduceIte])))
 refine U2 xs.length (fun n w'=>Kpt D w w'∧ ∃s,b s w'∧J5 a j xs 0=J5 a s (xs.drop n) n) ⟨Kpt.refl,j,z,rfl⟩ fun n w1 d E m=>?_
 obtain ⟨u,s,m,g⟩:=m
 have r:=i s w1 m
 ((try simp only[↓M1,M1,Mb,reduceIte]);repeat ((first | refine ld (by assumption) (by assumption) rfl ?_ | refine X7 (by assumption) (by assumption) rfl ?_ | refine Q8 (by assumption) ?_);(try simp only[↓M1,M1,Mb,reduceIte])))
 refine Q7 (fun q=>?_) (fun q=>?_)
 ·have c:n<xs.length:=by simpa using q
  refine M7 t c fun p cs C e A=>?_
  refine Y4 r C e ?_
  refine y s xs[n] cs w1 _ (List.getElem_mem c) u m A e fun B k l=>?_
  rw[List.drop_eq_getElem_cons c] at g
  simp only[J5] at g
  refine Q7 (fun o=>?_) (fun o=>?_)
  ·rw[o] at g
   have:=h B k
   rw[g] at this
   exact this l
  ·rw[o] at g
   ((try simp only[↓M1,M1,Mb,reduceIte]);repeat ((first | refine ld (by assumption) (by assumption) rfl ?_ | refine X7 (by assumption) (by assumption) rfl ?_ | refine Q8 (by assumption) ?_);(try simp only[↓M1,M1,Mb,reduceIte])))
   exact Y5 t.max c ⟨k,_,l,by simpa using g⟩
 ·have c: ¬n<xs.length:=by simpa using q
  rw[List.drop_eq_nil_of_le (by omega)] at g
  have:=h w1 u
  rw[g] at this
  exact this m)
theorem Jd {β:Type} {xs:List Hm.Met} {v f:Value} (b:β→Hm.Met→Bool×β) (d:β) (a:β→World→Prop) (D:Nat→Prop) (c: ∀s w,a s w→X3 w σ) (g:a d w) (i:Sl 7 E8 σ v xs)
 (e: ∀s x cs (w1:World) (K:Value→World→Prop),x∈xs→Kpt D w w1→a s w1→E8 σ x cs→cs.length=7→(∀w',Kpt D w w'→a (b s x).2 w'→K (.bool (b s x).1) w')→Z3 P f [.agg cs.toArray] w1 K)
 (h: ∀w',Kpt D w w'→a (J5 b d xs 0).2 w'→K (.bool (J5 b d xs 0).1.isSome) w'):Q1 P F.a [v,f] w K:=Qn (by
 unfold C0
 refine Vr b d a D c g i e fun w1 j k=>?_
 (try simp only[↓M1,M1,Mb,reduceIte])
 rw[Dt]
 exact h w1 j k)
theorem Fj {xs:List Hm.Met} {v f:Value} (p:Hm.Met→Bool) (hs:X3 w σ) (hv:Sl 7 E8 σ v xs)
 (hf: ∀x cs (w1:World) (K:Value→World→Prop),x∈xs→X3 w1 σ→E8 σ x cs→cs.length=7→(∀w',Below w1.heap.size w1 w'→K (.bool (p x)) w')→Z3 P f [.agg cs.toArray] w1 K)
 (h: ∀w',Below w.heap.size w w'→K (I (L5 (xs.findIdx? p))) w'):Q1 P F.g [v,f] w K:=by
 refine Vr (fun (_:Unit) x=>(p x,())) () (fun _ w'=>Below w.heap.size w w') (fun _=>False) (fun _ w' hb=>hs.below hb) (Below.refl _ _) hv (fun s x cs w1 K hx hk hi hr hl hK=>hf x cs w1 K hx (hs.below hi) hr hl fun w' hb=>hK w' (.of_below (bt hi hb)) (bt hi hb)) fun w' hk hi=>?_
 rw[P0]
 simpa using h w' hi
theorem F3 {xs:List Hm.Met} {v f:Value} (p:Hm.Met→Bool) (hs:X3 w σ) (hv:Sl 7 E8 σ v xs)
 (hf: ∀x cs (w1:World) (K:Value→World→Prop),x∈xs→X3 w1 σ→E8 σ x cs→cs.length=7→(∀w',Below w1.heap.size w1 w'→K (.bool (p x)) w')→Z3 P f [.agg cs.toArray] w1 K)
 (h: ∀w',Below w.heap.size w w'→K (.bool (xs.any p)) w'):Q1 P F.a [v,f] w K:=by
 refine Jd (fun (_:Unit) x=>(p x,())) () (fun _ w'=>Below w.heap.size w w') (fun _=>False) (fun _ w' hb=>hs.below hb) (Below.refl _ _) hv (fun s x cs w1 K hx hk hi hr hl hK=>hf x cs w1 K hx (hs.below hi) hr hl fun w' hb=>hK w' (.of_below (bt hi hb)) (bt hi hb)) fun w' hk hi=>?_
 rw[P0]
 simpa using h w' hi
theorem Lb {β:Type} {xs:List Fld} {v f:Value} (a:β→Fld→Bool×β) (j:β) (b:β→World→Prop) (D:Nat→Prop) (i: ∀s w,b s w→X3 w σ) (z:b j w) (t:Sl 3 S2 σ v xs)
 (y: ∀s x cs (w1:World) (K:Value→World→Prop),x∈xs→Kpt D w w1→b s w1→S2 σ x cs→cs.length=3→(∀w',Kpt D w w'→b (a s x).2 w'→K (.bool (a s x).1) w')→Z3 P f [.agg cs.toArray] w1 K)
 (h: ∀w',Kpt D w w'→b (J5 a j xs 0).2 w'→K (I (L5 (J5 a j xs 0).1)) w'):Q1 P F.i [v,f] w K:=Yr (by
 unfold G6
 ((try simp only[↓M1,M1,Mb,reduceIte]);repeat ((first | refine ld (by assumption) (by assumption) rfl ?_ | refine X7 (by assumption) (by assumption) rfl ?_ | refine Q8 (by assumption) ?_);(try simp only[↓M1,M1,Mb,reduceIte])))
 refine U2 xs.length (fun n w'=>Kpt D w w'∧ ∃s,b s w'∧J5 a j xs 0=J5 a s (xs.drop n) n) ⟨Kpt.refl,j,z,rfl⟩ fun n w1 d E m=>?_
 obtain ⟨u,s,m,g⟩:=m
 have r:=i s w1 m
 ((try simp only[↓M1,M1,Mb,reduceIte]);repeat ((first | refine ld (by assumption) (by assumption) rfl ?_ | refine X7 (by assumption) (by assumption) rfl ?_ | refine Q8 (by assumption) ?_);(try simp only[↓M1,M1,Mb,reduceIte])))
 refine Q7 (fun q=>?_) (fun q=>?_)
 ·have c:n<xs.length:=by simpa using q
  refine M7 t c fun p cs C e A=>?_
  refine Y4 r C e ?_
  refine y s xs[n] cs w1 _ (List.getElem_mem c) u m A e fun B k l=>?_
  rw[List.drop_eq_getElem_cons c] at g
  simp only[J5] at g
  refine Q7 (fun o=>?_) (fun o=>?_)
  ·rw[o] at g
   have:=h B k
   rw[g] at this
   exact this l
  ·rw[o] at g
   ((try simp only[↓M1,M1,Mb,reduceIte]);repeat ((first | refine ld (by assumption) (by assumption) rfl ?_ | refine X7 (by assumption) (by assumption) rfl ?_ | refine Q8 (by assumption) ?_);(try simp only[↓M1,M1,Mb,reduceIte])))
   exact Y5 t.max c ⟨k,_,l,by simpa using g⟩
 ·have c: ¬n<xs.length:=by simpa using q
  rw[List.drop_eq_nil_of_le (by omega)] at g
  have:=h w1 u
  rw[g] at this
  exact this m)
theorem Rs {β:Type} {xs:List Fld} {v f:Value} (b:β→Fld→Bool×β) (d:β) (a:β→World→Prop) (D:Nat→Prop) (c: ∀s w,a s w→X3 w σ) (g:a d w) (i:Sl 3 S2 σ v xs)
 (e: ∀s x cs (w1:World) (K:Value→World→Prop),x∈xs→Kpt D w w1→a s w1→S2 σ x cs→cs.length=3→(∀w',Kpt D w w'→a (b s x).2 w'→K (.bool (b s x).1) w')→Z3 P f [.agg cs.toArray] w1 K)
 (h: ∀w',Kpt D w w'→a (J5 b d xs 0).2 w'→K (.bool (J5 b d xs 0).1.isSome) w'):Q1 P F.f [v,f] w K:=Xe (by
 unfold B3
 refine Lb b d a D c g i e fun w1 j k=>?_
 (try simp only[↓M1,M1,Mb,reduceIte])
 rw[Dt]
 exact h w1 j k)
theorem Ge {xs:List Fld} {v f:Value} (p:Fld→Bool) (hs:X3 w σ) (hv:Sl 3 S2 σ v xs)
 (hf: ∀x cs (w1:World) (K:Value→World→Prop),x∈xs→X3 w1 σ→S2 σ x cs→cs.length=3→(∀w',Below w1.heap.size w1 w'→K (.bool (p x)) w')→Z3 P f [.agg cs.toArray] w1 K)
 (h: ∀w',Below w.heap.size w w'→K (I (L5 (xs.findIdx? p))) w'):Q1 P F.i [v,f] w K:=by
 refine Lb (fun (_:Unit) x=>(p x,())) () (fun _ w'=>Below w.heap.size w w') (fun _=>False) (fun _ w' hb=>hs.below hb) (Below.refl _ _) hv (fun s x cs w1 K hx hk hi hr hl hK=>hf x cs w1 K hx (hs.below hi) hr hl fun w' hb=>hK w' (.of_below (bt hi hb)) (bt hi hb)) fun w' hk hi=>?_
 rw[P0]
 simpa using h w' hi
theorem Jk {xs:List Fld} {v f:Value} (p:Fld→Bool) (hs:X3 w σ) (hv:Sl 3 S2 σ v xs)
 (hf: ∀x cs (w1:World) (K:Value→World→Prop),x∈xs→X3 w1 σ→S2 σ x cs→cs.length=3→(∀w',Below w1.heap.size w1 w'→K (.bool (p x)) w')→Z3 P f [.agg cs.toArray] w1 K)
 (h: ∀w',Below w.heap.size w w'→K (.bool (xs.any p)) w'):Q1 P F.f [v,f] w K:=by
 refine Rs (fun (_:Unit) x=>(p x,())) () (fun _ w'=>Below w.heap.size w w') (fun _=>False) (fun _ w' hb=>hs.below hb) (Below.refl _ _) hv (fun s x cs w1 K hx hk hi hr hl hK=>hf x cs w1 K hx (hs.below hi) hr hl fun w' hb=>hK w' (.of_below (bt hi hb)) (bt hi hb)) fun w' hk hi=>?_
 rw[P0]
 simpa using h w' hi
theorem Gl {β:Type} {xs:List Ins} {v f:Value} (a:β→Ins→Bool×β) (j:β) (b:β→World→Prop) (D:Nat→Prop) (i: ∀s w,b s w→X3 w σ) (z:b j w) (t:Sl 3 Qo σ v xs)
 (y: ∀s x cs (w1:World) (K:Value→World→Prop),x∈xs→Kpt D w w1→b s w1→Qo σ x cs→cs.length=3→(∀w',Kpt D w w'→b (a s x).2 w'→K (.bool (a s x).1) w')→Z3 P f [.agg cs.toArray] w1 K)
 (h: ∀w',Kpt D w w'→b (J5 a j xs 0).2 w'→K (I (L5 (J5 a j xs 0).1)) w'):Q1 P F.a7 [v,f] w K:=Za (by
 unfold F8
 ((try simp only[↓M1,M1,Mb,reduceIte]);repeat ((first | refine ld (by assumption) (by assumption) rfl ?_ | refine X7 (by assumption) (by assumption) rfl ?_ | refine Q8 (by assumption) ?_);(try simp only[↓M1,M1,Mb,reduceIte])))
 refine U2 xs.length (fun n w'=>Kpt D w w'∧ ∃s,b s w'∧J5 a j xs 0=J5 a s (xs.drop n) n) ⟨Kpt.refl,j,z,rfl⟩ fun n w1 d E m=>?_
 obtain ⟨u,s,m,g⟩:=m
 have r:=i s w1 m
 ((try simp only[↓M1,M1,Mb,reduceIte]);repeat ((first | refine ld (by assumption) (by assumption) rfl ?_ | refine X7 (by assumption) (by assumption) rfl ?_ | refine Q8 (by assumption) ?_);(try simp only[↓M1,M1,Mb,reduceIte])))
 refine Q7 (fun q=>?_) (fun q=>?_)
 ·have c:n<xs.length:=by simpa using q
  refine M7 t c fun p cs C e A=>?_
  refine Y4 r C e ?_
  refine y s xs[n] cs w1 _ (List.getElem_mem c) u m A e fun B k l=>?_
  rw[List.drop_eq_getElem_cons c] at g
  simp only[J5] at g
  refine Q7 (fun o=>?_) (fun o=>?_)
  ·rw[o] at g
   have:=h B k
   rw[g] at this
   exact this l
  ·rw[o] at g
   ((try simp only[↓M1,M1,Mb,reduceIte]);repeat ((first | refine ld (by assumption) (by assumption) rfl ?_ | refine X7 (by assumption) (by assumption) rfl ?_ | refine Q8 (by assumption) ?_);(try simp only[↓M1,M1,Mb,reduceIte])))
   exact Y5 t.max c ⟨k,_,l,by simpa using g⟩
 ·have c: ¬n<xs.length:=by simpa using q
  rw[List.drop_eq_nil_of_le (by omega)] at g
  have:=h w1 u
  rw[g] at this
  exact this m)
theorem Sk {β:Type} {xs:List Ins} {v f:Value} (b:β→Ins→Bool×β) (d:β) (a:β→World→Prop) (D:Nat→Prop) (c: ∀s w,a s w→X3 w σ) (g:a d w) (i:Sl 3 Qo σ v xs)
 (e: ∀s x cs (w1:World) (K:Value→World→Prop),x∈xs→Kpt D w w1→a s w1→Qo σ x cs→cs.length=3→(∀w',Kpt D w w'→a (b s x).2 w'→K (.bool (b s x).1) w')→Z3 P f [.agg cs.toArray] w1 K)
 (h: ∀w',Kpt D w w'→a (J5 b d xs 0).2 w'→K (.bool (J5 b d xs 0).1.isSome) w'):Q1 P F.l [v,f] w K:=Xg (by
 unfold B4
 refine Gl b d a D c g i e fun w1 j k=>?_
 (try simp only[↓M1,M1,Mb,reduceIte])
 rw[Dt]
 exact h w1 j k)
theorem Sj {xs:List Ins} {v f:Value} (p:Ins→Bool) (hs:X3 w σ) (hv:Sl 3 Qo σ v xs)
 (hf: ∀x cs (w1:World) (K:Value→World→Prop),x∈xs→X3 w1 σ→Qo σ x cs→cs.length=3→(∀w',Below w1.heap.size w1 w'→K (.bool (p x)) w')→Z3 P f [.agg cs.toArray] w1 K)
 (h: ∀w',Below w.heap.size w w'→K (.bool (xs.any p)) w'):Q1 P F.l [v,f] w K:=by
 refine Sk (fun (_:Unit) x=>(p x,())) () (fun _ w'=>Below w.heap.size w w') (fun _=>False) (fun _ w' hb=>hs.below hb) (Below.refl _ _) hv (fun s x cs w1 K hx hk hi hr hl hK=>hf x cs w1 K hx (hs.below hi) hr hl fun w' hb=>hK w' (.of_below (bt hi hb)) (bt hi hb)) fun w' hk hi=>?_
 rw[P0]
 simpa using h w' hi
theorem Ft {β:Type} {xs:List Cat} {v f:Value} (a:β→Cat→Bool×β) (j:β) (b:β→World→Prop) (D:Nat→Prop) (i: ∀s w,b s w→X3 w σ) (z:b j w) (t:Sl 4 Jz σ v xs)
 (y: ∀s x cs (w1:World) (K:Value→World→Prop),x∈xs→Kpt D w w1→b s w1→Jz σ x cs→cs.length=4→(∀w',Kpt D w w'→b (a s x).2 w'→K (.bool (a s x).1) w')→Z3 P f [.agg cs.toArray] w1 K)
 (h: ∀w',Kpt D w w'→b (J5 a j xs 0).2 w'→K (I (L5 (J5 a j xs 0).1)) w'):Q1 P F.a8 [v,f] w K:=Ym (by
 unfold G9
 ((try simp only[↓M1,M1,Mb,reduceIte]);repeat ((first | refine ld (by assumption) (by assumption) rfl ?_ | refine X7 (by assumption) (by assumption) rfl ?_ | refine Q8 (by assumption) ?_);(try simp only[↓M1,M1,Mb,reduceIte])))
 refine U2 xs.length (fun n w'=>Kpt D w w'∧ ∃s,b s w'∧J5 a j xs 0=J5 a s (xs.drop n) n) ⟨Kpt.refl,j,z,rfl⟩ fun n w1 d E m=>?_
 obtain ⟨u,s,m,g⟩:=m
 have r:=i s w1 m
 ((try simp only[↓M1,M1,Mb,reduceIte]);repeat ((first | refine ld (by assumption) (by assumption) rfl ?_ | refine X7 (by assumption) (by assumption) rfl ?_ | refine Q8 (by assumption) ?_);(try simp only[↓M1,M1,Mb,reduceIte])))
 refine Q7 (fun q=>?_) (fun q=>?_)
 ·have c:n<xs.length:=by simpa using q
  refine M7 t c fun p cs C e A=>?_
  refine Y4 r C e ?_
  refine y s xs[n] cs w1 _ (List.getElem_mem c) u m A e fun B k l=>?_
  rw[List.drop_eq_getElem_cons c] at g
  simp only[J5] at g
  refine Q7 (fun o=>?_) (fun o=>?_)
  ·rw[o] at g
   have:=h B k
   rw[g] at this
   exact this l
  ·rw[o] at g
   ((try simp only[↓M1,M1,Mb,reduceIte]);repeat ((first | refine ld (by assumption) (by assumption) rfl ?_ | refine X7 (by assumption) (by assumption) rfl ?_ | refine Q8 (by assumption) ?_);(try simp only[↓M1,M1,Mb,reduceIte])))
   exact Y5 t.max c ⟨k,_,l,by simpa using g⟩
 ·have c: ¬n<xs.length:=by simpa using q
  rw[List.drop_eq_nil_of_le (by omega)] at g
  have:=h w1 u
  rw[g] at this
  exact this m)
theorem Rv {β:Type} {xs:List Cat} {v f:Value} (b:β→Cat→Bool×β) (d:β) (a:β→World→Prop) (D:Nat→Prop) (c: ∀s w,a s w→X3 w σ) (g:a d w) (i:Sl 4 Jz σ v xs)
 (e: ∀s x cs (w1:World) (K:Value→World→Prop),x∈xs→Kpt D w w1→a s w1→Jz σ x cs→cs.length=4→(∀w',Kpt D w w'→a (b s x).2 w'→K (.bool (b s x).1) w')→Z3 P f [.agg cs.toArray] w1 K)
 (h: ∀w',Kpt D w w'→a (J5 b d xs 0).2 w'→K (.bool (J5 b d xs 0).1.isSome) w'):Q1 P F.m [v,f] w K:=Xd (by
 unfold B6
 refine Ft b d a D c g i e fun w1 j k=>?_
 (try simp only[↓M1,M1,Mb,reduceIte])
 rw[Dt]
 exact h w1 j k)
theorem Sv {xs:List Cat} {v f:Value} (p:Cat→Bool) (hs:X3 w σ) (hv:Sl 4 Jz σ v xs)
 (hf: ∀x cs (w1:World) (K:Value→World→Prop),x∈xs→X3 w1 σ→Jz σ x cs→cs.length=4→(∀w',Below w1.heap.size w1 w'→K (.bool (p x)) w')→Z3 P f [.agg cs.toArray] w1 K)
 (h: ∀w',Below w.heap.size w w'→K (.bool (xs.any p)) w'):Q1 P F.m [v,f] w K:=by
 refine Rv (fun (_:Unit) x=>(p x,())) () (fun _ w'=>Below w.heap.size w w') (fun _=>False) (fun _ w' hb=>hs.below hb) (Below.refl _ _) hv (fun s x cs w1 K hx hk hi hr hl hK=>hf x cs w1 K hx (hs.below hi) hr hl fun w' hb=>hK w' (.of_below (bt hi hb)) (bt hi hb)) fun w' hk hi=>?_
 rw[P0]
 simpa using h w' hi
theorem Fl {β:Type} {xs:List Cla} {v f:Value} (a:β→Cla→Bool×β) (j:β) (b:β→World→Prop) (D:Nat→Prop) (i: ∀s w,b s w→X3 w σ) (z:b j w) (t:Sl 8 V0 σ v xs)
 (y: ∀s x cs (w1:World) (K:Value→World→Prop),x∈xs→Kpt D w w1→b s w1→V0 σ x cs→cs.length=8→(∀w',Kpt D w w'→b (a s x).2 w'→K (.bool (a s x).1) w')→Z3 P f [.agg cs.toArray] w1 K)
 (h: ∀w',Kpt D w w'→b (J5 a j xs 0).2 w'→K (I (L5 (J5 a j xs 0).1)) w'):Q1 P F.o [v,f] w K:=Yn (by
 unfold G3
 ((try simp only[↓M1,M1,Mb,reduceIte]);repeat ((first | refine ld (by assumption) (by assumption) rfl ?_ | refine X7 (by assumption) (by assumption) rfl ?_ | refine Q8 (by assumption) ?_);(try simp only[↓M1,M1,Mb,reduceIte])))
 refine U2 xs.length (fun n w'=>Kpt D w w'∧ ∃s,b s w'∧J5 a j xs 0=J5 a s (xs.drop n) n) ⟨Kpt.refl,j,z,rfl⟩ fun n w1 d E m=>?_
 obtain ⟨u,s,m,g⟩:=m
 have r:=i s w1 m
 ((try simp only[↓M1,M1,Mb,reduceIte]);repeat ((first | refine ld (by assumption) (by assumption) rfl ?_ | refine X7 (by assumption) (by assumption) rfl ?_ | refine Q8 (by assumption) ?_);(try simp only[↓M1,M1,Mb,reduceIte])))
 refine Q7 (fun q=>?_) (fun q=>?_)
 ·have c:n<xs.length:=by simpa using q
  refine M7 t c fun p cs C e A=>?_
  refine Y4 r C e ?_
  refine y s xs[n] cs w1 _ (List.getElem_mem c) u m A e fun B k l=>?_
  rw[List.drop_eq_getElem_cons c] at g
  simp only[J5] at g
  refine Q7 (fun o=>?_) (fun o=>?_)
  ·rw[o] at g
   have:=h B k
   rw[g] at this
   exact this l
  ·rw[o] at g
   ((try simp only[↓M1,M1,Mb,reduceIte]);repeat ((first | refine ld (by assumption) (by assumption) rfl ?_ | refine X7 (by assumption) (by assumption) rfl ?_ | refine Q8 (by assumption) ?_);(try simp only[↓M1,M1,Mb,reduceIte])))
   exact Y5 t.max c ⟨k,_,l,by simpa using g⟩
 ·have c: ¬n<xs.length:=by simpa using q
  rw[List.drop_eq_nil_of_le (by omega)] at g
  have:=h w1 u
  rw[g] at this
  exact this m)
theorem Ia {xs:List Cla} {v f:Value} (p:Cla→Bool) (hs:X3 w σ) (hv:Sl 8 V0 σ v xs)
 (hf: ∀x cs (w1:World) (K:Value→World→Prop),x∈xs→X3 w1 σ→V0 σ x cs→cs.length=8→(∀w',Below w1.heap.size w1 w'→K (.bool (p x)) w')→Z3 P f [.agg cs.toArray] w1 K)
 (h: ∀w',Below w.heap.size w w'→K (I (L5 (xs.findIdx? p))) w'):Q1 P F.o [v,f] w K:=by
 refine Fl (fun (_:Unit) x=>(p x,())) () (fun _ w'=>Below w.heap.size w w') (fun _=>False) (fun _ w' hb=>hs.below hb) (Below.refl _ _) hv (fun s x cs w1 K hx hk hi hr hl hK=>hf x cs w1 K hx (hs.below hi) hr hl fun w' hb=>hK w' (.of_below (bt hi hb)) (bt hi hb)) fun w' hk hi=>?_
 rw[P0]
 simpa using h w' hi
theorem Q1c {β:Type} {xs:List X0} {v f:Value} (a:β→X0→Bool×β) (j:β) (b:β→World→Prop) (D:Nat→Prop) (i: ∀s w,b s w→X3 w σ) (A:b j w) (u:Sl 1 U8 σ v xs)
 (z: ∀s x (w1:World) (K:Value→World→Prop),x∈xs→Kpt D w w1→b s w1→x.length≤U1→(∀w',Kpt D w w'→b (a s x).2 w'→K (.bool (a s x).1) w')→Z3 P f [S x] w1 K)
 (h: ∀w',Kpt D w w'→b (J5 a j xs 0).2 w'→K (I (L5 (J5 a j xs 0).1)) w'):Q1 P F.w [v,f] w K:=Vj (by
 unfold T2
 ((try simp only[↓M1,M1,Mb,reduceIte]);repeat ((first | refine ld (by assumption) (by assumption) rfl ?_ | refine X7 (by assumption) (by assumption) rfl ?_ | refine Q8 (by assumption) ?_);(try simp only[↓M1,M1,Mb,reduceIte])))
 refine U2 xs.length (fun n w'=>Kpt D w w'∧ ∃s,b s w'∧J5 a j xs 0=J5 a s (xs.drop n) n) ⟨Kpt.refl,j,A,rfl⟩ fun n w1 d H m=>?_
 obtain ⟨y,s,m,e⟩:=m
 have r:=i s w1 m
 ((try simp only[↓M1,M1,Mb,reduceIte]);repeat ((first | refine ld (by assumption) (by assumption) rfl ?_ | refine X7 (by assumption) (by assumption) rfl ?_ | refine Q8 (by assumption) ?_);(try simp only[↓M1,M1,Mb,reduceIte])))
 refine Q7 (fun q=>?_) (fun q=>?_)
 ·have c:n<xs.length:=by simpa using q
  refine M7 u c fun p cs E t B=>?_
  obtain ⟨rfl,g⟩:=B
  refine X7 r E rfl ?_
  refine z s xs[n] w1 _ (List.getElem_mem c) y m g fun C k l=>?_
  rw[List.drop_eq_getElem_cons c] at e
  simp only[J5] at e
  refine Q7 (fun o=>?_) (fun o=>?_)
  ·rw[o] at e
   have:=h C k
   rw[e] at this
   exact this l
  ·rw[o] at e
   ((try simp only[↓M1,M1,Mb,reduceIte]);repeat ((first | refine ld (by assumption) (by assumption) rfl ?_ | refine X7 (by assumption) (by assumption) rfl ?_ | refine Q8 (by assumption) ?_);(try simp only[↓M1,M1,Mb,reduceIte])))
   exact Y5 u.max c ⟨k,_,l,by simpa using e⟩
 ·have c: ¬n<xs.length:=by simpa using q
  rw[List.drop_eq_nil_of_le (by omega)] at e
  have:=h w1 y
  rw[e] at this
  exact this m)
theorem Q0N {xs:List X0} {v f:Value} (p:X0→Bool) (hs:X3 w σ) (hv:Sl 1 U8 σ v xs)
 (hf: ∀x (w1:World) (K:Value→World→Prop),x∈xs→X3 w1 σ→x.length≤U1→(∀w',Below w1.heap.size w1 w'→K (.bool (p x)) w')→Z3 P f [S x] w1 K)
 (h: ∀w',Below w.heap.size w w'→K (I (L5 (xs.findIdx? p))) w'):Q1 P F.w [v,f] w K:=by
 refine Q1c (fun (_:Unit) x=>(p x,())) () (fun _ w'=>Below w.heap.size w w') (fun _=>False) (fun _ w' hb=>hs.below hb) (Below.refl _ _) hv (fun s x w1 K hx hk hi hr hK=>hf x w1 K hx (hs.below hi) hr fun w' hb=>hK w' (.of_below (bt hi hb)) (bt hi hb)) fun w' hk hi=>?_
 rw[P0]
 simpa using h w' hi
theorem Q5P {α:Type} (p:α→Bool) (xs:List α):decide ((0:Int)≤L5 (xs.findIdx? p))=xs.any p:=by
 rw[Bool.eq_iff_iff,List.any_eq_true]
 simp only[decide_eq_true_eq]
 cases h:xs.findIdx? p with
 | none=>
  simp only[L5]
  constructor
  ·intro h;omega
  ·rintro ⟨x,b,a⟩;have:=List.findIdx?_eq_none_iff.1 h x b;rw[a] at this;cases this
 | some i=>
  simp only[L5]
  obtain ⟨c,a,_⟩:=List.findIdx?_eq_some_iff_getElem.1 h
  exact ⟨fun _=>⟨xs[i],List.getElem_mem c,a⟩,fun _=>by omega⟩
theorem P6 {xs:List X0} {v f:Value} (p:X0→Bool) (c:X3 w σ) (a:Sl 1 U8 σ v xs)
 (b: ∀x (w1:World) (K:Value→World→Prop),x∈xs→X3 w1 σ→x.length≤U1→(∀w',Below w1.heap.size w1 w'→K (.bool (p x)) w')→Z3 P f [S x] w1 K)
 (h: ∀w',Below w.heap.size w w'→K (.bool (xs.any p)) w'):Q1 P F.c [v,f] w K:=Jj (by
 unfold K4
 refine Q0N p c a b fun w1 d=>?_
 (try simp only[↓M1,M1,Mb,reduceIte])
 rw[Q5P]
 exact h w1 d)
theorem Q3M {xs:List X0} {v:Value} {x:X0} (o:X3 w σ) (i:Sl 1 U8 σ v xs)
 (h:K (I (L5 (xs.findIdx? fun y=>decide (x=y)))) w):Q1 P F.av [v,S x] w K:=Mc (by
 unfold Ql
 ((try simp only[↓M1,M1,Mb,reduceIte]);repeat ((first | refine ld (by assumption) (by assumption) rfl ?_ | refine X7 (by assumption) (by assumption) rfl ?_ | refine Q8 (by assumption) ?_);(try simp only[↓M1,M1,Mb,reduceIte])))
 refine U2 xs.length (fun n w'=>w=w'∧(xs.take n).any (fun y=>decide (x=y))=false) ⟨rfl,rfl⟩ fun n w1 d q b=>?_
 obtain ⟨rfl,b⟩:=b
 ((try simp only[↓M1,M1,Mb,reduceIte]);repeat ((first | refine ld (by assumption) (by assumption) rfl ?_ | refine X7 (by assumption) (by assumption) rfl ?_ | refine Q8 (by assumption) ?_);(try simp only[↓M1,M1,Mb,reduceIte])))
 refine Q7 (fun e=>?_) (fun e=>?_)
 ·have a:n<xs.length:=by simpa using e
  refine M7 i a fun p cs m f k=>?_
  obtain ⟨rfl,g⟩:=k
  ((try simp only[↓M1,M1,Mb,reduceIte]);repeat ((first | refine ld (by assumption) (by assumption) rfl ?_ | refine X7 (by assumption) (by assumption) rfl ?_ | refine Q8 (by assumption) ?_);(try simp only[↓M1,M1,Mb,reduceIte])))
  refine Q7 (fun c=>?_) (fun c=>?_)
  ·have:xs.findIdx? (fun y=>decide (x=y))=some n:=by
    rw[List.findIdx?_eq_some_iff_getElem]
    refine ⟨a,c,fun j r=>?_⟩
    have:=List.any_eq_false.1 b (xs[j]) (List.mem_take_iff_getElem.2 ⟨j,by omega,rfl⟩)
    exact this
   rw[this] at h;exact h
  ·((try simp only[↓M1,M1,Mb,reduceIte]);repeat ((first | refine ld (by assumption) (by assumption) rfl ?_ | refine X7 (by assumption) (by assumption) rfl ?_ | refine Q8 (by assumption) ?_);(try simp only[↓M1,M1,Mb,reduceIte])))
   exact Y5 i.max a ⟨rfl,by rw[L2 a,b,c];rfl⟩
 ·have a: ¬n<xs.length:=by simpa using e
  rw[E3 a] at b
  have:xs.findIdx? (fun y=>decide (x=y))=none:=by
   rw[List.findIdx?_eq_none_iff];intro y l;simpa using List.any_eq_false.1 b y l
  rw[this] at h;exact h)
theorem Q21 {xs:List X0} {v:Value} {x:X0} (b:X3 w σ) (a:Sl 1 U8 σ v xs)
 (h:K (.bool (xs.any fun y=>decide (x=y))) w):Q1 P F.ai [v,S x] w K:=Vn (by
 unfold T8
 refine Q3M b a ?_
 (try simp only[↓M1,M1,Mb,reduceIte])
 rw[Q5P]
 exact h)
end Go.Proofs.YtjdiakhipmggjaaGreatDoor

namespace Go.Emb
abbrev Q6.Le (σ σ':Q6):Prop:= ∀b o,σ b=some o→σ' b=some o
def C8 {α:Type} (f:α→List UInt8):List α→List α→Bool
 | _,[]=>true
 | seen,x::r=> !(seen.any fun y=>decide (f y=f x))&&C8 f (seen++[x]) r
theorem Vv {α:Type} (p:α→Bool) (xs:List α):(!xs.any fun x=> !p x)=xs.all p:=by
 rw[List.all_eq_not_any_not]
end Go.Emb
namespace Go.Proofs.YtjdiakhipmggjaaGreatDoor
open Go.Emb Go.RowKit Go.Kd Go.Hm
variable {w : World} {K : Value → World → Prop} {σ : Q6}
theorem Q0U {xs:List Hm.Met} {v:Value} {fn:Fn} {n d:Array Value} (p:Hm.Met→Bool) (B:X3 w σ) (A:Sl 7 E8 σ v xs)
 (q: ∀(σ1:Q6) x cs (w1:World) (K:Value→World→Prop),σ.Le σ1→x∈xs→X3 w1 σ1→E8 σ1 x cs→cs.length=7→(∀w',Below w1.heap.size w1 w'→K (.bool (p x)) w')→Z3 P (.func fn n d) [.agg cs.toArray] w1 K)
 (h: ∀w',Below w.heap.size w w'→K (.bool (xs.all p)) w'):Q1 P F.ap [v, .func fn n d] w K:=Cf (by
 unfold Uc
 refine E7 B fun a w1 σ1 f k=>?_
 simp only[Value.cells] at k
 ((try simp only[↓M1,M1,Mb,reduceIte]);repeat ((first | refine ld (by assumption) (by assumption) rfl ?_ | refine X7 (by assumption) (by assumption) rfl ?_ | refine Q8 (by assumption) ?_);(try simp only[↓M1,M1,Mb,reduceIte])))
 refine F3 (fun x=> !p x) f.sat (A.up f) (fun x cs l K u j s m z=>?_) fun l r=>?_
 ·refine Z7 (Hi ?_)
  unfold Zj
  refine E7 j fun b y C c g=>?_
  refine X7 c.sat (k.up c) rfl ?_
  refine Y4 c.sat g m ?_
  refine q C x _ y _ (fun b o e=>c.le b o (f.le b o e)) u c.sat (Rep.up c.le s) m fun t i=>?_
  (try simp only[↓M1,M1,Mb,reduceIte])
  exact z t (bt c.bel i)
 ·(try simp only[↓M1,M1,Mb,reduceIte])
  rw[Vv]
  exact h l (bt f.bel r))
theorem Q1X {xs:List Fld} {v:Value} {fn:Fn} {n d:Array Value} (p:Fld→Bool) (B:X3 w σ) (A:Sl 3 S2 σ v xs)
 (q: ∀(σ1:Q6) x cs (w1:World) (K:Value→World→Prop),σ.Le σ1→x∈xs→X3 w1 σ1→S2 σ1 x cs→cs.length=3→(∀w',Below w1.heap.size w1 w'→K (.bool (p x)) w')→Z3 P (.func fn n d) [.agg cs.toArray] w1 K)
 (h: ∀w',Below w.heap.size w w'→K (.bool (xs.all p)) w'):Q1 P F.au [v, .func fn n d] w K:=Cp (by
 unfold Vb
 refine E7 B fun a w1 σ1 f k=>?_
 simp only[Value.cells] at k
 ((try simp only[↓M1,M1,Mb,reduceIte]);repeat ((first | refine ld (by assumption) (by assumption) rfl ?_ | refine X7 (by assumption) (by assumption) rfl ?_ | refine Q8 (by assumption) ?_);(try simp only[↓M1,M1,Mb,reduceIte])))
 refine Jk (fun x=> !p x) f.sat (A.up f) (fun x cs l K u j s m z=>?_) fun l r=>?_
 ·refine Z7 (Hx ?_)
  unfold Ji
  refine E7 j fun b y C c g=>?_
  refine X7 c.sat (k.up c) rfl ?_
  refine Y4 c.sat g m ?_
  refine q C x _ y _ (fun b o e=>c.le b o (f.le b o e)) u c.sat (Rep.up c.le s) m fun t i=>?_
  (try simp only[↓M1,M1,Mb,reduceIte])
  exact z t (bt c.bel i)
 ·(try simp only[↓M1,M1,Mb,reduceIte])
  rw[Vv]
  exact h l (bt f.bel r))
theorem Q1N {xs:List Ins} {v:Value} {fn:Fn} {n d:Array Value} (p:Ins→Bool) (B:X3 w σ) (A:Sl 3 Qo σ v xs)
 (q: ∀(σ1:Q6) x cs (w1:World) (K:Value→World→Prop),σ.Le σ1→x∈xs→X3 w1 σ1→Qo σ1 x cs→cs.length=3→(∀w',Below w1.heap.size w1 w'→K (.bool (p x)) w')→Z3 P (.func fn n d) [.agg cs.toArray] w1 K)
 (h: ∀w',Below w.heap.size w w'→K (.bool (xs.all p)) w'):Q1 P F.aw [v, .func fn n d] w K:=Co (by
 unfold Uy
 refine E7 B fun a w1 σ1 f k=>?_
 simp only[Value.cells] at k
 ((try simp only[↓M1,M1,Mb,reduceIte]);repeat ((first | refine ld (by assumption) (by assumption) rfl ?_ | refine X7 (by assumption) (by assumption) rfl ?_ | refine Q8 (by assumption) ?_);(try simp only[↓M1,M1,Mb,reduceIte])))
 refine Sj (fun x=> !p x) f.sat (A.up f) (fun x cs l K u j s m z=>?_) fun l r=>?_
 ·refine Z7 (Rc ?_)
  unfold Jb
  refine E7 j fun b y C c g=>?_
  refine X7 c.sat (k.up c) rfl ?_
  refine Y4 c.sat g m ?_
  refine q C x _ y _ (fun b o e=>c.le b o (f.le b o e)) u c.sat (Rep.up c.le s) m fun t i=>?_
  (try simp only[↓M1,M1,Mb,reduceIte])
  exact z t (bt c.bel i)
 ·(try simp only[↓M1,M1,Mb,reduceIte])
  rw[Vv]
  exact h l (bt f.bel r))
theorem Q1O {xs:List Cat} {v:Value} {fn:Fn} {n d:Array Value} (p:Cat→Bool) (B:X3 w σ) (A:Sl 4 Jz σ v xs)
 (q: ∀(σ1:Q6) x cs (w1:World) (K:Value→World→Prop),σ.Le σ1→x∈xs→X3 w1 σ1→Jz σ1 x cs→cs.length=4→(∀w',Below w1.heap.size w1 w'→K (.bool (p x)) w')→Z3 P (.func fn n d) [.agg cs.toArray] w1 K)
 (h: ∀w',Below w.heap.size w w'→K (.bool (xs.all p)) w'):Q1 P F.ax [v, .func fn n d] w K:=Ct (by
 unfold Vh
 refine E7 B fun a w1 σ1 f k=>?_
 simp only[Value.cells] at k
 ((try simp only[↓M1,M1,Mb,reduceIte]);repeat ((first | refine ld (by assumption) (by assumption) rfl ?_ | refine X7 (by assumption) (by assumption) rfl ?_ | refine Q8 (by assumption) ?_);(try simp only[↓M1,M1,Mb,reduceIte])))
 refine Sv (fun x=> !p x) f.sat (A.up f) (fun x cs l K u j s m z=>?_) fun l r=>?_
 ·refine Z7 (Hz ?_)
  unfold Je
  refine E7 j fun b y C c g=>?_
  refine X7 c.sat (k.up c) rfl ?_
  refine Y4 c.sat g m ?_
  refine q C x _ y _ (fun b o e=>c.le b o (f.le b o e)) u c.sat (Rep.up c.le s) m fun t i=>?_
  (try simp only[↓M1,M1,Mb,reduceIte])
  exact z t (bt c.bel i)
 ·(try simp only[↓M1,M1,Mb,reduceIte])
  rw[Vv]
  exact h l (bt f.bel r))
theorem Gj {xs:List X0} {v:Value} {fn:Fn} {i b:Array Value} (p:X0→Bool) (r:X3 w σ) (q:Sl 1 U8 σ v xs)
 (j: ∀(σ1:Q6) x (w1:World) (K:Value→World→Prop),σ.Le σ1→x∈xs→X3 w1 σ1→x.length≤U1→(∀w',Below w1.heap.size w1 w'→K (.bool (p x)) w')→Z3 P (.func fn i b) [S x] w1 K)
 (h: ∀w',Below w.heap.size w w'→K (.bool (xs.all p)) w'):Q1 P F.ab [v, .func fn i b] w K:=Pz (by
 unfold Lz
 refine E7 r fun a w1 σ1 d g=>?_
 simp only[Value.cells] at g
 ((try simp only[↓M1,M1,Mb,reduceIte]);repeat ((first | refine ld (by assumption) (by assumption) rfl ?_ | refine X7 (by assumption) (by assumption) rfl ?_ | refine Q8 (by assumption) ?_);(try simp only[↓M1,M1,Mb,reduceIte])))
 refine P6 (fun x=> !p x) d.sat (q.up d) (fun x f K n c l o=>?_) fun f k=>?_
 ·refine Z7 (By ?_)
  unfold Vo
  refine X7 c g rfl ?_
  refine j σ1 x f _ d.le n c l fun m e=>?_
  (try simp only[↓M1,M1,Mb,reduceIte])
  exact o m e
 ·(try simp only[↓M1,M1,Mb,reduceIte])
  rw[Vv]
  exact h f (bt d.bel k))
theorem Q1Z {xs:List Hm.Met} {v:Value} {fn:Fn} {E l:Array Value} (f:Hm.Met→X0) (hs:X3 w σ) (A:Sl 7 E8 σ v xs)
 (X: ∀(σ1:Q6) x cs (w1:World) (K:Value→World→Prop),σ.Le σ1→X3 w1 σ1→E8 σ1 x cs→cs.length=7→(∀w',Below w1.heap.size w1 w'→K (S (f x)) w')→Z3 P (.func fn E l) [.agg cs.toArray] w1 K)
 (h: ∀w',Below w.heap.size w w'→K (.bool (C8 f [] xs)) w'):Q1 P F.ar [v, .func fn E l] w K:=Cm (by
 unfold Ve
 refine E7 hs fun a w1 σ1 B Y=>?_
 simp only[Value.cells] at Y
 have V:=B.sat
 replace A:=A.up B
 ((try simp only[↓M1,M1,Mb,reduceIte]);repeat ((first | refine ld (by assumption) (by assumption) rfl ?_ | refine X7 (by assumption) (by assumption) rfl ?_ | refine Q8 (by assumption) ?_);(try simp only[↓M1,M1,Mb,reduceIte])))
 refine U2 xs.length (fun n w'=>Below w1.heap.size w1 w'∧C8 f [] xs=C8 f (xs.take n) (xs.drop n)) ⟨Below.refl _ _,rfl⟩ fun n w2 d hn hi=>?_
 obtain ⟨i,m⟩:=hi
 have u:=V.below i
 ((try simp only[↓M1,M1,Mb,reduceIte]);repeat ((first | refine ld (by assumption) (by assumption) rfl ?_ | refine X7 (by assumption) (by assumption) rfl ?_ | refine Q8 (by assumption) ?_);(try simp only[↓M1,M1,Mb,reduceIte])))
 refine Q7 (fun O=>?_) (fun O=>?_)
 ·have k:n<xs.length:=by simpa using O
  rw[List.drop_eq_getElem_cons k] at m
  simp only[C8] at m
  refine M7 A k fun p cs hl g Z=>?_
  refine Y4 u hl g ?_
  refine Y8 u (by rfl) g (Rep.one Z) fun q w3 σ3 j hq=>?_
  refine Ec (A.up j) none (some (I n)) 0 n (.inl ⟨rfl,rfl⟩) (.inr rfl) (by omega) (by omega) fun v' Q=>?_
  ((try simp only[↓M1,M1,Mb,reduceIte]);repeat ((first | refine ld (by assumption) (by assumption) rfl ?_ | refine X7 (by assumption) (by assumption) rfl ?_ | refine Q8 (by assumption) ?_);(try simp only[↓M1,M1,Mb,reduceIte])))
  refine F3 (fun y=>decide (f y=f xs[n])) j.sat Q (fun y ys w4 K hy J U z hK=>?_) fun w4 M=>?_
  ·refine Z7 (Rd ?_)
   unfold Jc
   refine E7 J fun b w5 R c L=>?_
   have C:=(Y.up j).up c
   have N:=hq.up c
   have s:σ.Le R:=fun b o e=>c.le b o (j.le b o (B.le b o e))
   refine Dp (Below.refl _ _) ?_
   refine X4 (.func fn E l) (fun w i=>X7 (c.sat.below i) C rfl (X6 rfl)) ?_
   refine X4 (.agg ys.toArray) (fun w i=>Y4 (c.sat.below i) L z (X6 rfl)) ?_
   refine X4 (S (f y)) (fun t t' w i e e'=>by rw[e,e'];exact X R y ys w _ s (c.sat.below i) (Rep.up c.le U) z fun w' H=>Q3k H rfl) ?_
   refine X4 (.func fn E l) (fun w i=>X7 (c.sat.below i) C rfl (X6 rfl)) ?_
   refine X4 (.agg cs.toArray) (fun w i=>Y4 (c.sat.below i) N g (X6 rfl)) ?_
   rintro _ _ _ _ _ w6 D rfl rfl rfl rfl rfl
   refine X R xs[n] cs w6 _ s (c.sat.below D) (Rep.up (fun b o e=>c.le b o (j.le b o e)) Z) g fun w7 W=>?_
   (try simp only[↓M1,M1,Mb,reduceIte])
   exact hK w7 (bt (bt c.bel D) W)
  ·have r:=bt i (bt j.bel M)
   simp only[List.drop_zero,Nat.sub_zero] at*
   refine Q7 (fun hh=>?_) (fun hh=>?_)
   ·rw[hh] at m
    have:=h w4 (bt B.bel r)
    rw[m] at this;exact this
   ·rw[hh] at m
    ((try simp only[↓M1,M1,Mb,reduceIte]);repeat ((first | refine ld (by assumption) (by assumption) rfl ?_ | refine X7 (by assumption) (by assumption) rfl ?_ | refine Q8 (by assumption) ?_);(try simp only[↓M1,M1,Mb,reduceIte])))
    refine Y5 A.max k ⟨r,?_⟩
    rw[m,List.take_add_one,List.getElem?_eq_getElem k];rfl
 ·have k: ¬n<xs.length:=by simpa using O
  rw[List.drop_eq_nil_of_le (by omega)] at m
  have:=h w2 (bt B.bel i)
  rw[m] at this;exact this)
theorem Q2A {xs:List Fld} {v:Value} {fn:Fn} {E l:Array Value} (f:Fld→X0) (hs:X3 w σ) (A:Sl 3 S2 σ v xs)
 (X: ∀(σ1:Q6) x cs (w1:World) (K:Value→World→Prop),σ.Le σ1→X3 w1 σ1→S2 σ1 x cs→cs.length=3→(∀w',Below w1.heap.size w1 w'→K (S (f x)) w')→Z3 P (.func fn E l) [.agg cs.toArray] w1 K)
 (h: ∀w',Below w.heap.size w w'→K (.bool (C8 f [] xs)) w'):Q1 P F.aF [v, .func fn E l] w K:=Ff (by
 unfold Vy
 refine E7 hs fun a w1 σ1 B Y=>?_
 simp only[Value.cells] at Y
 have V:=B.sat
 replace A:=A.up B
 ((try simp only[↓M1,M1,Mb,reduceIte]);repeat ((first | refine ld (by assumption) (by assumption) rfl ?_ | refine X7 (by assumption) (by assumption) rfl ?_ | refine Q8 (by assumption) ?_);(try simp only[↓M1,M1,Mb,reduceIte])))
 refine U2 xs.length (fun n w'=>Below w1.heap.size w1 w'∧C8 f [] xs=C8 f (xs.take n) (xs.drop n)) ⟨Below.refl _ _,rfl⟩ fun n w2 d hn hi=>?_
 obtain ⟨i,m⟩:=hi
 have u:=V.below i
 ((try simp only[↓M1,M1,Mb,reduceIte]);repeat ((first | refine ld (by assumption) (by assumption) rfl ?_ | refine X7 (by assumption) (by assumption) rfl ?_ | refine Q8 (by assumption) ?_);(try simp only[↓M1,M1,Mb,reduceIte])))
 refine Q7 (fun O=>?_) (fun O=>?_)
 ·have k:n<xs.length:=by simpa using O
  rw[List.drop_eq_getElem_cons k] at m
  simp only[C8] at m
  refine M7 A k fun p cs hl g Z=>?_
  refine Y4 u hl g ?_
  refine Y8 u (by rfl) g (Rep.one Z) fun q w3 σ3 j hq=>?_
  refine Ec (A.up j) none (some (I n)) 0 n (.inl ⟨rfl,rfl⟩) (.inr rfl) (by omega) (by omega) fun v' Q=>?_
  ((try simp only[↓M1,M1,Mb,reduceIte]);repeat ((first | refine ld (by assumption) (by assumption) rfl ?_ | refine X7 (by assumption) (by assumption) rfl ?_ | refine Q8 (by assumption) ?_);(try simp only[↓M1,M1,Mb,reduceIte])))
  refine Jk (fun y=>decide (f y=f xs[n])) j.sat Q (fun y ys w4 K hy J U z hK=>?_) fun w4 M=>?_
  ·refine Z7 (Cj ?_)
   unfold Ui
   refine E7 J fun b w5 R c L=>?_
   have C:=(Y.up j).up c
   have N:=hq.up c
   have s:σ.Le R:=fun b o e=>c.le b o (j.le b o (B.le b o e))
   refine Dp (Below.refl _ _) ?_
   refine X4 (.func fn E l) (fun w i=>X7 (c.sat.below i) C rfl (X6 rfl)) ?_
   refine X4 (.agg ys.toArray) (fun w i=>Y4 (c.sat.below i) L z (X6 rfl)) ?_
   refine X4 (S (f y)) (fun t t' w i e e'=>by rw[e,e'];exact X R y ys w _ s (c.sat.below i) (Rep.up c.le U) z fun w' H=>Q3k H rfl) ?_
   refine X4 (.func fn E l) (fun w i=>X7 (c.sat.below i) C rfl (X6 rfl)) ?_
   refine X4 (.agg cs.toArray) (fun w i=>Y4 (c.sat.below i) N g (X6 rfl)) ?_
   rintro _ _ _ _ _ w6 D rfl rfl rfl rfl rfl
   refine X R xs[n] cs w6 _ s (c.sat.below D) (Rep.up (fun b o e=>c.le b o (j.le b o e)) Z) g fun w7 W=>?_
   (try simp only[↓M1,M1,Mb,reduceIte])
   exact hK w7 (bt (bt c.bel D) W)
  ·have r:=bt i (bt j.bel M)
   simp only[List.drop_zero,Nat.sub_zero] at*
   refine Q7 (fun hh=>?_) (fun hh=>?_)
   ·rw[hh] at m
    have:=h w4 (bt B.bel r)
    rw[m] at this;exact this
   ·rw[hh] at m
    ((try simp only[↓M1,M1,Mb,reduceIte]);repeat ((first | refine ld (by assumption) (by assumption) rfl ?_ | refine X7 (by assumption) (by assumption) rfl ?_ | refine Q8 (by assumption) ?_);(try simp only[↓M1,M1,Mb,reduceIte])))
    refine Y5 A.max k ⟨r,?_⟩
    rw[m,List.take_add_one,List.getElem?_eq_getElem k];rfl
 ·have k: ¬n<xs.length:=by simpa using O
  rw[List.drop_eq_nil_of_le (by omega)] at m
  have:=h w2 (bt B.bel i)
  rw[m] at this;exact this)
theorem Q4L {xs:List X0} {v:Value} {fn:Fn} {D k:Array Value} (f:X0→X0) (hs:X3 w σ) (z:Sl 1 U8 σ v xs)
 (U: ∀(σ1:Q6) x (w1:World) (K:Value→World→Prop),σ.Le σ1→X3 w1 σ1→x.length≤U1→(∀w',Below w1.heap.size w1 w'→K (S (f x)) w')→Z3 P (.func fn D k) [S x] w1 K)
 (h: ∀w',Below w.heap.size w w'→K (.bool (C8 f [] xs)) w'):Q1 P F.aW [v, .func fn D k] w K:=Q06 (by
 unfold Da
 refine E7 hs fun a w1 σ1 A V=>?_
 simp only[Value.cells] at V
 have O:=A.sat
 replace z:=z.up A
 ((try simp only[↓M1,M1,Mb,reduceIte]);repeat ((first | refine ld (by assumption) (by assumption) rfl ?_ | refine X7 (by assumption) (by assumption) rfl ?_ | refine Q8 (by assumption) ?_);(try simp only[↓M1,M1,Mb,reduceIte])))
 refine U2 xs.length (fun n w'=>Below w1.heap.size w1 w'∧C8 f [] xs=C8 f (xs.take n) (xs.drop n)) ⟨Below.refl _ _,rfl⟩ fun n w2 d hn hi=>?_
 obtain ⟨g,l⟩:=hi
 have u:=O.below g
 ((try simp only[↓M1,M1,Mb,reduceIte]);repeat ((first | refine ld (by assumption) (by assumption) rfl ?_ | refine X7 (by assumption) (by assumption) rfl ?_ | refine Q8 (by assumption) ?_);(try simp only[↓M1,M1,Mb,reduceIte])))
 refine Q7 (fun J=>?_) (fun J=>?_)
 ·have j:n<xs.length:=by simpa using J
  rw[List.drop_eq_getElem_cons j] at l
  simp only[C8] at l
  refine M7 z j fun p cs hl R hr=>?_
  obtain ⟨rfl,s⟩:=hr
  refine X7 u hl rfl ?_
  refine U7 u (by rfl) rfl rfl fun q w3 M i X=>?_
  refine Ec (z.up i) none (some (I n)) 0 n (.inl ⟨rfl,rfl⟩) (.inr rfl) (by omega) (by omega) fun v' L=>?_
  ((try simp only[↓M1,M1,Mb,reduceIte]);repeat ((first | refine ld (by assumption) (by assumption) rfl ?_ | refine X7 (by assumption) (by assumption) rfl ?_ | refine Q8 (by assumption) ?_);(try simp only[↓M1,M1,Mb,reduceIte])))
  refine P6 (fun y=>decide (f y=f xs[n])) i.sat L (fun y W K hy c N hK=>?_) fun W H=>?_
  ·refine Z7 (Fp ?_)
   unfold Lr
   have B:=V.up i
   have r:σ.Le M:=fun b o e=>i.le b o (A.le b o e)
   refine Dp (Below.refl _ _) ?_
   refine X4 (.func fn D k) (fun w g=>X7 (c.below g) B rfl (X6 rfl)) ?_
   refine X4 (S (f y)) (fun t w g e=>by rw[e];exact U M y w _ r (c.below g) N fun w' E=>Q3k E rfl) ?_
   refine X4 (.func fn D k) (fun w g=>X7 (c.below g) B rfl (X6 rfl)) ?_
   refine X4 (S xs[n]) (fun w g=>X7 (c.below g) X rfl (X6 rfl)) ?_
   rintro _ _ _ _ Y C rfl rfl rfl rfl
   refine U M xs[n] Y _ r (c.below C) s fun Z Q=>?_
   (try simp only[↓M1,M1,Mb,reduceIte])
   exact hK Z (bt C Q)
  ·have m:=bt g (bt i.bel H)
   simp only[List.drop_zero,Nat.sub_zero] at*
   refine Q7 (fun hh=>?_) (fun hh=>?_)
   ·rw[hh] at l
    have:=h W (bt A.bel m)
    rw[l] at this;exact this
   ·rw[hh] at l
    ((try simp only[↓M1,M1,Mb,reduceIte]);repeat ((first | refine ld (by assumption) (by assumption) rfl ?_ | refine X7 (by assumption) (by assumption) rfl ?_ | refine Q8 (by assumption) ?_);(try simp only[↓M1,M1,Mb,reduceIte])))
    refine Y5 z.max j ⟨m,?_⟩
    rw[l,List.take_add_one,List.getElem?_eq_getElem j];rfl
 ·have j: ¬n<xs.length:=by simpa using J
  rw[List.drop_eq_nil_of_le (by omega)] at l
  have:=h w2 (bt A.bel g)
  rw[l] at this;exact this)
theorem Q6I {P:Program} {w:World} (d:Nat) (t e:TypeId) (a:Option Addr) (n c:Nat) (h:P.underlying t=some (.slice e)):
 (Op.equalIn (d+1) t (.slice a n c) (.slice none 0 0)).run P w= .ok a.isNone w:=by
 cases a<;>simp[Op.equalIn,run_underlying h]
theorem Q1H {t e:TypeId} {g f:Operand} [ts:TS P t e] {a:Option Addr} {n c:Nat} {b:Bool} (i:a.isNone=b) (d:K (.bool b) w):Q3 P .eql t g f (.slice a n c) (.slice none 0 0) w K:=by
 have j:(Op.equal t (.slice a n c) (.slice none 0 0)).run P w= .ok b w:=by
  have:=Q6I (P:=P) (w:=w) 9999 t e a n c ts.h
  rw[i] at this
  exact this
 unfold Q3
 rw[X9 (v:= .bool b) (w':=w) (by simp[eqGuard,Go.binOp,j])]
 exact d
theorem Lt {xs:List X0} {v:Value} (i:X3 w σ) (g:Sl 1 U8 σ v xs) (z:xs.length≤1000000)
 (h: ∀e w' b,Stp w σ w' b→Sl 1 U8 b e xs→K e w'):Q1 P F.a9 [v] w K:=Nl (by
 unfold Qp
 have d:=g
 obtain ⟨a,l,rfl,A,y,m,B⟩:=g
 refine Q1H rfl ?_
 refine Q7 (fun f=>?_) (fun f=>?_)
 ·have:a=none:=by simpa using f
  have s:=m this
  have o:xs=[]:=List.eq_nil_of_length_eq_zero (by omega)
  subst o
  exact h _ w σ (Stp.refl i) Sl.nil
 ·refine Zh (R:=U8) (sz:=1) (Stp.refl i) [] [] rfl rfl (by simp) (by rfl) trivial fun t w1 p k _=>?_
  refine app p k d (by rfl) (by simp only[List.length_nil];omega) (by simp only[List.length_nil];omega) fun u n C q c _=>?_
  obtain ⟨b,j,r,_⟩:=c.keep q
  exact h _ n b j r)
theorem Em {xs:List Fld} {v:Value} (i:X3 w σ) (g:Sl 3 S2 σ v xs) (z:xs.length≤1000000)
 (h: ∀e w' b,Stp w σ w' b→Sl 3 S2 b e xs→K e w'):Q1 P F.ae [v] w K:=Up (by
 unfold P4
 have d:=g
 obtain ⟨a,l,rfl,A,y,m,B⟩:=g
 refine Q1H rfl ?_
 refine Q7 (fun f=>?_) (fun f=>?_)
 ·have:a=none:=by simpa using f
  have s:=m this
  have o:xs=[]:=List.eq_nil_of_length_eq_zero (by omega)
  subst o
  exact h _ w σ (Stp.refl i) Sl.nil
 ·refine Zh (R:=S2) (sz:=3) (Stp.refl i) [] [] rfl rfl (by simp) (by rfl) trivial fun t w1 p k _=>?_
  refine app p k d (by rfl) (by simp only[List.length_nil];omega) (by simp only[List.length_nil];omega) fun u n C q c _=>?_
  obtain ⟨b,j,r,_⟩:=c.keep q
  exact h _ n b j r)
theorem Ex {xs:List Ins} {v:Value} (i:X3 w σ) (g:Sl 3 Qo σ v xs) (z:xs.length≤1000000)
 (h: ∀e w' b,Stp w σ w' b→Sl 3 Qo b e xs→K e w'):Q1 P F.af [v] w K:=Un (by
 unfold P5
 have d:=g
 obtain ⟨a,l,rfl,A,y,m,B⟩:=g
 refine Q1H rfl ?_
 refine Q7 (fun f=>?_) (fun f=>?_)
 ·have:a=none:=by simpa using f
  have s:=m this
  have o:xs=[]:=List.eq_nil_of_length_eq_zero (by omega)
  subst o
  exact h _ w σ (Stp.refl i) Sl.nil
 ·refine Zh (R:=Qo) (sz:=3) (Stp.refl i) [] [] rfl rfl (by simp) (by rfl) trivial fun t w1 p k _=>?_
  refine app p k d (by rfl) (by simp only[List.length_nil];omega) (by simp only[List.length_nil];omega) fun u n C q c _=>?_
  obtain ⟨b,j,r,_⟩:=c.keep q
  exact h _ n b j r)
theorem Ed {xs:List Cat} {v:Value} (i:X3 w σ) (g:Sl 4 Jz σ v xs) (z:xs.length≤1000000)
 (h: ∀e w' b,Stp w σ w' b→Sl 4 Jz b e xs→K e w'):Q1 P F.ag [v] w K:=Jr (by
 unfold P3
 have d:=g
 obtain ⟨a,l,rfl,A,y,m,B⟩:=g
 refine Q1H rfl ?_
 refine Q7 (fun f=>?_) (fun f=>?_)
 ·have:a=none:=by simpa using f
  have s:=m this
  have o:xs=[]:=List.eq_nil_of_length_eq_zero (by omega)
  subst o
  exact h _ w σ (Stp.refl i) Sl.nil
 ·refine Zh (R:=Jz) (sz:=4) (Stp.refl i) [] [] rfl rfl (by simp) (by rfl) trivial fun t w1 p k _=>?_
  refine app p k d (by rfl) (by simp only[List.length_nil];omega) (by simp only[List.length_nil];omega) fun u n C q c _=>?_
  obtain ⟨b,j,r,_⟩:=c.keep q
  exact h _ n b j r)
end Go.Proofs.YtjdiakhipmggjaaGreatDoor

namespace Go.Hm
open Go.Kd
structure Opr where
  name : X0
  number : Bool
  text : Bool
deriving DecidableEq
def Uq:List Opr:=[
 ⟨[105,110,116],true,false⟩,
 ⟨[116,114,117,101],false,false⟩,
 ⟨[102,97,108,115,101],false,false⟩,
 ⟨[119,111,114,100],false,true⟩,
 ⟨[110,117,108,108],false,false⟩,
 ⟨[108,111,97,100],true,false⟩,
 ⟨[115,116,111,114,101],true,false⟩,
 ⟨[112,111,112],false,false⟩,
 ⟨[100,117,112],false,false⟩,
 ⟨[115,119,97,112],false,false⟩,
 ⟨[97,100,100],false,false⟩,
 ⟨[115,117,98],false,false⟩,
 ⟨[109,117,108],false,false⟩,
 ⟨[100,105,118],false,false⟩,
 ⟨[114,101,109],false,false⟩,
 ⟨[110,101,103],false,false⟩,
 ⟨[108,101,115,115],false,false⟩,
 ⟨[115,97,109,101],false,false⟩,
 ⟨[110,111,116],false,false⟩,
 ⟨[98,111,116,104],false,false⟩,
 ⟨[106,111,105,110],false,false⟩,
 ⟨[115,105,122,101],false,false⟩,
 ⟨[106,117,109,112],true,false⟩,
 ⟨[98,114,97,110,99,104],true,false⟩,
 ⟨[110,101,119],false,true⟩,
 ⟨[103,101,116],false,true⟩,
 ⟨[112,117,116],false,true⟩,
 ⟨[99,97,108,108],false,true⟩,
 ⟨[97,114,114,97,121],false,true⟩,
 ⟨[97,116],false,false⟩,
 ⟨[115,101,116],false,false⟩,
 ⟨[105,115],false,true⟩,
 ⟨[99,97,115,116],false,true⟩,
 ⟨[114,101,116,117,114,110],false,false⟩,
 ⟨[116,104,114,111,119],false,false⟩,
 ⟨[111,117,116],false,false⟩,
 ⟨[101,113,117,97,108],false,false⟩,
 ⟨[97,110,100],false,false⟩,
 ⟨[111,114],false,false⟩,
 ⟨[120,111,114],false,false⟩,
 ⟨[115,104,108],false,false⟩,
 ⟨[115,104,114],false,false⟩]
end Go.Hm
namespace Go.Emb
open Go.Hm
def ROp (_:Q6) (o:Opr) (cs:List Value):Prop:=cs=[S o.name, .bool o.number, .bool o.text]
def cOp (o:Opr):List Value:=[S o.name, .bool o.number, .bool o.text]
instance:Rep ROp:=⟨fun _ h=>h,fun h u hu=>by rw[h] at hu;simp at hu;rcases hu with rfl | rfl | rfl<;>rfl⟩
end Go.Emb
namespace Go.Proofs.YtjdiakhipmggjaaGreatDoor
open Go.Emb Go.RowKit Go.Kd Go.Hm
variable {w : World} {K : Value → World → Prop} {σ : Q6}
theorem Q6l {a:X0} (j:a.length≤U1) (h: ∀w',Below w.heap.size w w'→K (.bool (D9 a)) w'):Q1 P F.bV [S a] w K:=Q3E (by
 unfold Gu
 have b:a.length≤140737488355328:=by simp only[U1] at j;omega
 refine Q6o a b fun w1 g=>?_
 cases d:name a
 ·(try simp only[↓M1,M1,Mb,reduceIte])
  have:=h w1 g
  rwa [show D9 a=false by cases a with | nil=>rfl | cons c r=>simp[D9,d]] at this
 ·(try simp only[↓M1,M1,Mb,reduceIte])
  refine Rj a b fun k l=>?_
  (try simp only[↓M1,M1,Mb,reduceIte])
  have:=h k (bt g l)
  rwa [show D9 a= !M6 a by
   cases a with
   | nil=>simp[name] at d
   | cons c r=>
    obtain ⟨e,m⟩:=Pu d
    simp only[M6,D9,d,Bool.true_and]
    simp only[C1,m,Bool.or_false] at e
    cases f:Xm c.toNat<;>cases i:Qb c.toNat
    ·simp[f,i] at e
    ·rfl
    ·rfl
    ·exfalso
     simp only[Xm,Qb,Bool.and_eq_true,decide_eq_true_eq] at f i
     omega] at this)
theorem X2t {t e:TypeId} {n sz b:Nat} {z:Value} [ta:TA P t n e] [tz:TZ P e sz b z] {a:Addr} (d:K (.slice (some a) n n) w):S1 P t (.pointer (some a)) none none none w K:=by
 unfold S1
 have:(Instr.sliceAt t (.pointer (some a)) none none none).run P w= .ok (.slice (some (if n=0 then a else a.add (0*sz))) (n-0) (n-0)) w:=by
  simp[Instr.sliceAt,run_underlying ta.h,Instr.sureAddr,Instr.sliceBounds,L3 tz]
 rw[X9 this]
 have c:(if n=0 then a else a.add (0*sz))=a:=by
  by_cases h:n=0
  ·rw[if_pos h]
  ·rw[if_neg h,Nat.zero_mul,add_zero]
 rw[c];exact d
def Q2K (σ:Q6):Prop:=Z5 σ ⟨G.a,0,none⟩ (Uq.flatMap cOp)
theorem Q7L (i:Nat) (o:Opr) (h:Uq[i]? =some o):((Uq.flatMap cOp).drop (i*3)).take 3=cOp o:=by
 have c:i<42:=(List.getElem?_eq_some_iff.1 h).1
 have key: ∀l:List Opr,∀i o,l[i]? =some o→((l.flatMap cOp).drop (i*3)).take 3=cOp o:=by
  intro l
  induction l with
  | nil=>intro i o h;simp at h
  | cons a r b=>
   intro i o h
   cases i with
   | zero=>simp at h;subst h;rfl
   | succ i=>
    have:=b i o (by simpa using h)
    rw[List.flatMap_cons,show (i+1)*3=(cOp a).length+i*3 by simp[cOp];omega,List.drop_append]
    simpa [List.drop_eq_nil_of_le] using this
 exact key _ i o h
theorem Q3m {σ:Q6} {a:Addr} {cs:List Value} (h:Z5 σ a cs) (i n:Nat):Z5 σ (a.add i) ((cs.drop i).take n):=by
 obtain ⟨d,arr,e,c,f,g⟩:=h
 refine ⟨K1 d _,arr,e,c,by rw[S9];exact f,fun j v b=>?_⟩
 rw[List.getElem?_take] at b
 split at b
 ·rw[List.getElem?_drop] at b
  rw[Qe,Nat.add_assoc];exact g _ _ b
 ·cases b
theorem X39 (h:Q2K σ):Sl 3 ROp σ (.slice (some ⟨G.a,0,none⟩) 42 42) Uq:=by
 refine ⟨_,42,rfl,by decide,by decide,by simp,?_⟩
 rintro _ ⟨⟩
 refine ⟨fun _=>rfl,fun i x a=>⟨cOp x,?_,rfl,rfl⟩⟩
 rw[←Q7L i x a]
 exact Q3m h (i*3) 3
theorem Ap {β:Type} {xs:List Opr} {v f:Value} (a:β→Opr→Bool×β) (j:β) (b:β→World→Prop) (D:Nat→Prop) (i: ∀s w,b s w→X3 w σ) (z:b j w) (t:Sl 3 ROp σ v xs)
 (y: ∀s x cs (w1:World) (K:Value→World→Prop),x∈xs→Kpt D w w1→b s w1→ROp σ x cs→cs.length=3→(∀w',Kpt D w w'→b (a s x).2 w'→K (.bool (a s x).1) w')→Z3 P f [.agg cs.toArray] w1 K)
 (h: ∀w',Kpt D w w'→b (J5 a j xs 0).2 w'→K (I (L5 (J5 a j xs 0).1)) w'):Q1 P F.u [v,f] w K:=Jt (by
 unfold P2
 ((try simp only[↓M1,M1,Mb,reduceIte]);repeat ((first | refine ld (by assumption) (by assumption) rfl ?_ | refine X7 (by assumption) (by assumption) rfl ?_ | refine Q8 (by assumption) ?_);(try simp only[↓M1,M1,Mb,reduceIte])))
 refine U2 xs.length (fun n w'=>Kpt D w w'∧ ∃s,b s w'∧J5 a j xs 0=J5 a s (xs.drop n) n) ⟨Kpt.refl,j,z,rfl⟩ fun n w1 d E m=>?_
 obtain ⟨u,s,m,g⟩:=m
 have r:=i s w1 m
 ((try simp only[↓M1,M1,Mb,reduceIte]);repeat ((first | refine ld (by assumption) (by assumption) rfl ?_ | refine X7 (by assumption) (by assumption) rfl ?_ | refine Q8 (by assumption) ?_);(try simp only[↓M1,M1,Mb,reduceIte])))
 refine Q7 (fun q=>?_) (fun q=>?_)
 ·have c:n<xs.length:=by simpa using q
  refine M7 t c fun p cs C e A=>?_
  refine Y4 r C e ?_
  refine y s xs[n] cs w1 _ (List.getElem_mem c) u m A e fun B k l=>?_
  rw[List.drop_eq_getElem_cons c] at g
  simp only[J5] at g
  refine Q7 (fun o=>?_) (fun o=>?_)
  ·rw[o] at g
   have:=h B k
   rw[g] at this
   exact this l
  ·rw[o] at g
   ((try simp only[↓M1,M1,Mb,reduceIte]);repeat ((first | refine ld (by assumption) (by assumption) rfl ?_ | refine X7 (by assumption) (by assumption) rfl ?_ | refine Q8 (by assumption) ?_);(try simp only[↓M1,M1,Mb,reduceIte])))
   exact Y5 t.max c ⟨k,_,l,by simpa using g⟩
 ·have c: ¬n<xs.length:=by simpa using q
  rw[List.drop_eq_nil_of_le (by omega)] at g
  have:=h w1 u
  rw[g] at this
  exact this m)
theorem Tq {xs:List Opr} {v f:Value} (p:Opr→Bool) (hs:X3 w σ) (hv:Sl 3 ROp σ v xs)
 (hf: ∀x cs (w1:World) (K:Value→World→Prop),x∈xs→X3 w1 σ→ROp σ x cs→cs.length=3→(∀w',Below w1.heap.size w1 w'→K (.bool (p x)) w')→Z3 P f [.agg cs.toArray] w1 K)
 (h: ∀w',Below w.heap.size w w'→K (I (L5 (xs.findIdx? p))) w'):Q1 P F.u [v,f] w K:=by
 refine Ap (fun (_:Unit) x=>(p x,())) () (fun _ w'=>Below w.heap.size w w') (fun _=>False) (fun _ w' hb=>hs.below hb) (Below.refl _ _) hv (fun s x cs w1 K hx hk hi hr hl hK=>hf x cs w1 K hx (hs.below hi) hr hl fun w' hb=>hK w' (.of_below (bt hi hb)) (bt hi hb)) fun w' hk hi=>?_
 rw[P0]
 simpa using h w' hi
theorem Q2K.le {σ a:Q6} (h:Q2K σ) (c: ∀b o,σ b=some o→a b=some o):Q2K a:=Z5.le h c
def Qu (n:X0):Option Nat:=Uq.findIdx? fun o=>decide (o.name=n)
theorem X3l {a:X0} (s:X3 w σ) (r:Q2K σ) (h: ∀w',Below w.heap.size w w'→K (I (L5 (Qu a))) w'):Q1 P F.cM [S a] w K:=Q6M (by
 unfold Q2m
 refine E7 s fun p w1 σ1 d g=>?_
 simp only[Value.cells] at g
 refine X2t ?_
 ((try simp only[↓M1,M1,Mb,reduceIte]);repeat ((first | refine ld (by assumption) (by assumption) rfl ?_ | refine X7 (by assumption) (by assumption) rfl ?_ | refine Q8 (by assumption) ?_);(try simp only[↓M1,M1,Mb,reduceIte])))
 refine Tq (fun o=>decide (o.name=a)) d.sat (X39 (r.le d.le)) (fun x cs f K v c l u n=>?_) fun f k=>?_
 ·refine Z7 (Q4S ?_)
  unfold Tn
  refine E7 c fun q m y b j=>?_
  have e:cs=[S x.name, .bool x.number, .bool x.text]:=l
  subst e
  have t:=b.sat
  have i:=g.up b
  simp only[Value.cells] at j
  ((try simp only[↓M1,M1,Mb,reduceIte]);repeat ((first | refine ld (by assumption) (by assumption) rfl ?_ | refine X7 (by assumption) (by assumption) rfl ?_ | refine Q8 (by assumption) ?_);(try simp only[↓M1,M1,Mb,reduceIte])))
  exact n m b.bel
 ·(try simp only[↓M1,M1,Mb,reduceIte])
  exact h f (bt d.bel k))
def takes (n:X0):Bool×Bool×Bool:=match Qu n with
 | none=>(false,false,false)
 | some i=>((Uq.getD i ⟨[],false,false⟩).number,(Uq.getD i ⟨[],false,false⟩).text,true)
theorem X28 {a:X0} (k:X3 w σ) (j:Q2K σ) (h: ∀w',Below w.heap.size w w'→K (.tuple #[.bool (takes a).1, .bool (takes a).2.1, .bool (takes a).2.2]) w'):Q1 P F.cm [S a] w K:=Q5N (by
 unfold Q0z
 refine X3l k j fun w1 b=>?_
 have c:=k.below b
 unfold takes at h
 cases d:Qu a with
 | none=>
  rw[d] at h
  simp only[L5]
  (try simp only[↓M1,M1,Mb,reduceIte])
  simp only[show decide ((-1:Int)<0)=true from rfl,↓M1,M1,Mb,reduceIte]
  exact h w1 b
 | some i=>
  rw[d] at h
  simp only at h
  have p:i<42:=(List.findIdx?_eq_some_iff_getElem.1 d).1
  have l:Uq[i]? =some (Uq.getD i ⟨[],false,false⟩):=by
   rw[List.getD,List.getElem?_eq_getElem (by exact p)];rfl
  generalize Uq.getD i ⟨[],false,false⟩=o at h l
  have g:=Q3m j (i*3) 3
  rw[Q7L i o l] at g
  simp only[L5]
  have m:decide ((i:Int)<0)=false:=by simp
  simp only[m,↓M1,M1,Mb,reduceIte]
  have A: ∀{w:World} {K:Value→World→Prop},K (.pointer (some ((⟨G.a,0,none⟩:Addr).add (i*3)))) w→indexAddr P T.af (.pointer (some ⟨G.a,0,none⟩)) (I i) w K:=by
   intro w K h
   rw[Q9A (by omega) (by omega)]
   simpa using h
  refine Dp (Below.refl _ _) ?_
  refine X4 (.pointer (some ((⟨G.a,0,none⟩:Addr).add (i*3)))) (fun w b=>A (X6 rfl)) ?_
  refine X4 (.pointer (some (((⟨G.a,0,none⟩:Addr).add (i*3)).add 1))) (fun t w b e=>by rw[e,fa];exact X6 rfl) ?_
  refine X4 (.pointer (some ((⟨G.a,0,none⟩:Addr).add (i*3)))) (fun w b=>A (X6 rfl)) ?_
  refine X4 (.pointer (some (((⟨G.a,0,none⟩:Addr).add (i*3)).add 2))) (fun t w b e=>by rw[e,fa];exact X6 rfl) ?_
  refine X4 (.bool o.number) (fun t w b e=>by rw[e];exact ld (c.below b) g rfl (X6 rfl)) ?_
  refine X4 (.bool o.text) (fun t w b e=>by rw[e];exact ld (c.below b) g rfl (X6 rfl)) ?_
  rintro _ _ _ _ _ _ n f rfl rfl rfl rfl rfl rfl
  exact h n (bt b f))
end Go.Proofs.YtjdiakhipmggjaaGreatDoor

namespace Go.Emb
open Go.RowKit Go.Hm
variable {P : Program} {w w0 w1 w' w'' : World} {K : Value → World → Prop} {σ σ0 σ1 σ' : Q6}
structure SLe (σ σ' : Q6) : Prop where
  le : ∀ b o, σ b = some o → σ' b = some o
theorem SLe.refl (σ:Q6):SLe σ σ:=⟨fun _ _ h=>h⟩
theorem SLe.step {w w':World} (h:SLe σ0 σ) (k:Stp w σ w' σ'):SLe σ0 σ':=⟨fun b o e=>k.le b o (h.le b o e)⟩
theorem SLe.more (h:SLe σ0 σ) (k:SLe σ σ'):SLe σ0 σ':=⟨fun b o e=>k.le b o (h.le b o e)⟩
structure Hst (w : World) (σ : Q6) (w' : World) (σ' : Q6) : Prop where
  stp : Stp w σ w' σ'
theorem Hst.sat (h:Hst w σ w' σ'):X3 w' σ':=h.stp.sat
section lifts
variable {α : Type} {R : Q6 → α → List Value → Prop} {sz : Nat} {v : Value} {xs : List α} {a : Addr} {cs : List Value}
theorem Sl.lift [Rep R] (h:Sl sz R σ0 v xs) (k:SLe σ0 σ):Sl sz R σ v xs:=h.le k.le
theorem Z5.lift (h:Z5 σ0 a cs) (k:SLe σ0 σ):Z5 σ a cs:=h.le k.le
theorem Xk.lift {r:Nat} {m:List (List UInt8×Value)} (h:Xk σ0 r m) (k:SLe σ0 σ):Xk σ r m:=h.le k.le
theorem RMe_lift {x:Hm.Met} (h:E8 σ0 x cs) (k:SLe σ0 σ):E8 σ x cs:=Rep.up k.le h
theorem RCl_lift {x:Cla} (h:V0 σ0 x cs) (k:SLe σ0 σ):V0 σ x cs:=Rep.up k.le h
theorem RFd_any {x:Fld} (h:S2 σ0 x cs):S2 σ x cs:=h
theorem RIn_any {x:Ins} (h:Qo σ0 x cs):Qo σ x cs:=h
theorem RCa_any {x:Cat} (h:Jz σ0 x cs):Jz σ x cs:=h
theorem Y2.step {b:Nat} (h:Y2 σ w b cs) (k:Stp w σ w' σ'):Y2 σ' w' b cs:=h.up k
theorem V6.step [Rep R] {B:Nat} {e:TypeId} (h:V6 B e sz R σ w v xs) (k:Stp w σ w' σ'):V6 B e sz R σ' w' v xs:=h.up k
end lifts
theorem W8 {Q:World→Prop} (d:X3 w σ) (h: ∀w' σ',Stp w σ w' σ'→Q w'): ∀w',Below w.heap.size w w'→Q w':=fun w' c=>h w' σ (Stp.of_below d c)
section plain
variable {k : IntKind} {t : TypeId} {ox oy : Operand} {a b : Int} {x y : Bool} {s u : List UInt8}
theorem N0 (h:K (.int k (k.wrap (a+b))) w):Q3 P .add t ox oy (.int k a) (.int k b) w K:=by rw[Fk];exact h
theorem Xu (c: -9223372036854775808≤a+b∧a+b≤9223372036854775807) (h:K (I (a+b)) w):Q3 P .add t ox oy (I a) (I b) w K:=by rw[Fk,G1 c.1 c.2];exact h
theorem Zp (c: -9223372036854775808≤a-b∧a-b≤9223372036854775807) (h:K (I (a-b)) w):Q3 P .sub t ox oy (I a) (I b) w K:=by rw[Q40,G1 c.1 c.2];exact h
theorem Y9 (h:K (.bool (decide (a<b))) w):Q3 P .lss t ox oy (.int k a) (.int k b) w K:=by rw[Q43];exact h
theorem Q52 (h:K (.bool (decide (a≤b))) w):Q3 P .leq t ox oy (.int k a) (.int k b) w K:=by rw[Q42];exact h
theorem Q1z (h:K (.bool (decide (b<a))) w):Q3 P .gtr t ox oy (.int k a) (.int k b) w K:=by rw[Rm];exact h
theorem K9 (h:K (.bool (decide (b≤a))) w):Q3 P .geq t ox oy (.int k a) (.int k b) w K:=by rw[Q1m];exact h
theorem I1 (h:K (.bool (decide (a=b))) w):Q3 P .eql t ox oy (.int k a) (.int k b) w K:=by rw[Q1G];exact h
theorem Xh (h:K (.bool (!decide (a=b))) w):Q3 P .neq t ox oy (.int k a) (.int k b) w K:=by rw[Q3R];exact h
theorem Wj (h:K (.bool (!x)) w):J8 P .not (.bool x) w K:=by rw[Q3I];exact h
theorem P7 (h:K (.bool (decide (s=u))) w):Q3 P .eql t ox oy (S s) (S u) w K:=by rw[Fh];exact h
theorem Jf (h:K (.bool (!decide (s=u))) w):Q3 P .neq t ox oy (S s) (S u) w K:=by rw[Bv];exact h
theorem Hy (c:s.length+u.length≤9223372036854775807) (h:K (S (s++u)) w):Q3 P .add t ox oy (S s) (S u) w K:=by rw[Q2f c];exact h
theorem Gb {cs:List Bool} {r:TypeId} (c:P.underlying t=some .string) (h:K (I s.length) w):X2 P .len [t] r cs [S s] w K:=by rw[R9 c];exact h
theorem X1P {v u:Value} (h:K v w):pick P (.bool true) v u w K:=by rw[M4];exact h
theorem X2e {v u:Value} (h:K u w):pick P (.bool false) v u w K:=by rw[W9];exact h
theorem M3 {v u:Value} (h:K (if x=true then v else u) w):pick P (.bool x) v u w K:=by rw[Ek];exact h
theorem J6 {vs:List Value} {i:Nat} {v:Value} (c:vs[i]? =some v) (h:K v w):ext P (.tuple vs.toArray) i w K:=by rw[Uj c];exact h
theorem Z9 {t e:Prop} (h:t):X1 (.bool true) t e:=by rw[H8];exact h
theorem Z4 {t e:Prop} (h:e):X1 (.bool false) t e:=by rw[M5];exact h
theorem X3j {c:World→(Value→World→Prop)→Prop} (h:c w K):Q0 (.bool true) true w c K:=by rw[W3];exact h
theorem X2C {c:World→(Value→World→Prop)→Prop} (h:c w K):Q0 (.bool false) false w c K:=by rw[W7];exact h
theorem X2v {c:World→(Value→World→Prop)→Prop} (h:K undef w):Q0 (.bool true) false w c K:=by rw[S6];exact h
theorem X1J {c:World→(Value→World→Prop)→Prop} (h:K undef w):Q0 (.bool false) true w c K:=by rw[E2];exact h
end plain
section mem
variable {α : Type} {R : Q6 → α → List Value → Prop} {sz : Nat} {v : Value} {xs : List α} {a : Addr} {cs : List Value}
theorem Z0 {t:TypeId} (f:X3 w σ) (h: ∀a w' σ',Stp w σ w' σ'→Z5 σ' a cs→K (.pointer (some a)) w'):box P t (.agg cs.toArray) w K:=
 E7 f fun a w' σ' c d=>h a w' σ' c (by simpa [Value.cells] using d)
theorem U5 {t:TypeId} (g:X3 w σ) (f:v.cells= #[v]) (h: ∀a w' σ',Stp w σ w' σ'→Z5 σ' a [v]→K (.pointer (some a)) w'):box P t v w K:=
 E7 g fun a w' σ' d c=>h a w' σ' d (by rw[f] at c;exact c)
theorem Wq (h:Sl sz R σ v xs):v.cells= #[v]:=by
 obtain ⟨a,c,rfl,_⟩:=h;rfl
theorem W2 {t:TypeId} {k c:Nat} {d:TypeId} {sz by_:Nat} {z:Value} [tf:TF P t k c d] [tz:TZ P d sz by_ z] [nz:NZ sz] (h:K (.pointer (some (a.add c))) w):fieldAddr P t (.pointer (some a)) k w K:=by
 rw[fa];exact h
theorem J0 {t:TypeId} {k c:Nat} {d:TypeId} [tf:TF P t k c d] [tg:TG P d false] {cs:List Value} {v:Value} (f:cs[c]? =some v) (h:K v w):F5 P t (.agg cs.toArray) k w K:=by
 rw[X1O (v:=v) (by simpa using f)];exact h
end mem
theorem U0 {A:(World→World→Prop)→(World→Prop)→Prop} (f:X3 w σ) (h:A (fun w w'=>Below w.heap.size w w') (fun w'=>Hst w σ w' σ)):dr w A:=
 Kf _ _ ⟨Stp.of_below f (Below.refl _ _).drew⟩ (fun _ _ c d=>⟨c.stp.trans (Stp.of_below c.sat d)⟩) h
theorem N2 {α:Type} {R:Q6→α→List Value→Prop} {sz:Nat} {v:Value} {xs:List α} {t:TypeId} (d:X3 w σ) (c:Sl sz R σ v xs) (h: ∀a w' σ',Stp w σ w' σ'→Z5 σ' a [v]→K (.pointer (some a)) w'):box P t v w K:=
 U5 d (Wq c) h
section elems
variable {v : Value} {t e : TypeId} {by_ : Nat} {z : Value} {n : Nat}
theorem Q5d {xs:List Kd.X0} [TS P t e] [TZ P e 1 by_ z] (h:Sl 1 U8 σ v xs) (i:n<xs.length) (c: ∀a,Z5 σ a [S xs[n]]→xs[n].length≤U1→K (.pointer (some a)) w):indexAddr P t v (I n) w K:=
 M7 h i fun a cs f j g=>by obtain ⟨rfl,d⟩:=g;exact c a f d
theorem Q9w {xs:List Fld} [TS P t e] [TZ P e 3 by_ z] (h:Sl 3 S2 σ v xs) (i:n<xs.length) (c: ∀a,Z5 σ a [S xs[n].name,S xs[n].kind, .bool xs[n].tr]→S2 σ xs[n] [S xs[n].name,S xs[n].kind, .bool xs[n].tr]→K (.pointer (some a)) w):indexAddr P t v (I n) w K:=
 M7 h i fun a cs f j g=>by obtain ⟨rfl,d⟩:=g;exact c a f ⟨rfl,d⟩
end elems
end Go.Emb

namespace Go.Hm
open Go.Kd
abbrev Ws:=X0→Option Cla
def Z2 (l:List Cla) (n:X0):Option Nat:=l.findIdx? fun c=>decide (c.name=n)
def lk (l:List Cla):Ws:=fun n=>(Z2 l n).bind (l[·]?)
def U3 (c:Cla):List X0:=c.super::c.like
def J9:X0:=[79,98,106,101,99,116]
def L6:X0:=[70,97,117,108,116]
def H9:X0:=[110,117,108,108]
def D2:X0:=[116,101,120,116]
def Qr:X0:=[119,104,97,116]
def U4:List X0:=[[78,117,108,108,70,97,117,108,116],[73,110,100,101,120,70,97,117,108,116],[67,97,115,116,70,97,117,108,116],[90,101,114,111,70,97,117,108,116],[82,111,111,109,70,97,117,108,116],[67,97,108,108,70,97,117,108,116]]
def I0:List Cla:=[⟨J9,[],[],false,false,false,[],[]⟩,⟨L6,J9,[],false,false,false,[⟨Qr,D2,false⟩],[]⟩]++U4.map fun n=>⟨n,L6,[],false,false,true,[],[]⟩
def Va (L:Ws):Nat→List X0→List X0→List X0
 | 0,_,a=>a
 | _,[],a=>a
 | f+1,n::b,a=>match L n with
  | none=>Va L f b a
  | some c=>if n∈a then Va L f b a else Va L f (b++U3 c) (a++[n])
def weigh (l:List Cla) (a:List X0):Nat:=(l.map fun c=>if c.name∈a then 0 else (U3 c).length).sum
def G2 (l:List Cla) (n:X0):List X0:=Va (lk l) (1+weigh l []) [n] []
def Q0t (l:List Cla) (n:X0):Bool:=(Z2 l n).isSome
def N1 (l:List Cla) (s:X0):Bool:=decide (s=H9)||(right s&&(plain (base s).1||Q0t l (base s).1))
def Xr (l:List Cla) (a b:X0):Bool:=
 if !N1 l a|| !N1 l b then false else if a=b then true else if plain a||plain b then false else if a=H9 then true
 else if elem a≠[] then decide (b=J9) else (G2 l a).contains b
def I6 (L:Ws):Nat→X0→List Cla
 | 0,_=>[]
 | f+1,n=>match L n with
  | none=>[]
  | some c=>c::I6 L f c.super
def chain (l:List Cla) (n:X0):List Cla:=I6 (lk l) (l.length+1) n
def Y6 (l:List Cla) (n:X0):List Fld:=(chain l n).reverse.flatMap (·.fields)
def Uf (l:List Cla) (n f:X0):Option Nat:=(Y6 l n).findIdx? fun x=>decide (x.name=f)
def F4 (c:Cla) (n:X0):Option Hm.Met:=c.methods.find? fun m=>decide (m.name=n)
def Ca (L:Ws):Nat→Cla→X0→Option (X0×Hm.Met)
 | 0,_,_=>none
 | f+1,c,n=>c.like.findSome? fun u=>match L u with
  | none=>none
  | some d=>match F4 d n with
   | some m=>some (u,m)
   | none=>Ca L f d n
def V2 (l:List Cla) (k n:X0):Option (X0×Hm.Met):=
 match (chain l k).findSome? fun c=>(F4 c n).map (c.name,·) with
 | some r=>some r
 | none=>(chain l k).findSome? fun c=>Ca (lk l) (l.length+1) c n
def A9 (l:List Cla) (n:X0):Bool:=match lk l n with
 | some c=> !c.abs
 | none=>false
def R5:List X0→X0
 | []=>[]
 | [a]=>a
 | a::b::r=>a++[44]++R5 (b::r)
def Qw (m:Hm.Met):X0:=[40]++R5 m.params++[41]++m.result
def O8 (l:List Cla) (s:X0):Bool:= !decide (s=H9)&&N1 l s
def Yo (l:List Cla) (c:Cla):Bool:=c.fields.any fun f=>(Uf l c.super f.name).isSome
def F2 (l:List Cla) (c:Cla):Bool:=c.fields.any (fun f=> !O8 l f.kind)||c.methods.any fun m=>(!O8 l m.result&& !decide (m.result=[]))||m.params.any fun s=> !O8 l s
def Lu (l:List Cla) (n:X0):List Hm.Met:=(G2 l n).flatMap fun u=>((lk l u).map (·.methods)).getD []
def Mh (a:List Hm.Met):Bool:=a.any fun x=>a.any fun y=>decide (x.name=y.name)&& !decide (Qw x=Qw y)
def Zl (l:List Cla) (c:Cla):Bool:=Mh (Lu l c.name)
def Zf (l:List Cla) (k n:X0):Bool:=match V2 l k n with
 | none=>true
 | some r=>r.2.abs
def Dn (l:List Cla) (c:Cla):Bool:= !c.abs&&(Lu l c.name).any fun m=>Zf l c.name m.name
def V7 (l:List Cla) (c:Cla):Nat:=if Yo l c then 64 else if F2 l c then 65 else if Zl l c then 66 else if Dn l c then 67 else 0
def Qx (l:List Cla) (n:X0):Bool:=match lk l n with
 | none=>true
 | some d=>d.iface||d.fin
def R6 (l:List Cla) (n:X0):Bool:=match lk l n with
 | none=>true
 | some d=> !d.iface
def D0 (l:List Cla) (c:Cla):Nat:=if Qx l c.super then 61 else if c.like.any (R6 l) then 62 else 0
def T1 (l:List Cla) (c:Cla):Bool:=(U3 c).any fun n=>(G2 l n).contains c.name
def A5 (l:List Cla) (frm:Nat):Nat→List Nat→Nat→List Nat
 | 0,a,_=>a
 | f+1,a,i=>if i<frm then a else if i∈a then a else ((U3 (l.getD i Cla.zero)).foldl (fun a n=>A5 l frm f a ((Z2 l n).getD 0)) a)++[i]
def V9 (l:List Cla) (frm:Nat):List Nat:=((List.range l.length).drop frm).foldl (fun a i=>A5 l frm (l.length+1) a i) []
end Go.Hm

namespace Go.Emb
open Go.RowKit Go.Hm
variable {P : Program} {w w0 w1 w' w'' : World} {K : Value → World → Prop} {σ σ0 σ1 σ' : Q6}
def J7 {α:Type} (B:Nat) (e:TypeId) (sz:Nat) (R:Q6→α→List Value→Prop) (σ:Q6) (w:World) (v:Value) (xs:List α):Prop:=
 ∃a c,v= .slice a xs.length c∧xs.length≤c∧c≤maxLen∧(∀b,a=some b→b.spot=none∧B≤b.block∧b.block<w.heap.size∧σ b.block=none)∧(0<c→ ∃g f d,a=some ⟨g,f,none⟩∧B≤g∧σ g=none∧w.heap[g]? =some (.cells d e (0,0))∧f+c*sz≤d.size∧ ∀i x,xs[i]? =some x→R σ x ((d.toList.drop (f+i*sz)).take sz))
section
variable {α : Type} {R : Q6 → α → List Value → Prop} {B sz : Nat} {e : TypeId} {v u : Value} {xs ys : List α}
theorem J7.of_acc (h:V6 B e sz R σ w v xs):J7 B e sz R σ w v xs:=by
 obtain ⟨cells,q,k,p⟩:=h
 rcases q.2 with ⟨rfl,o⟩ | ⟨g,c,b,rfl,j,m,d,a,n,f⟩
 ·exact ⟨none,0,by rw[o],by omega,by simp,by simp,fun h=>by omega⟩
 ·refine ⟨_,c,rfl,d,a,by rintro _ ⟨⟩;exact ⟨rfl,j,(Array.getElem?_eq_some_iff.1 m).1,k g rfl⟩,fun _=>⟨g,0,b,rfl,j,k g rfl,m,by omega,fun i x l=>?_⟩⟩
  have r:i<xs.length:=(List.getElem?_eq_some_iff.1 l).1
  have hh:i*sz+sz≤xs.length*sz:=by rw[←Nat.succ_mul];exact Nat.mul_le_mul_right _ r
  have:=p i x l
  rw[←f,List.drop_take,List.take_take] at this
  rw[Nat.zero_add]
  rwa [show min sz (xs.length*sz-i*sz)=sz by omega] at this
theorem J7.mem (h:J7 B e sz R σ w v xs) {k:Nat} (c:v.ownBlock=some k):B≤k∧k<w.heap.size∧σ k=none:=by
 obtain ⟨a,d,rfl,f,g,b,i⟩:=h
 cases a with
 | none=>cases c
 | some a=>cases c;exact (b a rfl).2
theorem J7.up [hr:Rep R] (h:J7 B e sz R σ w v xs) (f:Stp w σ w' σ'):J7 B e sz R σ' w' v xs:=by
 obtain ⟨a,l,rfl,y,r,c,p⟩:=h
 refine ⟨a,l,rfl,y,r,fun b d=>⟨(c b d).1,(c b d).2.1,Nat.lt_of_lt_of_le (c b d).2.2.1 f.bel.size,(f.old _ (c b d).2.2.1).trans (c b d).2.2.2⟩,fun q=>?_⟩
 obtain ⟨g,k,j,rfl,o,z,n,A,t⟩:=p q
 have m:=(Array.getElem?_eq_some_iff.1 n).1
 exact ⟨g,k,j,rfl,o,(f.old g m).trans z,(f.bel.block g m).trans n,A,fun i x s=>hr.up f.le (t i x s)⟩
theorem J7.step [hr:Rep R] (h:J7 B e sz R σ w v xs) (a:Stp w σ w' σ'):J7 B e sz R σ' w' v xs:=h.up a
theorem J7.kp {D:Nat→Prop} (h:J7 B e sz R σ w v xs) (n:Kpt D w w') (f: ∀k,v.ownBlock=some k→ ¬D k):J7 B e sz R σ w' v xs:=by
 obtain ⟨a,l,rfl,y,s,c,p⟩:=h
 refine ⟨a,l,rfl,y,s,fun b d=>⟨(c b d).1,(c b d).2.1,Nat.lt_of_lt_of_le (c b d).2.2.1 n.size,(c b d).2.2.2⟩,fun q=>?_⟩
 obtain ⟨g,j,i,rfl,o,z,m,A,t⟩:=p q
 have r:=(Array.getElem?_eq_some_iff.1 m).1
 exact ⟨g,j,i,rfl,o,z,(n.block g r (f g rfl)).trans m,A,t⟩
theorem Q1t {b t:TypeId} {cs:List Bool} [ts:TS P b e] (h:J7 B e sz R σ w v xs) (d:K (I xs.length) w):X2 P .len [b] t cs [v] w K:=by
 obtain ⟨a,c,rfl,_⟩:=h
 rw[Q1p];exact d
theorem Q5p {t:TypeId} {i:Nat} {z:Value} [TS P t e] [TZ P e sz i z] (h:J7 B e sz R σ w v xs) {n:Nat} (p:n<xs.length)
 (o: ∀a cs,(∀j u,cs[j]? =some u→w.cell? (a.add j)=some u)→cs.length=sz→R σ xs[n] cs→K (.pointer (some a)) w):indexAddr P t v (I n) w K:=by
 obtain ⟨a,f,rfl,y,s,q,k⟩:=h
 obtain ⟨g,d,c,rfl,r,A,l,C,m⟩:=k (by omega)
 rw[Ss (by omega) (by omega)]
 have hh:n*sz+sz≤f*sz:=by rw[←Nat.succ_mul];exact Nat.mul_le_mul_right _ (by omega)
 refine o _ ((c.toList.drop (d+n*sz)).take sz) ?_ ?_ (m n _ (by simp[p]))
 ·intro j u b
  rw[List.getElem?_take] at b
  split at b
  ·rw[List.getElem?_drop] at b
   unfold World.cell?
   rw[S9,S9,Qe,Qe,K1 (K1 rfl _)]
   simp only[l]
   simpa using b
  ·cases b
 ·rw[List.length_take,List.length_drop,Array.length_toList];omega
theorem X41 {t:TypeId} {o:Nat} {z:Value} [ts:TS P t e] [tz:TZ P e sz o z] (h:J7 B e sz R σ w v xs) (l:Nat) (L:l≤xs.length)
 (C: ∀k,J7 B e sz R σ w k (xs.drop l)→(k.ownBlock=v.ownBlock∨k.ownBlock=none)→K k w):S1 P t v (some (I l)) none none w K:=by
 obtain ⟨a,c,rfl,D,M,d,p⟩:=h
 have hh: ∀w:World,(Instr.sliceBounds true xs.length c (some (I l)) none none).run P w= .ok (l,xs.length,c) w:=by
  intro w
  have H:(l:Int)≤xs.length:=by omega
  simp[Instr.sliceBounds,Instr.sliceBound,asIntOf,D,H]
  intros;omega
 unfold S1
 have:(Instr.sliceAt t (.slice a xs.length c) (some (I l)) none none).run P w= .ok (.slice (if c=l then a else a.map (·.add (l*sz))) (xs.length-l) (c-l)) w:=by
  simp[Instr.sliceAt,run_underlying ts.h,Instr.slice,hh,L3 tz]
 rw[X9 this]
 refine C _ ⟨_,c-l,by rw[List.length_drop],by rw[List.length_drop];omega,by omega,?_,fun J=>?_⟩ ?_
 ·intro b j
  split at j
  ·exact d b j
  ·cases a with
   | none=>cases j
   | some a=>cases j;exact ⟨K1 (d a rfl).1 _,by rw[S9];exact (d a rfl).2⟩
 ·have s:=p (by omega)
  clear p
  obtain ⟨g,n,m,rfl,r,E,y,N,A⟩:=s
  refine ⟨g,n+l*sz,m,?_,r,E,y,?_,fun i x q=>?_⟩
  ·rw[if_neg (by omega)];simp only[Option.map_some];congr 1;unfold Addr.add;split<;>simp_all
  ·have:l*sz+(c-l)*sz=c*sz:=by rw[←Nat.add_mul];congr 1;omega
   omega
  ·rw[List.getElem?_drop] at q
   have:=A _ _ q
   rwa [Nat.add_mul,←Nat.add_assoc] at this
 ·left
  by_cases f:c=l
  ·rw[if_pos f];cases a<;>rfl
  ·rw[if_neg f]
   cases a with
   | none=>rfl
   | some a=>simp only[Option.map_some,Value.ownBlock,S9]
theorem Q8F {t ty:TypeId} {aa:Nat} {z:Value} {cs:List Bool} [ts:TS P t e] [tz:TZ P e sz aa z] [hr:Rep R] (X:X3 w σ) (hB:B≤w.heap.size) (ha:J7 B e sz R σ w v xs) (H:Sl sz R σ u ys) (hz:(z.cells.size==sz&&decide (0<sz))=true)
 (U:(xs.length+ys.length)*aa≤140737488355328) (hm:xs.length+ys.length≤1000000000000)
 (h: ∀s w',Kpt (fun k=>v.ownBlock=some k∧B≤k∧σ k=none) w w'→X3 w' σ→J7 B e sz R σ w' s (xs++ys)→((∃a m,v= .slice a xs.length m∧s= .slice a (xs.length+ys.length) m)∨(Below w.heap.size w w'∧ ∀k,s.ownBlock=some k→w.heap.size≤k))→K s w'):X2 P .append [t,t] ty cs [v,u] w K:=by
 obtain ⟨D,c,rfl,c1,c2,C,c3⟩:=ha
 obtain ⟨a,m,d,rfl,n1,n2,n3,n4,n5⟩:=H.cells X
 obtain ⟨i,hi,E,ak,N⟩:=tz.info
 simp only[Bool.and_eq_true,beq_iff_eq,decide_eq_true_eq] at hz
 obtain ⟨ar,bg⟩:=hz
 have L: ∀s w',(Builtin.append_ #[t,t] ty #[.slice D xs.length c, .slice a ys.length m]).run P w= .ok s w'→Kpt (fun k=>(Value.slice D xs.length c).ownBlock=some k∧B≤k∧σ k=none) w w'→J7 B e sz R σ w' s (xs++ys)→((∃a m,(Value.slice D xs.length c)= .slice a xs.length m∧s= .slice a (xs.length+ys.length) m)∨(Below w.heap.size w w'∧ ∀k,s.ownBlock=some k→w.heap.size≤k))→X2 P .append [t,t] ty cs [.slice D xs.length c, .slice a ys.length m] w K:=by
  intro s w' y hk hq am
  have M:(builtin .append #[t,t] ty cs.toArray #[.slice D xs.length c, .slice a ys.length m]).run P w= .ok (.value s) w':=by
   simp[builtin,y]
  unfold X2
  rw[T7];unfold P8
  rw[M]
  exact h s w' hk (fun k o ho=>by rw[hk.block k (X.lt ho) fun e=>by rw[e.2.2] at ho;cases ho];exact X k o ho) hq am
 have q:Src P i.size t (.slice a ys.length m) ys.length d w:=by
  cases a with
  | some b=>exact Src.ofSlice w ts.h b ys.length m d (by rw[E];exact n2) (n3 b rfl) n4
  | none=>
   have hy:ys.length=0:=by
    obtain ⟨a',a0,e',q1,_,Z,_⟩:=H;injection e' with e1 e2 e3;have:=n1 rfl;omega
   have hn:d=[]:=List.eq_nil_of_length_eq_zero (by rw[n2,hy];simp)
   subst hn
   rw[hy];exact Src.ofNil w ts.h m
 by_cases r:xs.length+ys.length≤c
 ·by_cases J:c=0
  ·-- nothing at all
   subst J
   have p:xs=[]:=List.eq_nil_of_length_eq_zero (by omega)
   have hy:ys=[]:=List.eq_nil_of_length_eq_zero (by omega)
   subst p hy
   have hn:d=[]:=List.eq_nil_of_length_eq_zero (by simpa using n2)
   subst hn
   refine L (.slice D 0 0) w ?_ Kpt.refl ⟨D,0,rfl,by simp,by simp,C,fun h=>by omega⟩ (.inl ⟨_,_,rfl,rfl⟩)
   have hl:=q.len w
   have A:=q.cells
   simp only[List.length_nil] at hl A⊢
   cases D<;>simp[Builtin.append_,run_underlying ts.h,sizeOf,typeInfo,hi,hl,A,storeCells]
  ·obtain ⟨g,l,f,rfl,q1,q2,Z,q4,q5⟩:=c3 (by omega)
   have e1:(xs.length+ys.length)*sz≤c*sz:=Nat.mul_le_mul_right _ r
   rw[Nat.add_mul] at e1
   have W:=run_storeCells_at P g (l+xs.length*sz) e d 0 f w Z (by omega) n4
   simp only[Nat.add_zero] at W
   obtain ⟨Y,ao⟩:=Uv (cs:=(f.toList.take (l+xs.length*sz)++d++f.toList.drop (l+xs.length*sz+d.length)).toArray) Z
   refine L (.slice (some ⟨g,l,none⟩) (xs.length+ys.length) c) _ ?_ (Kpt.of_upd Y ⟨rfl,q1,q2⟩) ?_ (.inl ⟨_,_,rfl,rfl⟩)
   ·have hl:=q.len w
    have A:=q.cells
    rw[E] at A
    simp[Builtin.append_,run_underlying ts.h,sizeOf,typeInfo,hi,hl,A,E,r,Addr.add_lit,W]
   ·refine ⟨_,c,by rw[List.length_append],by rw[List.length_append];exact r,c2,fun b U=>⟨(C b U).1,(C b U).2.1,by rw[Y.size];exact (C b U).2.2.1,(C b U).2.2.2⟩,fun _=>⟨g,l,_,rfl,q1,q2,ao,?_,fun j x p=>?_⟩⟩
    ·simp;omega
    ·by_cases Q:j<xs.length
     ·rw[List.getElem?_append_left Q] at p
      have:=q5 j x p
      have hh:j*sz+sz≤xs.length*sz:=by rw[←Nat.succ_mul];exact Nat.mul_le_mul_right _ Q
      have e2:((f.toList.take (l+xs.length*sz)++d++f.toList.drop (l+xs.length*sz+d.length)).toArray.toList.drop (l+j*sz)).take sz=(f.toList.drop (l+j*sz)).take sz:=by
       rw[List.toList_toArray,List.append_assoc]
       rw[List.drop_append_of_le_length (by rw[List.length_take,Array.length_toList (xs:=f)];omega),List.take_append_of_le_length (by rw[List.length_drop,List.length_take,Array.length_toList (xs:=f)];omega),List.drop_take,List.take_take]
       congr 1;omega
      rw[e2];exact this
     ·rw[List.getElem?_append_right (by omega)] at p
      have:=n5 _ _ p
      have aq:j-xs.length<ys.length:=(List.getElem?_eq_some_iff.1 p).1
      have hh:(j-xs.length)*sz+sz≤ys.length*sz:=by rw[←Nat.succ_mul];exact Nat.mul_le_mul_right _ aq
      have a7:j*sz=xs.length*sz+(j-xs.length)*sz:=by rw[←Nat.add_mul];congr 1;omega
      have e2:((f.toList.take (l+xs.length*sz)++d++f.toList.drop (l+xs.length*sz+d.length)).toArray.toList.drop (l+j*sz)).take sz=(d.drop ((j-xs.length)*sz)).take sz:=by
       rw[List.toList_toArray,List.append_assoc]
       rw[List.drop_append,List.drop_eq_nil_of_le (by rw[List.length_take,Array.length_toList (xs:=f)];omega),List.nil_append,List.length_take,Array.length_toList (xs:=f),
        show l+j*sz-min (l+xs.length*sz) f.size=(j-xs.length)*sz by omega,
        List.drop_append_of_le_length (by omega),List.take_append_of_le_length (by rw[List.length_drop];omega)]
      rw[e2];exact this
 ·-- a new row
  have O: ∃n:List Value,n.length=xs.length*sz∧(Builtin.firstCells i.size xs.length (.slice D xs.length c)).run P w.drew= .ok n.toArray w.drew∧ ∀j x,xs[j]? =some x→R σ x ((n.drop (j*sz)).take sz):=by
   by_cases J:c=0
   ·subst J
    have p:xs=[]:=List.eq_nil_of_length_eq_zero (by omega)
    subst p
    refine ⟨[],by simp,?_,by simp⟩
    cases D with
    | none=>exact run_firstCells_none w.drew i.size 0 0 0
    | some a'=>exact run_firstCells_some w.drew i.size 0 a' 0 0 [] (by simp) (by intro _ _ h';simp at h')
   ·obtain ⟨g,l,f,rfl,q1,q2,Z,q4,q5⟩:=c3 (by omega)
    have e1:xs.length*sz≤c*sz:=Nat.mul_le_mul_right _ c1
    refine ⟨(f.toList.drop l).take (xs.length*sz),by rw[List.length_take,List.length_drop,Array.length_toList (xs:=f)];omega,?_,fun j x p=>?_⟩
    ·refine run_firstCells_some w.drew i.size xs.length ⟨g,l,none⟩ xs.length c _ (by rw[List.length_take,List.length_drop,Array.length_toList (xs:=f),E];omega) (fun j u H=>?_)
     rw[List.getElem?_take] at H
     split at H
     ·rw[List.getElem?_drop] at H
      have ay:w.drew.heap[g]? =some (.cells f e (0,0)):=Z
      unfold World.cell?
      rw[S9,Qe,K1 rfl]
      simp only[ay]
      simpa using H
     ·cases H
    ·have Q:j<xs.length:=(List.getElem?_eq_some_iff.1 p).1
     have hh:j*sz+sz≤xs.length*sz:=by rw[←Nat.succ_mul];exact Nat.mul_le_mul_right _ Q
     have:=q5 j x p
     rw[List.drop_take,List.take_take,List.drop_drop,show min sz (xs.length*sz-j*sz)=sz by omega]
     exact this
  obtain ⟨n,o1,o2,o3⟩:=O
  have hg:c<xs.length+ys.length:=by omega
  have y:=run_append_grow_src (P:=P) w t t ty e i z ts.h hi N D xs.length c n o2 (.slice a ys.length m) ys.length d q hg (by omega) (growslice_fits hg (by rw[ak];exact U))
  have ap:=grownCap_le_maxLen w (xs.length+ys.length) c e (by simp only[maxLen];omega)
  have al:=grownCap_ge w (xs.length+ys.length) c e
  have hL:(n++d).length=(xs.length+ys.length)*sz:=by rw[List.length_append,o1,n2,Nat.add_mul]
  refine L _ _ y ?_ ?_ (.inr ⟨(Below.refl _ _).drew.alloc (Nat.le_refl _) _,by intro k hk;cases hk;exact Nat.le_refl _⟩)
  ·exact Kpt.of_below ((Below.refl _ _).drew.alloc (Nat.le_refl _) _)
  ·refine ⟨_,_,by rw[List.length_append],by rw[List.length_append];exact al,ap,by rintro _ ⟨⟩;exact ⟨rfl,hB,(Array.getElem?_eq_some_iff.1 (heap_alloc_new w.drew _)).1,X.none (Nat.le_refl _)⟩,fun _=>⟨w.heap.size,0,_,rfl,hB,X.none (Nat.le_refl _),heap_alloc_new w.drew _,?_,fun j x p=>?_⟩⟩
   ·rw[Array.size_append,List.size_toArray,hL,size_zeroCells,ar,←Nat.add_mul]
    rw[Nat.zero_add];exact Nat.mul_le_mul_right _ (by omega)
   ·rw[Nat.zero_add,Array.toList_append]
    have Q:j<xs.length+ys.length:=by have:=(List.getElem?_eq_some_iff.1 p).1;rwa [List.length_append] at this
    have hh:j*sz+sz≤(xs.length+ys.length)*sz:=by rw[←Nat.succ_mul];exact Nat.mul_le_mul_right _ Q
    rw[List.drop_append_of_le_length (by simp only[List.toList_toArray];omega),List.take_append_of_le_length (by rw[List.length_drop];simp only[List.toList_toArray];omega)]
    simp only[List.toList_toArray]
    by_cases V:j<xs.length
    ·rw[List.getElem?_append_left V] at p
     rw[Wv n d xs.length j o1 V]
     exact o3 j x p
    ·rw[List.getElem?_append_right (by omega)] at p
     have:=n5 _ _ p
     rw[show j*sz=n.length+(j-xs.length)*sz by rw[o1,←Nat.add_mul];congr 1;omega,List.drop_append]
     simpa [List.drop_eq_nil_of_le] using this
end
theorem M8 {b:Nat} (h:w1.heap.size≤b) (k:Stp w σ w1 σ1):w.heap.size≤b:=Nat.le_trans k.bel.size h
theorem M9 {t:TypeId} {sz a:Nat} {z:Value} [tz:TZ P t sz a z] (g:X3 w σ) (h: ∀b w' σ',w.heap.size≤b→Stp w σ w' σ'→Y2 σ' w' b z.cells.toList→K (.pointer (some ⟨b,0,none⟩)) w'):W0 P t w K:=
 Iy g fun b w' f d c=>h b w' σ f d c
theorem Eh {t:TypeId} {cs:List Value} (f:X3 w σ) (h: ∀b w' σ',w.heap.size≤b→Stp w σ w' σ'→Y2 σ' w' b cs→K (.pointer (some ⟨b,0,none⟩)) w'):box P t (.agg cs.toArray) w K:=
 Q5w f fun b w' d c a=>h b w' σ d c (by simpa [Value.cells] using a)
theorem G7 {t:TypeId} {sz a:Nat} {z:Value} [tz:TZ P t sz a z] {b:Nat} {cs ds:List Value} (d:Y2 σ w b cs) (f:Stp w0 σ0 w σ) (k:w0.heap.size≤b) (g:cs.length=sz) (i:ds.length=sz) (l: ∀u∈ds,u.oneCell'=true)
 (h: ∀w',Hst w0 σ0 w' σ→Y2 σ w' b ds→K undef w'):Y1 P t (.pointer (some ⟨b,0,none⟩)) (.agg ds.toArray) w K:=
 Nt d g i (by rw[List.all_toArray];exact List.all_eq_true.2 l) fun w' j c=>h w' ⟨j.stp f k d.1⟩ c
structure Nxt (D : Nat → Prop) (w : World) (σ : Q6) (w' : World) (σ' : Q6) : Prop where
  kp : Kpt D w w'
  le : SLe σ σ'
  old : ∀ k, k < w.heap.size → σ' k = σ k
  sat : X3 w' σ'
theorem Nxt.of_stp {D:Nat→Prop} (h:Stp w σ w' σ'):Nxt D w σ w' σ':=⟨Kpt.of_below h.bel,⟨h.le⟩,h.old,h.sat⟩
theorem Nxt.mono {D D':Nat→Prop} (h:Nxt D w σ w' σ') (a: ∀k,k<w.heap.size→D k→D' k):Nxt D' w σ w' σ':=⟨h.kp.mono a,h.le,h.old,h.sat⟩
theorem Nxt.trans {D:Nat→Prop} (h:Nxt D w σ w' σ') (k:Nxt D w' σ' w'' σ1):Nxt D w σ w'' σ1:=
 ⟨h.kp.trans k.kp,h.le.more k.le,fun i a=>(k.old i (Nat.lt_of_lt_of_le a h.kp.size)).trans (h.old i a),k.sat⟩
theorem Y2.nx {D:Nat→Prop} {b:Nat} {cs:List Value} (h:Y2 σ w b cs) (k:Nxt D w σ w' σ') (d: ¬D b):Y2 σ' w' b cs:=by
 have a:=h.lt
 obtain ⟨f,e,c⟩:=h
 exact ⟨(k.old b a).trans f,e,(k.kp.block b a d).trans c⟩
theorem B1.nx {D:Nat→Prop} {r:Nat} {m:List (List UInt8×Value)} (h:B1 σ w r m) (k:Nxt D w σ w' σ') (a: ¬D r):B1 σ' w' r m:=
 ⟨(k.old r h.lt).trans h.1,(k.kp.block r h.lt a).symm▸h.2⟩
section
variable {α : Type} {R : Q6 → α → List Value → Prop} {B sz : Nat} {e : TypeId} {v u : Value} {xs : List α} {x : α}
theorem V6.nx [hr:Rep R] {D:Nat→Prop} (h:V6 B e sz R σ w v xs) (k:Nxt D w σ w' σ') (d: ∀k,v.ownBlock=some k→ ¬D k):V6 B e sz R σ' w' v xs:=by
 have b:=h.kp k.kp d
 obtain ⟨cells,j,c,g⟩:=b
 refine ⟨cells,j,fun i a=>(k.old i (h.mem i a).2.1).trans (c i a),fun i x f=>hr.up k.le.le (g i x f)⟩
theorem J7.nx [hr:Rep R] {D:Nat→Prop} (h:J7 B e sz R σ w v xs) (k:Nxt D w σ w' σ') (y: ∀k,v.ownBlock=some k→ ¬D k):J7 B e sz R σ' w' v xs:=by
 obtain ⟨a,l,rfl,z,r,c,p⟩:=h
 refine ⟨a,l,rfl,z,r,fun b d=>⟨(c b d).1,(c b d).2.1,Nat.lt_of_lt_of_le (c b d).2.2.1 k.kp.size,(k.old _ (c b d).2.2.1).trans (c b d).2.2.2⟩,fun q=>?_⟩
 obtain ⟨g,j,f,rfl,o,A,n,C,t⟩:=p q
 have m:=(Array.getElem?_eq_some_iff.1 n).1
 exact ⟨g,j,f,rfl,o,(k.old g m).trans A,(k.kp.block g m (y g rfl)).trans n,C,fun i x s=>hr.up k.le.le (t i x s)⟩
theorem Ug {t D:TypeId} {d:Nat} {z:Value} {cs:List Bool} {A:Value→Value→World→Prop} [ts:TS P t e] [tz:TZ P e sz d z] [hr:Rep R] (n:Stp w0 σ0 w σ) (o:V6 w0.heap.size e sz R σ w v xs) (p:R σ x u.cells.toList) (r:u.cells.size=sz) (y:(z.cells.size==sz&&decide (0<sz))=true) (l:(decide (0<sz)&&decide ([u].length*sz≤16777216))=true)
 (q:(xs.length+1)*d≤140737488355328) (E:xs.length+1≤9223372036854775807)
 (h: ∀s a w' σ',Nxt (fun k=>v.ownBlock=some k) w σ w' σ'→Stp w0 σ0 w' σ'→V6 w0.heap.size e sz R σ' w' a (xs++[x])→(a.ownBlock=v.ownBlock∨ ∀k,a.ownBlock=some k→w.heap.size≤k)→A s a w'):
 buildSlice P t 1 [(0,u)] w (fun s w=>X2 P .append [t,t] D cs [v,s] w (fun a w=>A s a w)):=by
 refine T5 n.sat [u] [x] rfl rfl (by simpa using r) l ⟨p,trivial⟩ fun s w1 σ1 b i=>?_
 refine app (n.trans b) (o.up b) i y (by simpa using q) (by simpa using E) fun a m C c g hat=>?_
 have j:Kpt (fun k=>v.ownBlock=some k) w m:=(Kpt.of_below b.bel).trans (Kpt.of_grown C fun k b=>b)
 refine h s a m σ1 ⟨j,⟨b.le⟩,b.old,c.sat⟩ c g ?_
 rcases hat with hat | hat
 ·exact .inl hat
 ·exact .inr fun k f=>Nat.le_trans b.bel.size (hat k f)
theorem Wh {t q:TypeId} {c:Nat} {z:Value} {cs:List Bool} {ys:List α} [ts:TS P t e] [tz:TZ P e sz c z] [hr:Rep R] (n:Stp w0 σ0 w σ) (g:V6 w0.heap.size e sz R σ w v xs) (i:Sl sz R σ u ys) (o:(z.cells.size==sz&&decide (0<sz))=true)
 (j:(xs.length+ys.length)*c≤140737488355328) (r:xs.length+ys.length≤9223372036854775807)
 (h: ∀a w',Nxt (fun k=>v.ownBlock=some k) w σ w' σ→Stp w0 σ0 w' σ→V6 w0.heap.size e sz R σ w' a (xs++ys)→(a.ownBlock=v.ownBlock∨ ∀k,a.ownBlock=some k→w.heap.size≤k)→K a w'):X2 P .append [t,t] q cs [v,u] w K:=
 app n g i o j r fun a l p b d f=>h a l ⟨Kpt.of_grown p fun k m=>m,SLe.refl _,fun _ _=>rfl,b.sat⟩ b d f
end
section
variable {α : Type} {R : Q6 → α → List Value → Prop} {B sz : Nat} {e : TypeId} {v u : Value} {xs : List α} {x : α}
theorem J7.mono {B':Nat} (h:J7 B e sz R σ w v xs) (k:B'≤B):J7 B' e sz R σ w v xs:=by
 obtain ⟨a,f,rfl,n,o,c,p⟩:=h
 refine ⟨a,f,rfl,n,o,fun b d=>⟨(c b d).1,Nat.le_trans k (c b d).2.1,(c b d).2.2⟩,fun l=>?_⟩
 obtain ⟨g,j,i,rfl,m,q⟩:=p l
 exact ⟨g,j,i,rfl,Nat.le_trans k m,q⟩
theorem J7.own (h:J7 B e sz R σ w v xs) {k:Nat} (a:v.ownBlock=some k):B≤k:=(h.mem a).1
theorem J7.keep [hr:Rep R] (h:J7 w0.heap.size e sz R σ w v xs) (o:Stp w0 σ0 w σ): ∃σ',Stp w0 σ0 w σ'∧Sl sz R σ' v xs∧SLe σ σ'∧(∀k,some k≠v.ownBlock→σ' k=σ k):=by
 obtain ⟨a,f,rfl,E,z,p,s⟩:=h
 by_cases y:f=0
 ·have m:xs=[]:=List.eq_nil_of_length_eq_zero (by omega)
  subst y m
  exact ⟨σ,o,⟨a,0,rfl,by simp,by simp,fun _=>rfl,fun b t=>⟨fun _=>(p b t).1,by simp⟩⟩,SLe.refl _,fun _ _=>rfl⟩
 ·obtain ⟨g,n,c,rfl,r,q,A,H,C⟩:=s (by omega)
  have d:=Q6.put_le o.sat q (.cells c e (0,0))
  refine ⟨σ.put g (.cells c e (0,0)),o.put q r A,⟨_,f,rfl,E,z,by simp,?_⟩,⟨d⟩,?_⟩
  ·rintro _ ⟨⟩
   refine ⟨fun _=>rfl,fun i x m=>⟨(c.toList.drop (n+i*sz)).take sz,⟨K1 rfl _,c,e,(0,0),by rw[S9];simp[Q6.put],?_⟩,?_,hr.up d (C i x m)⟩⟩
   ·intro j u l
    rw[Qe]
    rw[List.getElem?_take] at l
    split at l
    ·rw[List.getElem?_drop] at l;simpa using l
    ·cases l
   ·have J:i<xs.length:=(List.getElem?_eq_some_iff.1 m).1
    have h:i*sz+sz≤f*sz:=by rw[←Nat.succ_mul];exact Nat.mul_le_mul_right _ (by omega)
    rw[List.length_take,List.length_drop,Array.length_toList (xs:=c)];omega
  ·intro k D
   have:k≠g:=by intro e;subst e;exact D rfl
   simp only[Q6.put,if_neg this]
theorem Q3o {t N:TypeId} {D:Nat} {z:Value} {A:Value→Value→World→Prop} {ds:List Value} [ts:TS P t e] [tz:TZ P e sz D z] {L:Nat} {W:Value} [tz':TZ P N sz L W] (hS:Stp w0 σ0 w σ) (V:J7 w0.heap.size e sz R σ w v xs) {n:Nat} (hn:n<xs.length) (E:ds.length=sz) (X:R σ x ds) (h1: ∀u∈ds,u.oneCell'=true)
 (h: ∀p u w',Kpt (fun k=>v.ownBlock=some k) w w'→Hst w0 σ0 w' σ→J7 w0.heap.size e sz R σ w' v (xs.set n x)→A p u w'):
 indexAddr P t v (I n) w (fun p w=>Y1 P N p (.agg ds.toArray) w (fun u w=>A p u w)):=by
 obtain ⟨a,f,rfl,c1,c2,i,c3⟩:=V
 obtain ⟨g,c,d,rfl,M,Q,O,q4,Z⟩:=c3 (by omega)
 rw[Ss (by omega) (by omega)]
 have hh:n*sz+sz≤f*sz:=by rw[←Nat.succ_mul];exact Nat.mul_le_mul_right _ (by omega)
 have m:(⟨g,c,none⟩:Addr).add ((n:Int).toNat*sz)=⟨g,c+n*sz,none⟩:=by unfold Addr.add;split<;>simp_all
 rw[m]
 have o:=run_storeCells_at P g (c+n*sz) e ds 0 d w O (by omega) h1
 simp only[Nat.add_zero] at o
 obtain ⟨l,H⟩:=Uv (cs:=(d.toList.take (c+n*sz)++ds++d.toList.drop (c+n*sz+ds.length)).toArray) O
 unfold Y1
 rw[Lc (w':=w.setRow g (d.toList.take (c+n*sz)++ds++d.toList.drop (c+n*sz+ds.length)).toArray) (by
  simp[Instr.storeAt,Instr.sureAddr,storeVar,L3 tz',Value.cells,E]
  simpa [E] using o)]
 have hk:Kpt (fun k=>(Value.slice (some ⟨g,c,none⟩) xs.length f).ownBlock=some k) w (w.setRow g (d.toList.take (c+n*sz)++ds++d.toList.drop (c+n*sz+ds.length)).toArray):=Kpt.of_upd l rfl
 refine h _ _ _ hk ⟨l.stp hS M Q⟩ ⟨_,f,by rw[List.length_set],by rw[List.length_set];exact c1,c2,fun b r=>⟨(i b r).1,(i b r).2.1,by rw[l.size];exact (i b r).2.2.1,(i b r).2.2.2⟩,fun _=>⟨g,c,_,rfl,M,Q,H,?_,fun j y q=>?_⟩⟩
 ·simp;omega
 ·rw[List.toList_toArray]
  have ab:=Array.length_toList (xs:=d)
  have J:j<xs.length:=by have:=(List.getElem?_eq_some_iff.1 q).1;simpa using this
  have Y:j*sz+sz≤f*sz:=by rw[←Nat.succ_mul];exact Nat.mul_le_mul_right _ (by omega)
  by_cases U:j=n
  ·subst U
   rw[List.getElem?_set_self J] at q
   cases q
   rw[List.append_assoc,List.drop_append,List.drop_eq_nil_of_le (by rw[List.length_take];omega),List.nil_append,List.length_take,show c+j*sz-min (c+j*sz) d.toList.length=0 by omega,List.drop_zero,List.take_append_of_le_length (by omega),List.take_of_length_le (by omega)]
   exact X
  ·rw[List.getElem?_set_ne (by omega)] at q
   have:=Z j y q
   rcases Nat.lt_or_gt_of_ne U with s | hgt
   ·have C:j*sz+sz≤n*sz:=by rw[←Nat.succ_mul];exact Nat.mul_le_mul_right _ s
    rw[List.append_assoc,List.drop_append_of_le_length (by rw[List.length_take];omega),List.take_append_of_le_length (by rw[List.length_drop,List.length_take];omega),List.drop_take,List.take_take]
    rwa [show min sz (c+n*sz-(c+j*sz))=sz by omega]
   ·have C:n*sz+sz≤j*sz:=by rw[←Nat.succ_mul];exact Nat.mul_le_mul_right _ hgt
    rw[List.drop_append,List.drop_eq_nil_of_le (by rw[List.length_append,List.length_take];omega),List.nil_append,List.length_append,List.length_take,List.drop_drop,E]
    rwa [show c+n*sz+sz+(c+j*sz-(min (c+n*sz) d.toList.length+sz))=c+j*sz by omega]
end
theorem Q6c (p:Nat→Prop): ∀n,p n→ ∃m,p m∧ ∀k,p k→m≤k:=by
 intro n
 induction n using Nat.strongRecOn with
 | _ n g=>
  intro h
  by_cases b: ∃k,k<n∧p k
  ·obtain ⟨k,f,c⟩:=b;exact g k f c
  ·exact ⟨n,h,fun k d=>Nat.le_of_not_lt fun a=>b ⟨k,a,d⟩⟩
noncomputable def Q1q (p:Nat→Prop):Nat:=open Classical in if h: ∃m,p m∧ ∀k,p k→m≤k then Classical.choose h else 0
theorem Q0C {p:Nat→Prop} {n:Nat} (h:p n):p (Q1q p)∧Q1q p≤n:=by
 have a:=Q6c p n h
 unfold Q1q
 rw[dif_pos a]
 exact ⟨(Classical.choose_spec a).1,(Classical.choose_spec a).2 n h⟩
theorem Pd {α:Type} {x0:α} {A:(α→World→Prop)→α→(Nat→Value)→World→Prop} (I:Nat→α→World→Prop) (n:Nat) (h:I n x0 w)
 (i: ∀a n x d w,I n x w→(∀c b w',c<n→I c b w'→a b w')→A a x d w):lp x0 w A:=by
 refine Wl (fun x w=> ∃n,I n x w) (fun x w=>Q1q fun n=>I n x w) ⟨n,h⟩ ?_
 rintro x d w ⟨n,k⟩
 obtain ⟨j,l⟩:=Q0C (p:=fun n=>I n x w) k
 refine i _ _ x d w j fun c b w' f g=>⟨⟨c,g⟩,?_⟩
 exact Nat.lt_of_le_of_lt (Q0C (p:=fun n=>I n b w') g).2 f
section
variable {α : Type} {R : Q6 → α → List Value → Prop} {B sz : Nat} {e : TypeId} {v u : Value} {xs ys : List α} {x : α}
theorem J7.below (h:J7 B e sz R σ w v xs) (a:Below w.heap.size w w'):J7 B e sz R σ w' v xs:=h.kp (D:=fun _=>False) (.of_below a) fun _ _=>id
theorem J7.pre {a:Option Addr} {n m b:Nat} (h:J7 B e sz R σ w (.slice a m b) (xs++ys)) (A:n=xs.length):J7 B e sz R σ w (.slice a n b) xs:=by
 obtain ⟨J,k,C,z,q,f,o⟩:=h
 injection C with H e2 y
 subst H y A
 rw[List.length_append] at z
 refine ⟨a,b,rfl,by omega,q,f,fun p=>?_⟩
 obtain ⟨g,d,c,r,l,D,s,E,t⟩:=o p
 exact ⟨g,d,c,r,l,D,s,E,fun i x j=>t i x (by rw[List.getElem?_append_left (List.getElem?_eq_some_iff.1 j).1];exact j)⟩
def Fz (B:Nat) (e:TypeId) (sz:Nat) (R:Q6→α→List Value→Prop) (σ:Q6) (v:Value) (xs:List α) (x:α) (w1 c:World):Prop:=
 Kpt (fun k=>v.ownBlock=some k) w1 c∧(J7 B e sz R σ w1 v xs→J7 B e sz R σ c v xs)∧
  ∀a b,v= .slice a xs.length b→J7 B e sz R σ w1 (.slice a (xs.length+1) b) (xs++[x])→J7 B e sz R σ c (.slice a (xs.length+1) b) (xs++[x])
theorem Fz.below (a:Below w.heap.size w w'):Fz B e sz R σ v xs x w w':=⟨.of_below a,fun h=>h.below a,fun _ _ _ h=>h.below a⟩
theorem Fz.refl:Fz B e sz R σ v xs x w w:=Fz.below (Below.refl _ _)
def VQa (N B:Nat) (e:TypeId) (sz:Nat) (R:Q6→α→List Value→Prop) (σ:Q6) (v:Value) (xs:List α) (x:α) (c:Value) (w:World):Prop:=
 J7 B e sz R σ w c (xs++[x])∧((∃a b,v= .slice a xs.length b∧c= .slice a (xs.length+1) b)∨((∀k,c.ownBlock=some k→N≤k)∧ ∀k,v.ownBlock=some k→k<N))
theorem VQa.stable {N:Nat} {g:Value} (h:VQa N B e sz R σ v xs x g w) (j:Fz B e sz R σ v xs x w w'):VQa N B e sz R σ v xs x g w':=by
 obtain ⟨i,b⟩:=h
 refine ⟨?_,b⟩
 rcases b with ⟨a,f,d,rfl⟩ | ⟨b,d⟩
 ·exact j.2.2 a f d i
 ·exact i.kp j.1 fun k l c=>by have:=b k l;have:=d k c;omega
theorem Kpt.more {D E:Nat→Prop} (h:Kpt D w w') (k:Kpt E w' w'') (hE: ∀j,E j→w.heap.size≤j):Kpt D w w'':=
 ⟨k.os.trans h.os,k.tape.trans h.tape,k.output.trans h.output,Nat.le_trans h.size k.size,fun i a b=>(k.block i (Nat.lt_of_lt_of_le a h.size) fun e=>by have:=hE i e;omega).trans (h.block i a b)⟩
end
end Go.Emb

namespace Go.Hm
open Go.Kd
theorem V3 {l:List Cla} {n:X0} {c:Cla} (h:lk l n=some c):c.name=n∧c∈l∧ ∃i,Z2 l n=some i∧l[i]? =some c:=by
 unfold lk at h
 cases a:Z2 l n with
 | none=>rw[a] at h;cases h
 | some i=>
  rw[a] at h
  obtain ⟨b,e,_⟩:=List.findIdx?_eq_some_iff_getElem.1 a
  have d:l[i]? =some c:=h
  rw[List.getElem?_eq_getElem b] at d
  cases d
  exact ⟨by simpa using e,List.getElem_mem b,i,rfl,List.getElem?_eq_getElem b⟩
theorem Zm {l:List Cla} {n:X0} {i:Nat} (h:Z2 l n=some i): ∃c,lk l n=some c∧l[i]? =some c∧c.name=n:=by
 obtain ⟨a,b,_⟩:=List.findIdx?_eq_some_iff_getElem.1 h
 refine ⟨l[i],?_,List.getElem?_eq_getElem a,by simpa using b⟩
 unfold lk;rw[h];simp[a]
theorem Q1F {l:List Cla} {n:X0}:Q0t l n=(lk l n).isSome:=by
 unfold Q0t
 cases a:Z2 l n with
 | none=>simp[lk,a]
 | some i=>obtain ⟨c,h,_⟩:=Zm a;simp[h]
theorem Q9g {l:List Cla} {c:Cla} (h:c∈l): ∃d,lk l c.name=some d:=by
 cases a:Z2 l c.name with
 | none=>
  have:=List.findIdx?_eq_none_iff.1 a c h
  simp at this
 | some i=>obtain ⟨d,h,_⟩:=Zm a;exact ⟨d,h⟩
inductive Reach (L : Ws) : X0 → X0 → Prop
  | refl {a : X0} {c : Cla} : L a = some c → Reach L a a
  | step {a u b : X0} {c : Cla} : L a = some c → u ∈ U3 c → Reach L u b → Reach L a b
theorem Reach.trans {L:Ws} {a b d:X0} (h:Reach L a b) (k:Reach L b d):Reach L a d:=by
 induction h with
 | refl _=>exact k
 | step f c _ e=>exact .step f c (e k)
theorem Reach.right {L:Ws} {a b:X0} (h:Reach L a b): ∃c,L b=some c:=by
 induction h with
 | refl h=>exact ⟨_,h⟩
 | step _ _ _ d=>exact d
theorem Reach.left {L:Ws} {a b:X0} (h:Reach L a b): ∃c,L a=some c:=by
 cases h with
 | refl h=>exact ⟨_,h⟩
 | step h _ _=>exact ⟨_,h⟩
theorem Q1K (L:Ws): ∀(f:Nat) (a b:List X0),∃r,Va L f a b=b++r:=by
 intro f
 induction f with
 | zero=>intro a b;exact ⟨[],by simp[Va]⟩
 | succ f c=>
  intro a b
  cases a with
  | nil=>exact ⟨[],by simp[Va]⟩
  | cons n a=>
   simp only[Va]
   split
   ·exact c _ _
   ·split
    ·exact c _ _
    ·obtain ⟨r,d⟩:=c (a++U3 ‹_›) (b++[n])
     exact ⟨n::r,by rw[d];simp⟩
theorem Q9o (L:Ws): ∀(f:Nat) (a b:List X0) (x:X0),x∈Va L f a b→x∈b∨ ∃t∈a,Reach L t x:=by
 intro f
 induction f with
 | zero=>intro a b x h;exact .inl h
 | succ f d=>
  intro a b x h
  cases a with
  | nil=>exact .inl h
  | cons n a=>
   simp only[Va] at h
   split at h
   ·rcases d _ _ _ h with h | ⟨t,ht,h⟩
    ·exact .inl h
    ·exact .inr ⟨t,by simp[ht],h⟩
   ·rename_i c e
    split at h
    ·rcases d _ _ _ h with h | ⟨t,ht,h⟩
     ·exact .inl h
     ·exact .inr ⟨t,by simp[ht],h⟩
    ·rcases d _ _ _ h with h | ⟨t,ht,h⟩
     ·rcases List.mem_append.1 h with h | h
      ·exact .inl h
      ·simp at h;subst h;exact .inr ⟨x,by simp, .refl e⟩
     ·rcases List.mem_append.1 ht with ht | ht
      ·exact .inr ⟨t,by simp[ht],h⟩
      ·exact .inr ⟨n,by simp, .step e ht h⟩
theorem X0i (l:List Cla) (a b:List X0) (h: ∀x∈a,x∈b):weigh l b≤weigh l a:=by
 unfold weigh
 induction l with
 | nil=>simp
 | cons c r e=>
  simp only[List.map_cons,List.sum_cons]
  by_cases d:c.name∈a
  ·rw[if_pos d,if_pos (h _ d)];omega
  ·rw[if_neg d];split<;>omega
theorem Ka (l:List Cla) (a:List X0) (c:Cla) (hc:c∈l) (h:c.name∉a):weigh l (a++[c.name])+(U3 c).length≤weigh l a:=by
 unfold weigh
 induction l with
 | nil=>simp at hc
 | cons d r f=>
  simp only[List.map_cons,List.sum_cons]
  have b:weigh r (a++[c.name])≤weigh r a:=X0i _ _ _ (by simp;intro x g;exact .inl g)
  unfold weigh at b
  rcases List.mem_cons.1 hc with rfl | hc
  ·rw[if_pos (by simp),if_neg h];omega
  ·have:=f hc
   by_cases e:d.name∈a
   ·rw[if_pos (by simp[e]),if_pos e];omega
   ·rw[if_neg e];split<;>omega
theorem X0h (l:List Cla): ∀(f:Nat) (a b:List X0),a.length+weigh l b≤f→
 (∀x∈b,∀c,lk l x=some c→ ∀u∈U3 c,∀d,lk l u=some d→u∈b∨u∈a)→
 (∀t∈a,∀d,lk l t=some d→t∈Va (lk l) f a b)∧ ∀x∈Va (lk l) f a b,∀c,lk l x=some c→ ∀u∈U3 c,∀d,lk l u=some d→u∈Va (lk l) f a b:=by
 intro f
 induction f with
 | zero=>
  intro a b w o
  have:a=[]:=List.eq_nil_of_length_eq_zero (by omega)
  subst this
  refine ⟨by simp,fun x hx c j u i d g=>?_⟩
  rcases o x hx c j u i d g with h | h
  ·exact h
  ·simp at h
 | succ f v=>
  intro a b w o
  cases a with
  | nil=>
   refine ⟨by simp,fun x hx c j u i d g=>?_⟩
   rcases o x hx c j u i d g with h | h
   ·exact h
   ·simp at h
  | cons n a=>
   simp only[List.length_cons] at w
   simp only[Va]
   split
   ·rename_i y
    obtain ⟨q,p⟩:=v a b (by omega) (fun x hx c j u i d g=>by
     rcases o x hx c j u i d g with h | h
     ·exact .inl h
     ·rcases List.mem_cons.1 h with rfl | h
      ·rw[y] at g;cases g
      ·exact .inr h)
    refine ⟨fun t ht d g=>?_,p⟩
    rcases List.mem_cons.1 ht with rfl | ht
    ·rw[y] at g;cases g
    ·exact q t ht d g
   ·rename_i c j
    split
    ·rename_i k
     obtain ⟨r,s⟩:=Q1K (lk l) f a b
     obtain ⟨q,p⟩:=v a b (by omega) (fun x hx c j u i d g=>by
      rcases o x hx c j u i d g with h | h
      ·exact .inl h
      ·rcases List.mem_cons.1 h with rfl | h
       ·exact .inl k
       ·exact .inr h)
     refine ⟨fun t ht d g=>?_,p⟩
     rcases List.mem_cons.1 ht with rfl | ht
     ·rw[s];simp[k]
     ·exact q t ht d g
    ·rename_i k
     obtain ⟨e,B,_⟩:=V3 j
     have z:=Ka l b c B (by rw[e];exact k)
     rw[e] at z
     obtain ⟨q,p⟩:=v (a++U3 c) (b++[n]) (by rw[List.length_append];omega) (fun x hx A m u i d g=>by
      rcases List.mem_append.1 hx with hx | hx
      ·rcases o x hx A m u i d g with h | h
       ·exact .inl (by simp[h])
       ·rcases List.mem_cons.1 h with rfl | h
        ·exact .inl (by simp)
        ·exact .inr (by simp[h])
      ·simp at hx;subst hx
       rw[j] at m;cases m
       exact .inr (by simp[i]))
     refine ⟨fun t ht d g=>?_,p⟩
     rcases List.mem_cons.1 ht with rfl | ht
     ·obtain ⟨r,s⟩:=Q1K (lk l) f (a++U3 c) (b++[t])
      rw[s];simp
     ·exact q t (by simp[ht]) d g
theorem Ut {l:List Cla} {a b:X0}:b∈G2 l a↔Reach (lk l) a b:=by
 obtain ⟨o,k⟩:=X0h l (1+weigh l []) [a] [] (by simp) (by simp)
 constructor
 ·intro h
  rcases Q9o _ _ _ _ _ h with h | ⟨t,e,f⟩
  ·simp at h
  ·simp at e;subst e;exact f
 ·intro h
  have key: ∀{x y:X0},Reach (lk l) x y→x∈G2 l a→y∈G2 l a:=by
   intro x y h
   induction h with
   | refl _=>exact id
   | step j g i n=>
    intro m
    obtain ⟨d,c⟩:=i.left
    exact n (k _ m _ j _ g _ c)
  obtain ⟨d,c⟩:=h.left
  exact key h (o a (by simp) d c)
theorem X0V (l:List Cla): ∀(f:Nat) (a b:List X0),a.length+weigh l b≤f→ ∀k,Va (lk l) (f+k) a b=Va (lk l) f a b:=by
 intro f
 induction f with
 | zero=>
  intro a b h k
  have:a=[]:=List.eq_nil_of_length_eq_zero (by omega)
  subst this
  cases k<;>rfl
 | succ f g=>
  intro a b h k
  cases a with
  | nil=>rw[Nat.succ_add];rfl
  | cons n a=>
   simp only[List.length_cons] at h
   rw[Nat.succ_add]
   simp only[Va]
   split
   ·exact g _ _ (by omega) k
   ·rename_i c m
    split
    ·exact g _ _ (by omega) k
    ·rename_i d
     obtain ⟨e,i,_⟩:=V3 m
     have j:=Ka l b c i (by rw[e];exact d)
     rw[e] at j
     exact g _ _ (by rw[List.length_append];omega) k
end Go.Hm

namespace Go.Hm
open Go.Kd
def Wo (L:Ws) (a b:X0):Prop:= ∃c,L a=some c∧ ∃u∈U3 c,Reach L u b
def Ja (l:List Cla):Prop:= ∀a,¬Wo (lk l) a a
theorem Wo.reach {L:Ws} {a b:X0} (h:Wo L a b):Reach L a b:=by
 obtain ⟨c,e,u,f,d⟩:=h;exact .step e f d
theorem Wo.trans {L:Ws} {a b d:X0} (h:Wo L a b) (k:Reach L b d):Wo L a d:=by
 obtain ⟨c,f,u,g,e⟩:=h;exact ⟨c,f,u,g,e.trans k⟩
theorem Q0G {L:Ws} {a b:X0}:Reach L a b↔(a=b∧(∃c,L a=some c))∨Wo L a b:=by
 constructor
 ·intro h
  cases h with
  | refl h=>exact .inl ⟨rfl,_,h⟩
  | step d e f=>exact .inr ⟨_,d,_,e,f⟩
 ·rintro (⟨rfl,c,h⟩ | h)
  ·exact .refl h
  ·exact h.reach
def Xj (l:List Cla) (a b:X0):Bool:=match lk l a with
 | none=>false
 | some c=>(U3 c).any fun u=>(G2 l u).contains b
theorem Jq {l:List Cla} {a b:X0}:Xj l a b=true↔Wo (lk l) a b:=by
 unfold Xj Wo
 cases h:lk l a with
 | none=>simp
 | some c=>
  simp only[List.any_eq_true,List.contains_iff_mem,Ut]
  constructor
  ·rintro ⟨u,e,d⟩;exact ⟨c,rfl,u,e,d⟩
  ·rintro ⟨_,⟨⟩,u,e,d⟩;exact ⟨u,e,d⟩
def P1 (l:List Cla) (n:X0):Nat:=l.countP fun m=>Xj l n m.name
theorem Q1J (l:List Cla) (n:X0):P1 l n≤l.length:=List.countP_le_length
theorem Q4n {α:Type} {p q:α→Bool}: ∀{l:List α},(∀x∈l,p x=true→q x=true)→(∃x∈l,q x=true∧p x=false)→l.countP p<l.countP q:=by
 intro l
 induction l with
 | nil=>rintro _ ⟨x,hx,_⟩;simp at hx
 | cons a r e=>
  rintro h ⟨x,hx,c,d⟩
  have g:r.countP p≤r.countP q:=List.countP_mono_left fun x hx=>h x (by simp[hx])
  rw[List.countP_cons,List.countP_cons]
  rcases List.mem_cons.1 hx with rfl | hx
  ·rw[c,d];simp;omega
  ·have:=e (fun x hx=>h x (by simp[hx])) ⟨x,hx,c,d⟩
   have f:=h a (by simp)
   cases b:p a
   ·simp;split<;>omega
   ·rw[f b];simp;omega
theorem X1V {l:List Cla} (i:Ja l) {a b:X0} (h:Wo (lk l) a b):P1 l b<P1 l a:=by
 unfold P1
 refine Q4n (fun x _ j=>?_) ?_
 ·rw[Jq] at*
  exact h.trans j.reach
 ·obtain ⟨d,g⟩:=(Reach.right (h.reach))
  obtain ⟨e,f,_⟩:=V3 g
  refine ⟨d,f,?_,?_⟩
  ·rw[Jq,e];exact h
  ·cases c:Xj l b d.name with
   | false=>rfl
   | true=>rw[Jq,e] at c;exact absurd c (i b)
theorem Xq {l:List Cla} (e:Ja l) {a u:X0} {c d:Cla} (b:lk l a=some c) (f:u∈U3 c) (g:lk l u=some d):P1 l u<P1 l a:=
 X1V e ⟨c,b,u,f, .refl g⟩
theorem Q6K {l:List Cla} (i:Ja l): ∀(f g:Nat) (n:X0),P1 l n<f→P1 l n<g→I6 (lk l) f n=I6 (lk l) g n:=by
 intro f
 induction f with
 | zero=>intro g n h;omega
 | succ f b=>
  intro g n j k
  obtain ⟨g,rfl⟩: ∃m,g=m+1:=⟨g-1,by omega⟩
  simp only[I6]
  cases e:lk l n with
  | none=>rfl
  | some c=>
   simp only
   congr 1
   cases a:lk l c.super with
   | none=>cases f<;>cases g<;>simp[I6,a]
   | some d=>
    have:=Xq i e (by simp[U3]) a
    exact b g c.super (by omega) (by omega)
theorem A6 {l:List Cla} (b:Ja l) (n:X0):chain l n=match lk l n with | none=>[] | some c=>c::chain l c.super:=by
 have:=Q1J l n
 unfold chain
 rw[I6]
 cases e:lk l n with
 | none=>rfl
 | some c=>
  simp only
  congr 1
  cases a:lk l c.super with
  | none=>cases l.length<;>simp[I6,a]
  | some d=>
   have:=Xq b e (by simp[U3]) a
   exact Q6K b _ _ _ (by omega) (by omega)
theorem Yp {l:List Cla} {n:X0} (h:lk l n=none):chain l n=[]:=by simp[chain,I6,h]
theorem Dr {α β:Type} {f g:α→Option β}: ∀{l:List α},(∀x∈l,f x=g x)→l.findSome? f=l.findSome? g
 | [],_=>rfl
 | a::r,h=>by
  rw[List.findSome?_cons,List.findSome?_cons,h a (by simp),Dr fun x b=>h x (by simp[b])]
theorem Q6Z {l:List Cla} (b:Ja l) (n:X0): ∀(f g:Nat) (c:Cla),lk l c.name=some c→P1 l c.name<f→P1 l c.name<g→Ca (lk l) f c n=Ca (lk l) g c n:=by
 intro f
 induction f with
 | zero=>intro g c _ h;omega
 | succ f k=>
  intro g c j o p
  obtain ⟨g,rfl⟩: ∃m,g=m+1:=⟨g-1,by omega⟩
  simp only[Ca]
  refine Dr fun u i=>?_
  cases a:lk l u with
  | none=>rfl
  | some d=>
   simp only
   cases F4 d n with
   | some m=>rfl
   | none=>
    simp only
    have:=Xq b j (by simp[U3,i]) a
    have e:=(V3 a).1
    exact k g d (by rw[e];exact a) (by rw[e];omega) (by rw[e];omega)
def V4 (l:List Cla) (c:Cla) (n:X0):Option (X0×Hm.Met):=Ca (lk l) (l.length+1) c n
theorem Q4d {l:List Cla} (b:Ja l) {c:Cla} (f:lk l c.name=some c) (n:X0):V4 l c n=c.like.findSome? fun u=>match lk l u with
 | none=>none
 | some d=>match F4 d n with
  | some m=>some (u,m)
  | none=>V4 l d n:=by
 have:=Q1J l c.name
 unfold V4
 rw[Ca]
 refine Dr fun u g=>?_
 cases a:lk l u with
 | none=>rfl
 | some d=>
  simp only
  cases F4 d n with
  | some m=>rfl
  | none=>
   have:=Xq b f (by simp[U3,g]) a
   have e:=(V3 a).1
   exact Q6Z b n _ _ d (by rw[e];exact a) (by rw[e];omega) (by rw[e];omega)
def T9 (l:List Cla):Prop:=(l.map (·.name)).Nodup
theorem T9.lk {l:List Cla} (h:T9 l) {c:Cla} (g:c∈l):Go.Hm.lk l c.name=some c:=by
 obtain ⟨d,k⟩:=Q9g g
 obtain ⟨e,o,i,p,a⟩:=V3 k
 obtain ⟨j,m,rfl⟩:=List.getElem_of_mem g
 obtain ⟨b,f⟩:=List.getElem?_eq_some_iff.1 a
 have:i=j:=by
  have n:(l.map (·.name))[i]'(by simpa using b)=(l.map (·.name))[j]'(by simpa using m):=by simp[f,e]
  exact (List.getElem_inj h).1 n
 subst this
 rw[k,←f]
theorem T9.find {l:List Cla} (h:T9 l) {i:Nat} {c:Cla} (f:l[i]? =some c):Z2 l c.name=some i:=by
 obtain ⟨b,rfl⟩:=List.getElem?_eq_some_iff.1 f
 have:=h.lk (List.getElem_mem b)
 obtain ⟨e,n,j,g,k⟩:=V3 this
 obtain ⟨a,d⟩:=List.getElem?_eq_some_iff.1 k
 have:j=i:=by
  have m:(l.map (·.name))[j]'(by simpa using a)=(l.map (·.name))[i]'(by simpa using b):=by simp[d]
  exact (List.getElem_inj h).1 m
 rw[g,this]
end Go.Hm

namespace Go.Emb
open Go.RowKit Go.Hm
variable {P : Program} {w w0 w1 w' w'' : World} {K : Value → World → Prop} {σ σ0 σ1 σ2 σ' : Q6}
theorem Stp.join (c:Stp w σ w' σ1) (d:Stp w σ w' σ2): ∃f,Stp w σ w' f∧SLe σ1 f∧SLe σ2 f:=by
 have h: ∀b o,σ1 b=some o→(fun b=>(σ1 b).or (σ2 b)) b=some o:=fun b o e=>by simp[e]
 have i: ∀b o,σ2 b=some o→(fun b=>(σ1 b).or (σ2 b)) b=some o:=by
  intro b o e
  cases a:σ1 b with
  | none=>simp[a,e]
  | some p=>
   have j:=c.sat b p a
   have g:=d.sat b o e
   rw[j] at g;cases g;simp only[a,Option.some_or]
 refine ⟨fun b=>(σ1 b).or (σ2 b),⟨c.bel,?_,fun b o e=>h b o (c.le b o e),?_⟩,⟨h⟩,⟨i⟩⟩
 ·intro b o e
  cases a:σ1 b with
  | none=>simp only[a,Option.none_or] at e;exact d.sat b o e
  | some p=>simp only[a,Option.some_or] at e;cases e;exact c.sat b _ a
 ·intro b a
  simp only[c.old b a,d.old b a];cases σ b<;>rfl
theorem Wm {Φ:Q6→Value→Prop} {A a:(Value→World→Prop)→Prop} (h:A (fun v w'=> ∃σ',Stp w σ w' σ'∧Φ σ' v)) (c:a (fun v w'=> ∃σ',Stp w σ w' σ'∧Φ σ' v)):Q5 (fun w w'=>Below w.heap.size w w') A a:=
 H4 _ (fun _ _ _ ⟨σ',b,d⟩ e=>⟨σ',b.trans (Stp.of_below b.sat e),d⟩) h c
theorem Sf {Φ:Q6→Value→Prop} {v:Value} (b:Hst w σ w1 σ) (h:Stp w1 σ w' σ') (a:Φ σ' v):dk (fun w w'=>Below w.heap.size w w') (fun v w'=> ∃σ',Stp w σ w' σ'∧Φ σ' v) w1 v w':=
 ⟨h.bel,σ',b.stp.trans h,a⟩
theorem E8.mk {m:Hm.Met} {pv b a:Value} (e:Sl 1 U8 σ pv m.params) (f:Sl 3 Qo σ b m.code) (g:Sl 4 Jz σ a m.catches) (h:m.name.length≤U1) (c:m.result.length≤U1) (d:Yw m.locals):E8 σ m [S m.name,pv,S m.result, .bool m.abs,I m.locals,b,a]:=
 ⟨pv,b,a,rfl,e,f,g,h,c,d⟩
theorem V0.mk {c:Cla} {a b mv:Value} (e:Sl 1 U8 σ a c.like) (f:Sl 3 S2 σ b c.fields) (g:Sl 7 E8 σ mv c.methods) (h:c.name.length≤U1) (d:c.super.length≤U1):V0 σ c [S c.name,S c.super,a, .bool c.iface, .bool c.abs, .bool c.fin,b,mv]:=
 ⟨a,b,mv,rfl,e,f,g,h,d⟩
end Go.Emb
namespace Go.Hm
def SmM (m:Hm.Met):Prop:=m.params.length≤1000000∧m.code.length≤1000000∧m.catches.length≤1000000
def Qj (c:Cla):Prop:=c.like.length≤1000000∧c.fields.length≤1000000∧c.methods.length≤1000000∧ ∀m∈c.methods,SmM m
end Go.Hm
namespace Go.Proofs.YtjdiakhipmggjaaGreatDoor
open Go.Emb Go.RowKit Go.Kd Go.Hm
variable {w : World} {K : Value → World → Prop} {σ : Q6}
theorem Q4f {m:Hm.Met} {cs:List Value} (hs:X3 w σ) (hm:E8 σ m cs) (N:SmM m)
 (h: ∀pv o f w' σ',Stp w σ w' σ'→E8 σ' m [S m.name,pv,S m.result, .bool m.abs,I m.locals,o,f]→K (.agg [S m.name,pv,S m.result, .bool m.abs,I m.locals,o,f].toArray) w'):Q1 P F.c7 [.agg cs.toArray] w K:=Q4U (by
 obtain ⟨pv,o,f,rfl,z,C,M,g4,g5,g6⟩:=hm
 obtain ⟨Y,s2,s3⟩:=N
 unfold Ti
 refine Eh hs fun b w1 σ1 d g a=>?_
 refine M9 g.sat fun b2 w2 σ2 A j c=>?_
 have X:=a.lt
 replace a:=a.step j
 have B:=j.sat
 have z:=(z.up g).up j
 have C:=(C.up g).up j
 have M:=(M.up g).up j
 have L: ∀{w':World} (i:Nat) (v:Value),[S m.name,pv,S m.result, .bool m.abs,I m.locals,o,f][i]? =some v→Hst w2 σ2 w' σ2→w'.cell? ((⟨b,0,none⟩:Addr).add i)=some v:=fun i v f hh=>(a.step hh.stp).cell f
 refine U0 B ?_
 refine X4 (.pointer (some ((⟨b,0,none⟩:Addr).add 1))) (fun w d=>by rw[fa];exact X6 rfl) ?_
 refine X4 (.pointer (some ((⟨b,0,none⟩:Addr).add 5))) (fun w d=>by rw[fa];exact X6 rfl) ?_
 refine X4 (.pointer (some ((⟨b,0,none⟩:Addr).add 6))) (fun w d=>by rw[fa];exact X6 rfl) ?_
 refine X4 pv (fun t w d e=>by rw[e];exact Qf (L 1 pv rfl d) (X6 rfl)) ?_
 refine Wm (Φ:=fun σ' v=>Sl 1 U8 σ' v m.params) (fun t w d e=>by rw[e];exact Lt d.sat z Y fun U w' σ' q f=>Sf d q f) ?_
 refine X4 o (fun t w d e=>by rw[e];exact Qf (L 5 o rfl d) (X6 rfl)) ?_
 refine Wm (Φ:=fun σ' v=>Sl 3 Qo σ' v m.code) (fun t w d e=>by rw[e];exact Ex d.sat C s2 fun U w' σ' q f=>Sf d q f) ?_
 refine X4 f (fun t w d e=>by rw[e];exact Qf (L 6 f rfl d) (X6 rfl)) ?_
 refine X4 (.pointer (some ((⟨b,0,none⟩:Addr).add 1))) (fun w d=>by rw[fa];exact X6 rfl) ?_
 refine Wm (Φ:=fun σ' v=>Sl 4 Jz σ' v m.catches) (fun t w d e=>by rw[e];exact Ed d.sat M s3 fun U w' σ' q f=>Sf d q f) ?_
 rintro t1 t2 t3 t4 t5 t6 t8 t9 ag u w3 Z e1 e2 e3 e4 ⟨σ5,k5,r⟩ e6 ⟨σ8,k8,s⟩ e9 y ⟨aj,H,k⟩
 subst y
 obtain ⟨σa,ka,J,D⟩:=k5.join k8
 obtain ⟨σ3,E,V,l2⟩:=ka.join H
 have r:=(r.lift J).lift V
 have s:=(s.lift D).lift V
 have k:=k.lift l2
 have a:=a.step E
 have c:=c.step E
 have n:b2≠b:=by omega
 have l:=(g.trans j).trans E
 refine Jv a (by simp) (Wq r) (A7 r) fun w4 W a=>?_
 rw[fa]
 have l:=W.stp l d a.1
 have c:=c.upd W n
 refine Jv a (by simp) (Wq s) (A7 s) fun w5 Q a=>?_
 rw[fa]
 have l:=Q.stp l d a.1
 have c:=c.upd Q n
 refine Jv a (by simp) (Wq k) (A7 k) fun w6 O a=>?_
 have l:=O.stp l d a.1
 have c:=c.upd O n
 refine Cb a rfl ?_
 have R:=E8.mk r s k g4 g5 g6
 have p:=M8 A g
 refine Nt c rfl rfl (by rw[List.all_toArray];exact List.all_eq_true.2 (Rep.one R)) fun w7 u7 c=>?_
 have l:=u7.stp l p c.1
 refine V1 c rfl ?_
 exact h t5 t8 u w7 σ3 l R)
theorem X0f {c:Cla} {cs:List Value} (hs:X3 w σ) (hc:V0 σ c cs) (ar:Qj c)
 (h: ∀V R mv w' σ',Stp w σ w' σ'→V0 σ' c [S c.name,S c.super,V, .bool c.iface, .bool c.abs, .bool c.fin,R,mv]→K (.agg [S c.name,S c.super,V, .bool c.iface, .bool c.abs, .bool c.fin,R,mv].toArray) w'):Q1 P F.cz [.agg cs.toArray] w K:=Q4W (by
 obtain ⟨V,R,mv,rfl,g1,g2,X,g4,g5⟩:=hc
 obtain ⟨s1,s2,s3,s4⟩:=ar
 unfold Tj
 refine Eh hs fun b w1 σ1 l m f=>?_
 refine M9 m.sat fun U w2 σ2 al r g=>?_
 have a7:=f.lt
 replace f:=f.step r
 have ao:=r.sat
 have g1:=(g1.up m).up r
 have g2:=(g2.up m).up r
 have X:=(X.up m).up r
 have L: ∀{w':World} (i:Nat) (v:Value),[S c.name,S c.super,V, .bool c.iface, .bool c.abs, .bool c.fin,R,mv][i]? =some v→Hst w2 σ2 w' σ2→w'.cell? ((⟨b,0,none⟩:Addr).add i)=some v:=fun i v W hh=>(f.step hh.stp).cell W
 refine U0 ao ?_
 refine X4 (.pointer (some ((⟨b,0,none⟩:Addr).add 2))) (fun w l=>by rw[fa];exact X6 rfl) ?_
 refine X4 (.pointer (some ((⟨b,0,none⟩:Addr).add 6))) (fun w l=>by rw[fa];exact X6 rfl) ?_
 refine X4 V (fun t w l e=>by rw[e];exact Qf (L 2 V rfl l) (X6 rfl)) ?_
 refine Wm (Φ:=fun σ' v=>Sl 1 U8 σ' v c.like) (fun t w l e=>by rw[e];exact Lt l.sat g1 s1 fun v' w' σ' H W=>Sf l H W) ?_
 refine X4 R (fun t w l e=>by rw[e];exact Qf (L 6 R rfl l) (X6 rfl)) ?_
 refine X4 (.pointer (some ((⟨b,0,none⟩:Addr).add 2))) (fun w l=>by rw[fa];exact X6 rfl) ?_
 refine Wm (Φ:=fun σ' v=>Sl 3 S2 σ' v c.fields) (fun t w l e=>by rw[e];exact Em l.sat g2 s2 fun v' w' σ' H W=>Sf l H W) ?_
 rintro t6 t9 t7 t8 bh bq Y w3 ba e6 e9 e7 ⟨σ8,k8,f8⟩ bj ap ⟨bk,av,y⟩
 subst ap
 obtain ⟨σ3,k3,l1,l2⟩:=k8.join av
 have f8:=f8.lift l1
 have y:=y.lift l2
 have X:=X.up k3
 have f:=f.step k3
 have g:=g.step k3
 have J:U≠b:=by omega
 have hS:=(m.trans r).trans k3
 refine Jv f (by simp) (Wq f8) (A7 f8) fun w4 u4 f=>?_
 rw[fa]
 have hS:=u4.stp hS l f.1
 have g:=g.upd u4 J
 refine Jv f (by simp) (Wq y) (A7 y) fun w5 u5 f=>?_
 rw[fa]
 have hS:=u5.stp hS l f.1
 have g:=g.upd u5 J
 refine Yg f rfl ?_
 refine Q8 X ?_
 refine E5 c.methods.length (fun n a w'=> ∃σ',Stp w σ w' σ'∧SLe σ3 σ'∧V6 w.heap.size T.d 7 E8 σ' w' a (c.methods.take n)∧Y2 σ' w' b [S c.name,S c.super,t8, .bool c.iface, .bool c.abs, .bool c.fin,Y,mv]∧Y2 σ' w' U [S [],S [], .slice none 0 0, .bool false, .bool false, .bool false, .slice none 0 0, .slice none 0 0]∧ ∀k,a.ownBlock=some k→k≠b∧k≠U)
  ⟨σ3,hS,SLe.refl _,V6.nil,f,g,fun k H=>by cases H⟩ fun n a w6 d hn hi=>?_
 obtain ⟨σ6,B,C,ha,f,g,j⟩:=hi
 refine Y9 ?_
 refine Q7 (fun hh=>?_) (fun hh=>?_)
 ·have z:n<c.methods.length:=by simpa using hh
  have ab:c.methods.length≤9223372036854775807:=by omega
  refine M7 (X.lift C) z fun p cs hl u hr=>?_
  refine Y4 B.sat hl u ?_
  refine Y8 B.sat (by rfl) u (Rep.one hr) fun q w7 σ7 o hq=>?_
  refine Y4 o.sat hq u ?_
  refine Q4f o.sat (Rep.up o.le hr) (s4 _ (List.getElem_mem z)) fun pv cv W w8 σ8 Q aq=>?_
  have N:=(Nxt.of_stp (D:=fun k=>a.ownBlock=some k) o).trans (Nxt.of_stp Q)
  have aj:=(ha.up o).up Q
  have a5:=(f.nx N fun e=>(j _ e).1 rfl).lt
  have ay:=(g.nx N fun e=>(j _ e).2 rfl).lt
  refine Ug ((B.trans o).trans Q) aj aq rfl rfl rfl (by rw[List.length_take];omega) (by rw[List.length_take];omega) fun s v' w9 σ9 A am ah hat=>?_
  refine N0 ?_
  have A:=N.trans A
  refine J3 ab z ⟨σ9,am,C.more A.le,?_,f.nx A fun e=>(j _ e).1 rfl,g.nx A fun e=>(j _ e).2 rfl,?_⟩
  ·rw[List.take_add_one,List.getElem?_eq_getElem z];exact ah
  ·intro k H
   rcases hat with hat | hat
   ·exact j k (hat▸H)
   ·have:=hat k H
    constructor<;>omega
 ·have z: ¬n<c.methods.length:=by simpa using hh
  rw[List.take_of_length_le (by omega)] at ha
  obtain ⟨σ7,O,M,ad,E⟩:=ha.keep B
  have f:Y2 σ7 w6 b _:=⟨(E b fun e=>(j b e.symm).1 rfl).trans f.1,f.2⟩
  have g:Y2 σ7 w6 U _:=⟨(E U fun e=>(j U e.symm).2 rfl).trans g.1,g.2⟩
  rw[fa]
  refine Jv f (by simp) (Wq M) (A7 M) fun w7 u7 f=>?_
  have O:=u7.stp O l f.1
  have g:=g.upd u7 J
  refine Cb f rfl ?_
  have hr:=V0.mk (f8.lift (C.more ⟨ad⟩)) (y.lift (C.more ⟨ad⟩)) M g4 g5
  have Z:=M8 al m
  refine Nt g rfl rfl (by rw[List.all_toArray];exact List.all_eq_true.2 (Rep.one hr)) fun w8 u8 g=>?_
  have aw:=u8.stp O Z g.1
  refine V1 g rfl ?_
  exact h t8 Y a w8 σ7 aw hr)
end Go.Proofs.YtjdiakhipmggjaaGreatDoor

namespace Go.Hm
open Go.Kd
def B2 {α:Type}:Nat→List α→List α
 | 0,xs=>xs
 | i+1,xs=>match (B2 i xs)[i]?,(B2 i xs)[xs.length-1-i]? with
  | some a,some b=>((B2 i xs).set i b).set (xs.length-1-i) a
  | _,_=>B2 i xs
theorem Q0J {α:Type} (xs:List α): ∀i,2*i≤xs.length→(B2 i xs).length=xs.length∧ ∀k,k<xs.length→(B2 i xs)[k]? =if k<i∨xs.length-1-k<i then xs[xs.length-1-k]? else xs[k]?
 | 0,_=>⟨rfl,fun k g=>by simp[B2]⟩
 | i+1,h=>by
  obtain ⟨m,d⟩:=Q0J xs i (by omega)
  have f:=d i (by omega)
  have e:=d (xs.length-1-i) (by omega)
  rw[if_neg (by omega)] at f e
  have n:i<xs.length:=by omega
  have c:xs.length-1-i<xs.length:=by omega
  rw[List.getElem?_eq_getElem (l:=xs) n] at f
  rw[List.getElem?_eq_getElem (l:=xs) c] at e
  simp only[B2,f,e]
  refine ⟨by simp[m],fun k g=>?_⟩
  by_cases b:k=xs.length-1-i
  ·subst b
   rw[List.getElem?_set_self (by simp[m];omega),if_pos (by omega)]
   rw[show xs.length-1-(xs.length-1-i)=i by omega,List.getElem?_eq_getElem (by omega)]
  ·rw[List.getElem?_set_ne (by omega)]
   by_cases a:k=i
   ·subst a
    rw[List.getElem?_set_self (by omega),if_pos (by omega),List.getElem?_eq_getElem (by omega)]
   ·rw[List.getElem?_set_ne (by omega),d k g]
    by_cases j:k<i∨xs.length-1-k<i
    ·rw[if_pos j,if_pos (by omega)]
    ·rw[if_neg j,if_neg (by omega)]
theorem X00 {α:Type} (xs:List α) (i:Nat) (d:2*i≤xs.length) (f:xs.length≤2*i+1):B2 i xs=xs.reverse:=by
 obtain ⟨e,c⟩:=Q0J xs i d
 apply List.ext_getElem?
 intro k
 by_cases a:k<xs.length
 ·rw[c k a,List.getElem?_reverse a]
  by_cases b:k<i∨xs.length-1-k<i
  ·rw[if_pos b]
  ·rw[if_neg b];congr 1;omega
 ·rw[List.getElem?_eq_none (by omega),List.getElem?_eq_none (by simp;omega)]
theorem Ki (L:Ws): ∀(f:Nat) (n:X0),(I6 L f n).length≤f
 | 0,_=>by simp[I6]
 | f+1,n=>by
  simp only[I6]
  split
  ·simp
  ·have:=Ki L f (by rename_i c _;exact c.super)
   simp only[List.length_cons];rename_i c _;have:=Ki L f c.super;omega
theorem Cz (l:List Cla) (n:X0):(chain l n).length≤l.length+1:=Ki _ _ _
theorem Bl {l:List Cla} {n:X0} {c:Cla} (h:c∈chain l n):c∈l:=by
 have key: ∀(f:Nat) (n:X0),c∈I6 (lk l) f n→c∈l:=by
  intro f
  induction f with
  | zero=>intro n h;simp[I6] at h
  | succ f b=>
   intro n h
   simp only[I6] at h
   split at h
   ·simp at h
   ·rename_i d a
    rcases List.mem_cons.1 h with rfl | h
    ·exact (V3 a).2.1
    ·exact b _ h
 exact key _ _ h
theorem Vt {α β:Type} (f:α→List β) (k:Nat): ∀(xs:List α),(∀x∈xs,(f x).length≤k)→(xs.flatMap f).length≤xs.length*k
 | [],_=>by simp
 | x::r,h=>by
  have c:=h x (by simp)
  have b:=Vt f k r fun y a=>h y (by simp[a])
  simp only[List.flatMap_cons,List.length_append,List.length_cons,Nat.add_mul];omega
end Go.Hm

namespace Go.Hm
open Go.Kd
def Y3 (l:List Cla) (i:Nat):X0:=(l.getD i Cla.zero).name
theorem Yh {l:List Cla} (b:T9 l) {i:Nat} (a:i<l.length):lk l (Y3 l i)=some (l.getD i Cla.zero):=by
 have e:l.getD i Cla.zero=l[i]:=by rw[List.getD_eq_getElem?_getD,List.getElem?_eq_getElem a];rfl
 unfold Y3
 rw[e];exact b.lk (List.getElem_mem a)
theorem S7 {l:List Cla} {u:X0} {j:Nat} (h:Z2 l u=some j):j<l.length∧Y3 l j=u:=by
 obtain ⟨a,b,_⟩:=List.findIdx?_eq_some_iff_getElem.1 h
 refine ⟨a,?_⟩
 unfold Y3
 rw[List.getD_eq_getElem?_getD,List.getElem?_eq_getElem a]
 simpa using b
theorem Q1D {l:List Cla} (e:Ja l) (b:T9 l) {i j:Nat} (g:i<l.length) {u:X0} (f:u∈U3 (l.getD i Cla.zero)) (a:Z2 l u=some j):P1 l (Y3 l j)<P1 l (Y3 l i):=by
 obtain ⟨c,d,_⟩:=Zm a
 rw[(S7 a).2]
 exact Xq e (Yh b g) f d
theorem Bw {α β:Type} {f g:β→α→β}: ∀(xs:List α) (b:β),(∀b x,x∈xs→f b x=g b x)→xs.foldl f b=xs.foldl g b
 | [],_,_=>rfl
 | x::r,b,h=>by
  rw[List.foldl_cons,List.foldl_cons,h b x (by simp)]
  exact Bw r _ fun b y a=>h b y (by simp[a])
theorem Zb {l:List Cla} {frm:Nat} (f:Nat) (a:List Nat) {i:Nat} (h:i<frm):A5 l frm f a i=a:=by
 cases f<;>simp[A5,h]
theorem Q9e {l:List Cla} (e:Ja l) (o:T9 l) {frm:Nat} (c:0<frm): ∀(f g:Nat) (a:List Nat) (i:Nat),i<l.length→P1 l (Y3 l i)<f→P1 l (Y3 l i)<g→A5 l frm f a i=A5 l frm g a i:=by
 intro f
 induction f with
 | zero=>intro g a i _ h;omega
 | succ f n=>
  intro g a i p r q
  obtain ⟨g,rfl⟩: ∃m,g=m+1:=⟨g-1,by omega⟩
  simp only[A5]
  split
  ·rfl
  ·split
   ·rfl
   ·congr 1
    refine Bw _ _ fun b u k=>?_
    cases d:Z2 l u with
    | none=>simp only[Option.getD_none];rw[Zb f b c,Zb g b c]
    | some j=>
     simp only[Option.getD_some]
     have:=Q1D e o p k d
     exact n g b j (S7 d).1 (by omega) (by omega)
def Xx (l:List Cla) (frm:Nat) (a:List Nat) (i:Nat):List Nat:=A5 l frm (l.length+1) a i
theorem Q7g {l:List Cla} (f:Ja l) (d:T9 l) {frm:Nat} (c:0<frm) (a:List Nat) {i:Nat} (h:i<l.length):Xx l frm a i=if i<frm then a else if i∈a then a else
 ((U3 (l.getD i Cla.zero)).foldl (fun a n=>Xx l frm a ((Z2 l n).getD 0)) a)++[i]:=by
 have k:=Q1J l (Y3 l i)
 unfold Xx
 rw[A5]
 split
 ·rfl
 ·split
  ·rfl
  ·congr 1
   refine Bw _ _ fun b u g=>?_
   cases e:Z2 l u with
   | none=>simp only[Option.getD_none];rw[Zb _ b c,Zb _ b c]
   | some j=>
    simp only[Option.getD_some]
    have:=Q1D f d h g e
    exact Q9e f d c _ _ b j (S7 e).1 (by omega) (by omega)
theorem Lj {α:Type} {p:Nat→Prop} {f:List Nat→α→List Nat}: ∀(xs:List α) (b:List Nat),(∀b x,x∈xs→ ∀y∈f b x,y∈b∨p y)→ ∀y∈xs.foldl f b,y∈b∨p y
 | [],b,_=>fun y a=> .inl a
 | x::r,b,h=>fun y a=>by
  rw[List.foldl_cons] at a
  rcases Lj r _ (fun b z c=>h b z (by simp[c])) y a with h1 | h1
  ·exact h b x (by simp) y h1
  ·exact .inr h1
theorem Q58 {l:List Cla} (o:T9 l) {frm:Nat} (q:0<frm): ∀(f:Nat) (a:List Nat) (i:Nat),i<l.length→ ∀y∈A5 l frm f a i,y∈a∨(y<l.length∧(y=i∨Wo (lk l) (Y3 l i) (Y3 l y))):=by
 intro f
 induction f with
 | zero=>intro a i _ y hy;exact .inl hy
 | succ f s=>
  intro a i k y hy
  simp only[A5] at hy
  split at hy
  ·exact .inl hy
  ·split at hy
   ·exact .inl hy
   ·rcases List.mem_append.1 hy with hy | hy
    ·refine Lj (p:=fun y=>y<l.length∧(y=i∨Wo (lk l) (Y3 l i) (Y3 l y))) _ _ (fun b u m y hy=>?_) y hy
     cases e:Z2 l u with
     | none=>
      rw[e] at hy
      simp only[Option.getD_none] at hy
      rw[Zb f b q] at hy
      exact .inl hy
     | some j=>
      rw[e] at hy
      simp only[Option.getD_some] at hy
      obtain ⟨g,d⟩:=S7 e
      obtain ⟨c,r,_⟩:=Zm e
      rcases s b j g y hy with h | ⟨n,rfl | h2⟩
      ·exact .inl h
      ·exact .inr ⟨n, .inr ⟨_,Yh o k,u,m,by rw[d];exact .refl r⟩⟩
      ·exact .inr ⟨n, .inr ⟨_,Yh o k,u,m,by rw[←d];exact h2.reach⟩⟩
    ·simp at hy;subst hy;exact .inr ⟨k, .inl rfl⟩
theorem Q35 {α:Type} {q:List Nat→Prop} {f:List Nat→α→List Nat}: ∀(xs:List α) (b:List Nat),(∀b x,x∈xs→q b→q (f b x))→q b→q (xs.foldl f b)
 | [],b,_,h=>h
 | x::r,b,a,h=>by
  rw[List.foldl_cons]
  exact Q35 r _ (fun b z c=>a b z (by simp[c])) (a b x (by simp) h)
def Few (l:List Cla) (a:List Nat):Prop:=a.Nodup∧ ∀y∈a,y<l.length
theorem Few.len {l:List Cla} {b:List Nat} (h:Few l b):b.length≤l.length:=by
 have key: ∀(n:Nat) (b:List Nat),b.Nodup→(∀y∈b,y<n)→b.length≤n:=by
  intro n
  induction n with
  | zero=>
   intro b _ h
   cases b with
   | nil=>simp
   | cons a r=>have:=h a (by simp);omega
  | succ n m=>
   intro b f h
   have k:=m (b.filter (fun y=> !decide (y=n))) (f.sublist List.filter_sublist) (fun y d=>by
    have:=List.mem_filter.1 d
    have j:=h y this.1
    have o:y≠n:=by simpa using this.2
    omega)
   have j:b.length≤(b.filter (fun y=> !decide (y=n))).length+1:=by
    clear k h
    induction b with
    | nil=>simp
    | cons a r c=>
     obtain ⟨g,i⟩:=List.nodup_cons.1 f
     by_cases e:a=n
     ·subst e
      have:r.filter (fun y=> !decide (y=a))=r:=List.filter_eq_self.2 fun y d=>by simp;rintro rfl;exact g d
      simp[this]
     ·have:=c i
      simp[e];exact this
   omega
 exact key _ _ h.1 h.2
theorem Pr {l:List Cla} (r:Ja l) (t:T9 l) {frm:Nat} (q:0<frm): ∀(f:Nat) (d:List Nat) (i:Nat),i<l.length→Few l d→Few l (A5 l frm f d i):=by
 intro f
 induction f with
 | zero=>intro d i _ h;exact h
 | succ f C=>
  intro d i A h
  simp only[A5]
  split
  ·exact h
  ·split
   ·exact h
   ·rename_i o
    have z:Few l ((U3 (l.getD i Cla.zero)).foldl (fun d n=>A5 l frm f d ((Z2 l n).getD 0)) d):=by
     refine Q35 _ _ (fun b u s g=>?_) h
     cases e:Z2 l u with
     | none=>simp only[Option.getD_none];rw[Zb f b q];exact g
     | some j=>exact C b j (S7 e).1 g
    have w:i∉(U3 (l.getD i Cla.zero)).foldl (fun d n=>A5 l frm f d ((Z2 l n).getD 0)) d:=by
     intro k
     rcases Lj (p:=fun y=>Wo (lk l) (Y3 l i) (Y3 l y)) _ _ (fun b u s y hy=>by
      cases e:Z2 l u with
      | none=>
       rw[e] at hy
       simp only[Option.getD_none] at hy
       rw[Zb f b q] at hy
       exact .inl hy
      | some j=>
       rw[e] at hy
       simp only[Option.getD_some] at hy
       obtain ⟨v,m⟩:=S7 e
       obtain ⟨c,B,_⟩:=Zm e
       rcases Q58 t q f b j v y hy with h | ⟨h1,rfl | h2⟩
       ·exact .inl h
       ·exact .inr ⟨_,Yh t A,u,s,by rw[m];exact .refl B⟩
       ·exact .inr ⟨_,Yh t A,u,s,by rw[←m];exact h2.reach⟩) i k with h1 | h1
     ·exact o h1
     ·exact r _ h1
    refine ⟨?_,fun y hy=>?_⟩
    ·rw[List.nodup_append]
     exact ⟨z.1,by simp,by rintro a r b g rfl;simp at g;subst g;exact w r⟩
    ·rcases List.mem_append.1 hy with hy | hy
     ·exact z.2 y hy
     ·simp at hy;omega
end Go.Hm

namespace Go.Emb
open Go.RowKit Go.Hm
variable {P : Program} {w w0 w1 w' w'' : World} {K : Value → World → Prop} {σ σ0 σ1 σ' : Q6}
def Vs (sz:Nat) (v:Value) (i:Nat):Addr:=match v with
 | .slice (some b) _ _=>b.add (i*sz)
 | _=>⟨0,0,none⟩
section
variable {α : Type} {R : Q6 → α → List Value → Prop} {sz : Nat} {v : Value} {xs : List α}
theorem Sl.el (h:Sl sz R σ v xs) {i:Nat} (j:i<xs.length): ∃cs,Z5 σ (Vs sz v i) cs∧cs.length=sz∧R σ xs[i] cs:=by
 obtain ⟨a,d,rfl,l,m,e,c⟩:=h
 cases a with
 | none=>have:=e rfl;omega
 | some b=>
  obtain ⟨cs,k,f,g⟩:=(c b rfl).2 i xs[i] (by simp[j])
  exact ⟨cs,k,f,g⟩
theorem Y0 {t e:TypeId} {c:Nat} {z:Value} [TS P t e] [TZ P e sz c z] (h:Sl sz R σ v xs) {i:Nat} (m:i<xs.length) (d:K (.pointer (some (Vs sz v i))) w):indexAddr P t v (I i) w K:=by
 obtain ⟨a,g,rfl,k,l,f,j⟩:=h
 cases a with
 | none=>have:=f rfl;omega
 | some b=>
  rw[Ss (by omega) (by omega)]
  simpa [Vs] using d
theorem Sl.elS {xs:List Kd.X0} (h:Sl 1 U8 σ v xs) {i:Nat} (c:i<xs.length):Z5 σ (Vs 1 v i) [S xs[i]]∧xs[i].length≤U1:=by
 obtain ⟨cs,b,d,rfl,a⟩:=h.el c;exact ⟨b,a⟩
theorem Sl.elF {xs:List Fld} (h:Sl 3 S2 σ v xs) {i:Nat} (c:i<xs.length):Z5 σ (Vs 3 v i) [S xs[i].name,S xs[i].kind, .bool xs[i].tr]∧S2 σ xs[i] [S xs[i].name,S xs[i].kind, .bool xs[i].tr]:=by
 obtain ⟨cs,b,d,rfl,a⟩:=h.el c;exact ⟨b,rfl,a⟩
theorem Sl.elI {xs:List Ins} (h:Sl 3 Qo σ v xs) {i:Nat} (c:i<xs.length):Z5 σ (Vs 3 v i) [S xs[i].op,I xs[i].n,S xs[i].s]∧Qo σ xs[i] [S xs[i].op,I xs[i].n,S xs[i].s]:=by
 obtain ⟨cs,b,d,rfl,a⟩:=h.el c;exact ⟨b,rfl,a⟩
theorem Sl.elK {xs:List Cat} (h:Sl 4 Jz σ v xs) {i:Nat} (c:i<xs.length):Z5 σ (Vs 4 v i) [I xs[i].frm,I xs[i].to,I xs[i].at_,S xs[i].cls]∧Jz σ xs[i] [I xs[i].frm,I xs[i].to,I xs[i].at_,S xs[i].cls]:=by
 obtain ⟨cs,b,d,rfl,a⟩:=h.el c;exact ⟨b,rfl,a⟩
theorem Sl.conv {α β:Type} {R:Q6→α→List Value→Prop} {R':Q6→β→List Value→Prop} {sz:Nat} {v:Value} {xs:List α} {ys:List β} (h:Sl sz R σ v xs) (f:ys.length=xs.length) (n: ∀i (j:i<xs.length) (t:i<ys.length) cs,R σ xs[i] cs→R' σ ys[i] cs):Sl sz R' σ v ys:=by
 obtain ⟨a,d,rfl,o,k,l,g⟩:=h
 refine ⟨a,d,by rw[f],by rw[f];exact o,k,l,fun b e=>⟨fun s=>(g b e).1 (by omega),fun i x p=>?_⟩⟩
 obtain ⟨j,rfl⟩:=List.getElem?_eq_some_iff.1 p
 have c:i<xs.length:=by omega
 obtain ⟨cs,r,m,q⟩:=(g b e).2 i xs[i] (List.getElem?_eq_getElem c)
 exact ⟨cs,r,m,n i c j cs q⟩
theorem Sl.elM {xs:List Hm.Met} (h:Sl 7 E8 σ v xs) {i:Nat} (e:i<xs.length): ∃pv b a,Z5 σ (Vs 7 v i) [S xs[i].name,pv,S xs[i].result, .bool xs[i].abs,I xs[i].locals,b,a]∧E8 σ xs[i] [S xs[i].name,pv,S xs[i].result, .bool xs[i].abs,I xs[i].locals,b,a]:=by
 obtain ⟨cs,c,f,pv,b,a,rfl,d⟩:=h.el e;exact ⟨pv,b,a,c,pv,b,a,rfl,d⟩
theorem Sl.elC {xs:List Cla} (h:Sl 8 V0 σ v xs) {i:Nat} (e:i<xs.length): ∃b a mv,Z5 σ (Vs 8 v i) [S xs[i].name,S xs[i].super,b, .bool xs[i].iface, .bool xs[i].abs, .bool xs[i].fin,a,mv]∧V0 σ xs[i] [S xs[i].name,S xs[i].super,b, .bool xs[i].iface, .bool xs[i].abs, .bool xs[i].fin,a,mv]:=by
 obtain ⟨cs,c,f,b,a,mv,rfl,d⟩:=h.el e;exact ⟨b,a,mv,c,b,a,mv,rfl,d⟩
end
theorem J4 {c:World→World→Prop} {A a:(Value→World→Prop)→Prop} {V:Value} (h:A (fun v _=>V=v)) (b:a (fun v _=>V=v)):Q5 c A a:=H4 _ (fun _ _ _ h _=>h) h b
theorem O3 {v V:Value} (h:V=v):dk (fun w w'=>Below w.heap.size w w') (fun v _=>V=v) w v w:=⟨Below.refl _ _,h⟩
theorem S4 {v V:Value} (a:Below w.heap.size w w') (h:V=v):dk (fun w w'=>Below w.heap.size w w') (fun v _=>V=v) w v w':=⟨a,h⟩
theorem G8 {c b:Bool} {V:Value} {a:World→(Value→World→Prop)→Prop} (h:c=b→a w (dk (fun w w'=>Below w.heap.size w w') (fun v _=>V=v) w)):Q0 (.bool c) b w a (dk (fun w w'=>Below w.heap.size w w') (fun v _=>(if c=b then V else undef)=v) w):=by
 by_cases e:c=b
 ·simp only[e,if_true]
  subst e
  have:=h rfl
  cases c
  ·rw[W7];exact this
  ·rw[W3];exact this
 ·have d:c= !b:=by cases c<;>cases b<;>simp_all
  rw[if_neg e];subst d
  cases b
  ·rw[Bool.not_false,S6];exact ⟨Below.refl _ _,rfl⟩
  ·rw[Bool.not_true,E2];exact ⟨Below.refl _ _,rfl⟩
theorem Qc {p:Prop} (hq:p:=by intros;(repeat (rename_i hx;subst hx));(repeat' (first | (with_reducible exact O3 rfl) | (with_reducible exact S4 (Stp.bel (by (repeat (first | exact Stp.refl (by (first | assumption | exact Stp.sat (by assumption) | exact Hst.sat (by assumption))) | assumption | refine Stp.trans ?_ (by first | assumption | exact Hst.stp (by assumption)))))) rfl) | (with_reducible intro _) | (simp only[↓M2,M2,Mb,reduceIte]) | (with_reducible show Q2 _ _ _ _ _;first | refine X7 aS aL aR ?_ | refine Y4 aS aL aR ?_ | refine ld aS aL aR ?_) | (with_reducible show indexAddr _ _ _ _ _ _;refine Y0 aL au ?_) | (with_reducible show X2 _ _ _ _ _ _ _ _;refine Q8 aL ?_) | (with_reducible show F5 _ _ _ _ _ _;refine J0 aR ?_) | (with_reducible show pick _ _ _ _ _ _;refine M3 ?_) | (apply G8;intro hh;(try simp only[hh,reduceIte,↓M2,M2,Mb,reduceIte]))));done):p:=hq
end Go.Emb

namespace Go.Emb
open Go.RowKit Go.Hm
variable {P : Program} {w w0 w1 w' w'' : World} {K : Value → World → Prop} {σ σ0 σ1 σ' : Q6}
section
variable {α : Type} {R : Q6 → α → List Value → Prop} {B sz : Nat} {e : TypeId} {v u : Value} {xs ys : List α}
def Emp (v:Value):Prop:= ∃a,v= .slice a 0 0
theorem Q7b {t y:TypeId} {s:Nat} {z:Value} {cs:List Bool} [ts:TS P t e] [tz:TZ P e sz s z] [hr:Rep R] (X:Stp w0 σ0 w σ) (ha:V6 w0.heap.size e sz R σ w v []) (hv:Emp v) (L:X3 w σ') (U:Sl sz R σ' u ys) (hR: ∀x cs,R σ' x cs→R σ x cs) (Z:(z.cells.size==sz&&decide (0<sz))=true)
 (hb:ys.length*s≤140737488355328) (hm:ys.length≤1000000000000)
 (h: ∀j w',Stp w σ w' σ→V6 w0.heap.size e sz R σ w' j ys→K j w'):X2 P .append [t,t] y cs [v,u] w K:=by
 obtain ⟨l,rfl⟩:=hv
 have M:=X.sat
 obtain ⟨a,d,c,rfl,n1,r,n3,n4,n5⟩:=U.cells L
 obtain ⟨i,hi,E,D,n⟩:=tz.info
 simp only[Bool.and_eq_true,beq_iff_eq,decide_eq_true_eq] at Z
 obtain ⟨Q,an⟩:=Z
 have g:Src P i.size t (.slice a ys.length d) ys.length c w:=by
  cases a with
  | some b=>exact Src.ofSlice w ts.h b ys.length d c (by rw[E];exact r) (n3 b rfl) n4
  | none=>
   have C:ys.length=0:=by
    obtain ⟨W,Y,e',q1,_,q3,_⟩:=U;injection e' with e1 e2 e3;have:=n1 rfl;omega
   have N:c=[]:=List.eq_nil_of_length_eq_zero (by rw[r,C];simp)
   subst N
   rw[C];exact Src.ofNil w ts.h d
 have p: ∀j w',(Builtin.append_ #[t,t] y #[.slice l 0 0, .slice a ys.length d]).run P w= .ok j w'→Stp w σ w' σ→V6 w0.heap.size e sz R σ w' j ys→X2 P .append [t,t] y cs [.slice l 0 0, .slice a ys.length d] w K:=by
  intro j w' f J hq
  have m:(builtin .append #[t,t] y cs.toArray #[.slice l 0 0, .slice a ys.length d]).run P w= .ok (.value j) w':=by
   simp[builtin,f]
  unfold X2
  rw[T7];unfold P8
  rw[m]
  exact h j w' J hq
 by_cases C:ys=[]
 ·subst C
  have N:c=[]:=List.eq_nil_of_length_eq_zero (by simpa using r)
  subst N
  refine p (.slice l 0 0) w ?_ (Stp.refl M) ha
  have V:=g.len w
  have q:=g.cells
  simp only[List.length_nil] at V q⊢
  cases l<;>simp[Builtin.append_,run_underlying ts.h,sizeOf,typeInfo,hi,V,q,storeCells]
 ·have af:0<ys.length:=List.length_pos_iff.2 C
  have o:(Builtin.firstCells i.size 0 (.slice l 0 0)).run P w.drew= .ok (#[]:Array Value) w.drew:=by
   cases l with
   | none=>exact run_firstCells_none w.drew i.size 0 0 0
   | some W=>exact run_firstCells_some w.drew i.size 0 W 0 0 [] (by simp) (by intro _ _ h';simp at h')
  have hg:0<0+ys.length:=by omega
  have f:=run_append_grow_src (P:=P) w t t y e i z ts.h hi n l 0 0 [] o (.slice a ys.length d) ys.length c g hg (by omega) (growslice_fits hg (by rw[D,Nat.zero_add];exact hb))
  simp only[Nat.zero_add] at f
  have O:=grownCap_le_maxLen w ys.length 0 e (by simp only[maxLen];omega)
  have H:=grownCap_ge w ys.length 0 e
  refine p _ _ f (Stp.of_below M ((Below.refl _ _).drew.alloc (Nat.le_refl _) _)) ⟨c,⟨r, .inr ⟨w.heap.size,_,_,rfl,X.bel.size,heap_alloc_new w.drew _,H,O,?_,?_⟩⟩,?_,fun i x hx=>hR _ _ (n5 i x hx)⟩
  ·simp only[List.nil_append]
   rw[Array.size_append,List.size_toArray,r,size_zeroCells,Q,←Nat.add_mul]
   congr 1;omega
  ·simp only[List.nil_append]
   rw[Array.toList_append]
   rw[List.take_append_of_le_length (by simp only[List.toList_toArray];omega),List.take_of_length_le (by simp only[List.toList_toArray];omega)]
  ·intro k J;cases J;exact M.none (Nat.le_refl _)
theorem X2F {t l:TypeId} {a:Nat} {z:Value} {cs:List Bool} [ts:TS P t e] [tz:TZ P e sz a z] [hr:Rep R] (c:Stp w0 σ0 w σ) (i:V6 w0.heap.size e sz R σ w v []) (d:Emp v) (j:Sl sz R σ u ys) (g:(z.cells.size==sz&&decide (0<sz))=true)
 (k:ys.length*a≤140737488355328) (f:ys.length≤1000000000000)
 (h: ∀b w',Stp w σ w' σ→V6 w0.heap.size e sz R σ w' b ys→K b w'):X2 P .append [t,t] l cs [v,u] w K:=
 Q7b c i d c.sat j (fun _ _ h=>h) g k f h
end
def X0X {α:Type} (w0:World) (σ:Q6) (e:TypeId) (sz:Nat) (R:Q6→α→List Value→Prop) (xs:List α) (v:Value) (w':World):Prop:=Stp w0 σ w' σ∧V6 w0.heap.size e sz R σ w' v xs
def Q8a {α:Type} (w0:World) (σ:Q6) (e:TypeId) (sz:Nat) (R:Q6→α→List Value→Prop) (v:Value) (w':World):Prop:=Stp w0 σ w' σ∧V6 w0.heap.size e sz R σ w' v ([]:List α)∧Emp v
section
variable {α : Type} {R : Q6 → α → List Value → Prop} {sz : Nat} {e : TypeId} {v u : Value} {xs ys : List α} {A rest : (Value → World → Prop) → Prop}
theorem Q1C [Rep R] (xs:List α) (h:A (X0X w σ e sz R xs)) (c:rest (X0X w σ e sz R xs)):Q5 (fun w w'=>Below w.heap.size w w') A rest:=
 H4 _ (fun _ _ _ ⟨a,d⟩ b=>⟨a.trans (Stp.of_below a.sat b),d.up (Stp.of_below a.sat b)⟩) h c
theorem X1L [Rep R] (h:A (Q8a w σ e sz R)) (c:rest (Q8a w σ e sz R)):Q5 (fun w w'=>Below w.heap.size w w') A rest:=
 H4 _ (fun _ _ _ ⟨a,d,f⟩ b=>⟨a.trans (Stp.of_below a.sat b),d.up (Stp.of_below a.sat b),f⟩) h c
theorem Q3t (a:Hst w σ w1 σ) (h:Stp w1 σ w' σ) (b:V6 w.heap.size e sz R σ w' v xs):dk (fun w w'=>Below w.heap.size w w') (X0X w σ e sz R xs) w1 v w':=⟨h.bel,a.stp.trans h,b⟩
theorem X3g (b:Hst w σ w1 σ) (h:Stp w1 σ w' σ) (c:V6 w.heap.size e sz R σ w' v ([]:List α)) (a:Emp v):dk (fun w w'=>Below w.heap.size w w') (Q8a w σ e sz R) w1 v w':=⟨h.bel,b.stp.trans h,c,a⟩
theorem Ej {t:TypeId} {c:Nat} {z:Value} [ts:TS P t e] [tz:TZ P e sz c z] (R:Q6→α→List Value→Prop) (a:Stp w0 σ0 w σ) (d:0<sz)
 (h: ∀v w',Stp w σ w' σ→V6 w0.heap.size e sz R σ w' v ([]:List α)→Emp v→K v w'):buildSlice P t 0 [] w K:=by
 obtain ⟨cells,i,g⟩:=Hs (P:=P) (t:=t) (sz:=sz) (e:=e) [] (by simp) (by simp) w
 unfold buildSlice
 have b:(Instr.buildSlice t 0 ([]:List (Nat×Value)).toArray).run P w=_:=i
 rw[X9 b]
 refine h _ _ (Stp.own a.sat _) ⟨[],⟨by simp, .inr ⟨_,_,cells,rfl,a.bel.size,heap_alloc_new w _,by simp,by simp[maxLen],?_,by simp⟩⟩,?_,by simp⟩ ⟨_,rfl⟩
 ·have:cells.size=0:=by rw[←Array.length_toList,g];rfl
  simp[this]
 ·intro k f;cases f;exact a.sat.none (Nat.le_refl _)
theorem Q30 [Rep R] {t:TypeId} {b:Nat} {z:Value} [ts:TS P t e] [tz:TZ P e sz b z] (a:(decide (0<sz))=true) (f:rest (Q8a w σ e sz R)):
 Q5 (fun w w'=>Below w.heap.size w w') (fun φ=> ∀w1:World,Hst w σ w1 σ→buildSlice P t 0 [] w1 (dk (fun w w'=>Below w.heap.size w w') φ w1)) rest:=
 X1L (fun w1 c=>Ej R c.stp (by simpa using a) fun v w' g h d=>X3g c g h d) f
end
theorem V0.parts {c:Cla} {a b i d e f j mv:Value} (h:V0 σ c [a,b,i,d,e,f,j,mv]):Sl 1 U8 σ i c.like∧Sl 3 S2 σ j c.fields∧Sl 7 E8 σ mv c.methods∧c.name.length≤U1∧c.super.length≤U1:=by
 obtain ⟨_,_,_,g,k⟩:=h
 simp only[List.cons.injEq,and_true] at g
 obtain ⟨_,_,rfl,_,_,_,rfl,rfl⟩:=g
 exact k
theorem E8.parts {m:Hm.Met} {a pv b d e g f:Value} (h:E8 σ m [a,pv,b,d,e,g,f]):Sl 1 U8 σ pv m.params∧Sl 3 Qo σ g m.code∧Sl 4 Jz σ f m.catches∧m.name.length≤U1∧m.result.length≤U1∧Yw m.locals:=by
 obtain ⟨_,_,_,c,i⟩:=h
 simp only[List.cons.injEq,and_true] at c
 obtain ⟨_,rfl,_,_,_,rfl,rfl⟩:=c
 exact i
end Go.Emb

namespace Go.Emb
open Go.RowKit
variable {P : Program} {w : World} {K : Value → World → Prop}
theorem X23 {d:Nat} {xs ys:Array Value}:(Op.eqFields d xs ys []).run P w= .ok true w:=by simp[Op.eqFields]
theorem Iq {d:Nat} {xs ys:Array Value} {f:Field} {a:List Field} {u v:Value} {b c:Bool} (j:f.name≠ "_") [tg:TG P f.type false] (h:xs[f.offset]? =some u) (e:ys[f.offset]? =some v)
 (i:(Op.equalIn d f.type u v).run P w= .ok b w) (g:(Op.eqFields d xs ys a).run P w= .ok c w):(Op.eqFields d xs ys (f::a)).run P w= .ok (b&&c) w:=by
 simp only[Op.eqFields,if_pos j]
 simp[part,Xn tg,h,e,i]
 cases b
 ·simp
 ·simp[g]
theorem X2c {d:Nat} {t:TypeId} (c:P.underlying t=some .string) (a b:List UInt8):(Op.equalIn (d+1) t (S a) (S b)).run P w= .ok (decide (a=b)) w:=by
 simp[Op.equalIn,run_underlying c,Hf]
theorem Q3A {d:Nat} {t:TypeId} {k c:IntKind} (f:P.underlying t=some (.int k)) (a b:Int):(Op.equalIn (d+1) t (.int c a) (.int c b)).run P w= .ok (decide (a=b)) w:=by
 simp[Op.equalIn,run_underlying f]
 by_cases e:a=b<;>simp[e]
theorem X2q {t:TypeId} {c a:Operand} {xs ys:List Value} {b:Bool} (g:P.underlying t=some (.struct (P.fieldsOf t))) (i:P.stoodInHeld t=false) (f:P.eqGuardType P.depth t=false)
 (d:(Op.eqFields 9999 xs.toArray ys.toArray (P.fieldsOf t).toList).run P w= .ok b w) (h:K (.bool (!b)) w):Q3 P .neq t c a (.agg xs.toArray) (.agg ys.toArray) w K:=by
 have e:Q3 P .neq t c a (.agg xs.toArray) (.agg ys.toArray) w K=K (.bool (!b)) w:=X9 (by
  simp only[Sem.run_bind,run_eqGuard_agg w .neq t c a xs.toArray ys.toArray f,Result.andThen_ok]
  rw[run_neq_struct,run_equalIn_struct w 9999 t _ _ g i,d];rfl)
 rw[e];exact h
theorem X1G {t:TypeId} {c a:Operand} {xs ys:List Value} {b:Bool} (g:P.underlying t=some (.struct (P.fieldsOf t))) (i:P.stoodInHeld t=false) (f:P.eqGuardType P.depth t=false)
 (d:(Op.eqFields 9999 xs.toArray ys.toArray (P.fieldsOf t).toList).run P w= .ok b w) (h:K (.bool b) w):Q3 P .eql t c a (.agg xs.toArray) (.agg ys.toArray) w K:=by
 have e:Q3 P .eql t c a (.agg xs.toArray) (.agg ys.toArray) w K=K (.bool b) w:=X9 (by
  simp only[Sem.run_bind,run_eqGuard_agg w .eql t c a xs.toArray ys.toArray f,Result.andThen_ok]
  rw[run_eql_struct,run_equalIn_struct w 9999 t _ _ g i,d];rfl)
 rw[e];exact h
end Go.Emb
namespace Go.Proofs.YtjdiakhipmggjaaGreatDoor
open Go.Emb Go.RowKit Go.Kd Go.Hm
variable {w : World} {K : Value → World → Prop} {σ : Q6}
end Go.Proofs.YtjdiakhipmggjaaGreatDoor

namespace Go.Proofs.YtjdiakhipmggjaaGreatDoor
open Go.Emb Go.RowKit Go.Kd
variable {w : World} {K : Value → World → Prop}
end Go.Proofs.YtjdiakhipmggjaaGreatDoor
