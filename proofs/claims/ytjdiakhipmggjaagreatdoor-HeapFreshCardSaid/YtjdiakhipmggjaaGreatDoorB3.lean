/- Parts of a proof about the given program: its functions as texts of their own, what each computes, plain laws of that. The conditions of each stand in its statement. -/
import Derived.Test.YtjdiakhipmggjaaGreatDoorB2
import Derived.Test.YtjdiakhipmggjaaGreatDoorB1
import Derived.ChangeArms
import Derived.DataReads
import Derived.SizedLaws
import Derived.Deep.AppendSrc
import Derived.Laws.StructEq
set_option linter.unnecessarySimpa false
set_option linter.defProp false
set_option linter.unusedSectionVars false
set_option linter.unusedVariables false
set_option linter.unusedSimpArgs false
namespace Go.Proofs.YtjdiakhipmggjaaGreatDoor
open Go.Emb
instance z_x:TZ P T.x 1 0 (.tuple #[]):=⟨by kernel_rfl⟩
instance g_x:TG P T.x false:=⟨by kernel_rfl⟩
instance z_int64:TZ P T.a1 1 8 (.int .i64 0):=⟨by kernel_rfl⟩
instance g_int64:TG P T.a1 false:=⟨by kernel_rfl⟩
instance z_int:TZ P T.e 1 8 (.int .i64 0):=⟨by kernel_rfl⟩
instance g_int:TG P T.e false:=⟨by kernel_rfl⟩
instance z_bool:TZ P T.u 1 1 (.bool false):=⟨by kernel_rfl⟩
instance g_bool:TG P T.u false:=⟨by kernel_rfl⟩
instance z_uint8:TZ P T.a2 1 1 (.int .u8 0):=⟨by kernel_rfl⟩
instance g_uint8:TG P T.a2 false:=⟨by kernel_rfl⟩
instance z_string:TZ P T.c 1 16 (.string ⟨#[]⟩):=⟨by kernel_rfl⟩
instance g_string:TG P T.c false:=⟨by kernel_rfl⟩
instance z_uintptr:TZ P T.av 1 8 (.int .u64 0):=⟨by kernel_rfl⟩
instance g_uintptr:TG P T.av false:=⟨by kernel_rfl⟩
instance z_int32:TZ P T.an 1 4 (.int .i32 0):=⟨by kernel_rfl⟩
instance g_int32:TG P T.an false:=⟨by kernel_rfl⟩
instance z_P_hier_Table:TZ P T.r 1 8 (.pointer none):=⟨by kernel_rfl⟩
instance g_P_hier_Table:TG P T.r false:=⟨by kernel_rfl⟩
instance z_api_Errno:TZ P T.v 1 8 (.int .i64 0):=⟨by kernel_rfl⟩
instance g_api_Errno:TG P T.v false:=⟨by kernel_rfl⟩
instance z_S_api_Class:TZ P T.i 1 24 (.slice none 0 0):=⟨by kernel_rfl⟩
instance g_S_api_Class:TG P T.i false:=⟨by kernel_rfl⟩
instance s_S_api_Class:TS P T.i 85:=⟨by kernel_rfl⟩
instance z_P_heap_Heap:TZ P T.a5 1 8 (.pointer none):=⟨by kernel_rfl⟩
instance g_P_heap_Heap:TG P T.a5 false:=⟨by kernel_rfl⟩
instance z_api_Value:TZ P T.f 4 40 (.agg #[.int .i64 0, .int .i64 0, .string ⟨#[]⟩, .int .i64 0]):=⟨by kernel_rfl⟩
instance g_api_Value:TG P T.f true:=⟨by kernel_rfl⟩
instance f_api_Value_0:TF P T.f 0 0 3:=⟨by kernel_rfl⟩
instance f_api_Value_1:TF P T.f 1 1 2:=⟨by kernel_rfl⟩
instance f_api_Value_2:TF P T.f 2 2 9:=⟨by kernel_rfl⟩
instance f_api_Value_3:TF P T.f 3 3 3:=⟨by kernel_rfl⟩
instance z_S_api_Cell:TZ P T.g 1 24 (.slice none 0 0):=⟨by kernel_rfl⟩
instance g_S_api_Cell:TG P T.g false:=⟨by kernel_rfl⟩
instance s_S_api_Cell:TS P T.g 78:=⟨by kernel_rfl⟩
instance z_uint16:TZ P T.aq 1 2 (.int .u16 0):=⟨by kernel_rfl⟩
instance g_uint16:TG P T.aq false:=⟨by kernel_rfl⟩
instance z_S_squinchref09_Act:TZ P T.z 1 24 (.slice none 0 0):=⟨by kernel_rfl⟩
instance g_S_squinchref09_Act:TG P T.z false:=⟨by kernel_rfl⟩
instance s_S_squinchref09_Act:TS P T.z 51:=⟨by kernel_rfl⟩
instance z_squinchref09_Heap:TZ P T.a 3 56 (.agg #[.slice none 0 0, .int .i64 0, .slice none 0 0]):=⟨by kernel_rfl⟩
instance g_squinchref09_Heap:TG P T.a true:=⟨by kernel_rfl⟩
instance f_squinchref09_Heap_0:TF P T.a 0 0 26:=⟨by kernel_rfl⟩
instance f_squinchref09_Heap_1:TF P T.a 1 1 3:=⟨by kernel_rfl⟩
instance f_squinchref09_Heap_2:TF P T.a 2 2 37:=⟨by kernel_rfl⟩
instance z_squinchref09_Act:TZ P T.m 8 80 (.agg #[.int .i64 0, .string ⟨#[]⟩, .int .i64 0, .int .i64 0, .int .i64 0, .int .i64 0, .string ⟨#[]⟩, .int .i64 0]):=⟨by kernel_rfl⟩
instance g_squinchref09_Act:TG P T.m true:=⟨by kernel_rfl⟩
instance f_squinchref09_Act_0:TF P T.m 0 0 3:=⟨by kernel_rfl⟩
instance f_squinchref09_Act_1:TF P T.m 1 1 9:=⟨by kernel_rfl⟩
instance f_squinchref09_Act_2:TF P T.m 2 2 2:=⟨by kernel_rfl⟩
instance f_squinchref09_Act_3:TF P T.m 3 3 3:=⟨by kernel_rfl⟩
instance f_squinchref09_Act_4:TF P T.m 4 4 33:=⟨by kernel_rfl⟩
instance z_S_string:TZ P T.h 1 24 (.slice none 0 0):=⟨by kernel_rfl⟩
instance g_S_string:TG P T.h false:=⟨by kernel_rfl⟩
instance s_S_string:TS P T.h 9:=⟨by kernel_rfl⟩
instance z_S_api_Field:TZ P T.k 1 24 (.slice none 0 0):=⟨by kernel_rfl⟩
instance g_S_api_Field:TG P T.k false:=⟨by kernel_rfl⟩
instance s_S_api_Field:TS P T.k 69:=⟨by kernel_rfl⟩
instance z_api_Field:TZ P T.n 3 40 (.agg #[.string ⟨#[]⟩, .string ⟨#[]⟩, .bool false]):=⟨by kernel_rfl⟩
instance g_api_Field:TG P T.n true:=⟨by kernel_rfl⟩
instance f_api_Field_0:TF P T.n 0 0 9:=⟨by kernel_rfl⟩
instance f_api_Field_1:TF P T.n 1 1 9:=⟨by kernel_rfl⟩
instance f_api_Field_2:TF P T.n 2 2 4:=⟨by kernel_rfl⟩
instance z_func_int_2:TZ P T.ak 1 8 .nilFunc:=⟨by kernel_rfl⟩
instance g_func_int_2:TG P T.ak false:=⟨by kernel_rfl⟩
instance z_S_api_Value:TZ P T.l 1 24 (.slice none 0 0):=⟨by kernel_rfl⟩
instance g_S_api_Value:TG P T.l false:=⟨by kernel_rfl⟩
instance s_S_api_Value:TS P T.l 33:=⟨by kernel_rfl⟩
instance z_api_Cell:TZ P T.o 2 40 (.agg #[.string ⟨#[]⟩, .slice none 0 0]):=⟨by kernel_rfl⟩
instance g_api_Cell:TG P T.o true:=⟨by kernel_rfl⟩
instance f_api_Cell_0:TF P T.o 0 0 9:=⟨by kernel_rfl⟩
instance f_api_Cell_1:TF P T.o 1 1 76:=⟨by kernel_rfl⟩
instance z_M_string_int:TZ P T.a3 1 8 (.map none):=⟨by kernel_rfl⟩
instance g_M_string_int:TG P T.a3 false:=⟨by kernel_rfl⟩
instance m_M_string_int:TM P T.a3 9 3:=⟨by kernel_rfl⟩
instance z_hier_Table:TZ P T.a0 2 32 (.agg #[.slice none 0 0, .map none]):=⟨by kernel_rfl⟩
instance g_hier_Table:TG P T.a0 true:=⟨by kernel_rfl⟩
instance f_hier_Table_0:TF P T.a0 0 0 26:=⟨by kernel_rfl⟩
instance f_hier_Table_1:TF P T.a0 1 1 80:=⟨by kernel_rfl⟩
instance z_S_api_Method:TZ P T.j 1 24 (.slice none 0 0):=⟨by kernel_rfl⟩
instance g_S_api_Method:TG P T.j false:=⟨by kernel_rfl⟩
instance s_S_api_Method:TS P T.j 98:=⟨by kernel_rfl⟩
instance z_api_Class:TZ P T.b 8 112 (.agg #[.string ⟨#[]⟩, .string ⟨#[]⟩, .slice none 0 0, .bool false, .bool false, .bool false, .slice none 0 0, .slice none 0 0]):=⟨by kernel_rfl⟩
instance g_api_Class:TG P T.b true:=⟨by kernel_rfl⟩
instance f_api_Class_0:TF P T.b 0 0 9:=⟨by kernel_rfl⟩
instance f_api_Class_1:TF P T.b 1 1 9:=⟨by kernel_rfl⟩
instance f_api_Class_2:TF P T.b 2 2 54:=⟨by kernel_rfl⟩
instance f_api_Class_3:TF P T.b 3 3 4:=⟨by kernel_rfl⟩
instance f_api_Class_4:TF P T.b 4 4 4:=⟨by kernel_rfl⟩
instance f_api_Class_5:TF P T.b 5 5 4:=⟨by kernel_rfl⟩
instance f_api_Class_6:TF P T.b 6 6 65:=⟨by kernel_rfl⟩
instance f_api_Class_7:TF P T.b 7 7 83:=⟨by kernel_rfl⟩
instance z_func_string_bool:TZ P T.a4 1 8 .nilFunc:=⟨by kernel_rfl⟩
instance g_func_string_bool:TG P T.a4 false:=⟨by kernel_rfl⟩
instance z_S_int:TZ P T.a7 1 24 (.slice none 0 0):=⟨by kernel_rfl⟩
instance g_S_int:TG P T.a7 false:=⟨by kernel_rfl⟩
instance s_S_int:TS P T.a7 3:=⟨by kernel_rfl⟩
instance z_api_Instr:TZ P T.w 3 40 (.agg #[.string ⟨#[]⟩, .int .i64 0, .string ⟨#[]⟩]):=⟨by kernel_rfl⟩
instance g_api_Instr:TG P T.w true:=⟨by kernel_rfl⟩
instance f_api_Instr_0:TF P T.w 0 0 9:=⟨by kernel_rfl⟩
instance f_api_Instr_1:TF P T.w 1 1 2:=⟨by kernel_rfl⟩
instance f_api_Instr_2:TF P T.w 2 2 9:=⟨by kernel_rfl⟩
instance z_S_api_Instr:TZ P T.q 1 24 (.slice none 0 0):=⟨by kernel_rfl⟩
instance g_S_api_Instr:TG P T.q false:=⟨by kernel_rfl⟩
instance s_S_api_Instr:TS P T.q 94:=⟨by kernel_rfl⟩
instance z_S_api_Catch:TZ P T.s 1 24 (.slice none 0 0):=⟨by kernel_rfl⟩
instance g_S_api_Catch:TG P T.s false:=⟨by kernel_rfl⟩
instance s_S_api_Catch:TS P T.s 172:=⟨by kernel_rfl⟩
instance z_api_Method:TZ P T.d 7 120 (.agg #[.string ⟨#[]⟩, .slice none 0 0, .string ⟨#[]⟩, .bool false, .int .i64 0, .slice none 0 0, .slice none 0 0]):=⟨by kernel_rfl⟩
instance g_api_Method:TG P T.d true:=⟨by kernel_rfl⟩
instance f_api_Method_0:TF P T.d 0 0 9:=⟨by kernel_rfl⟩
instance f_api_Method_1:TF P T.d 1 1 54:=⟨by kernel_rfl⟩
instance f_api_Method_2:TF P T.d 2 2 9:=⟨by kernel_rfl⟩
instance f_api_Method_3:TF P T.d 3 3 4:=⟨by kernel_rfl⟩
instance f_api_Method_4:TF P T.d 4 4 3:=⟨by kernel_rfl⟩
instance f_api_Method_5:TF P T.d 5 5 95:=⟨by kernel_rfl⟩
instance f_api_Method_6:TF P T.d 6 6 96:=⟨by kernel_rfl⟩
instance z_heap_Heap:TZ P T.p 4 48 (.agg #[.pointer none, .int .i64 0, .int .i64 0, .slice none 0 0]):=⟨by kernel_rfl⟩
instance g_heap_Heap:TG P T.p true:=⟨by kernel_rfl⟩
instance f_heap_Heap_0:TF P T.p 0 0 22:=⟨by kernel_rfl⟩
instance f_heap_Heap_1:TF P T.p 1 1 3:=⟨by kernel_rfl⟩
instance f_heap_Heap_2:TF P T.p 2 2 3:=⟨by kernel_rfl⟩
instance f_heap_Heap_3:TF P T.p 3 3 37:=⟨by kernel_rfl⟩
instance z_func_string_string:TZ P T.ac 1 8 .nilFunc:=⟨by kernel_rfl⟩
instance g_func_string_string:TG P T.ac false:=⟨by kernel_rfl⟩
instance z_A6_string:TZ P T.ao 6 96 (.agg #[.string ⟨#[]⟩, .string ⟨#[]⟩, .string ⟨#[]⟩, .string ⟨#[]⟩, .string ⟨#[]⟩, .string ⟨#[]⟩]):=⟨by kernel_rfl⟩
instance g_A6_string:TG P T.ao true:=⟨by kernel_rfl⟩
instance a_A6_string:TA P T.ao 6 9:=⟨by kernel_rfl⟩
instance z_M_string_string:TZ P T.y 1 8 (.map none):=⟨by kernel_rfl⟩
instance g_M_string_string:TG P T.y false:=⟨by kernel_rfl⟩
instance m_M_string_string:TM P T.y 9 9:=⟨by kernel_rfl⟩
instance z_func_api_Method_string:TZ P T.a9 1 8 .nilFunc:=⟨by kernel_rfl⟩
instance g_func_api_Method_string:TG P T.a9 false:=⟨by kernel_rfl⟩
instance z_func_api_Method_bool:TZ P T.ae 1 8 .nilFunc:=⟨by kernel_rfl⟩
instance g_func_api_Method_bool:TG P T.ae false:=⟨by kernel_rfl⟩
instance z_S_S_bool:TZ P T.a8 1 24 (.slice none 0 0):=⟨by kernel_rfl⟩
instance g_S_S_bool:TG P T.a8 false:=⟨by kernel_rfl⟩
instance s_S_S_bool:TS P T.a8 148:=⟨by kernel_rfl⟩
instance z_S_bool:TZ P T.a6 1 24 (.slice none 0 0):=⟨by kernel_rfl⟩
instance g_S_bool:TG P T.a6 false:=⟨by kernel_rfl⟩
instance s_S_bool:TS P T.a6 4:=⟨by kernel_rfl⟩
instance g_A256_uint8:TG P T.au true:=⟨by kernel_rfl⟩
instance a_A256_uint8:TA P T.au 256 5:=⟨by kernel_rfl⟩
instance z_utf8_acceptRange:TZ P T.aj 2 2 (.agg #[.int .u8 0, .int .u8 0]):=⟨by kernel_rfl⟩
instance g_utf8_acceptRange:TG P T.aj true:=⟨by kernel_rfl⟩
instance f_utf8_acceptRange_0:TF P T.aj 0 0 5:=⟨by kernel_rfl⟩
instance f_utf8_acceptRange_1:TF P T.aj 1 1 5:=⟨by kernel_rfl⟩
instance z_A16_utf8_acceptRange:TZ P T.al 32 32 (.agg #[.int .u8 0, .int .u8 0, .int .u8 0, .int .u8 0, .int .u8 0, .int .u8 0, .int .u8 0, .int .u8 0, .int .u8 0, .int .u8 0, .int .u8 0, .int .u8 0, .int .u8 0, .int .u8 0, .int .u8 0, .int .u8 0, .int .u8 0, .int .u8 0, .int .u8 0, .int .u8 0, .int .u8 0, .int .u8 0, .int .u8 0, .int .u8 0, .int .u8 0, .int .u8 0, .int .u8 0, .int .u8 0, .int .u8 0, .int .u8 0, .int .u8 0, .int .u8 0]):=⟨by kernel_rfl⟩
instance g_A16_utf8_acceptRange:TG P T.al true:=⟨by kernel_rfl⟩
instance a_A16_utf8_acceptRange:TA P T.al 16 156:=⟨by kernel_rfl⟩
instance z_func_api_Field_string:TZ P T.aa 1 8 .nilFunc:=⟨by kernel_rfl⟩
instance g_func_api_Field_string:TG P T.aa false:=⟨by kernel_rfl⟩
instance z_func_api_Field_bool:TZ P T.ag 1 8 .nilFunc:=⟨by kernel_rfl⟩
instance g_func_api_Field_bool:TG P T.ag false:=⟨by kernel_rfl⟩
instance z_api_Catch:TZ P T.t 4 40 (.agg #[.int .i64 0, .int .i64 0, .int .i64 0, .string ⟨#[]⟩]):=⟨by kernel_rfl⟩
instance g_api_Catch:TG P T.t true:=⟨by kernel_rfl⟩
instance f_api_Catch_0:TF P T.t 0 0 3:=⟨by kernel_rfl⟩
instance f_api_Catch_1:TF P T.t 1 1 3:=⟨by kernel_rfl⟩
instance f_api_Catch_2:TF P T.t 2 2 3:=⟨by kernel_rfl⟩
instance f_api_Catch_3:TF P T.t 3 3 9:=⟨by kernel_rfl⟩
instance z_uint64:TZ P T.ax 1 8 (.int .u64 0):=⟨by kernel_rfl⟩
instance g_uint64:TG P T.ax false:=⟨by kernel_rfl⟩
instance g_strings_asciiSet:TG P T.ab true:=⟨by kernel_rfl⟩
instance a_strings_asciiSet:TA P T.ab 256 4:=⟨by kernel_rfl⟩
instance z_func_api_Catch_bool:TZ P T.ah 1 8 .nilFunc:=⟨by kernel_rfl⟩
instance g_func_api_Catch_bool:TG P T.ah false:=⟨by kernel_rfl⟩
instance z_func_api_Instr_bool:TZ P T.ai 1 8 .nilFunc:=⟨by kernel_rfl⟩
instance g_func_api_Instr_bool:TG P T.ai false:=⟨by kernel_rfl⟩
instance z_S_uint8:TZ P T.ar 1 24 (.slice none 0 0):=⟨by kernel_rfl⟩
instance g_S_uint8:TG P T.ar false:=⟨by kernel_rfl⟩
instance s_S_uint8:TS P T.ar 5:=⟨by kernel_rfl⟩
instance z_strings_Builder:TZ P T.am 2 32 (.agg #[.pointer none, .slice none 0 0]):=⟨by kernel_rfl⟩
instance g_strings_Builder:TG P T.am true:=⟨by kernel_rfl⟩
instance f_strings_Builder_0:TF P T.am 0 0 202:=⟨by kernel_rfl⟩
instance f_strings_Builder_1:TF P T.am 1 1 203:=⟨by kernel_rfl⟩
instance z_P_uint8:TZ P T.aw 1 8 (.pointer none):=⟨by kernel_rfl⟩
instance g_P_uint8:TG P T.aw false:=⟨by kernel_rfl⟩
instance z_code_op:TZ P T.ad 3 24 (.agg #[.string ⟨#[]⟩, .bool false, .bool false]):=⟨by kernel_rfl⟩
instance g_code_op:TG P T.ad true:=⟨by kernel_rfl⟩
instance f_code_op_0:TF P T.ad 0 0 9:=⟨by kernel_rfl⟩
instance f_code_op_1:TF P T.ad 1 1 4:=⟨by kernel_rfl⟩
instance f_code_op_2:TF P T.ad 2 2 4:=⟨by kernel_rfl⟩
instance g_A42_code_op:TG P T.af true:=⟨by kernel_rfl⟩
instance a_A42_code_op:TA P T.af 42 225:=⟨by kernel_rfl⟩
instance z_S_code_op:TZ P T.ap 1 24 (.slice none 0 0):=⟨by kernel_rfl⟩
instance g_S_code_op:TG P T.ap false:=⟨by kernel_rfl⟩
instance s_S_code_op:TS P T.ap 225:=⟨by kernel_rfl⟩
instance z_uint32:TZ P T.ay 1 4 (.int .u32 0):=⟨by kernel_rfl⟩
instance g_uint32:TG P T.ay false:=⟨by kernel_rfl⟩
end Go.Proofs.YtjdiakhipmggjaaGreatDoor

namespace Go.Emb
theorem aS {p:Prop} (h:p:=by (first | assumption | exact Stp.sat (by assumption) | exact Hst.sat (by assumption))):p:=h
theorem aL {p:Prop} (h:p:=by (first | assumption | exact Sl.lift (by assumption) (by (repeat (first | exact SLe.refl _ | refine SLe.more ?_ (by assumption) | refine SLe.more ?_ (Nxt.le (by assumption)) | refine SLe.step ?_ (by assumption)))) | exact Z6.lift (by assumption) (by (repeat (first | exact SLe.refl _ | refine SLe.more ?_ (by assumption) | refine SLe.more ?_ (Nxt.le (by assumption)) | refine SLe.step ?_ (by assumption)))) | exact Xo.lift (by assumption) (by (repeat (first | exact SLe.refl _ | refine SLe.more ?_ (by assumption) | refine SLe.more ?_ (Nxt.le (by assumption)) | refine SLe.step ?_ (by assumption)))) | exact RCl_lift (by assumption) (by (repeat (first | exact SLe.refl _ | refine SLe.more ?_ (by assumption) | refine SLe.more ?_ (Nxt.le (by assumption)) | refine SLe.step ?_ (by assumption)))) | exact RMe_lift (by assumption) (by (repeat (first | exact SLe.refl _ | refine SLe.more ?_ (by assumption) | refine SLe.more ?_ (Nxt.le (by assumption)) | refine SLe.step ?_ (by assumption)))) | exact Glb.lift (by assumption) (by (repeat (first | exact SLe.refl _ | refine SLe.more ?_ (by assumption) | refine SLe.more ?_ (Nxt.le (by assumption)) | refine SLe.step ?_ (by assumption)))) | exact Tab.lift (by assumption) (by (repeat (first | exact SLe.refl _ | refine SLe.more ?_ (by assumption) | refine SLe.more ?_ (Nxt.le (by assumption)) | refine SLe.step ?_ (by assumption)))) | exact RIn_any (by assumption) | exact RFd_any (by assumption) | exact RCa_any (by assumption))):p:=h
theorem aR {p:Prop} (h:p:=by with_unfolding_all rfl):p:=h
theorem aF {p:Prop} (a:p:=by (refine Eq.subst (motive:=fun b=>K b _) ?_ (h _ _ (by (repeat (first | exact Stp.refl (by (first | assumption | exact Stp.sat (by assumption) | exact Hst.sat (by assumption))) | assumption | refine Stp.trans ?_ (by first | assumption | exact Hst.stp (by assumption))))));clear h;(try clear hA);(try clear hB);(try clear hC);first | rfl | ((try simp only[Bool.not_eq_true',Bool.not_eq_false',Bool.not_true,Bool.not_false,Bool.not_eq_true] at*);simp only[*,Mb,reduceIte];done) | (simp[*];done) | simp_all)):p:=a
theorem au {p:Prop} (h:p:=by (first | assumption | (first | assumption | exact Stp.sat (by assumption) | exact Hst.sat (by assumption)) | (first | assumption | exact Sl.lift (by assumption) (by (repeat (first | exact SLe.refl _ | refine SLe.more ?_ (by assumption) | refine SLe.more ?_ (Nxt.le (by assumption)) | refine SLe.step ?_ (by assumption)))) | exact Z6.lift (by assumption) (by (repeat (first | exact SLe.refl _ | refine SLe.more ?_ (by assumption) | refine SLe.more ?_ (Nxt.le (by assumption)) | refine SLe.step ?_ (by assumption)))) | exact Xo.lift (by assumption) (by (repeat (first | exact SLe.refl _ | refine SLe.more ?_ (by assumption) | refine SLe.more ?_ (Nxt.le (by assumption)) | refine SLe.step ?_ (by assumption)))) | exact RCl_lift (by assumption) (by (repeat (first | exact SLe.refl _ | refine SLe.more ?_ (by assumption) | refine SLe.more ?_ (Nxt.le (by assumption)) | refine SLe.step ?_ (by assumption)))) | exact RMe_lift (by assumption) (by (repeat (first | exact SLe.refl _ | refine SLe.more ?_ (by assumption) | refine SLe.more ?_ (Nxt.le (by assumption)) | refine SLe.step ?_ (by assumption)))) | exact Glb.lift (by assumption) (by (repeat (first | exact SLe.refl _ | refine SLe.more ?_ (by assumption) | refine SLe.more ?_ (Nxt.le (by assumption)) | refine SLe.step ?_ (by assumption)))) | exact Tab.lift (by assumption) (by (repeat (first | exact SLe.refl _ | refine SLe.more ?_ (by assumption) | refine SLe.more ?_ (Nxt.le (by assumption)) | refine SLe.step ?_ (by assumption)))) | exact RIn_any (by assumption) | exact RFd_any (by assumption) | exact RCa_any (by assumption)) | exact Nat.le_trans (by assumption) (by decide) | omega)):p:=h
end Go.Emb
namespace Go.Proofs.YtjdiakhipmggjaaGreatDoor
open Go.Emb
theorem X4o {a:List UInt8} {cs:List Bool} {r:TypeId} {w:World} {K:Value→World→Prop}:X3 P .len [T.c] r cs [S a] w K=K (I a.length) w:=R6 X8
theorem X47 {d c:Operand} {a b:Bool} {w:World} {K:Value→World→Prop}:Q3 P .eql T.u d c (.bool a) (.bool b) w K=K (.bool (a==b)) w:=Q6A Q37
theorem X4m {d c:Operand} {a b:Bool} {w:World} {K:Value→World→Prop}:Q3 P .neq T.u d c (.bool a) (.bool b) w K=K (.bool (!(a==b))) w:=Q6B Q37
def Mm:=And.intro @fa <| And.intro @M0 <| And.intro @Qh <| And.intro @X4o <| And.intro @X47 @X4m
def M1:=And.intro Mm Mr
def M2:=And.intro Mm Mp
end Go.Proofs.YtjdiakhipmggjaaGreatDoor

namespace Go.Proofs.YtjdiakhipmggjaaGreatDoor
open Go.Emb Go.RowKit Go.Kd Go.Hm
variable {w : World} {K : Value → World → Prop} {σ : Q6}
def Wm (m:Hm.Met):Bool:=decide (32<m.params.length)||decide (32<m.catches.length)||decide (200<m.code.length)||decide (64<m.locals)
def Zx (c:Cla):Bool:=c.methods.any Wm||decide (32<c.like.length)||decide (32<c.fields.length)||decide (32<c.methods.length)
theorem X3y {c : Cla} {cs : List Value} (hs : X2 w σ) (hc : V0 σ c cs) (h : ∀ w', Below w.heap.size w w' → K (.bool (Zx c)) w') : Q1 P F.cE [.agg cs.toArray] w K := Q6d (by
  obtain ⟨lv, fv, mv, rfl, hl, hf, hm, hn, hsu⟩ := hc
  unfold Q0q
  refine E4 hs fun a w1 σ1 hk ha => ?_
  have hs := hk.sat
  replace hl := hl.up hk
  replace hf := hf.up hk
  replace hm := hm.up hk
  simp only [Value.cells] at ha
  ((try simp only [↓M1, M1, Mb, reduceIte]); repeat ((first | refine ld (by assumption) (by assumption) rfl ?_ | refine X7 (by assumption) (by assumption) rfl ?_ | refine Q8 (by assumption) ?_); (try simp only [↓M1, M1, Mb, reduceIte])))
  refine U3 c.methods.length (fun n w' => Below w1.heap.size w1 w' ∧ ((c.methods.take n).any Wm) = false) ⟨Below.refl _ _, by simp⟩ fun n w2 d hn hi => ?_
  obtain ⟨hb, hp⟩ := hi
  have hs2 := hs.below hb
  ((try simp only [↓M1, M1, Mb, reduceIte]); repeat ((first | refine ld (by assumption) (by assumption) rfl ?_ | refine X7 (by assumption) (by assumption) rfl ?_ | refine Q8 (by assumption) ?_); (try simp only [↓M1, M1, Mb, reduceIte])))
  refine Q7 (fun hc => ?_) (fun hc => ?_)
  · have hn' : n < c.methods.length := by simpa using hc
    refine M9 hm hn' fun p cs hl1 hlen hr => ?_
    refine Y5 hs2 hl1 hlen ?_
    refine Y7 hs2 (by rfl) hlen (Rep.one hr) fun q w3 σ3 hk3 hq => ?_
    obtain ⟨pv, cv, hv, rfl, g1, g2, g3, g4⟩ := hr
    have hs3 := hk3.sat
    replace g1 := g1.up hk3
    replace g2 := g2.up hk3
    replace g3 := g3.up hk3
    ((try simp only [↓M1, M1, Mb, reduceIte]); repeat ((first | refine ld (by assumption) (by assumption) rfl ?_ | refine X7 (by assumption) (by assumption) rfl ?_ | refine Q8 (by assumption) ?_); (try simp only [↓M1, M1, Mb, reduceIte])))
    (repeat' ((first | refine J3 (fun hh => ?_) (fun hh => ?_) | refine Q7 (fun hh => ?_) (fun hh => ?_)) <;> (try simp only [hh, Bool.not_true, Bool.not_false, ↓M1, M1, Mb, reduceIte]) <;> ((try simp only [↓M1, M1, Mb, reduceIte]); repeat ((first | refine ld (by assumption) (by assumption) rfl ?_ | refine X7 (by assumption) (by assumption) rfl ?_ | refine Q8 (by assumption) ?_); (try simp only [↓M1, M1, Mb, reduceIte])))))
    all_goals first
      | refine Y6 hm.max hn' ⟨bt hb hk3.bel, ?_⟩
        rw [L4 hn', hp]; simp only [Wm]; (first | (simp only [decide_eq_true_eq, decide_eq_false_iff_not, Bool.not_true, Bool.not_false, Bool.not_eq_true', Bool.not_eq_false', Bool.or_eq_true, Bool.and_eq_true, Bool.or_eq_false_iff, Bool.and_eq_false_iff, Bool.false_or, Bool.true_and, Bool.or_false, Bool.and_true] at *; first | omega | (and_intros <;> omega)) | (rw [Bool.eq_iff_iff]; (simp only [decide_eq_true_eq, decide_eq_false_iff_not, Bool.not_true, Bool.not_false, Bool.not_eq_true', Bool.not_eq_false', Bool.or_eq_true, Bool.and_eq_true, Bool.or_eq_false_iff, Bool.and_eq_false_iff, Bool.false_or, Bool.true_and, Bool.or_false, Bool.and_true] at *; first | omega | (and_intros <;> omega))))
      | have e : Zx c = true := by
          have : Wm c.methods[n] = true := by simp only [Wm]; (first | (simp only [decide_eq_true_eq, decide_eq_false_iff_not, Bool.not_true, Bool.not_false, Bool.not_eq_true', Bool.not_eq_false', Bool.or_eq_true, Bool.and_eq_true, Bool.or_eq_false_iff, Bool.and_eq_false_iff, Bool.false_or, Bool.true_and, Bool.or_false, Bool.and_true] at *; first | omega | (and_intros <;> omega)) | (rw [Bool.eq_iff_iff]; (simp only [decide_eq_true_eq, decide_eq_false_iff_not, Bool.not_true, Bool.not_false, Bool.not_eq_true', Bool.not_eq_false', Bool.or_eq_true, Bool.and_eq_true, Bool.or_eq_false_iff, Bool.and_eq_false_iff, Bool.false_or, Bool.true_and, Bool.or_false, Bool.and_true] at *; first | omega | (and_intros <;> omega))))
          simp [Zx, S6 hn' this]
        rw [← e]; exact h _ (bt hk.bel (bt hb hk3.bel))
  · have hn' : ¬ n < c.methods.length := by simpa using hc
    rw [E1 hn'] at hp
    have h := h w2 (bt hk.bel hb)
    ((try simp only [↓M1, M1, Mb, reduceIte]); repeat ((first | refine ld (by assumption) (by assumption) rfl ?_ | refine X7 (by assumption) (by assumption) rfl ?_ | refine Q8 (by assumption) ?_); (try simp only [↓M1, M1, Mb, reduceIte])))
    (repeat' ((first | refine J3 (fun hh => ?_) (fun hh => ?_) | refine Q7 (fun hh => ?_) (fun hh => ?_)) <;> (try simp only [hh, Bool.not_true, Bool.not_false, ↓M1, M1, Mb, reduceIte]) <;> ((try simp only [↓M1, M1, Mb, reduceIte]); repeat ((first | refine ld (by assumption) (by assumption) rfl ?_ | refine X7 (by assumption) (by assumption) rfl ?_ | refine Q8 (by assumption) ?_); (try simp only [↓M1, M1, Mb, reduceIte])))))
    all_goals
      refine Eq.subst (motive := fun b => K (.bool b) w2) ?_ h
      simp only [Zx, hp]
      (first | (simp only [decide_eq_true_eq, decide_eq_false_iff_not, Bool.not_true, Bool.not_false, Bool.not_eq_true', Bool.not_eq_false', Bool.or_eq_true, Bool.and_eq_true, Bool.or_eq_false_iff, Bool.and_eq_false_iff, Bool.false_or, Bool.true_and, Bool.or_false, Bool.and_true] at *; first | omega | (and_intros <;> omega)) | (rw [Bool.eq_iff_iff]; (simp only [decide_eq_true_eq, decide_eq_false_iff_not, Bool.not_true, Bool.not_false, Bool.not_eq_true', Bool.not_eq_false', Bool.or_eq_true, Bool.and_eq_true, Bool.or_eq_false_iff, Bool.and_eq_false_iff, Bool.false_or, Bool.true_and, Bool.or_false, Bool.and_true] at *; first | omega | (and_intros <;> omega)))))
end Go.Proofs.YtjdiakhipmggjaaGreatDoor

namespace Go.Emb
open Go.RowKit Go.Hm
variable {H : Type} {enc : TypeId × Value → H} {P : Program} {W : World} {t : TypeId} {cs : List Value} {fuel : Nat} {x : DataW H × List MemPlace}
def Wi (W:World):Q6:=fun b=>W.heap[b]?
theorem Q9W:X2 W (Wi W):=fun b o h=>h
def Wt (P:Program) (t:TypeId) (d:DataW H):Prop:= ∀n∈d.weights P t,n≤reachBytes
theorem X1U {a:Addr} {n:Nat} (h:W.cells? 0 a n=some cs) (z:0<n):cs.length=n∧Z6 (Wi W) a cs:=by
 obtain ⟨_,m,s⟩:=World.cells?_some h
 refine ⟨m,?_⟩
 have key: ∀i v,cs[i]? =some v→ ∃arr e f,W.heap[a.block]? =some (.cells arr e f)∧(a.add i).spot=none∧arr[a.off+i]? =some v:=by
  intro i v g
  have A:i<cs.length:=(List.getElem?_eq_some_iff.1 g).1
  have b:=s i (by omega)
  rw[g] at b
  unfold World.cell? at b
  rw[S9,Qf] at b
  cases k:W.heap[a.block]? with
  | none=>rw[k] at b;cases b
  | some o=>
   rw[k] at b
   cases o with
   | cells arr e f=>
    simp only at b
    split at b
    ·cases b
    ·rename_i w
     exact ⟨arr,e,f,rfl,by simpa using w,b⟩
   | _=>cases b
 cases j:cs with
 | nil=>subst j;simp at m;omega
 | cons c r=>
  obtain ⟨arr,e,f,p,y,B⟩:=key 0 c (by rw[j];rfl)
  refine ⟨by simpa [Addr.add] using y,arr,e,f,p,fun i v g=>?_⟩
  obtain ⟨l,C,u,d,D,q⟩:=key i v (by rw[j];exact g)
  rw[p] at d
  injection d with d
  injection d with d
  subst d
  exact q
theorem Q6y (b:P.underlying t=some .string) (h:DataW.trod enc P W 0 (fun _=>true) true fuel t cs=some x) (a:Wt P t x.1): ∃s:Kd.X0,cs=[S s]∧s.length≤U0:=by
 obtain ⟨⟨⟨s⟩⟩,rfl,rfl,_⟩:=DataW.trod_string b h
 refine ⟨s,rfl,?_⟩
 have:=a s.length (by simp[DataW.weights])
 exact this
theorem Gm (c:P.underlying t=some (.int .i64)) (h:DataW.trod enc P W 0 (fun _=>true) true fuel t cs=some x): ∃n,cs=[I n]∧Yz n:=by
 obtain ⟨n,b,_,a⟩:=DataW.trod_int c h
 refine ⟨n,b,?_⟩
 simp only[Lit.wf,Bool.and_eq_true,decide_eq_true_eq] at a
 exact ⟨a.1,a.2⟩
theorem X2a {α:Type} {Q:Nat→α→Prop}: ∀(n:Nat),(∀i,i<n→ ∃y,Q i y)→ ∃xs:List α,xs.length=n∧ ∀i y,xs[i]? =some y→Q i y:=by
 intro n
 induction n with
 | zero=>intro _;exact ⟨[],rfl,by simp⟩
 | succ n c=>
  intro h
  obtain ⟨xs,d,e⟩:=c fun i b=>h i (by omega)
  obtain ⟨y,f⟩:=h n (by omega)
  refine ⟨xs++[y],by simp[d],fun i z a=>?_⟩
  by_cases b:i<xs.length
  ·rw[List.getElem?_append_left b] at a;exact e i z a
  ·rw[List.getElem?_append_right (by omega)] at a
   have:i-xs.length=0:=by
    have:=(List.getElem?_eq_some_iff.1 a).1
    simp at this;omega
   rw[this] at a
   simp at a
   subst a
   rw[show i=n by omega];exact f
theorem X3B {e:TypeId} {d:DataW H}: ∀{l:List (DataW H)},d∈l→ ∀n∈d.weights P e,n∈DataW.weightsAll P e l:=by
 intro l
 induction l with
 | nil=>intro h;simp at h
 | cons a r c=>
  intro h n b
  simp only[DataW.weightsAll,List.mem_append]
  rcases List.mem_cons.1 h with rfl | h
  ·exact .inl b
  ·exact .inr (c h n b)
theorem X4k {α:Type} {R:Q6→α→List Value→Prop} {e:TypeId} {sz:Nat} (z:P.underlying t=some (.slice e)) (L:P.cellsOf e=sz) (C:0<sz)
 (q: ∀fuel cs (x:DataW H×List MemPlace),DataW.trod enc P W 0 (fun _=>true) true fuel e cs=some x→Wt P e x.1→ ∃y,R (Wi W) y cs)
 (h:DataW.trod enc P W 0 (fun _=>true) true fuel t cs=some x) (O:Wt P t x.1): ∃v xs,cs=[v]∧Sl sz R (Wi W) v xs:=by
 rcases DataW.trod_slice z h with ⟨rfl,rfl⟩ | ⟨a,k,s,d,u,n,_,rfl,rfl,_,N,r,w,l,_⟩
 ·exact ⟨_,[],rfl,Sl.nil⟩
 subst L
 have step: ∀i,i<k→ ∃y,∃c,Z6 (Wi W) (a.add (i*P.cellsOf e)) c∧c.length=P.cellsOf e∧R (Wi W) y c:=by
  intro i M
  have A:=l i M
  have o:i<d.length:=by omega
  rw[List.getElem?_eq_getElem o] at A
  obtain ⟨c,E,Q⟩:=Option.bind_eq_some_iff.1 A
  obtain ⟨B,p⟩:=X1U E C
  obtain ⟨y,j⟩:=q n c _ Q (fun m r=>O m (by
   simp only[DataW.weights,z,List.mem_cons,List.mem_append]
   exact .inr (.inl (X3B (List.mem_map.2 ⟨_,List.getElem_mem o,rfl⟩) m r))))
  exact ⟨y,c,p,B,j⟩
 obtain ⟨xs,f,g⟩:=X2a k step
 refine ⟨_,xs,rfl,some a,s,by rw[f],by rw[f];exact N,r,by simp,fun b D=>?_⟩
 cases D
 refine ⟨fun J=>?_,fun i y j=>g i y j⟩
 obtain ⟨y,j⟩: ∃y,xs[0]? =some y:=⟨xs[0],List.getElem?_eq_getElem J⟩
 obtain ⟨c,p,_,_⟩:=g 0 y j
 have:=p.1
 simpa [Addr.add] using this
theorem Q84: ∀{a:List TypeId} {l:List (DataW H)} {i:Nat} {u:TypeId} {d:DataW H},a[i]? =some u→l[i]? =some d→ ∀n∈d.weights P u,n∈DataW.weightsEach P a l:=
 fun e c n b=>DataW.weights_mem_each e c n b
theorem Wz {e:Array Field} (g:P.underlying t=some (.struct e)) (h:DataW.trod enc P W 0 (fun _=>true) true fuel t cs=some x) (p:Wt P t x.1) (i:Nat) {o:Nat} {b:TypeId}
 (s:(e[i]?).map (fun f=>(f.type,f.offset))=some (b,o)) (l:P.cellsOf b=1): ∃n y,DataW.trod enc P W 0 (fun _=>true) true n b ((cs.drop o).take 1)=some y∧Wt P b y.1:=by
 obtain ⟨xs,n,_,rfl,v,j,q⟩:=DataW.trod_struct g h
 obtain ⟨f,a,k⟩:=Option.map_eq_some_iff.1 s
 cases k
 have c:=q i f a
 have d:i<xs.length:=by rw[j];exact (Array.getElem?_eq_some_iff.1 a).1
 rw[List.getElem?_eq_getElem d,l] at c
 refine ⟨n,_,c,fun m r=>p m ?_⟩
 simp only[DataW.weights,g]
 exact Q84 (i:=i) (u:=f.type) (by rw[List.getElem?_map,Array.getElem?_toList,a];rfl) (by rw[List.getElem?_map,List.getElem?_eq_getElem d];rfl) m r
theorem X08 {b:Array Field} {k:Nat} (d:P.underlying t=some (.struct b)) (c:P.cellsOf t=k) (h:DataW.trod enc P W 0 (fun _=>true) true fuel t cs=some x):cs.length=k:=by
 obtain ⟨_,_,_,_,a,_,_⟩:=DataW.trod_struct d h
 rw[a,c]
theorem X1w {α:Type} {l:List α} (h:l.length=3): ∃a b c,l=[a,b,c]:=by
 match l,h with
 | [a,b,c],_=>exact ⟨a,b,c,rfl⟩
theorem X43 {α:Type} {l:List α} (h:l.length=4): ∃a b c d,l=[a,b,c,d]:=by
 match l,h with
 | [a,b,c,d],_=>exact ⟨a,b,c,d,rfl⟩
theorem X4c {α:Type} {l:List α} (h:l.length=8): ∃a b c d e f g i,l=[a,b,c,d,e,f,g,i]:=by
 match l,h with
 | [a,b,c,d,e,f,g,i],_=>exact ⟨a,b,c,d,e,f,g,i,rfl⟩
end Go.Emb
namespace Go.Proofs.YtjdiakhipmggjaaGreatDoor
open Go.Emb Go.RowKit Go.Kd Go.Hm
variable {H : Type} {enc : TypeId × Value → H} {W : World} {cs : List Value} {fuel : Nat} {x : DataW H × List MemPlace}
theorem Kg:P.cellsOf T.c=1:=by kernel_rfl
theorem X3j:P.cellsOf T.u=1:=by kernel_rfl
theorem Q5j:P.cellsOf T.e=1:=by kernel_rfl
end Go.Proofs.YtjdiakhipmggjaaGreatDoor

namespace Go.Emb
def J5 {α β:Type} (a:β→α→Bool×β):β→List α→Nat→Option Nat×β
 | s,[],_=>(none,s)
 | s,x::xs,i=>if (a s x).1 then (some i,(a s x).2) else J5 a (a s x).2 xs (i+1)
def L7 (o:Option Nat):Int:=match o with | some i=>i | none=> -1
theorem P0 {α:Type} (p:α→Bool): ∀(xs:List α) (i:Nat),(J5 (fun (_:Unit) x=>(p x,())) () xs i).1=(xs.findIdx? p).map (· +i):=by
 intro xs
 induction xs with
 | nil=>intro i;rfl
 | cons x r ih=>
  intro i
  rw[List.findIdx?_cons]
  simp only[J5]
  cases p x with
  | true=>simp
  | false=>
   simp only[Bool.false_eq_true,if_false]
   rw[ih (i+1),Option.map_map]
   congr 1;funext n;simp only[Function.comp];omega
theorem Dv {α β:Type} (a:β→α→Bool×β) (s:β) (xs:List α) (i:Nat):decide ((0:Int)≤L7 (J5 a s xs i).1)=(J5 a s xs i).1.isSome:=by
 cases (J5 a s xs i).1<;>simp[L7]
end Go.Emb
namespace Go.Proofs.YtjdiakhipmggjaaGreatDoor
open Go.Emb Go.RowKit Go.Kd Go.Hm
variable {w : World} {K : Value → World → Prop} {σ : Q6}
theorem Vx {β:Type} {xs:List Hm.Met} {v f:Value} (a:β→Hm.Met→Bool×β) (l:β) (b:β→World→Prop) (D:Nat→Prop) (k: ∀s w,b s w→X2 w σ) (z:b l w) (t:Sl 7 E5 σ v xs)
 (C: ∀s x cs (w1:World) (K:Value→World→Prop),x∈xs→Kpt D w w1→b s w1→E5 σ x cs→cs.length=7→(∀w',Kpt D w w'→b (a s x).2 w'→K (.bool (a s x).1) w')→Z3 P f [.agg cs.toArray] w1 K)
 (h: ∀w',Kpt D w w'→b (J5 a l xs 0).2 w'→K (I (L7 (J5 a l xs 0).1)) w'):Q1 P F.g [v,f] w K:=Xw (by
 unfold B7
 ((try simp only[↓M1,M1,Mb,reduceIte]);repeat ((first | refine ld (by assumption) (by assumption) rfl ?_ | refine X7 (by assumption) (by assumption) rfl ?_ | refine Q8 (by assumption) ?_);(try simp only[↓M1,M1,Mb,reduceIte])))
 refine U3 xs.length (fun n w'=>Kpt D w w'∧ ∃s,b s w'∧J5 a l xs 0=J5 a s (xs.drop n) n) ⟨Kpt.refl,l,z,rfl⟩ fun n w1 d E j=>?_
 obtain ⟨u,s,j,g⟩:=j
 have r:=k s w1 j
 ((try simp only[↓M1,M1,Mb,reduceIte]);repeat ((first | refine ld (by assumption) (by assumption) rfl ?_ | refine X7 (by assumption) (by assumption) rfl ?_ | refine Q8 (by assumption) ?_);(try simp only[↓M1,M1,Mb,reduceIte])))
 refine Q7 (fun q=>?_) (fun q=>?_)
 ·have c:n<xs.length:=by simpa using q
  refine M9 t c fun p cs A e y=>?_
  refine Y5 r A e ?_
  refine C s xs[n] cs w1 _ (List.getElem_mem c) u j y e fun B i m=>?_
  rw[List.drop_eq_getElem_cons c] at g
  simp only[J5] at g
  refine Q7 (fun o=>?_) (fun o=>?_)
  ·rw[o] at g
   have:=h B i
   rw[g] at this
   exact this m
  ·rw[o] at g
   ((try simp only[↓M1,M1,Mb,reduceIte]);repeat ((first | refine ld (by assumption) (by assumption) rfl ?_ | refine X7 (by assumption) (by assumption) rfl ?_ | refine Q8 (by assumption) ?_);(try simp only[↓M1,M1,Mb,reduceIte])))
   exact Y6 t.max c ⟨i,_,m,by simpa using g⟩
 ·have c: ¬n<xs.length:=by simpa using q
  rw[List.drop_eq_nil_of_le (by omega)] at g
  have:=h w1 u
  rw[g] at this
  exact this j)
theorem Jb {β:Type} {xs:List Hm.Met} {v f:Value} (b:β→Hm.Met→Bool×β) (d:β) (a:β→World→Prop) (D:Nat→Prop) (c: ∀s w,a s w→X2 w σ) (g:a d w) (e:Sl 7 E5 σ v xs)
 (k: ∀s x cs (w1:World) (K:Value→World→Prop),x∈xs→Kpt D w w1→a s w1→E5 σ x cs→cs.length=7→(∀w',Kpt D w w'→a (b s x).2 w'→K (.bool (b s x).1) w')→Z3 P f [.agg cs.toArray] w1 K)
 (h: ∀w',Kpt D w w'→a (J5 b d xs 0).2 w'→K (.bool (J5 b d xs 0).1.isSome) w'):Q1 P F.a [v,f] w K:=Qr (by
 unfold S7
 refine Vx b d a D c g e k fun w1 j i=>?_
 (try simp only[↓M1,M1,Mb,reduceIte])
 rw[Dv]
 exact h w1 j i)
theorem Fa {xs:List Hm.Met} {v f:Value} (p:Hm.Met→Bool) (hs:X2 w σ) (hv:Sl 7 E5 σ v xs)
 (hf: ∀x cs (w1:World) (K:Value→World→Prop),x∈xs→X2 w1 σ→E5 σ x cs→cs.length=7→(∀w',Below w1.heap.size w1 w'→K (.bool (p x)) w')→Z3 P f [.agg cs.toArray] w1 K)
 (h: ∀w',Below w.heap.size w w'→K (I (L7 (xs.findIdx? p))) w'):Q1 P F.g [v,f] w K:=by
 refine Vx (fun (_:Unit) x=>(p x,())) () (fun _ w'=>Below w.heap.size w w') (fun _=>False) (fun _ w' hb=>hs.below hb) (Below.refl _ _) hv (fun s x cs w1 K hx hk hi hr hl hK=>hf x cs w1 K hx (hs.below hi) hr hl fun w' hb=>hK w' (.of_below (bt hi hb)) (bt hi hb)) fun w' hk hi=>?_
 rw[P0]
 simpa using h w' hi
theorem B9 {xs:List Hm.Met} {v f:Value} (p:Hm.Met→Bool) (hs:X2 w σ) (hv:Sl 7 E5 σ v xs)
 (hf: ∀x cs (w1:World) (K:Value→World→Prop),x∈xs→X2 w1 σ→E5 σ x cs→cs.length=7→(∀w',Below w1.heap.size w1 w'→K (.bool (p x)) w')→Z3 P f [.agg cs.toArray] w1 K)
 (h: ∀w',Below w.heap.size w w'→K (.bool (xs.any p)) w'):Q1 P F.a [v,f] w K:=by
 refine Jb (fun (_:Unit) x=>(p x,())) () (fun _ w'=>Below w.heap.size w w') (fun _=>False) (fun _ w' hb=>hs.below hb) (Below.refl _ _) hv (fun s x cs w1 K hx hk hi hr hl hK=>hf x cs w1 K hx (hs.below hi) hr hl fun w' hb=>hK w' (.of_below (bt hi hb)) (bt hi hb)) fun w' hk hi=>?_
 rw[P0]
 simpa using h w' hi
theorem Lg {β:Type} {xs:List Fld} {v f:Value} (a:β→Fld→Bool×β) (l:β) (b:β→World→Prop) (D:Nat→Prop) (k: ∀s w,b s w→X2 w σ) (z:b l w) (t:Sl 3 R9 σ v xs)
 (C: ∀s x cs (w1:World) (K:Value→World→Prop),x∈xs→Kpt D w w1→b s w1→R9 σ x cs→cs.length=3→(∀w',Kpt D w w'→b (a s x).2 w'→K (.bool (a s x).1) w')→Z3 P f [.agg cs.toArray] w1 K)
 (h: ∀w',Kpt D w w'→b (J5 a l xs 0).2 w'→K (I (L7 (J5 a l xs 0).1)) w'):Q1 P F.i [v,f] w K:=Zd (by
 unfold G4
 ((try simp only[↓M1,M1,Mb,reduceIte]);repeat ((first | refine ld (by assumption) (by assumption) rfl ?_ | refine X7 (by assumption) (by assumption) rfl ?_ | refine Q8 (by assumption) ?_);(try simp only[↓M1,M1,Mb,reduceIte])))
 refine U3 xs.length (fun n w'=>Kpt D w w'∧ ∃s,b s w'∧J5 a l xs 0=J5 a s (xs.drop n) n) ⟨Kpt.refl,l,z,rfl⟩ fun n w1 d E j=>?_
 obtain ⟨u,s,j,g⟩:=j
 have r:=k s w1 j
 ((try simp only[↓M1,M1,Mb,reduceIte]);repeat ((first | refine ld (by assumption) (by assumption) rfl ?_ | refine X7 (by assumption) (by assumption) rfl ?_ | refine Q8 (by assumption) ?_);(try simp only[↓M1,M1,Mb,reduceIte])))
 refine Q7 (fun q=>?_) (fun q=>?_)
 ·have c:n<xs.length:=by simpa using q
  refine M9 t c fun p cs A e y=>?_
  refine Y5 r A e ?_
  refine C s xs[n] cs w1 _ (List.getElem_mem c) u j y e fun B i m=>?_
  rw[List.drop_eq_getElem_cons c] at g
  simp only[J5] at g
  refine Q7 (fun o=>?_) (fun o=>?_)
  ·rw[o] at g
   have:=h B i
   rw[g] at this
   exact this m
  ·rw[o] at g
   ((try simp only[↓M1,M1,Mb,reduceIte]);repeat ((first | refine ld (by assumption) (by assumption) rfl ?_ | refine X7 (by assumption) (by assumption) rfl ?_ | refine Q8 (by assumption) ?_);(try simp only[↓M1,M1,Mb,reduceIte])))
   exact Y6 t.max c ⟨i,_,m,by simpa using g⟩
 ·have c: ¬n<xs.length:=by simpa using q
  rw[List.drop_eq_nil_of_le (by omega)] at g
  have:=h w1 u
  rw[g] at this
  exact this j)
theorem Sb {β:Type} {xs:List Fld} {v f:Value} (b:β→Fld→Bool×β) (d:β) (a:β→World→Prop) (D:Nat→Prop) (c: ∀s w,a s w→X2 w σ) (g:a d w) (e:Sl 3 R9 σ v xs)
 (k: ∀s x cs (w1:World) (K:Value→World→Prop),x∈xs→Kpt D w w1→a s w1→R9 σ x cs→cs.length=3→(∀w',Kpt D w w'→a (b s x).2 w'→K (.bool (b s x).1) w')→Z3 P f [.agg cs.toArray] w1 K)
 (h: ∀w',Kpt D w w'→a (J5 b d xs 0).2 w'→K (.bool (J5 b d xs 0).1.isSome) w'):Q1 P F.f [v,f] w K:=Xj (by
 unfold C8
 refine Lg b d a D c g e k fun w1 j i=>?_
 (try simp only[↓M1,M1,Mb,reduceIte])
 rw[Dv]
 exact h w1 j i)
theorem Ic {xs:List Fld} {v f:Value} (p:Fld→Bool) (hs:X2 w σ) (hv:Sl 3 R9 σ v xs)
 (hf: ∀x cs (w1:World) (K:Value→World→Prop),x∈xs→X2 w1 σ→R9 σ x cs→cs.length=3→(∀w',Below w1.heap.size w1 w'→K (.bool (p x)) w')→Z3 P f [.agg cs.toArray] w1 K)
 (h: ∀w',Below w.heap.size w w'→K (I (L7 (xs.findIdx? p))) w'):Q1 P F.i [v,f] w K:=by
 refine Lg (fun (_:Unit) x=>(p x,())) () (fun _ w'=>Below w.heap.size w w') (fun _=>False) (fun _ w' hb=>hs.below hb) (Below.refl _ _) hv (fun s x cs w1 K hx hk hi hr hl hK=>hf x cs w1 K hx (hs.below hi) hr hl fun w' hb=>hK w' (.of_below (bt hi hb)) (bt hi hb)) fun w' hk hi=>?_
 rw[P0]
 simpa using h w' hi
theorem Jn {xs:List Fld} {v f:Value} (p:Fld→Bool) (hs:X2 w σ) (hv:Sl 3 R9 σ v xs)
 (hf: ∀x cs (w1:World) (K:Value→World→Prop),x∈xs→X2 w1 σ→R9 σ x cs→cs.length=3→(∀w',Below w1.heap.size w1 w'→K (.bool (p x)) w')→Z3 P f [.agg cs.toArray] w1 K)
 (h: ∀w',Below w.heap.size w w'→K (.bool (xs.any p)) w'):Q1 P F.f [v,f] w K:=by
 refine Sb (fun (_:Unit) x=>(p x,())) () (fun _ w'=>Below w.heap.size w w') (fun _=>False) (fun _ w' hb=>hs.below hb) (Below.refl _ _) hv (fun s x cs w1 K hx hk hi hr hl hK=>hf x cs w1 K hx (hs.below hi) hr hl fun w' hb=>hK w' (.of_below (bt hi hb)) (bt hi hb)) fun w' hk hi=>?_
 rw[P0]
 simpa using h w' hi
theorem Ij {β:Type} {xs:List Ins} {v f:Value} (a:β→Ins→Bool×β) (l:β) (b:β→World→Prop) (D:Nat→Prop) (k: ∀s w,b s w→X2 w σ) (z:b l w) (t:Sl 3 Qi σ v xs)
 (C: ∀s x cs (w1:World) (K:Value→World→Prop),x∈xs→Kpt D w w1→b s w1→Qi σ x cs→cs.length=3→(∀w',Kpt D w w'→b (a s x).2 w'→K (.bool (a s x).1) w')→Z3 P f [.agg cs.toArray] w1 K)
 (h: ∀w',Kpt D w w'→b (J5 a l xs 0).2 w'→K (I (L7 (J5 a l xs 0).1)) w'):Q1 P F.a5 [v,f] w K:=Yt (by
 unfold F9
 ((try simp only[↓M1,M1,Mb,reduceIte]);repeat ((first | refine ld (by assumption) (by assumption) rfl ?_ | refine X7 (by assumption) (by assumption) rfl ?_ | refine Q8 (by assumption) ?_);(try simp only[↓M1,M1,Mb,reduceIte])))
 refine U3 xs.length (fun n w'=>Kpt D w w'∧ ∃s,b s w'∧J5 a l xs 0=J5 a s (xs.drop n) n) ⟨Kpt.refl,l,z,rfl⟩ fun n w1 d E j=>?_
 obtain ⟨u,s,j,g⟩:=j
 have r:=k s w1 j
 ((try simp only[↓M1,M1,Mb,reduceIte]);repeat ((first | refine ld (by assumption) (by assumption) rfl ?_ | refine X7 (by assumption) (by assumption) rfl ?_ | refine Q8 (by assumption) ?_);(try simp only[↓M1,M1,Mb,reduceIte])))
 refine Q7 (fun q=>?_) (fun q=>?_)
 ·have c:n<xs.length:=by simpa using q
  refine M9 t c fun p cs A e y=>?_
  refine Y5 r A e ?_
  refine C s xs[n] cs w1 _ (List.getElem_mem c) u j y e fun B i m=>?_
  rw[List.drop_eq_getElem_cons c] at g
  simp only[J5] at g
  refine Q7 (fun o=>?_) (fun o=>?_)
  ·rw[o] at g
   have:=h B i
   rw[g] at this
   exact this m
  ·rw[o] at g
   ((try simp only[↓M1,M1,Mb,reduceIte]);repeat ((first | refine ld (by assumption) (by assumption) rfl ?_ | refine X7 (by assumption) (by assumption) rfl ?_ | refine Q8 (by assumption) ?_);(try simp only[↓M1,M1,Mb,reduceIte])))
   exact Y6 t.max c ⟨i,_,m,by simpa using g⟩
 ·have c: ¬n<xs.length:=by simpa using q
  rw[List.drop_eq_nil_of_le (by omega)] at g
  have:=h w1 u
  rw[g] at this
  exact this j)
theorem Cq {β:Type} {xs:List Ins} {v f:Value} (b:β→Ins→Bool×β) (d:β) (a:β→World→Prop) (D:Nat→Prop) (c: ∀s w,a s w→X2 w σ) (g:a d w) (e:Sl 3 Qi σ v xs)
 (k: ∀s x cs (w1:World) (K:Value→World→Prop),x∈xs→Kpt D w w1→a s w1→Qi σ x cs→cs.length=3→(∀w',Kpt D w w'→a (b s x).2 w'→K (.bool (b s x).1) w')→Z3 P f [.agg cs.toArray] w1 K)
 (h: ∀w',Kpt D w w'→a (J5 b d xs 0).2 w'→K (.bool (J5 b d xs 0).1.isSome) w'):Q1 P F.l [v,f] w K:=Xk (by
 unfold B0
 refine Ij b d a D c g e k fun w1 j i=>?_
 (try simp only[↓M1,M1,Mb,reduceIte])
 rw[Dv]
 exact h w1 j i)
theorem Ry {xs:List Ins} {v f:Value} (p:Ins→Bool) (hs:X2 w σ) (hv:Sl 3 Qi σ v xs)
 (hf: ∀x cs (w1:World) (K:Value→World→Prop),x∈xs→X2 w1 σ→Qi σ x cs→cs.length=3→(∀w',Below w1.heap.size w1 w'→K (.bool (p x)) w')→Z3 P f [.agg cs.toArray] w1 K)
 (h: ∀w',Below w.heap.size w w'→K (.bool (xs.any p)) w'):Q1 P F.l [v,f] w K:=by
 refine Cq (fun (_:Unit) x=>(p x,())) () (fun _ w'=>Below w.heap.size w w') (fun _=>False) (fun _ w' hb=>hs.below hb) (Below.refl _ _) hv (fun s x cs w1 K hx hk hi hr hl hK=>hf x cs w1 K hx (hs.below hi) hr hl fun w' hb=>hK w' (.of_below (bt hi hb)) (bt hi hb)) fun w' hk hi=>?_
 rw[P0]
 simpa using h w' hi
theorem Gg {β:Type} {xs:List Cat} {v f:Value} (a:β→Cat→Bool×β) (l:β) (b:β→World→Prop) (D:Nat→Prop) (k: ∀s w,b s w→X2 w σ) (z:b l w) (t:Sl 4 Ju σ v xs)
 (C: ∀s x cs (w1:World) (K:Value→World→Prop),x∈xs→Kpt D w w1→b s w1→Ju σ x cs→cs.length=4→(∀w',Kpt D w w'→b (a s x).2 w'→K (.bool (a s x).1) w')→Z3 P f [.agg cs.toArray] w1 K)
 (h: ∀w',Kpt D w w'→b (J5 a l xs 0).2 w'→K (I (L7 (J5 a l xs 0).1)) w'):Q1 P F.a6 [v,f] w K:=Yr (by
 unfold G1
 ((try simp only[↓M1,M1,Mb,reduceIte]);repeat ((first | refine ld (by assumption) (by assumption) rfl ?_ | refine X7 (by assumption) (by assumption) rfl ?_ | refine Q8 (by assumption) ?_);(try simp only[↓M1,M1,Mb,reduceIte])))
 refine U3 xs.length (fun n w'=>Kpt D w w'∧ ∃s,b s w'∧J5 a l xs 0=J5 a s (xs.drop n) n) ⟨Kpt.refl,l,z,rfl⟩ fun n w1 d E j=>?_
 obtain ⟨u,s,j,g⟩:=j
 have r:=k s w1 j
 ((try simp only[↓M1,M1,Mb,reduceIte]);repeat ((first | refine ld (by assumption) (by assumption) rfl ?_ | refine X7 (by assumption) (by assumption) rfl ?_ | refine Q8 (by assumption) ?_);(try simp only[↓M1,M1,Mb,reduceIte])))
 refine Q7 (fun q=>?_) (fun q=>?_)
 ·have c:n<xs.length:=by simpa using q
  refine M9 t c fun p cs A e y=>?_
  refine Y5 r A e ?_
  refine C s xs[n] cs w1 _ (List.getElem_mem c) u j y e fun B i m=>?_
  rw[List.drop_eq_getElem_cons c] at g
  simp only[J5] at g
  refine Q7 (fun o=>?_) (fun o=>?_)
  ·rw[o] at g
   have:=h B i
   rw[g] at this
   exact this m
  ·rw[o] at g
   ((try simp only[↓M1,M1,Mb,reduceIte]);repeat ((first | refine ld (by assumption) (by assumption) rfl ?_ | refine X7 (by assumption) (by assumption) rfl ?_ | refine Q8 (by assumption) ?_);(try simp only[↓M1,M1,Mb,reduceIte])))
   exact Y6 t.max c ⟨i,_,m,by simpa using g⟩
 ·have c: ¬n<xs.length:=by simpa using q
  rw[List.drop_eq_nil_of_le (by omega)] at g
  have:=h w1 u
  rw[g] at this
  exact this j)
theorem Ca {β:Type} {xs:List Cat} {v f:Value} (b:β→Cat→Bool×β) (d:β) (a:β→World→Prop) (D:Nat→Prop) (c: ∀s w,a s w→X2 w σ) (g:a d w) (e:Sl 4 Ju σ v xs)
 (k: ∀s x cs (w1:World) (K:Value→World→Prop),x∈xs→Kpt D w w1→a s w1→Ju σ x cs→cs.length=4→(∀w',Kpt D w w'→a (b s x).2 w'→K (.bool (b s x).1) w')→Z3 P f [.agg cs.toArray] w1 K)
 (h: ∀w',Kpt D w w'→a (J5 b d xs 0).2 w'→K (.bool (J5 b d xs 0).1.isSome) w'):Q1 P F.m [v,f] w K:=Xi (by
 unfold B1
 refine Gg b d a D c g e k fun w1 j i=>?_
 (try simp only[↓M1,M1,Mb,reduceIte])
 rw[Dv]
 exact h w1 j i)
theorem Sd {xs:List Cat} {v f:Value} (p:Cat→Bool) (hs:X2 w σ) (hv:Sl 4 Ju σ v xs)
 (hf: ∀x cs (w1:World) (K:Value→World→Prop),x∈xs→X2 w1 σ→Ju σ x cs→cs.length=4→(∀w',Below w1.heap.size w1 w'→K (.bool (p x)) w')→Z3 P f [.agg cs.toArray] w1 K)
 (h: ∀w',Below w.heap.size w w'→K (.bool (xs.any p)) w'):Q1 P F.m [v,f] w K:=by
 refine Ca (fun (_:Unit) x=>(p x,())) () (fun _ w'=>Below w.heap.size w w') (fun _=>False) (fun _ w' hb=>hs.below hb) (Below.refl _ _) hv (fun s x cs w1 K hx hk hi hr hl hK=>hf x cs w1 K hx (hs.below hi) hr hl fun w' hb=>hK w' (.of_below (bt hi hb)) (bt hi hb)) fun w' hk hi=>?_
 rw[P0]
 simpa using h w' hi
theorem Gy {β:Type} {xs:List Cla} {v f:Value} (a:β→Cla→Bool×β) (l:β) (b:β→World→Prop) (D:Nat→Prop) (k: ∀s w,b s w→X2 w σ) (z:b l w) (t:Sl 8 V0 σ v xs)
 (C: ∀s x cs (w1:World) (K:Value→World→Prop),x∈xs→Kpt D w w1→b s w1→V0 σ x cs→cs.length=8→(∀w',Kpt D w w'→b (a s x).2 w'→K (.bool (a s x).1) w')→Z3 P f [.agg cs.toArray] w1 K)
 (h: ∀w',Kpt D w w'→b (J5 a l xs 0).2 w'→K (I (L7 (J5 a l xs 0).1)) w'):Q1 P F.o [v,f] w K:=Za (by
 unfold F8
 ((try simp only[↓M1,M1,Mb,reduceIte]);repeat ((first | refine ld (by assumption) (by assumption) rfl ?_ | refine X7 (by assumption) (by assumption) rfl ?_ | refine Q8 (by assumption) ?_);(try simp only[↓M1,M1,Mb,reduceIte])))
 refine U3 xs.length (fun n w'=>Kpt D w w'∧ ∃s,b s w'∧J5 a l xs 0=J5 a s (xs.drop n) n) ⟨Kpt.refl,l,z,rfl⟩ fun n w1 d E j=>?_
 obtain ⟨u,s,j,g⟩:=j
 have r:=k s w1 j
 ((try simp only[↓M1,M1,Mb,reduceIte]);repeat ((first | refine ld (by assumption) (by assumption) rfl ?_ | refine X7 (by assumption) (by assumption) rfl ?_ | refine Q8 (by assumption) ?_);(try simp only[↓M1,M1,Mb,reduceIte])))
 refine Q7 (fun q=>?_) (fun q=>?_)
 ·have c:n<xs.length:=by simpa using q
  refine M9 t c fun p cs A e y=>?_
  refine Y5 r A e ?_
  refine C s xs[n] cs w1 _ (List.getElem_mem c) u j y e fun B i m=>?_
  rw[List.drop_eq_getElem_cons c] at g
  simp only[J5] at g
  refine Q7 (fun o=>?_) (fun o=>?_)
  ·rw[o] at g
   have:=h B i
   rw[g] at this
   exact this m
  ·rw[o] at g
   ((try simp only[↓M1,M1,Mb,reduceIte]);repeat ((first | refine ld (by assumption) (by assumption) rfl ?_ | refine X7 (by assumption) (by assumption) rfl ?_ | refine Q8 (by assumption) ?_);(try simp only[↓M1,M1,Mb,reduceIte])))
   exact Y6 t.max c ⟨i,_,m,by simpa using g⟩
 ·have c: ¬n<xs.length:=by simpa using q
  rw[List.drop_eq_nil_of_le (by omega)] at g
  have:=h w1 u
  rw[g] at this
  exact this j)
theorem Gz {xs:List Cla} {v f:Value} (p:Cla→Bool) (hs:X2 w σ) (hv:Sl 8 V0 σ v xs)
 (hf: ∀x cs (w1:World) (K:Value→World→Prop),x∈xs→X2 w1 σ→V0 σ x cs→cs.length=8→(∀w',Below w1.heap.size w1 w'→K (.bool (p x)) w')→Z3 P f [.agg cs.toArray] w1 K)
 (h: ∀w',Below w.heap.size w w'→K (I (L7 (xs.findIdx? p))) w'):Q1 P F.o [v,f] w K:=by
 refine Gy (fun (_:Unit) x=>(p x,())) () (fun _ w'=>Below w.heap.size w w') (fun _=>False) (fun _ w' hb=>hs.below hb) (Below.refl _ _) hv (fun s x cs w1 K hx hk hi hr hl hK=>hf x cs w1 K hx (hs.below hi) hr hl fun w' hb=>hK w' (.of_below (bt hi hb)) (bt hi hb)) fun w' hk hi=>?_
 rw[P0]
 simpa using h w' hi
theorem Q17 {β:Type} {xs:List X0} {v f:Value} (a:β→X0→Bool×β) (l:β) (b:β→World→Prop) (D:Nat→Prop) (k: ∀s w,b s w→X2 w σ) (A:b l w) (u:Sl 1 U9 σ v xs)
 (E: ∀s x (w1:World) (K:Value→World→Prop),x∈xs→Kpt D w w1→b s w1→x.length≤U0→(∀w',Kpt D w w'→b (a s x).2 w'→K (.bool (a s x).1) w')→Z3 P f [S x] w1 K)
 (h: ∀w',Kpt D w w'→b (J5 a l xs 0).2 w'→K (I (L7 (J5 a l xs 0).1)) w'):Q1 P F.w [v,f] w K:=Vl (by
 unfold T1
 ((try simp only[↓M1,M1,Mb,reduceIte]);repeat ((first | refine ld (by assumption) (by assumption) rfl ?_ | refine X7 (by assumption) (by assumption) rfl ?_ | refine Q8 (by assumption) ?_);(try simp only[↓M1,M1,Mb,reduceIte])))
 refine U3 xs.length (fun n w'=>Kpt D w w'∧ ∃s,b s w'∧J5 a l xs 0=J5 a s (xs.drop n) n) ⟨Kpt.refl,l,A,rfl⟩ fun n w1 d H j=>?_
 obtain ⟨y,s,j,e⟩:=j
 have r:=k s w1 j
 ((try simp only[↓M1,M1,Mb,reduceIte]);repeat ((first | refine ld (by assumption) (by assumption) rfl ?_ | refine X7 (by assumption) (by assumption) rfl ?_ | refine Q8 (by assumption) ?_);(try simp only[↓M1,M1,Mb,reduceIte])))
 refine Q7 (fun q=>?_) (fun q=>?_)
 ·have c:n<xs.length:=by simpa using q
  refine M9 u c fun p cs B t z=>?_
  obtain ⟨rfl,i⟩:=z
  refine X7 r B rfl ?_
  refine E s xs[n] w1 _ (List.getElem_mem c) y j i fun C g m=>?_
  rw[List.drop_eq_getElem_cons c] at e
  simp only[J5] at e
  refine Q7 (fun o=>?_) (fun o=>?_)
  ·rw[o] at e
   have:=h C g
   rw[e] at this
   exact this m
  ·rw[o] at e
   ((try simp only[↓M1,M1,Mb,reduceIte]);repeat ((first | refine ld (by assumption) (by assumption) rfl ?_ | refine X7 (by assumption) (by assumption) rfl ?_ | refine Q8 (by assumption) ?_);(try simp only[↓M1,M1,Mb,reduceIte])))
   exact Y6 u.max c ⟨g,_,m,by simpa using e⟩
 ·have c: ¬n<xs.length:=by simpa using q
  rw[List.drop_eq_nil_of_le (by omega)] at e
  have:=h w1 y
  rw[e] at this
  exact this j)
theorem Q0K {xs:List X0} {v f:Value} (p:X0→Bool) (hs:X2 w σ) (hv:Sl 1 U9 σ v xs)
 (hf: ∀x (w1:World) (K:Value→World→Prop),x∈xs→X2 w1 σ→x.length≤U0→(∀w',Below w1.heap.size w1 w'→K (.bool (p x)) w')→Z3 P f [S x] w1 K)
 (h: ∀w',Below w.heap.size w w'→K (I (L7 (xs.findIdx? p))) w'):Q1 P F.w [v,f] w K:=by
 refine Q17 (fun (_:Unit) x=>(p x,())) () (fun _ w'=>Below w.heap.size w w') (fun _=>False) (fun _ w' hb=>hs.below hb) (Below.refl _ _) hv (fun s x w1 K hx hk hi hr hK=>hf x w1 K hx (hs.below hi) hr fun w' hb=>hK w' (.of_below (bt hi hb)) (bt hi hb)) fun w' hk hi=>?_
 rw[P0]
 simpa using h w' hi
theorem Q5X {α:Type} (p:α→Bool) (xs:List α):decide ((0:Int)≤L7 (xs.findIdx? p))=xs.any p:=by
 rw[Bool.eq_iff_iff,List.any_eq_true]
 simp only[decide_eq_true_eq]
 cases h:xs.findIdx? p with
 | none=>
  simp only[L7]
  constructor
  ·intro h;omega
  ·rintro ⟨x,c,a⟩;have:=List.findIdx?_eq_none_iff.1 h x c;rw[a] at this;cases this
 | some i=>
  simp only[L7]
  obtain ⟨b,a,_⟩:=List.findIdx?_eq_some_iff_getElem.1 h
  exact ⟨fun _=>⟨xs[i],List.getElem_mem b,a⟩,fun _=>by omega⟩
theorem P5 {xs:List X0} {v f:Value} (p:X0→Bool) (c:X2 w σ) (b:Sl 1 U9 σ v xs)
 (d: ∀x (w1:World) (K:Value→World→Prop),x∈xs→X2 w1 σ→x.length≤U0→(∀w',Below w1.heap.size w1 w'→K (.bool (p x)) w')→Z3 P f [S x] w1 K)
 (h: ∀w',Below w.heap.size w w'→K (.bool (xs.any p)) w'):Q1 P F.c [v,f] w K:=Jk (by
 unfold K3
 refine Q0K p c b d fun w1 a=>?_
 (try simp only[↓M1,M1,Mb,reduceIte])
 rw[Q5X]
 exact h w1 a)
theorem Q3V {xs:List X0} {v:Value} {x:X0} (r:X2 w σ) (g:Sl 1 U9 σ v xs)
 (h:K (I (L7 (xs.findIdx? fun y=>decide (x=y)))) w):Q1 P F.ay [v,S x] w K:=Ni (by
 unfold Qy
 ((try simp only[↓M1,M1,Mb,reduceIte]);repeat ((first | refine ld (by assumption) (by assumption) rfl ?_ | refine X7 (by assumption) (by assumption) rfl ?_ | refine Q8 (by assumption) ?_);(try simp only[↓M1,M1,Mb,reduceIte])))
 refine U3 xs.length (fun n w'=>w=w'∧(xs.take n).any (fun y=>decide (x=y))=false) ⟨rfl,rfl⟩ fun n w1 d m b=>?_
 obtain ⟨rfl,b⟩:=b
 ((try simp only[↓M1,M1,Mb,reduceIte]);repeat ((first | refine ld (by assumption) (by assumption) rfl ?_ | refine X7 (by assumption) (by assumption) rfl ?_ | refine Q8 (by assumption) ?_);(try simp only[↓M1,M1,Mb,reduceIte])))
 refine Q7 (fun e=>?_) (fun e=>?_)
 ·have a:n<xs.length:=by simpa using e
  refine M9 g a fun p cs q i k=>?_
  obtain ⟨rfl,f⟩:=k
  ((try simp only[↓M1,M1,Mb,reduceIte]);repeat ((first | refine ld (by assumption) (by assumption) rfl ?_ | refine X7 (by assumption) (by assumption) rfl ?_ | refine Q8 (by assumption) ?_);(try simp only[↓M1,M1,Mb,reduceIte])))
  refine Q7 (fun c=>?_) (fun c=>?_)
  ·have:xs.findIdx? (fun y=>decide (x=y))=some n:=by
    rw[List.findIdx?_eq_some_iff_getElem]
    refine ⟨a,c,fun j o=>?_⟩
    have:=List.any_eq_false.1 b (xs[j]) (List.mem_take_iff_getElem.2 ⟨j,by omega,rfl⟩)
    exact this
   rw[this] at h;exact h
  ·((try simp only[↓M1,M1,Mb,reduceIte]);repeat ((first | refine ld (by assumption) (by assumption) rfl ?_ | refine X7 (by assumption) (by assumption) rfl ?_ | refine Q8 (by assumption) ?_);(try simp only[↓M1,M1,Mb,reduceIte])))
   exact Y6 g.max a ⟨rfl,by rw[L4 a,b,c];rfl⟩
 ·have a: ¬n<xs.length:=by simpa using e
  rw[E1 a] at b
  have:xs.findIdx? (fun y=>decide (x=y))=none:=by
   rw[List.findIdx?_eq_none_iff];intro y l;simpa using List.any_eq_false.1 b y l
  rw[this] at h;exact h)
theorem Q24 {xs:List X0} {v:Value} {x:X0} (a:X2 w σ) (b:Sl 1 U9 σ v xs)
 (h:K (.bool (xs.any fun y=>decide (x=y))) w):Q1 P F.ai [v,S x] w K:=Vq (by
 unfold T8
 refine Q3V a b ?_
 (try simp only[↓M1,M1,Mb,reduceIte])
 rw[Q5X]
 exact h)
end Go.Proofs.YtjdiakhipmggjaaGreatDoor

namespace Go.Emb
abbrev Q6.Le (σ σ':Q6):Prop:= ∀b o,σ b=some o→σ' b=some o
def C7 {α:Type} (f:α→List UInt8):List α→List α→Bool
 | _,[]=>true
 | seen,x::r=> !(seen.any fun y=>decide (f y=f x))&&C7 f (seen++[x]) r
theorem Vy {α:Type} (p:α→Bool) (xs:List α):(!xs.any fun x=> !p x)=xs.all p:=by
 rw[List.all_eq_not_any_not]
end Go.Emb
namespace Go.Proofs.YtjdiakhipmggjaaGreatDoor
open Go.Emb Go.RowKit Go.Kd Go.Hm
variable {w : World} {K : Value → World → Prop} {σ : Q6}
theorem Q0x {xs:List Hm.Met} {v:Value} {fn:Fn} {l d:Array Value} (p:Hm.Met→Bool) (A:X2 w σ) (q:Sl 7 E5 σ v xs)
 (B: ∀(σ1:Q6) x cs (w1:World) (K:Value→World→Prop),σ.Le σ1→x∈xs→X2 w1 σ1→E5 σ1 x cs→cs.length=7→(∀w',Below w1.heap.size w1 w'→K (.bool (p x)) w')→Z3 P (.func fn l d) [.agg cs.toArray] w1 K)
 (h: ∀w',Below w.heap.size w w'→K (.bool (xs.all p)) w'):Q1 P F.ar [v, .func fn l d] w K:=Cf (by
 unfold Jz
 refine E4 A fun a w1 σ1 f n=>?_
 simp only[Value.cells] at n
 ((try simp only[↓M1,M1,Mb,reduceIte]);repeat ((first | refine ld (by assumption) (by assumption) rfl ?_ | refine X7 (by assumption) (by assumption) rfl ?_ | refine Q8 (by assumption) ?_);(try simp only[↓M1,M1,Mb,reduceIte])))
 refine B9 (fun x=> !p x) f.sat (q.up f) (fun x cs m K C i t k z=>?_) fun m s=>?_
 ·refine Z9 (Hn ?_)
  unfold Zg
  refine E4 i fun b y u c j=>?_
  refine X7 c.sat (n.up c) rfl ?_
  refine Y5 c.sat j k ?_
  refine B u x _ y _ (fun b o e=>c.le b o (f.le b o e)) C c.sat (Rep.up c.le t) k fun r g=>?_
  (try simp only[↓M1,M1,Mb,reduceIte])
  exact z r (bt c.bel g)
 ·(try simp only[↓M1,M1,Mb,reduceIte])
  rw[Vy]
  exact h m (bt f.bel s))
theorem Q27 {xs:List Fld} {v:Value} {fn:Fn} {l d:Array Value} (p:Fld→Bool) (A:X2 w σ) (q:Sl 3 R9 σ v xs)
 (B: ∀(σ1:Q6) x cs (w1:World) (K:Value→World→Prop),σ.Le σ1→x∈xs→X2 w1 σ1→R9 σ1 x cs→cs.length=3→(∀w',Below w1.heap.size w1 w'→K (.bool (p x)) w')→Z3 P (.func fn l d) [.agg cs.toArray] w1 K)
 (h: ∀w',Below w.heap.size w w'→K (.bool (xs.all p)) w'):Q1 P F.ax [v, .func fn l d] w K:=Bg (by
 unfold Vg
 refine E4 A fun a w1 σ1 f n=>?_
 simp only[Value.cells] at n
 ((try simp only[↓M1,M1,Mb,reduceIte]);repeat ((first | refine ld (by assumption) (by assumption) rfl ?_ | refine X7 (by assumption) (by assumption) rfl ?_ | refine Q8 (by assumption) ?_);(try simp only[↓M1,M1,Mb,reduceIte])))
 refine Jn (fun x=> !p x) f.sat (q.up f) (fun x cs m K C i t k z=>?_) fun m s=>?_
 ·refine Z9 (Rp ?_)
  unfold Jh
  refine E4 i fun b y u c j=>?_
  refine X7 c.sat (n.up c) rfl ?_
  refine Y5 c.sat j k ?_
  refine B u x _ y _ (fun b o e=>c.le b o (f.le b o e)) C c.sat (Rep.up c.le t) k fun r g=>?_
  (try simp only[↓M1,M1,Mb,reduceIte])
  exact z r (bt c.bel g)
 ·(try simp only[↓M1,M1,Mb,reduceIte])
  rw[Vy]
  exact h m (bt f.bel s))
theorem Q21 {xs:List Ins} {v:Value} {fn:Fn} {l d:Array Value} (p:Ins→Bool) (A:X2 w σ) (q:Sl 3 Qi σ v xs)
 (B: ∀(σ1:Q6) x cs (w1:World) (K:Value→World→Prop),σ.Le σ1→x∈xs→X2 w1 σ1→Qi σ1 x cs→cs.length=3→(∀w',Below w1.heap.size w1 w'→K (.bool (p x)) w')→Z3 P (.func fn l d) [.agg cs.toArray] w1 K)
 (h: ∀w',Below w.heap.size w w'→K (.bool (xs.all p)) w'):Q1 P F.az [v, .func fn l d] w K:=Ba (by
 unfold Vd
 refine E4 A fun a w1 σ1 f n=>?_
 simp only[Value.cells] at n
 ((try simp only[↓M1,M1,Mb,reduceIte]);repeat ((first | refine ld (by assumption) (by assumption) rfl ?_ | refine X7 (by assumption) (by assumption) rfl ?_ | refine Q8 (by assumption) ?_);(try simp only[↓M1,M1,Mb,reduceIte])))
 refine Ry (fun x=> !p x) f.sat (q.up f) (fun x cs m K C i t k z=>?_) fun m s=>?_
 ·refine Z9 (Re ?_)
  unfold Jj
  refine E4 i fun b y u c j=>?_
  refine X7 c.sat (n.up c) rfl ?_
  refine Y5 c.sat j k ?_
  refine B u x _ y _ (fun b o e=>c.le b o (f.le b o e)) C c.sat (Rep.up c.le t) k fun r g=>?_
  (try simp only[↓M1,M1,Mb,reduceIte])
  exact z r (bt c.bel g)
 ·(try simp only[↓M1,M1,Mb,reduceIte])
  rw[Vy]
  exact h m (bt f.bel s))
theorem Q25 {xs:List Cat} {v:Value} {fn:Fn} {l d:Array Value} (p:Cat→Bool) (A:X2 w σ) (q:Sl 4 Ju σ v xs)
 (B: ∀(σ1:Q6) x cs (w1:World) (K:Value→World→Prop),σ.Le σ1→x∈xs→X2 w1 σ1→Ju σ1 x cs→cs.length=4→(∀w',Below w1.heap.size w1 w'→K (.bool (p x)) w')→Z3 P (.func fn l d) [.agg cs.toArray] w1 K)
 (h: ∀w',Below w.heap.size w w'→K (.bool (xs.all p)) w'):Q1 P F.aA [v, .func fn l d] w K:=Cy (by
 unfold Vc
 refine E4 A fun a w1 σ1 f n=>?_
 simp only[Value.cells] at n
 ((try simp only[↓M1,M1,Mb,reduceIte]);repeat ((first | refine ld (by assumption) (by assumption) rfl ?_ | refine X7 (by assumption) (by assumption) rfl ?_ | refine Q8 (by assumption) ?_);(try simp only[↓M1,M1,Mb,reduceIte])))
 refine Sd (fun x=> !p x) f.sat (q.up f) (fun x cs m K C i t k z=>?_) fun m s=>?_
 ·refine Z9 (Rh ?_)
  unfold Je
  refine E4 i fun b y u c j=>?_
  refine X7 c.sat (n.up c) rfl ?_
  refine Y5 c.sat j k ?_
  refine B u x _ y _ (fun b o e=>c.le b o (f.le b o e)) C c.sat (Rep.up c.le t) k fun r g=>?_
  (try simp only[↓M1,M1,Mb,reduceIte])
  exact z r (bt c.bel g)
 ·(try simp only[↓M1,M1,Mb,reduceIte])
  rw[Vy]
  exact h m (bt f.bel s))
theorem Ik {xs:List X0} {v:Value} {fn:Fn} {g c:Array Value} (p:X0→Bool) (o:X2 w σ) (j:Sl 1 U9 σ v xs)
 (q: ∀(σ1:Q6) x (w1:World) (K:Value→World→Prop),σ.Le σ1→x∈xs→X2 w1 σ1→x.length≤U0→(∀w',Below w1.heap.size w1 w'→K (.bool (p x)) w')→Z3 P (.func fn g c) [S x] w1 K)
 (h: ∀w',Below w.heap.size w w'→K (.bool (xs.all p)) w'):Q1 P F.ab [v, .func fn g c] w K:=Kn (by
 unfold Nz
 refine E4 o fun a w1 σ1 d i=>?_
 simp only[Value.cells] at i
 ((try simp only[↓M1,M1,Mb,reduceIte]);repeat ((first | refine ld (by assumption) (by assumption) rfl ?_ | refine X7 (by assumption) (by assumption) rfl ?_ | refine Q8 (by assumption) ?_);(try simp only[↓M1,M1,Mb,reduceIte])))
 refine P5 (fun x=> !p x) d.sat (j.up d) (fun x f K r b m n=>?_) fun f l=>?_
 ·refine Z9 (Fp ?_)
  unfold Vu
  refine X7 b i rfl ?_
  refine q σ1 x f _ d.le r b m fun k e=>?_
  (try simp only[↓M1,M1,Mb,reduceIte])
  exact n k e
 ·(try simp only[↓M1,M1,Mb,reduceIte])
  rw[Vy]
  exact h f (bt d.bel l))
theorem Q2b {xs:List Hm.Met} {v:Value} {fn:Fn} {E l:Array Value} (f:Hm.Met→X0) (hs:X2 w σ) (u:Sl 7 E5 σ v xs)
 (Z: ∀(σ1:Q6) x cs (w1:World) (K:Value→World→Prop),σ.Le σ1→X2 w1 σ1→E5 σ1 x cs→cs.length=7→(∀w',Below w1.heap.size w1 w'→K (S (f x)) w')→Z3 P (.func fn E l) [.agg cs.toArray] w1 K)
 (h: ∀w',Below w.heap.size w w'→K (.bool (C7 f [] xs)) w'):Q1 P F.aw [v, .func fn E l] w K:=Bb (by
 unfold Vh
 refine E4 hs fun a w1 σ1 A ha=>?_
 simp only[Value.cells] at ha
 have W:=A.sat
 replace u:=u.up A
 ((try simp only[↓M1,M1,Mb,reduceIte]);repeat ((first | refine ld (by assumption) (by assumption) rfl ?_ | refine X7 (by assumption) (by assumption) rfl ?_ | refine Q8 (by assumption) ?_);(try simp only[↓M1,M1,Mb,reduceIte])))
 refine U3 xs.length (fun n w'=>Below w1.heap.size w1 w'∧C7 f [] xs=C7 f (xs.take n) (xs.drop n)) ⟨Below.refl _ _,rfl⟩ fun n w2 d hn hi=>?_
 obtain ⟨i,m⟩:=hi
 have z:=W.below i
 ((try simp only[↓M1,M1,Mb,reduceIte]);repeat ((first | refine ld (by assumption) (by assumption) rfl ?_ | refine X7 (by assumption) (by assumption) rfl ?_ | refine Q8 (by assumption) ?_);(try simp only[↓M1,M1,Mb,reduceIte])))
 refine Q7 (fun M=>?_) (fun M=>?_)
 ·have k:n<xs.length:=by simpa using M
  rw[List.drop_eq_getElem_cons k] at m
  simp only[C7] at m
  refine M9 u k fun p cs hl g Y=>?_
  refine Y5 z hl g ?_
  refine Y7 z (by rfl) g (Rep.one Y) fun q w3 σ3 j hq=>?_
  refine Ez (u.up j) none (some (I n)) 0 n (.inl ⟨rfl,rfl⟩) (.inr rfl) (by omega) (by omega) fun v' L=>?_
  ((try simp only[↓M1,M1,Mb,reduceIte]);repeat ((first | refine ld (by assumption) (by assumption) rfl ?_ | refine X7 (by assumption) (by assumption) rfl ?_ | refine Q8 (by assumption) ?_);(try simp only[↓M1,M1,Mb,reduceIte])))
  refine B9 (fun y=>decide (f y=f xs[n])) j.sat L (fun y ys X K hy N J C hK=>?_) fun X H=>?_
  ·refine Z9 (Rm ?_)
   unfold Zy
   refine E4 N fun b w5 V c U=>?_
   have D:=(ha.up j).up c
   have Q:=hq.up c
   have r:σ.Le V:=fun b o e=>c.le b o (j.le b o (A.le b o e))
   refine Dn (Below.refl _ _) ?_
   refine X4 (.func fn E l) (fun w i=>X7 (c.sat.below i) D rfl (X6 rfl)) ?_
   refine X4 (.agg ys.toArray) (fun w i=>Y5 (c.sat.below i) U C (X6 rfl)) ?_
   refine X4 (S (f y)) (fun t t' w i e e'=>by rw[e,e'];exact Z V y ys w _ r (c.sat.below i) (Rep.up c.le J) C fun w' O=>Q3H O rfl) ?_
   refine X4 (.func fn E l) (fun w i=>X7 (c.sat.below i) D rfl (X6 rfl)) ?_
   refine X4 (.agg cs.toArray) (fun w i=>Y5 (c.sat.below i) Q g (X6 rfl)) ?_
   rintro _ _ _ _ _ w6 B rfl rfl rfl rfl rfl
   refine Z V xs[n] cs w6 _ r (c.sat.below B) (Rep.up (fun b o e=>c.le b o (j.le b o e)) Y) g fun w7 R=>?_
   (try simp only[↓M1,M1,Mb,reduceIte])
   exact hK w7 (bt (bt c.bel B) R)
  ·have s:=bt i (bt j.bel H)
   simp only[List.drop_zero,Nat.sub_zero] at*
   refine Q7 (fun hh=>?_) (fun hh=>?_)
   ·rw[hh] at m
    have:=h X (bt A.bel s)
    rw[m] at this;exact this
   ·rw[hh] at m
    ((try simp only[↓M1,M1,Mb,reduceIte]);repeat ((first | refine ld (by assumption) (by assumption) rfl ?_ | refine X7 (by assumption) (by assumption) rfl ?_ | refine Q8 (by assumption) ?_);(try simp only[↓M1,M1,Mb,reduceIte])))
    refine Y6 u.max k ⟨s,?_⟩
    rw[m,List.take_add_one,List.getElem?_eq_getElem k];rfl
 ·have k: ¬n<xs.length:=by simpa using M
  rw[List.drop_eq_nil_of_le (by omega)] at m
  have:=h w2 (bt A.bel i)
  rw[m] at this;exact this)
theorem Q2Y {xs:List Fld} {v:Value} {fn:Fn} {E l:Array Value} (f:Fld→X0) (hs:X2 w σ) (u:Sl 3 R9 σ v xs)
 (Z: ∀(σ1:Q6) x cs (w1:World) (K:Value→World→Prop),σ.Le σ1→X2 w1 σ1→R9 σ1 x cs→cs.length=3→(∀w',Below w1.heap.size w1 w'→K (S (f x)) w')→Z3 P (.func fn E l) [.agg cs.toArray] w1 K)
 (h: ∀w',Below w.heap.size w w'→K (.bool (C7 f [] xs)) w'):Q1 P F.aH [v, .func fn E l] w K:=Bz (by
 unfold Vs
 refine E4 hs fun a w1 σ1 A ha=>?_
 simp only[Value.cells] at ha
 have W:=A.sat
 replace u:=u.up A
 ((try simp only[↓M1,M1,Mb,reduceIte]);repeat ((first | refine ld (by assumption) (by assumption) rfl ?_ | refine X7 (by assumption) (by assumption) rfl ?_ | refine Q8 (by assumption) ?_);(try simp only[↓M1,M1,Mb,reduceIte])))
 refine U3 xs.length (fun n w'=>Below w1.heap.size w1 w'∧C7 f [] xs=C7 f (xs.take n) (xs.drop n)) ⟨Below.refl _ _,rfl⟩ fun n w2 d hn hi=>?_
 obtain ⟨i,m⟩:=hi
 have z:=W.below i
 ((try simp only[↓M1,M1,Mb,reduceIte]);repeat ((first | refine ld (by assumption) (by assumption) rfl ?_ | refine X7 (by assumption) (by assumption) rfl ?_ | refine Q8 (by assumption) ?_);(try simp only[↓M1,M1,Mb,reduceIte])))
 refine Q7 (fun M=>?_) (fun M=>?_)
 ·have k:n<xs.length:=by simpa using M
  rw[List.drop_eq_getElem_cons k] at m
  simp only[C7] at m
  refine M9 u k fun p cs hl g Y=>?_
  refine Y5 z hl g ?_
  refine Y7 z (by rfl) g (Rep.one Y) fun q w3 σ3 j hq=>?_
  refine Ez (u.up j) none (some (I n)) 0 n (.inl ⟨rfl,rfl⟩) (.inr rfl) (by omega) (by omega) fun v' L=>?_
  ((try simp only[↓M1,M1,Mb,reduceIte]);repeat ((first | refine ld (by assumption) (by assumption) rfl ?_ | refine X7 (by assumption) (by assumption) rfl ?_ | refine Q8 (by assumption) ?_);(try simp only[↓M1,M1,Mb,reduceIte])))
  refine Jn (fun y=>decide (f y=f xs[n])) j.sat L (fun y ys X K hy N J C hK=>?_) fun X H=>?_
  ·refine Z9 (Ce ?_)
   unfold Uh
   refine E4 N fun b w5 V c U=>?_
   have D:=(ha.up j).up c
   have Q:=hq.up c
   have r:σ.Le V:=fun b o e=>c.le b o (j.le b o (A.le b o e))
   refine Dn (Below.refl _ _) ?_
   refine X4 (.func fn E l) (fun w i=>X7 (c.sat.below i) D rfl (X6 rfl)) ?_
   refine X4 (.agg ys.toArray) (fun w i=>Y5 (c.sat.below i) U C (X6 rfl)) ?_
   refine X4 (S (f y)) (fun t t' w i e e'=>by rw[e,e'];exact Z V y ys w _ r (c.sat.below i) (Rep.up c.le J) C fun w' O=>Q3H O rfl) ?_
   refine X4 (.func fn E l) (fun w i=>X7 (c.sat.below i) D rfl (X6 rfl)) ?_
   refine X4 (.agg cs.toArray) (fun w i=>Y5 (c.sat.below i) Q g (X6 rfl)) ?_
   rintro _ _ _ _ _ w6 B rfl rfl rfl rfl rfl
   refine Z V xs[n] cs w6 _ r (c.sat.below B) (Rep.up (fun b o e=>c.le b o (j.le b o e)) Y) g fun w7 R=>?_
   (try simp only[↓M1,M1,Mb,reduceIte])
   exact hK w7 (bt (bt c.bel B) R)
  ·have s:=bt i (bt j.bel H)
   simp only[List.drop_zero,Nat.sub_zero] at*
   refine Q7 (fun hh=>?_) (fun hh=>?_)
   ·rw[hh] at m
    have:=h X (bt A.bel s)
    rw[m] at this;exact this
   ·rw[hh] at m
    ((try simp only[↓M1,M1,Mb,reduceIte]);repeat ((first | refine ld (by assumption) (by assumption) rfl ?_ | refine X7 (by assumption) (by assumption) rfl ?_ | refine Q8 (by assumption) ?_);(try simp only[↓M1,M1,Mb,reduceIte])))
    refine Y6 u.max k ⟨s,?_⟩
    rw[m,List.take_add_one,List.getElem?_eq_getElem k];rfl
 ·have k: ¬n<xs.length:=by simpa using M
  rw[List.drop_eq_nil_of_le (by omega)] at m
  have:=h w2 (bt A.bel i)
  rw[m] at this;exact this)
theorem Q59 {xs:List X0} {v:Value} {fn:Fn} {D k:Array Value} (f:X0→X0) (hs:X2 w σ) (z:Sl 1 U9 σ v xs)
 (W: ∀(σ1:Q6) x (w1:World) (K:Value→World→Prop),σ.Le σ1→X2 w1 σ1→x.length≤U0→(∀w',Below w1.heap.size w1 w'→K (S (f x)) w')→Z3 P (.func fn D k) [S x] w1 K)
 (h: ∀w',Below w.heap.size w w'→K (.bool (C7 f [] xs)) w'):Q1 P F.aV [v, .func fn D k] w K:=Ap (by
 unfold Oi
 refine E4 hs fun a w1 σ1 A V=>?_
 simp only[Value.cells] at V
 have Q:=A.sat
 replace z:=z.up A
 ((try simp only[↓M1,M1,Mb,reduceIte]);repeat ((first | refine ld (by assumption) (by assumption) rfl ?_ | refine X7 (by assumption) (by assumption) rfl ?_ | refine Q8 (by assumption) ?_);(try simp only[↓M1,M1,Mb,reduceIte])))
 refine U3 xs.length (fun n w'=>Below w1.heap.size w1 w'∧C7 f [] xs=C7 f (xs.take n) (xs.drop n)) ⟨Below.refl _ _,rfl⟩ fun n w2 d hn Y=>?_
 obtain ⟨c,l⟩:=Y
 have u:=Q.below c
 ((try simp only[↓M1,M1,Mb,reduceIte]);repeat ((first | refine ld (by assumption) (by assumption) rfl ?_ | refine X7 (by assumption) (by assumption) rfl ?_ | refine Q8 (by assumption) ?_);(try simp only[↓M1,M1,Mb,reduceIte])))
 refine Q7 (fun L=>?_) (fun L=>?_)
 ·have j:n<xs.length:=by simpa using L
  rw[List.drop_eq_getElem_cons j] at l
  simp only[C7] at l
  refine M9 z j fun p cs Z R X=>?_
  obtain ⟨rfl,s⟩:=X
  refine X7 u Z rfl ?_
  refine U8 u (by rfl) rfl rfl fun q w3 N g hq=>?_
  refine Ez (z.up g) none (some (I n)) 0 n (.inl ⟨rfl,rfl⟩) (.inr rfl) (by omega) (by omega) fun v' J=>?_
  ((try simp only[↓M1,M1,Mb,reduceIte]);repeat ((first | refine ld (by assumption) (by assumption) rfl ?_ | refine X7 (by assumption) (by assumption) rfl ?_ | refine Q8 (by assumption) ?_);(try simp only[↓M1,M1,Mb,reduceIte])))
  refine P5 (fun y=>decide (f y=f xs[n])) g.sat J (fun y U K hy i H hK=>?_) fun U E=>?_
  ·refine Z9 (Gs ?_)
   unfold Ll
   have C:=V.up g
   have r:σ.Le N:=fun b o e=>g.le b o (A.le b o e)
   refine Dn (Below.refl _ _) ?_
   refine X4 (.func fn D k) (fun w c=>X7 (i.below c) C rfl (X6 rfl)) ?_
   refine X4 (S (f y)) (fun t w c e=>by rw[e];exact W N y w _ r (i.below c) H fun w' M=>Q3H M rfl) ?_
   refine X4 (.func fn D k) (fun w c=>X7 (i.below c) C rfl (X6 rfl)) ?_
   refine X4 (S xs[n]) (fun w c=>X7 (i.below c) hq rfl (X6 rfl)) ?_
   rintro _ _ _ _ w6 B rfl rfl rfl rfl
   refine W N xs[n] w6 _ r (i.below B) s fun w7 O=>?_
   (try simp only[↓M1,M1,Mb,reduceIte])
   exact hK w7 (bt B O)
  ·have m:=bt c (bt g.bel E)
   simp only[List.drop_zero,Nat.sub_zero] at*
   refine Q7 (fun hh=>?_) (fun hh=>?_)
   ·rw[hh] at l
    have:=h U (bt A.bel m)
    rw[l] at this;exact this
   ·rw[hh] at l
    ((try simp only[↓M1,M1,Mb,reduceIte]);repeat ((first | refine ld (by assumption) (by assumption) rfl ?_ | refine X7 (by assumption) (by assumption) rfl ?_ | refine Q8 (by assumption) ?_);(try simp only[↓M1,M1,Mb,reduceIte])))
    refine Y6 z.max j ⟨m,?_⟩
    rw[l,List.take_add_one,List.getElem?_eq_getElem j];rfl
 ·have j: ¬n<xs.length:=by simpa using L
  rw[List.drop_eq_nil_of_le (by omega)] at l
  have:=h w2 (bt A.bel c)
  rw[l] at this;exact this)
theorem Q6W {P:Program} {w:World} (d:Nat) (t e:TypeId) (a:Option Addr) (n c:Nat) (h:P.underlying t=some (.slice e)):
 (Op.equalIn (d+1) t (.slice a n c) (.slice none 0 0)).run P w= .ok a.isNone w:=by
 cases a<;>simp[Op.equalIn,run_underlying h]
theorem Q1B {t e:TypeId} {j i:Operand} [ts:TS P t e] {a:Option Addr} {n c:Nat} {b:Bool} (d:a.isNone=b) (g:K (.bool b) w):Q3 P .eql t j i (.slice a n c) (.slice none 0 0) w K:=by
 have f:(Op.equal t (.slice a n c) (.slice none 0 0)).run P w= .ok b w:=by
  have:=Q6W (P:=P) (w:=w) 9999 t e a n c ts.h
  rw[d] at this
  exact this
 unfold Q3
 rw[X9 (v:= .bool b) (w':=w) (by simp[eqGuard,Go.binOp,f])]
 exact g
theorem Li {xs:List X0} {v:Value} (i:X2 w σ) (e:Sl 1 U9 σ v xs) (y:xs.length≤1000000)
 (h: ∀f w' b,Stp w σ w' b→Sl 1 U9 b f xs→K f w'):Q1 P F.a9 [v] w K:=Mn (by
 unfold Qp
 have c:=e
 obtain ⟨a,p,rfl,t,C,j,s⟩:=e
 refine Q1B rfl ?_
 refine Q7 (fun g=>?_) (fun g=>?_)
 ·have:a=none:=by simpa using g
  have u:=j this
  have r:xs=[]:=List.eq_nil_of_length_eq_zero (by omega)
  subst r
  exact h _ w σ (Stp.refl i) Sl.nil
 ·refine Zf (R:=U9) (sz:=1) (Stp.refl i) [] [] rfl rfl (by simp) (by rfl) trivial fun A w1 n q _=>?_
  refine app n q c (by rfl) (by simp only[List.length_nil];omega) (by simp only[List.length_nil];omega) fun B o z m d _=>?_
  obtain ⟨b,l,k,_⟩:=d.keep m
  exact h _ o b l k)
theorem Ev {xs:List Fld} {v:Value} (i:X2 w σ) (e:Sl 3 R9 σ v xs) (y:xs.length≤1000000)
 (h: ∀f w' b,Stp w σ w' b→Sl 3 R9 b f xs→K f w'):Q1 P F.ad [v] w K:=Ud (by
 unfold K8
 have c:=e
 obtain ⟨a,p,rfl,t,C,j,s⟩:=e
 refine Q1B rfl ?_
 refine Q7 (fun g=>?_) (fun g=>?_)
 ·have:a=none:=by simpa using g
  have u:=j this
  have r:xs=[]:=List.eq_nil_of_length_eq_zero (by omega)
  subst r
  exact h _ w σ (Stp.refl i) Sl.nil
 ·refine Zf (R:=R9) (sz:=3) (Stp.refl i) [] [] rfl rfl (by simp) (by rfl) trivial fun A w1 n q _=>?_
  refine app n q c (by rfl) (by simp only[List.length_nil];omega) (by simp only[List.length_nil];omega) fun B o z m d _=>?_
  obtain ⟨b,l,k,_⟩:=d.keep m
  exact h _ o b l k)
theorem Ha {xs:List Ins} {v:Value} (i:X2 w σ) (e:Sl 3 Qi σ v xs) (y:xs.length≤1000000)
 (h: ∀f w' b,Stp w σ w' b→Sl 3 Qi b f xs→K f w'):Q1 P F.ae [v] w K:=Up (by
 unfold P1
 have c:=e
 obtain ⟨a,p,rfl,t,C,j,s⟩:=e
 refine Q1B rfl ?_
 refine Q7 (fun g=>?_) (fun g=>?_)
 ·have:a=none:=by simpa using g
  have u:=j this
  have r:xs=[]:=List.eq_nil_of_length_eq_zero (by omega)
  subst r
  exact h _ w σ (Stp.refl i) Sl.nil
 ·refine Zf (R:=Qi) (sz:=3) (Stp.refl i) [] [] rfl rfl (by simp) (by rfl) trivial fun A w1 n q _=>?_
  refine app n q c (by rfl) (by simp only[List.length_nil];omega) (by simp only[List.length_nil];omega) fun B o z m d _=>?_
  obtain ⟨b,l,k,_⟩:=d.keep m
  exact h _ o b l k)
theorem Ek {xs:List Cat} {v:Value} (i:X2 w σ) (e:Sl 4 Ju σ v xs) (y:xs.length≤1000000)
 (h: ∀f w' b,Stp w σ w' b→Sl 4 Ju b f xs→K f w'):Q1 P F.af [v] w K:=Uq (by
 unfold K6
 have c:=e
 obtain ⟨a,p,rfl,t,C,j,s⟩:=e
 refine Q1B rfl ?_
 refine Q7 (fun g=>?_) (fun g=>?_)
 ·have:a=none:=by simpa using g
  have u:=j this
  have r:xs=[]:=List.eq_nil_of_length_eq_zero (by omega)
  subst r
  exact h _ w σ (Stp.refl i) Sl.nil
 ·refine Zf (R:=Ju) (sz:=4) (Stp.refl i) [] [] rfl rfl (by simp) (by rfl) trivial fun A w1 n q _=>?_
  refine app n q c (by rfl) (by simp only[List.length_nil];omega) (by simp only[List.length_nil];omega) fun B o z m d _=>?_
  obtain ⟨b,l,k,_⟩:=d.keep m
  exact h _ o b l k)
end Go.Proofs.YtjdiakhipmggjaaGreatDoor

namespace Go.Hm
open Go.Kd
structure Opr where
  name : X0
  number : Bool
  text : Bool
deriving DecidableEq
def Uk:List Opr:=[
 ⟨[105,110,116],true,false⟩,
 ⟨[116,114,117,101],false,false⟩,
 ⟨[102,97,108,115,101],false,false⟩,
 ⟨[119,111,114,100],false,true⟩,
 ⟨[110,117,108,108],false,false⟩,
 ⟨[108,111,97,100],true,false⟩,
 ⟨[115,116,111,114,101],true,false⟩,
 ⟨[112,111,112],false,false⟩,
 ⟨[100,117,112],false,false⟩,
 ⟨[115,119,97,112],false,false⟩,
 ⟨[97,100,100],false,false⟩,
 ⟨[115,117,98],false,false⟩,
 ⟨[109,117,108],false,false⟩,
 ⟨[100,105,118],false,false⟩,
 ⟨[114,101,109],false,false⟩,
 ⟨[110,101,103],false,false⟩,
 ⟨[108,101,115,115],false,false⟩,
 ⟨[115,97,109,101],false,false⟩,
 ⟨[110,111,116],false,false⟩,
 ⟨[98,111,116,104],false,false⟩,
 ⟨[106,111,105,110],false,false⟩,
 ⟨[115,105,122,101],false,false⟩,
 ⟨[106,117,109,112],true,false⟩,
 ⟨[98,114,97,110,99,104],true,false⟩,
 ⟨[110,101,119],false,true⟩,
 ⟨[103,101,116],false,true⟩,
 ⟨[112,117,116],false,true⟩,
 ⟨[99,97,108,108],false,true⟩,
 ⟨[97,114,114,97,121],false,true⟩,
 ⟨[97,116],false,false⟩,
 ⟨[115,101,116],false,false⟩,
 ⟨[105,115],false,true⟩,
 ⟨[99,97,115,116],false,true⟩,
 ⟨[114,101,116,117,114,110],false,false⟩,
 ⟨[116,104,114,111,119],false,false⟩,
 ⟨[111,117,116],false,false⟩,
 ⟨[101,113,117,97,108],false,false⟩,
 ⟨[97,110,100],false,false⟩,
 ⟨[111,114],false,false⟩,
 ⟨[120,111,114],false,false⟩,
 ⟨[115,104,108],false,false⟩,
 ⟨[115,104,114],false,false⟩]
end Go.Hm
namespace Go.Emb
open Go.Hm
def ROp (_:Q6) (o:Opr) (cs:List Value):Prop:=cs=[S o.name, .bool o.number, .bool o.text]
def cOp (o:Opr):List Value:=[S o.name, .bool o.number, .bool o.text]
instance:Rep ROp:=⟨fun _ h=>h,fun h u hu=>by rw[h] at hu;simp at hu;rcases hu with rfl | rfl | rfl<;>rfl⟩
end Go.Emb
namespace Go.Proofs.YtjdiakhipmggjaaGreatDoor
open Go.Emb Go.RowKit Go.Kd Go.Hm
variable {w : World} {K : Value → World → Prop} {σ : Q6}
theorem Q6g {a:X0} (m:a.length≤U0) (h: ∀w',Below w.heap.size w w'→K (.bool (D7 a)) w'):Q1 P F.bT [S a] w K:=Q4l (by
 unfold Gt
 have b:a.length≤140737488355328:=by simp only[U0] at m;omega
 refine Q69 a b fun w1 i=>?_
 cases d:name a
 ·(try simp only[↓M1,M1,Mb,reduceIte])
  have:=h w1 i
  rwa [show D7 a=false by cases a with | nil=>rfl | cons c r=>simp[D7,d]] at this
 ·(try simp only[↓M1,M1,Mb,reduceIte])
  refine Ru a b fun l k=>?_
  (try simp only[↓M1,M1,Mb,reduceIte])
  have:=h l (bt i k)
  rwa [show D7 a= !M7 a by
   cases a with
   | nil=>simp[name] at d
   | cons c r=>
    obtain ⟨e,j⟩:=Km d
    simp only[M7,D7,d,Bool.true_and]
    simp only[S8,j,Bool.or_false] at e
    cases f:Xp c.toNat<;>cases g:Qb c.toNat
    ·simp[f,g] at e
    ·rfl
    ·rfl
    ·exfalso
     simp only[Xp,Qb,Bool.and_eq_true,decide_eq_true_eq] at f g
     omega] at this)
theorem X2B {t e:TypeId} {n sz b:Nat} {z:Value} [ta:TA P t n e] [tz:TZ P e sz b z] {a:Addr} (c:K (.slice (some a) n n) w):R8 P t (.pointer (some a)) none none none w K:=by
 unfold R8
 have:(Instr.sliceAt t (.pointer (some a)) none none none).run P w= .ok (.slice (some (if n=0 then a else a.add (0*sz))) (n-0) (n-0)) w:=by
  simp[Instr.sliceAt,run_underlying ta.h,Instr.sureAddr,Instr.sliceBounds,L5 tz]
 rw[X9 this]
 have d:(if n=0 then a else a.add (0*sz))=a:=by
  by_cases h:n=0
  ·rw[if_pos h]
  ·rw[if_neg h,Nat.zero_mul,add_zero]
 rw[d];exact c
def Q2J (σ:Q6):Prop:=Z6 σ ⟨G.a,0,none⟩ (Uk.flatMap cOp)
theorem Q7J (i:Nat) (o:Opr) (h:Uk[i]? =some o):((Uk.flatMap cOp).drop (i*3)).take 3=cOp o:=by
 have c:i<42:=(List.getElem?_eq_some_iff.1 h).1
 have key: ∀l:List Opr,∀i o,l[i]? =some o→((l.flatMap cOp).drop (i*3)).take 3=cOp o:=by
  intro l
  induction l with
  | nil=>intro i o h;simp at h
  | cons a r b=>
   intro i o h
   cases i with
   | zero=>simp at h;subst h;rfl
   | succ i=>
    have:=b i o (by simpa using h)
    rw[List.flatMap_cons,show (i+1)*3=(cOp a).length+i*3 by simp[cOp];omega,List.drop_append]
    simpa [List.drop_eq_nil_of_le] using this
 exact key _ i o h
theorem Q3K {σ:Q6} {a:Addr} {cs:List Value} (h:Z6 σ a cs) (i n:Nat):Z6 σ (a.add i) ((cs.drop i).take n):=by
 obtain ⟨d,arr,e,f,c,g⟩:=h
 refine ⟨K2 d _,arr,e,f,by rw[S9];exact c,fun j v b=>?_⟩
 rw[List.getElem?_take] at b
 split at b
 ·rw[List.getElem?_drop] at b
  rw[Qf,Nat.add_assoc];exact g _ _ b
 ·cases b
theorem X33 (h:Q2J σ):Sl 3 ROp σ (.slice (some ⟨G.a,0,none⟩) 42 42) Uk:=by
 refine ⟨_,42,rfl,by decide,by decide,by simp,?_⟩
 rintro _ ⟨⟩
 refine ⟨fun _=>rfl,fun i x a=>⟨cOp x,?_,rfl,rfl⟩⟩
 rw[←Q7J i x a]
 exact Q3K h (i*3) 3
theorem Q0a {β:Type} {xs:List Opr} {v f:Value} (a:β→Opr→Bool×β) (l:β) (b:β→World→Prop) (D:Nat→Prop) (k: ∀s w,b s w→X2 w σ) (z:b l w) (t:Sl 3 ROp σ v xs)
 (C: ∀s x cs (w1:World) (K:Value→World→Prop),x∈xs→Kpt D w w1→b s w1→ROp σ x cs→cs.length=3→(∀w',Kpt D w w'→b (a s x).2 w'→K (.bool (a s x).1) w')→Z3 P f [.agg cs.toArray] w1 K)
 (h: ∀w',Kpt D w w'→b (J5 a l xs 0).2 w'→K (I (L7 (J5 a l xs 0).1)) w'):Q1 P F.t [v,f] w K:=Un (by
 unfold K7
 ((try simp only[↓M1,M1,Mb,reduceIte]);repeat ((first | refine ld (by assumption) (by assumption) rfl ?_ | refine X7 (by assumption) (by assumption) rfl ?_ | refine Q8 (by assumption) ?_);(try simp only[↓M1,M1,Mb,reduceIte])))
 refine U3 xs.length (fun n w'=>Kpt D w w'∧ ∃s,b s w'∧J5 a l xs 0=J5 a s (xs.drop n) n) ⟨Kpt.refl,l,z,rfl⟩ fun n w1 d E j=>?_
 obtain ⟨u,s,j,g⟩:=j
 have r:=k s w1 j
 ((try simp only[↓M1,M1,Mb,reduceIte]);repeat ((first | refine ld (by assumption) (by assumption) rfl ?_ | refine X7 (by assumption) (by assumption) rfl ?_ | refine Q8 (by assumption) ?_);(try simp only[↓M1,M1,Mb,reduceIte])))
 refine Q7 (fun q=>?_) (fun q=>?_)
 ·have c:n<xs.length:=by simpa using q
  refine M9 t c fun p cs A e y=>?_
  refine Y5 r A e ?_
  refine C s xs[n] cs w1 _ (List.getElem_mem c) u j y e fun B i m=>?_
  rw[List.drop_eq_getElem_cons c] at g
  simp only[J5] at g
  refine Q7 (fun o=>?_) (fun o=>?_)
  ·rw[o] at g
   have:=h B i
   rw[g] at this
   exact this m
  ·rw[o] at g
   ((try simp only[↓M1,M1,Mb,reduceIte]);repeat ((first | refine ld (by assumption) (by assumption) rfl ?_ | refine X7 (by assumption) (by assumption) rfl ?_ | refine Q8 (by assumption) ?_);(try simp only[↓M1,M1,Mb,reduceIte])))
   exact Y6 t.max c ⟨i,_,m,by simpa using g⟩
 ·have c: ¬n<xs.length:=by simpa using q
  rw[List.drop_eq_nil_of_le (by omega)] at g
  have:=h w1 u
  rw[g] at this
  exact this j)
theorem Q00 {xs:List Opr} {v f:Value} (p:Opr→Bool) (hs:X2 w σ) (hv:Sl 3 ROp σ v xs)
 (hf: ∀x cs (w1:World) (K:Value→World→Prop),x∈xs→X2 w1 σ→ROp σ x cs→cs.length=3→(∀w',Below w1.heap.size w1 w'→K (.bool (p x)) w')→Z3 P f [.agg cs.toArray] w1 K)
 (h: ∀w',Below w.heap.size w w'→K (I (L7 (xs.findIdx? p))) w'):Q1 P F.t [v,f] w K:=by
 refine Q0a (fun (_:Unit) x=>(p x,())) () (fun _ w'=>Below w.heap.size w w') (fun _=>False) (fun _ w' hb=>hs.below hb) (Below.refl _ _) hv (fun s x cs w1 K hx hk hi hr hl hK=>hf x cs w1 K hx (hs.below hi) hr hl fun w' hb=>hK w' (.of_below (bt hi hb)) (bt hi hb)) fun w' hk hi=>?_
 rw[P0]
 simpa using h w' hi
theorem Q2J.le {σ a:Q6} (h:Q2J σ) (c: ∀b o,σ b=some o→a b=some o):Q2J a:=Z6.le h c
def Qn (n:X0):Option Nat:=Uk.findIdx? fun o=>decide (o.name=n)
theorem X35 {a:X0} (s:X2 w σ) (n:Q2J σ) (h: ∀w',Below w.heap.size w w'→K (I (L7 (Qn a))) w'):Q1 P F.cK [S a] w K:=Q7q (by
 unfold Q2l
 refine E4 s fun p w1 σ1 e f=>?_
 simp only[Value.cells] at f
 refine X2B ?_
 ((try simp only[↓M1,M1,Mb,reduceIte]);repeat ((first | refine ld (by assumption) (by assumption) rfl ?_ | refine X7 (by assumption) (by assumption) rfl ?_ | refine Q8 (by assumption) ?_);(try simp only[↓M1,M1,Mb,reduceIte])))
 refine Q00 (fun o=>decide (o.name=a)) e.sat (X33 (n.le e.le)) (fun x cs g K y c k u r=>?_) fun g i=>?_
 ·refine Z9 (Q55 ?_)
  unfold Tv
  refine E4 c fun q m v b t=>?_
  have d:cs=[S x.name, .bool x.number, .bool x.text]:=k
  subst d
  have l:=b.sat
  have j:=f.up b
  simp only[Value.cells] at t
  ((try simp only[↓M1,M1,Mb,reduceIte]);repeat ((first | refine ld (by assumption) (by assumption) rfl ?_ | refine X7 (by assumption) (by assumption) rfl ?_ | refine Q8 (by assumption) ?_);(try simp only[↓M1,M1,Mb,reduceIte])))
  exact r m b.bel
 ·(try simp only[↓M1,M1,Mb,reduceIte])
  exact h g (bt e.bel i))
def S2 (n:X0):Bool×Bool×Bool:=match Qn n with
 | none=>(false,false,false)
 | some i=>((Uk.getD i ⟨[],false,false⟩).number,(Uk.getD i ⟨[],false,false⟩).text,true)
theorem X2K {a:X0} (k:X2 w σ) (j:Q2J σ) (h: ∀w',Below w.heap.size w w'→K (.tuple #[.bool (S2 a).1, .bool (S2 a).2.1, .bool (S2 a).2.2]) w'):Q1 P F.cl [S a] w K:=Q6F (by
 unfold Q14
 refine X35 k j fun w1 b=>?_
 have c:=k.below b
 unfold S2 at h
 cases g:Qn a with
 | none=>
  rw[g] at h
  simp only[L7]
  (try simp only[↓M1,M1,Mb,reduceIte])
  simp only[show decide ((-1:Int)<0)=true from rfl,↓M1,M1,Mb,reduceIte]
  exact h w1 b
 | some i=>
  rw[g] at h
  simp only at h
  have m:i<42:=(List.findIdx?_eq_some_iff_getElem.1 g).1
  have l:Uk[i]? =some (Uk.getD i ⟨[],false,false⟩):=by
   rw[List.getD,List.getElem?_eq_getElem (by exact m)];rfl
  generalize Uk.getD i ⟨[],false,false⟩=o at h l
  have f:=Q3K j (i*3) 3
  rw[Q7J i o l] at f
  simp only[L7]
  have n:decide ((i:Int)<0)=false:=by simp
  simp only[n,↓M1,M1,Mb,reduceIte]
  have A: ∀{w:World} {K:Value→World→Prop},K (.pointer (some ((⟨G.a,0,none⟩:Addr).add (i*3)))) w→indexAddr P T.af (.pointer (some ⟨G.a,0,none⟩)) (I i) w K:=by
   intro w K h
   rw[X02 (by omega) (by omega)]
   simpa using h
  refine Dn (Below.refl _ _) ?_
  refine X4 (.pointer (some ((⟨G.a,0,none⟩:Addr).add (i*3)))) (fun w b=>A (X6 rfl)) ?_
  refine X4 (.pointer (some (((⟨G.a,0,none⟩:Addr).add (i*3)).add 1))) (fun t w b e=>by rw[e,fa];exact X6 rfl) ?_
  refine X4 (.pointer (some ((⟨G.a,0,none⟩:Addr).add (i*3)))) (fun w b=>A (X6 rfl)) ?_
  refine X4 (.pointer (some (((⟨G.a,0,none⟩:Addr).add (i*3)).add 2))) (fun t w b e=>by rw[e,fa];exact X6 rfl) ?_
  refine X4 (.bool o.number) (fun t w b e=>by rw[e];exact ld (c.below b) f rfl (X6 rfl)) ?_
  refine X4 (.bool o.text) (fun t w b e=>by rw[e];exact ld (c.below b) f rfl (X6 rfl)) ?_
  rintro _ _ _ _ _ _ p d rfl rfl rfl rfl rfl rfl
  exact h p (bt b d))
end Go.Proofs.YtjdiakhipmggjaaGreatDoor

namespace Go.Emb
open Go.RowKit Go.Hm
variable {P : Program} {w w0 w1 w' w'' : World} {K : Value → World → Prop} {σ σ0 σ1 σ' : Q6}
structure SLe (σ σ' : Q6) : Prop where
  le : ∀ b o, σ b = some o → σ' b = some o
theorem SLe.refl (σ:Q6):SLe σ σ:=⟨fun _ _ h=>h⟩
theorem SLe.step {w w':World} (h:SLe σ0 σ) (k:Stp w σ w' σ'):SLe σ0 σ':=⟨fun b o e=>k.le b o (h.le b o e)⟩
theorem SLe.more (h:SLe σ0 σ) (k:SLe σ σ'):SLe σ0 σ':=⟨fun b o e=>k.le b o (h.le b o e)⟩
structure Hst (w : World) (σ : Q6) (w' : World) (σ' : Q6) : Prop where
  stp : Stp w σ w' σ'
theorem Hst.sat (h:Hst w σ w' σ'):X2 w' σ':=h.stp.sat
section lifts
variable {α : Type} {R : Q6 → α → List Value → Prop} {sz : Nat} {v : Value} {xs : List α} {a : Addr} {cs : List Value}
theorem Sl.lift [Rep R] (h:Sl sz R σ0 v xs) (k:SLe σ0 σ):Sl sz R σ v xs:=h.le k.le
theorem Z6.lift (h:Z6 σ0 a cs) (k:SLe σ0 σ):Z6 σ a cs:=h.le k.le
theorem Xo.lift {r:Nat} {m:List (List UInt8×Value)} (h:Xo σ0 r m) (k:SLe σ0 σ):Xo σ r m:=h.le k.le
theorem RMe_lift {x:Hm.Met} (h:E5 σ0 x cs) (k:SLe σ0 σ):E5 σ x cs:=Rep.up k.le h
theorem RCl_lift {x:Cla} (h:V0 σ0 x cs) (k:SLe σ0 σ):V0 σ x cs:=Rep.up k.le h
theorem RFd_any {x:Fld} (h:R9 σ0 x cs):R9 σ x cs:=h
theorem RIn_any {x:Ins} (h:Qi σ0 x cs):Qi σ x cs:=h
theorem RCa_any {x:Cat} (h:Ju σ0 x cs):Ju σ x cs:=h
theorem Y3.step {b:Nat} (h:Y3 σ w b cs) (k:Stp w σ w' σ'):Y3 σ' w' b cs:=h.up k
theorem V6.step [Rep R] {B:Nat} {e:TypeId} (h:V6 B e sz R σ w v xs) (k:Stp w σ w' σ'):V6 B e sz R σ' w' v xs:=h.up k
end lifts
theorem L3 {Q:World→Prop} (d:X2 w σ) (h: ∀w' σ',Stp w σ w' σ'→Q w'): ∀w',Below w.heap.size w w'→Q w':=fun w' c=>h w' σ (Stp.of_below d c)
section plain
variable {k : IntKind} {t : TypeId} {ox oy : Operand} {a b : Int} {x y : Bool} {s u : List UInt8}
theorem O8 (h:K (.int k (k.wrap (a+b))) w):Q3 P .add t ox oy (.int k a) (.int k b) w K:=by rw[Ga];exact h
theorem Yc (c: -9223372036854775808≤a+b∧a+b≤9223372036854775807) (h:K (I (a+b)) w):Q3 P .add t ox oy (I a) (I b) w K:=by rw[Ga,F7 c.1 c.2];exact h
theorem Zl (c: -9223372036854775808≤a-b∧a-b≤9223372036854775807) (h:K (I (a-b)) w):Q3 P .sub t ox oy (I a) (I b) w K:=by rw[Q44,F7 c.1 c.2];exact h
theorem Z2 (h:K (.bool (decide (a<b))) w):Q3 P .lss t ox oy (.int k a) (.int k b) w K:=by rw[Q4k];exact h
theorem Q5m (h:K (.bool (decide (a≤b))) w):Q3 P .leq t ox oy (.int k a) (.int k b) w K:=by rw[Q3X];exact h
theorem Iz (h:K (.bool (decide (b<a))) w):Q3 P .gtr t ox oy (.int k a) (.int k b) w K:=by rw[Rq];exact h
theorem P3 (h:K (.bool (decide (b≤a))) w):Q3 P .geq t ox oy (.int k a) (.int k b) w K:=by rw[Q1C];exact h
theorem I2 (h:K (.bool (decide (a=b))) w):Q3 P .eql t ox oy (.int k a) (.int k b) w K:=by rw[Q1G];exact h
theorem Qx (h:K (.bool (!decide (a=b))) w):Q3 P .neq t ox oy (.int k a) (.int k b) w K:=by rw[Q3Y];exact h
theorem Wg (h:K (.bool (!x)) w):J8 P .not (.bool x) w K:=by rw[Q3Z];exact h
theorem P2 (h:K (.bool (decide (s=u))) w):Q3 P .eql t ox oy (S s) (S u) w K:=by rw[Ft];exact h
theorem Ja (h:K (.bool (!decide (s=u))) w):Q3 P .neq t ox oy (S s) (S u) w K:=by rw[Fb];exact h
theorem Ec (c:s.length+u.length≤9223372036854775807) (h:K (S (s++u)) w):Q3 P .add t ox oy (S s) (S u) w K:=by rw[Q2q c];exact h
theorem Cc {cs:List Bool} {r:TypeId} (c:P.underlying t=some .string) (h:K (I s.length) w):X3 P .len [t] r cs [S s] w K:=by rw[R6 c];exact h
theorem X2k {v u:Value} (h:K v w):pick P (.bool true) v u w K:=by rw[M6];exact h
theorem X2b {v u:Value} (h:K u w):pick P (.bool false) v u w K:=by rw[L2];exact h
theorem M3 {v u:Value} (h:K (if x=true then v else u) w):pick P (.bool x) v u w K:=by rw[Hj];exact h
theorem Z5 {vs:List Value} {i:Nat} {v:Value} (c:vs[i]? =some v) (h:K v w):ext P (.tuple vs.toArray) i w K:=by rw[Js c];exact h
theorem J7 {t e:Prop} (h:t):X1 (.bool true) t e:=by rw[H7];exact h
theorem J0 {t e:Prop} (h:e):X1 (.bool false) t e:=by rw[M5];exact h
theorem X3D {c:World→(Value→World→Prop)→Prop} (h:c w K):Q0 (.bool true) true w c K:=by rw[W5];exact h
theorem X2R {c:World→(Value→World→Prop)→Prop} (h:c w K):Q0 (.bool false) false w c K:=by rw[W9];exact h
theorem X1X {c:World→(Value→World→Prop)→Prop} (h:K undef w):Q0 (.bool true) false w c K:=by rw[S4];exact h
theorem X2M {c:World→(Value→World→Prop)→Prop} (h:K undef w):Q0 (.bool false) true w c K:=by rw[E2];exact h
end plain
section mem
variable {α : Type} {R : Q6 → α → List Value → Prop} {sz : Nat} {v : Value} {xs : List α} {a : Addr} {cs : List Value}
theorem Y9 {t:TypeId} (c:X2 w σ) (h: ∀a w' σ',Stp w σ w' σ'→Z6 σ' a cs→K (.pointer (some a)) w'):box P t (.agg cs.toArray) w K:=
 E4 c fun a w' σ' d f=>h a w' σ' d (by simpa [Value.cells] using f)
theorem U6 {t:TypeId} (d:X2 w σ) (f:v.cells= #[v]) (h: ∀a w' σ',Stp w σ w' σ'→Z6 σ' a [v]→K (.pointer (some a)) w'):box P t v w K:=
 E4 d fun a w' σ' g c=>h a w' σ' g (by rw[f] at c;exact c)
theorem Wu (h:Sl sz R σ v xs):v.cells= #[v]:=by
 obtain ⟨a,c,rfl,_⟩:=h;rfl
theorem W6 {t:TypeId} {k c:Nat} {d:TypeId} {sz by_:Nat} {z:Value} [tf:TF P t k c d] [tz:TZ P d sz by_ z] [nz:NZ sz] (h:K (.pointer (some (a.add c))) w):fieldAddr P t (.pointer (some a)) k w K:=by
 rw[fa];exact h
theorem J4 {t:TypeId} {k c:Nat} {d:TypeId} [tf:TF P t k c d] [tg:TG P d false] {cs:List Value} {v:Value} (f:cs[c]? =some v) (h:K v w):F5 P t (.agg cs.toArray) k w K:=by
 rw[X2l (v:=v) (by simpa using f)];exact h
end mem
theorem U2 {A:(World→World→Prop)→(World→Prop)→Prop} (d:X2 w σ) (h:A (fun w w'=>Below w.heap.size w w') (fun w'=>Hst w σ w' σ)):dr w A:=
 Pa _ _ ⟨Stp.of_below d (Below.refl _ _).drew⟩ (fun _ _ c f=>⟨c.stp.trans (Stp.of_below c.sat f)⟩) h
theorem N1 {α:Type} {R:Q6→α→List Value→Prop} {sz:Nat} {v:Value} {xs:List α} {t:TypeId} (c:X2 w σ) (d:Sl sz R σ v xs) (h: ∀a w' σ',Stp w σ w' σ'→Z6 σ' a [v]→K (.pointer (some a)) w'):box P t v w K:=
 U6 c (Wu d) h
section elems
variable {v : Value} {t e : TypeId} {by_ : Nat} {z : Value} {n : Nat}
theorem Q6o {xs:List Kd.X0} [TS P t e] [TZ P e 1 by_ z] (h:Sl 1 U9 σ v xs) (d:n<xs.length) (g: ∀a,Z6 σ a [S xs[n]]→xs[n].length≤U0→K (.pointer (some a)) w):indexAddr P t v (I n) w K:=
 M9 h d fun a cs f j i=>by obtain ⟨rfl,c⟩:=i;exact g a f c
theorem Q9r {xs:List Fld} [TS P t e] [TZ P e 3 by_ z] (h:Sl 3 R9 σ v xs) (d:n<xs.length) (g: ∀a,Z6 σ a [S xs[n].name,S xs[n].kind, .bool xs[n].tr]→R9 σ xs[n] [S xs[n].name,S xs[n].kind, .bool xs[n].tr]→K (.pointer (some a)) w):indexAddr P t v (I n) w K:=
 M9 h d fun a cs f j i=>by obtain ⟨rfl,c⟩:=i;exact g a f ⟨rfl,c⟩
end elems
end Go.Emb

namespace Go.Hm
open Go.Kd
abbrev Ws:=X0→Option Cla
def Z1 (l:List Cla) (n:X0):Option Nat:=l.findIdx? fun c=>decide (c.name=n)
def lk (l:List Cla):Ws:=fun n=>(Z1 l n).bind (l[·]?)
def U4 (c:Cla):List X0:=c.super::c.like
def U1:X0:=[79,98,106,101,99,116]
def L6:X0:=[70,97,117,108,116]
def H8:X0:=[110,117,108,108]
def D2:X0:=[116,101,120,116]
def Qk:X0:=[119,104,97,116]
def U5:List X0:=[[78,117,108,108,70,97,117,108,116],[73,110,100,101,120,70,97,117,108,116],[67,97,115,116,70,97,117,108,116],[90,101,114,111,70,97,117,108,116],[82,111,111,109,70,97,117,108,116],[67,97,108,108,70,97,117,108,116]]
def I1:List Cla:=[⟨U1,[],[],false,false,false,[],[]⟩,⟨L6,U1,[],false,false,false,[⟨Qk,D2,false⟩],[]⟩]++U5.map fun n=>⟨n,L6,[],false,false,true,[],[]⟩
def Uz (L:Ws):Nat→List X0→List X0→List X0
 | 0,_,a=>a
 | _,[],a=>a
 | f+1,n::b,a=>match L n with
  | none=>Uz L f b a
  | some c=>if n∈a then Uz L f b a else Uz L f (b++U4 c) (a++[n])
def weigh (l:List Cla) (a:List X0):Nat:=(l.map fun c=>if c.name∈a then 0 else (U4 c).length).sum
def G6 (l:List Cla) (n:X0):List X0:=Uz (lk l) (1+weigh l []) [n] []
def Q1q (l:List Cla) (n:X0):Bool:=(Z1 l n).isSome
def N2 (l:List Cla) (s:X0):Bool:=decide (s=H8)||(right s&&(plain (base s).1||Q1q l (base s).1))
def Xt (l:List Cla) (a b:X0):Bool:=
 if !N2 l a|| !N2 l b then false else if a=b then true else if plain a||plain b then false else if a=H8 then true
 else if elem a≠[] then decide (b=U1) else (G6 l a).contains b
def I7 (L:Ws):Nat→X0→List Cla
 | 0,_=>[]
 | f+1,n=>match L n with
  | none=>[]
  | some c=>c::I7 L f c.super
def chain (l:List Cla) (n:X0):List Cla:=I7 (lk l) (l.length+1) n
def Y4 (l:List Cla) (n:X0):List Fld:=(chain l n).reverse.flatMap (·.fields)
def Ur (l:List Cla) (n f:X0):Option Nat:=(Y4 l n).findIdx? fun x=>decide (x.name=f)
def F4 (c:Cla) (n:X0):Option Hm.Met:=c.methods.find? fun m=>decide (m.name=n)
def Ch (L:Ws):Nat→Cla→X0→Option (X0×Hm.Met)
 | 0,_,_=>none
 | f+1,c,n=>c.like.findSome? fun u=>match L u with
  | none=>none
  | some d=>match F4 d n with
   | some m=>some (u,m)
   | none=>Ch L f d n
def V3 (l:List Cla) (k n:X0):Option (X0×Hm.Met):=
 match (chain l k).findSome? fun c=>(F4 c n).map (c.name,·) with
 | some r=>some r
 | none=>(chain l k).findSome? fun c=>Ch (lk l) (l.length+1) c n
def A5 (l:List Cla) (n:X0):Bool:=match lk l n with
 | some c=> !c.abs
 | none=>false
def H9:List X0→X0
 | []=>[]
 | [a]=>a
 | a::b::r=>a++[44]++H9 (b::r)
def Xc (m:Hm.Met):X0:=[40]++H9 m.params++[41]++m.result
def O6 (l:List Cla) (s:X0):Bool:= !decide (s=H8)&&N2 l s
def Yo (l:List Cla) (c:Cla):Bool:=c.fields.any fun f=>(Ur l c.super f.name).isSome
def B4 (l:List Cla) (c:Cla):Bool:=c.fields.any (fun f=> !O6 l f.kind)||c.methods.any fun m=>(!O6 l m.result&& !decide (m.result=[]))||m.params.any fun s=> !O6 l s
def Lp (l:List Cla) (n:X0):List Hm.Met:=(G6 l n).flatMap fun u=>((lk l u).map (·.methods)).getD []
def Ns (a:List Hm.Met):Bool:=a.any fun x=>a.any fun y=>decide (x.name=y.name)&& !decide (Xc x=Xc y)
def Zp (l:List Cla) (c:Cla):Bool:=Ns (Lp l c.name)
def Zi (l:List Cla) (k n:X0):Bool:=match V3 l k n with
 | none=>true
 | some r=>r.2.abs
def Dr (l:List Cla) (c:Cla):Bool:= !c.abs&&(Lp l c.name).any fun m=>Zi l c.name m.name
def V7 (l:List Cla) (c:Cla):Nat:=if Yo l c then 64 else if B4 l c then 65 else if Zp l c then 66 else if Dr l c then 67 else 0
def Xd (l:List Cla) (n:X0):Bool:=match lk l n with
 | none=>true
 | some d=>d.iface||d.fin
def R5 (l:List Cla) (n:X0):Bool:=match lk l n with
 | none=>true
 | some d=> !d.iface
def D1 (l:List Cla) (c:Cla):Nat:=if Xd l c.super then 61 else if c.like.any (R5 l) then 62 else 0
def T0 (l:List Cla) (c:Cla):Bool:=(U4 c).any fun n=>(G6 l n).contains c.name
def A8 (l:List Cla) (frm:Nat):Nat→List Nat→Nat→List Nat
 | 0,a,_=>a
 | f+1,a,i=>if i<frm then a else if i∈a then a else ((U4 (l.getD i Cla.zero)).foldl (fun a n=>A8 l frm f a ((Z1 l n).getD 0)) a)++[i]
def W0 (l:List Cla) (frm:Nat):List Nat:=((List.range l.length).drop frm).foldl (fun a i=>A8 l frm (l.length+1) a i) []
end Go.Hm

namespace Go.Emb
open Go.RowKit Go.Hm
variable {P : Program} {w w0 w1 w' w'' : World} {K : Value → World → Prop} {σ σ0 σ1 σ' : Q6}
def J9 {α:Type} (B:Nat) (e:TypeId) (sz:Nat) (R:Q6→α→List Value→Prop) (σ:Q6) (w:World) (v:Value) (xs:List α):Prop:=
 ∃a c,v= .slice a xs.length c∧xs.length≤c∧c≤maxLen∧(∀b,a=some b→b.spot=none∧B≤b.block∧b.block<w.heap.size∧σ b.block=none)∧(0<c→ ∃g d f,a=some ⟨g,d,none⟩∧B≤g∧σ g=none∧w.heap[g]? =some (.cells f e (0,0))∧d+c*sz≤f.size∧ ∀i x,xs[i]? =some x→R σ x ((f.toList.drop (d+i*sz)).take sz))
section
variable {α : Type} {R : Q6 → α → List Value → Prop} {B sz : Nat} {e : TypeId} {v u : Value} {xs ys : List α}
theorem J9.of_acc (h:V6 B e sz R σ w v xs):J9 B e sz R σ w v xs:=by
 obtain ⟨cells,r,k,q⟩:=h
 rcases r.2 with ⟨rfl,o⟩ | ⟨g,f,b,rfl,j,l,d,a,n,c⟩
 ·exact ⟨none,0,by rw[o],by omega,by simp,by simp,fun h=>by omega⟩
 ·refine ⟨_,f,rfl,d,a,by rintro _ ⟨⟩;exact ⟨rfl,j,(Array.getElem?_eq_some_iff.1 l).1,k g rfl⟩,fun _=>⟨g,0,b,rfl,j,k g rfl,l,by omega,fun i x m=>?_⟩⟩
  have p:i<xs.length:=(List.getElem?_eq_some_iff.1 m).1
  have hh:i*sz+sz≤xs.length*sz:=by rw[←Nat.succ_mul];exact Nat.mul_le_mul_right _ p
  have:=q i x m
  rw[←c,List.drop_take,List.take_take] at this
  rw[Nat.zero_add]
  rwa [show min sz (xs.length*sz-i*sz)=sz by omega] at this
theorem J9.mem (h:J9 B e sz R σ w v xs) {k:Nat} (c:v.ownBlock=some k):B≤k∧k<w.heap.size∧σ k=none:=by
 obtain ⟨a,d,rfl,g,f,b,i⟩:=h
 cases a with
 | none=>cases c
 | some a=>cases c;exact (b a rfl).2
theorem J9.up [hr:Rep R] (h:J9 B e sz R σ w v xs) (f:Stp w σ w' σ'):J9 B e sz R σ' w' v xs:=by
 obtain ⟨a,l,rfl,z,r,c,y⟩:=h
 refine ⟨a,l,rfl,z,r,fun b d=>⟨(c b d).1,(c b d).2.1,Nat.lt_of_lt_of_le (c b d).2.2.1 f.bel.size,(f.old _ (c b d).2.2.1).trans (c b d).2.2.2⟩,fun s=>?_⟩
 obtain ⟨g,k,j,rfl,q,p,n,o,t⟩:=y s
 have m:=(Array.getElem?_eq_some_iff.1 n).1
 exact ⟨g,k,j,rfl,q,(f.old g m).trans p,(f.bel.block g m).trans n,o,fun i x A=>hr.up f.le (t i x A)⟩
theorem J9.step [hr:Rep R] (h:J9 B e sz R σ w v xs) (a:Stp w σ w' σ'):J9 B e sz R σ' w' v xs:=h.up a
theorem J9.kp {D:Nat→Prop} (h:J9 B e sz R σ w v xs) (m:Kpt D w w') (j: ∀k,v.ownBlock=some k→ ¬D k):J9 B e sz R σ w' v xs:=by
 obtain ⟨a,l,rfl,A,r,c,z⟩:=h
 refine ⟨a,l,rfl,A,r,fun b d=>⟨(c b d).1,(c b d).2.1,Nat.lt_of_lt_of_le (c b d).2.2.1 m.size,(c b d).2.2.2⟩,fun s=>?_⟩
 obtain ⟨g,i,f,rfl,q,p,n,o,y⟩:=z s
 have t:=(Array.getElem?_eq_some_iff.1 n).1
 exact ⟨g,i,f,rfl,q,p,(m.block g t (j g rfl)).trans n,o,y⟩
theorem Q1F {b t:TypeId} {cs:List Bool} [ts:TS P b e] (h:J9 B e sz R σ w v xs) (d:K (I xs.length) w):X3 P .len [b] t cs [v] w K:=by
 obtain ⟨a,c,rfl,_⟩:=h
 rw[Q1S];exact d
theorem Q6q {t:TypeId} {c:Nat} {z:Value} [TS P t e] [TZ P e sz c z] (h:J9 B e sz R σ w v xs) {n:Nat} (k:n<xs.length)
 (o: ∀a cs,(∀j u,cs[j]? =some u→w.cell? (a.add j)=some u)→cs.length=sz→R σ xs[n] cs→K (.pointer (some a)) w):indexAddr P t v (I n) w K:=by
 obtain ⟨a,i,rfl,C,A,l,q⟩:=h
 obtain ⟨g,f,d,rfl,y,s,p,r,m⟩:=q (by omega)
 rw[Se (by omega) (by omega)]
 have hh:n*sz+sz≤i*sz:=by rw[←Nat.succ_mul];exact Nat.mul_le_mul_right _ (by omega)
 refine o _ ((d.toList.drop (f+n*sz)).take sz) ?_ ?_ (m n _ (by simp[k]))
 ·intro j u b
  rw[List.getElem?_take] at b
  split at b
  ·rw[List.getElem?_drop] at b
   unfold World.cell?
   rw[S9,S9,Qf,Qf,K2 (K2 rfl _)]
   simp only[p]
   simpa using b
  ·cases b
 ·rw[List.length_take,List.length_drop,Array.length_toList];omega
theorem X3X {t:TypeId} {m:Nat} {z:Value} [ts:TS P t e] [tz:TZ P e sz m z] (h:J9 B e sz R σ w v xs) (l:Nat) (N:l≤xs.length)
 (D: ∀j,J9 B e sz R σ w j (xs.drop l)→(j.ownBlock=v.ownBlock∨j.ownBlock=none)→K j w):R8 P t v (some (I l)) none none w K:=by
 obtain ⟨a,c,rfl,H,L,d,p⟩:=h
 have hh: ∀w:World,(Instr.sliceBounds true xs.length c (some (I l)) none none).run P w= .ok (l,xs.length,c) w:=by
  intro w
  have A:(l:Int)≤xs.length:=by omega
  simp[Instr.sliceBounds,Instr.sliceBound,asIntOf,H,A]
  intros;omega
 unfold R8
 have:(Instr.sliceAt t (.slice a xs.length c) (some (I l)) none none).run P w= .ok (.slice (if c=l then a else a.map (·.add (l*sz))) (xs.length-l) (c-l)) w:=by
  simp[Instr.sliceAt,run_underlying ts.h,Instr.slice,hh,L5 tz]
 rw[X9 this]
 refine D _ ⟨_,c-l,by rw[List.length_drop],by rw[List.length_drop];omega,by omega,?_,fun M=>?_⟩ ?_
 ·intro b k
  split at k
  ·exact d b k
  ·cases a with
   | none=>cases k
   | some a=>cases k;exact ⟨K2 (d a rfl).1 _,by rw[S9];exact (d a rfl).2⟩
 ·have r:=p (by omega)
  clear p
  obtain ⟨g,o,n,rfl,y,s,E,J,C⟩:=r
  refine ⟨g,o+l*sz,n,?_,y,s,E,?_,fun i x q=>?_⟩
  ·rw[if_neg (by omega)];simp only[Option.map_some];congr 1;unfold Addr.add;split<;>simp_all
  ·have:l*sz+(c-l)*sz=c*sz:=by rw[←Nat.add_mul];congr 1;omega
   omega
  ·rw[List.getElem?_drop] at q
   have:=C _ _ q
   rwa [Nat.add_mul,←Nat.add_assoc] at this
 ·left
  by_cases f:c=l
  ·rw[if_pos f];cases a<;>rfl
  ·rw[if_neg f]
   cases a with
   | none=>rfl
   | some a=>simp only[Option.map_some,Value.ownBlock,S9]
theorem Q8j {t W:TypeId} {Y:Nat} {z:Value} {cs:List Bool} [ts:TS P t e] [tz:TZ P e sz Y z] [hr:Rep R] (hs:X2 w σ) (hB:B≤w.heap.size) (ha:J9 B e sz R σ w v xs) (H:Sl sz R σ u ys) (hz:(z.cells.size==sz&&decide (0<sz))=true)
 (Q:(xs.length+ys.length)*Y≤140737488355328) (hm:xs.length+ys.length≤1000000000000)
 (h: ∀s w',Kpt (fun k=>v.ownBlock=some k∧B≤k∧σ k=none) w w'→X2 w' σ→J9 B e sz R σ w' s (xs++ys)→((∃a m,v= .slice a xs.length m∧s= .slice a (xs.length+ys.length) m)∨(Below w.heap.size w w'∧ ∀k,s.ownBlock=some k→w.heap.size≤k))→K s w'):X3 P .append [t,t] W cs [v,u] w K:=by
 obtain ⟨D,c,rfl,c1,c2,C,c3⟩:=ha
 obtain ⟨a,m,d,rfl,n1,n2,n3,n4,n5⟩:=H.cells hs
 obtain ⟨i,hi,E,aq,O⟩:=tz.info
 simp only[Bool.and_eq_true,beq_iff_eq,decide_eq_true_eq] at hz
 obtain ⟨aw,bh⟩:=hz
 have M: ∀s w',(Builtin.append_ #[t,t] W #[.slice D xs.length c, .slice a ys.length m]).run P w= .ok s w'→Kpt (fun k=>(Value.slice D xs.length c).ownBlock=some k∧B≤k∧σ k=none) w w'→J9 B e sz R σ w' s (xs++ys)→((∃a m,(Value.slice D xs.length c)= .slice a xs.length m∧s= .slice a (xs.length+ys.length) m)∨(Below w.heap.size w w'∧ ∀k,s.ownBlock=some k→w.heap.size≤k))→X3 P .append [t,t] W cs [.slice D xs.length c, .slice a ys.length m] w K:=by
  intro s w' y hk hq an
  have J:(builtin .append #[t,t] W cs.toArray #[.slice D xs.length c, .slice a ys.length m]).run P w= .ok (.value s) w':=by
   simp[builtin,y]
  unfold X3
  rw[Qa];unfold T2
  rw[J]
  exact h s w' hk (fun k o ho=>by rw[hk.block k (hs.lt ho) fun e=>by rw[e.2.2] at ho;cases ho];exact hs k o ho) hq an
 have q:Src P i.size t (.slice a ys.length m) ys.length d w:=by
  cases a with
  | some b=>exact Src.ofSlice w ts.h b ys.length m d (by rw[E];exact n2) (n3 b rfl) n4
  | none=>
   have hy:ys.length=0:=by
    obtain ⟨a',a2,e',q1,_,q3,_⟩:=H;injection e' with e1 e2 e3;have:=n1 rfl;omega
   have hn:d=[]:=List.eq_nil_of_length_eq_zero (by rw[n2,hy];simp)
   subst hn
   rw[hy];exact Src.ofNil w ts.h m
 by_cases r:xs.length+ys.length≤c
 ·by_cases L:c=0
  ·-- nothing at all
   subst L
   have p:xs=[]:=List.eq_nil_of_length_eq_zero (by omega)
   have hy:ys=[]:=List.eq_nil_of_length_eq_zero (by omega)
   subst p hy
   have hn:d=[]:=List.eq_nil_of_length_eq_zero (by simpa using n2)
   subst hn
   refine M (.slice D 0 0) w ?_ Kpt.refl ⟨D,0,rfl,by simp,by simp,C,fun h=>by omega⟩ (.inl ⟨_,_,rfl,rfl⟩)
   have hl:=q.len w
   have A:=q.cells
   simp only[List.length_nil] at hl A⊢
   cases D<;>simp[Builtin.append_,run_underlying ts.h,sizeOf,typeInfo,hi,hl,A,storeCells]
  ·obtain ⟨g,l,f,rfl,q1,q2,q3,q4,q5⟩:=c3 (by omega)
   have e1:(xs.length+ys.length)*sz≤c*sz:=Nat.mul_le_mul_right _ r
   rw[Nat.add_mul] at e1
   have X:=run_storeCells_at P g (l+xs.length*sz) e d 0 f w q3 (by omega) n4
   simp only[Nat.add_zero] at X
   obtain ⟨Z,ao⟩:=Mo (cs:=(f.toList.take (l+xs.length*sz)++d++f.toList.drop (l+xs.length*sz+d.length)).toArray) q3
   refine M (.slice (some ⟨g,l,none⟩) (xs.length+ys.length) c) _ ?_ (Kpt.of_upd Z ⟨rfl,q1,q2⟩) ?_ (.inl ⟨_,_,rfl,rfl⟩)
   ·have hl:=q.len w
    have A:=q.cells
    rw[E] at A
    simp[Builtin.append_,run_underlying ts.h,sizeOf,typeInfo,hi,hl,A,E,r,Addr.add_lit,X]
   ·refine ⟨_,c,by rw[List.length_append],by rw[List.length_append];exact r,c2,fun b Q=>⟨(C b Q).1,(C b Q).2.1,by rw[Z.size];exact (C b Q).2.2.1,(C b Q).2.2.2⟩,fun _=>⟨g,l,_,rfl,q1,q2,ao,?_,fun j x p=>?_⟩⟩
    ·simp;omega
    ·by_cases U:j<xs.length
     ·rw[List.getElem?_append_left U] at p
      have:=q5 j x p
      have hh:j*sz+sz≤xs.length*sz:=by rw[←Nat.succ_mul];exact Nat.mul_le_mul_right _ U
      have e2:((f.toList.take (l+xs.length*sz)++d++f.toList.drop (l+xs.length*sz+d.length)).toArray.toList.drop (l+j*sz)).take sz=(f.toList.drop (l+j*sz)).take sz:=by
       rw[List.toList_toArray,List.append_assoc]
       rw[List.drop_append_of_le_length (by rw[List.length_take,Array.length_toList (xs:=f)];omega),List.take_append_of_le_length (by rw[List.length_drop,List.length_take,Array.length_toList (xs:=f)];omega),List.drop_take,List.take_take]
       congr 1;omega
      rw[e2];exact this
     ·rw[List.getElem?_append_right (by omega)] at p
      have:=n5 _ _ p
      have az:j-xs.length<ys.length:=(List.getElem?_eq_some_iff.1 p).1
      have hh:(j-xs.length)*sz+sz≤ys.length*sz:=by rw[←Nat.succ_mul];exact Nat.mul_le_mul_right _ az
      have a9:j*sz=xs.length*sz+(j-xs.length)*sz:=by rw[←Nat.add_mul];congr 1;omega
      have e2:((f.toList.take (l+xs.length*sz)++d++f.toList.drop (l+xs.length*sz+d.length)).toArray.toList.drop (l+j*sz)).take sz=(d.drop ((j-xs.length)*sz)).take sz:=by
       rw[List.toList_toArray,List.append_assoc]
       rw[List.drop_append,List.drop_eq_nil_of_le (by rw[List.length_take,Array.length_toList (xs:=f)];omega),List.nil_append,List.length_take,Array.length_toList (xs:=f),
        show l+j*sz-min (l+xs.length*sz) f.size=(j-xs.length)*sz by omega,
        List.drop_append_of_le_length (by omega),List.take_append_of_le_length (by rw[List.length_drop];omega)]
      rw[e2];exact this
 ·-- a new row
  have N: ∃n:List Value,n.length=xs.length*sz∧(Builtin.firstCells i.size xs.length (.slice D xs.length c)).run P w.drew= .ok n.toArray w.drew∧ ∀j x,xs[j]? =some x→R σ x ((n.drop (j*sz)).take sz):=by
   by_cases L:c=0
   ·subst L
    have p:xs=[]:=List.eq_nil_of_length_eq_zero (by omega)
    subst p
    refine ⟨[],by simp,?_,by simp⟩
    cases D with
    | none=>exact run_firstCells_none w.drew i.size 0 0 0
    | some a'=>exact run_firstCells_some w.drew i.size 0 a' 0 0 [] (by simp) (by intro _ _ h';simp at h')
   ·obtain ⟨g,l,f,rfl,q1,q2,q3,q4,q5⟩:=c3 (by omega)
    have e1:xs.length*sz≤c*sz:=Nat.mul_le_mul_right _ c1
    refine ⟨(f.toList.drop l).take (xs.length*sz),by rw[List.length_take,List.length_drop,Array.length_toList (xs:=f)];omega,?_,fun j x p=>?_⟩
    ·refine run_firstCells_some w.drew i.size xs.length ⟨g,l,none⟩ xs.length c _ (by rw[List.length_take,List.length_drop,Array.length_toList (xs:=f),E];omega) (fun j u H=>?_)
     rw[List.getElem?_take] at H
     split at H
     ·rw[List.getElem?_drop] at H
      have ar:w.drew.heap[g]? =some (.cells f e (0,0)):=q3
      unfold World.cell?
      rw[S9,Qf,K2 rfl]
      simp only[ar]
      simpa using H
     ·cases H
    ·have U:j<xs.length:=(List.getElem?_eq_some_iff.1 p).1
     have hh:j*sz+sz≤xs.length*sz:=by rw[←Nat.succ_mul];exact Nat.mul_le_mul_right _ U
     have:=q5 j x p
     rw[List.drop_take,List.take_take,List.drop_drop,show min sz (xs.length*sz-j*sz)=sz by omega]
     exact this
  obtain ⟨n,o1,o2,o3⟩:=N
  have hg:c<xs.length+ys.length:=by omega
  have y:=run_append_grow_src (P:=P) w t t W e i z ts.h hi O D xs.length c n o2 (.slice a ys.length m) ys.length d q hg (by omega) (growslice_fits hg (by rw[aq];exact Q))
  have am:=grownCap_le_maxLen w (xs.length+ys.length) c e (by simp only[maxLen];omega)
  have ak:=grownCap_ge w (xs.length+ys.length) c e
  have hL:(n++d).length=(xs.length+ys.length)*sz:=by rw[List.length_append,o1,n2,Nat.add_mul]
  refine M _ _ y ?_ ?_ (.inr ⟨(Below.refl _ _).drew.alloc (Nat.le_refl _) _,by intro k hk;cases hk;exact Nat.le_refl _⟩)
  ·exact Kpt.of_below ((Below.refl _ _).drew.alloc (Nat.le_refl _) _)
  ·refine ⟨_,_,by rw[List.length_append],by rw[List.length_append];exact ak,am,by rintro _ ⟨⟩;exact ⟨rfl,hB,(Array.getElem?_eq_some_iff.1 (heap_alloc_new w.drew _)).1,hs.none (Nat.le_refl _)⟩,fun _=>⟨w.heap.size,0,_,rfl,hB,hs.none (Nat.le_refl _),heap_alloc_new w.drew _,?_,fun j x p=>?_⟩⟩
   ·rw[Array.size_append,List.size_toArray,hL,size_zeroCells,aw,←Nat.add_mul]
    rw[Nat.zero_add];exact Nat.mul_le_mul_right _ (by omega)
   ·rw[Nat.zero_add,Array.toList_append]
    have U:j<xs.length+ys.length:=by have:=(List.getElem?_eq_some_iff.1 p).1;rwa [List.length_append] at this
    have hh:j*sz+sz≤(xs.length+ys.length)*sz:=by rw[←Nat.succ_mul];exact Nat.mul_le_mul_right _ U
    rw[List.drop_append_of_le_length (by simp only[List.toList_toArray];omega),List.take_append_of_le_length (by rw[List.length_drop];simp only[List.toList_toArray];omega)]
    simp only[List.toList_toArray]
    by_cases V:j<xs.length
    ·rw[List.getElem?_append_left V] at p
     rw[Wr n d xs.length j o1 V]
     exact o3 j x p
    ·rw[List.getElem?_append_right (by omega)] at p
     have:=n5 _ _ p
     rw[show j*sz=n.length+(j-xs.length)*sz by rw[o1,←Nat.add_mul];congr 1;omega,List.drop_append]
     simpa [List.drop_eq_nil_of_le] using this
end
theorem N0 {b:Nat} (h:w1.heap.size≤b) (k:Stp w σ w1 σ1):w.heap.size≤b:=Nat.le_trans k.bel.size h
theorem M8 {t:TypeId} {sz a:Nat} {z:Value} [tz:TZ P t sz a z] (d:X2 w σ) (h: ∀b w' σ',w.heap.size≤b→Stp w σ w' σ'→Y3 σ' w' b z.cells.toList→K (.pointer (some ⟨b,0,none⟩)) w'):V8 P t w K:=
 Kh d fun b w' c g f=>h b w' σ c g f
theorem Ex {t:TypeId} {cs:List Value} (c:X2 w σ) (h: ∀b w' σ',w.heap.size≤b→Stp w σ w' σ'→Y3 σ' w' b cs→K (.pointer (some ⟨b,0,none⟩)) w'):box P t (.agg cs.toArray) w K:=
 Q67 c fun b w' a f d=>h b w' σ a f (by simpa [Value.cells] using d)
theorem G0 {t:TypeId} {sz c:Nat} {z:Value} [tz:TZ P t sz c z] {b:Nat} {cs ds:List Value} (d:Y3 σ w b cs) (i:Stp w0 σ0 w σ) (f:w0.heap.size≤b) (l:cs.length=sz) (j:ds.length=sz) (g: ∀u∈ds,u.oneCell'=true)
 (h: ∀w',Hst w0 σ0 w' σ→Y3 σ w' b ds→K undef w'):Y0 P t (.pointer (some ⟨b,0,none⟩)) (.agg ds.toArray) w K:=
 My d l j (by rw[List.all_toArray];exact List.all_eq_true.2 g) fun w' k a=>h w' ⟨k.stp i f d.1⟩ a
structure Nxt (D : Nat → Prop) (w : World) (σ : Q6) (w' : World) (σ' : Q6) : Prop where
  kp : Kpt D w w'
  le : SLe σ σ'
  old : ∀ k, k < w.heap.size → σ' k = σ k
  sat : X2 w' σ'
theorem Nxt.of_stp {D:Nat→Prop} (h:Stp w σ w' σ'):Nxt D w σ w' σ':=⟨Kpt.of_below h.bel,⟨h.le⟩,h.old,h.sat⟩
theorem Nxt.mono {D D':Nat→Prop} (h:Nxt D w σ w' σ') (a: ∀k,k<w.heap.size→D k→D' k):Nxt D' w σ w' σ':=⟨h.kp.mono a,h.le,h.old,h.sat⟩
theorem Nxt.trans {D:Nat→Prop} (h:Nxt D w σ w' σ') (k:Nxt D w' σ' w'' σ1):Nxt D w σ w'' σ1:=
 ⟨h.kp.trans k.kp,h.le.more k.le,fun i a=>(k.old i (Nat.lt_of_lt_of_le a h.kp.size)).trans (h.old i a),k.sat⟩
theorem Y3.nx {D:Nat→Prop} {b:Nat} {cs:List Value} (h:Y3 σ w b cs) (k:Nxt D w σ w' σ') (f: ¬D b):Y3 σ' w' b cs:=by
 have a:=h.lt
 obtain ⟨c,e,d⟩:=h
 exact ⟨(k.old b a).trans c,e,(k.kp.block b a f).trans d⟩
theorem C4.nx {D:Nat→Prop} {r:Nat} {m:List (List UInt8×Value)} (h:C4 σ w r m) (k:Nxt D w σ w' σ') (a: ¬D r):C4 σ' w' r m:=
 ⟨(k.old r h.lt).trans h.1,(k.kp.block r h.lt a).symm▸h.2⟩
section
variable {α : Type} {R : Q6 → α → List Value → Prop} {B sz : Nat} {e : TypeId} {v u : Value} {xs : List α} {x : α}
theorem V6.nx [hr:Rep R] {D:Nat→Prop} (h:V6 B e sz R σ w v xs) (k:Nxt D w σ w' σ') (d: ∀k,v.ownBlock=some k→ ¬D k):V6 B e sz R σ' w' v xs:=by
 have g:=h.kp k.kp d
 obtain ⟨cells,b,c,j⟩:=g
 refine ⟨cells,b,fun i a=>(k.old i (h.mem i a).2.1).trans (c i a),fun i x f=>hr.up k.le.le (j i x f)⟩
theorem J9.nx [hr:Rep R] {D:Nat→Prop} (h:J9 B e sz R σ w v xs) (k:Nxt D w σ w' σ') (o: ∀k,v.ownBlock=some k→ ¬D k):J9 B e sz R σ' w' v xs:=by
 obtain ⟨a,l,rfl,A,s,c,z⟩:=h
 refine ⟨a,l,rfl,A,s,fun b d=>⟨(c b d).1,(c b d).2.1,Nat.lt_of_lt_of_le (c b d).2.2.1 k.kp.size,(k.old _ (c b d).2.2.1).trans (c b d).2.2.2⟩,fun t=>?_⟩
 obtain ⟨g,j,f,rfl,r,q,n,p,y⟩:=z t
 have m:=(Array.getElem?_eq_some_iff.1 n).1
 exact ⟨g,j,f,rfl,r,(k.old g m).trans q,(k.kp.block g m (o g rfl)).trans n,p,fun i x C=>hr.up k.le.le (y i x C)⟩
theorem Jo {t q:TypeId} {c:Nat} {z:Value} {cs:List Bool} {A:Value→Value→World→Prop} [ts:TS P t e] [tz:TZ P e sz c z] [hr:Rep R] (m:Stp w0 σ0 w σ) (E:V6 w0.heap.size e sz R σ w v xs) (C:R σ x u.cells.toList) (r:u.cells.size=sz) (o:(z.cells.size==sz&&decide (0<sz))=true) (j:(decide (0<sz)&&decide ([u].length*sz≤16777216))=true)
 (p:(xs.length+1)*c≤140737488355328) (D:xs.length+1≤9223372036854775807)
 (h: ∀s a w' σ',Nxt (fun k=>v.ownBlock=some k) w σ w' σ'→Stp w0 σ0 w' σ'→V6 w0.heap.size e sz R σ' w' a (xs++[x])→(a.ownBlock=v.ownBlock∨ ∀k,a.ownBlock=some k→w.heap.size≤k)→A s a w'):
 buildSlice P t 1 [(0,u)] w (fun s w=>X3 P .append [t,t] q cs [v,s] w (fun a w=>A s a w)):=by
 refine T4 m.sat [u] [x] rfl rfl (by simpa using r) j ⟨C,trivial⟩ fun s w1 σ1 b g=>?_
 refine app (m.trans b) (E.up b) g o (by simpa using p) (by simpa using D) fun a n y d f hat=>?_
 have i:Kpt (fun k=>v.ownBlock=some k) w n:=(Kpt.of_below b.bel).trans (Kpt.of_grown y fun k b=>b)
 refine h s a n σ1 ⟨i,⟨b.le⟩,b.old,d.sat⟩ d f ?_
 rcases hat with hat | hat
 ·exact .inl hat
 ·exact .inr fun k l=>Nat.le_trans b.bel.size (hat k l)
theorem Wk {t j:TypeId} {b:Nat} {z:Value} {cs:List Bool} {ys:List α} [ts:TS P t e] [tz:TZ P e sz b z] [hr:Rep R] (l:Stp w0 σ0 w σ) (r:V6 w0.heap.size e sz R σ w v xs) (o:Sl sz R σ u ys) (g:(z.cells.size==sz&&decide (0<sz))=true)
 (i:(xs.length+ys.length)*b≤140737488355328) (q:xs.length+ys.length≤9223372036854775807)
 (h: ∀a w',Nxt (fun k=>v.ownBlock=some k) w σ w' σ→Stp w0 σ0 w' σ→V6 w0.heap.size e sz R σ w' a (xs++ys)→(a.ownBlock=v.ownBlock∨ ∀k,a.ownBlock=some k→w.heap.size≤k)→K a w'):X3 P .append [t,t] j cs [v,u] w K:=
 app l r o g i q fun a p n c f d=>h a p ⟨Kpt.of_grown n fun k m=>m,SLe.refl _,fun _ _=>rfl,c.sat⟩ c f d
end
section
variable {α : Type} {R : Q6 → α → List Value → Prop} {B sz : Nat} {e : TypeId} {v u : Value} {xs : List α} {x : α}
theorem J9.mono {B':Nat} (h:J9 B e sz R σ w v xs) (k:B'≤B):J9 B' e sz R σ w v xs:=by
 obtain ⟨a,i,rfl,m,n,d,p⟩:=h
 refine ⟨a,i,rfl,m,n,fun b c=>⟨(d b c).1,Nat.le_trans k (d b c).2.1,(d b c).2.2⟩,fun o=>?_⟩
 obtain ⟨g,f,j,rfl,l,q⟩:=p o
 exact ⟨g,f,j,rfl,Nat.le_trans k l,q⟩
theorem J9.own (h:J9 B e sz R σ w v xs) {k:Nat} (a:v.ownBlock=some k):B≤k:=(h.mem a).1
theorem J9.keep [hr:Rep R] (h:J9 w0.heap.size e sz R σ w v xs) (p:Stp w0 σ0 w σ): ∃σ',Stp w0 σ0 w σ'∧Sl sz R σ' v xs∧SLe σ σ'∧(∀k,some k≠v.ownBlock→σ' k=σ k):=by
 obtain ⟨a,f,rfl,E,t,o,D⟩:=h
 by_cases y:f=0
 ·have m:xs=[]:=List.eq_nil_of_length_eq_zero (by omega)
  subst y m
  exact ⟨σ,p,⟨a,0,rfl,by simp,by simp,fun _=>rfl,fun b s=>⟨fun _=>(o b s).1,by simp⟩⟩,SLe.refl _,fun _ _=>rfl⟩
 ·obtain ⟨g,n,c,rfl,r,q,C,H,z⟩:=D (by omega)
  have d:=Q6.put_le p.sat q (.cells c e (0,0))
  refine ⟨σ.put g (.cells c e (0,0)),p.put q r C,⟨_,f,rfl,E,t,by simp,?_⟩,⟨d⟩,?_⟩
  ·rintro _ ⟨⟩
   refine ⟨fun _=>rfl,fun i x m=>⟨(c.toList.drop (n+i*sz)).take sz,⟨K2 rfl _,c,e,(0,0),by rw[S9];simp[Q6.put],?_⟩,?_,hr.up d (z i x m)⟩⟩
   ·intro j u l
    rw[Qf]
    rw[List.getElem?_take] at l
    split at l
    ·rw[List.getElem?_drop] at l;simpa using l
    ·cases l
   ·have J:i<xs.length:=(List.getElem?_eq_some_iff.1 m).1
    have h:i*sz+sz≤f*sz:=by rw[←Nat.succ_mul];exact Nat.mul_le_mul_right _ (by omega)
    rw[List.length_take,List.length_drop,Array.length_toList (xs:=c)];omega
  ·intro k A
   have:k≠g:=by intro e;subst e;exact A rfl
   simp only[Q6.put,if_neg this]
theorem Q3v {t M:TypeId} {s:Nat} {z:Value} {A:Value→Value→World→Prop} {ds:List Value} [ts:TS P t e] [tz:TZ P e sz s z] {E:Nat} {X:Value} [tz':TZ P M sz E X] (hS:Stp w0 σ0 w σ) (ha:J9 w0.heap.size e sz R σ w v xs) {n:Nat} (hn:n<xs.length) (C:ds.length=sz) (hx:R σ x ds) (h1: ∀u∈ds,u.oneCell'=true)
 (h: ∀p u w',Kpt (fun k=>v.ownBlock=some k) w w'→Hst w0 σ0 w' σ→J9 w0.heap.size e sz R σ w' v (xs.set n x)→A p u w'):
 indexAddr P t v (I n) w (fun p w=>Y0 P M p (.agg ds.toArray) w (fun u w=>A p u w)):=by
 obtain ⟨a,i,rfl,Y,V,f,c3⟩:=ha
 obtain ⟨g,c,d,rfl,O,N,U,q4,Z⟩:=c3 (by omega)
 rw[Se (by omega) (by omega)]
 have hh:n*sz+sz≤i*sz:=by rw[←Nat.succ_mul];exact Nat.mul_le_mul_right _ (by omega)
 have q:(⟨g,c,none⟩:Addr).add ((n:Int).toNat*sz)=⟨g,c+n*sz,none⟩:=by unfold Addr.add;split<;>simp_all
 rw[q]
 have o:=run_storeCells_at P g (c+n*sz) e ds 0 d w U (by omega) h1
 simp only[Nat.add_zero] at o
 obtain ⟨l,J⟩:=Mo (cs:=(d.toList.take (c+n*sz)++ds++d.toList.drop (c+n*sz+ds.length)).toArray) U
 unfold Y0
 rw[Lh (w':=w.setRow g (d.toList.take (c+n*sz)++ds++d.toList.drop (c+n*sz+ds.length)).toArray) (by
  simp[Instr.storeAt,Instr.sureAddr,storeVar,L5 tz',Value.cells,C]
  simpa [C] using o)]
 have hk:Kpt (fun k=>(Value.slice (some ⟨g,c,none⟩) xs.length i).ownBlock=some k) w (w.setRow g (d.toList.take (c+n*sz)++ds++d.toList.drop (c+n*sz+ds.length)).toArray):=Kpt.of_upd l rfl
 refine h _ _ _ hk ⟨l.stp hS O N⟩ ⟨_,i,by rw[List.length_set],by rw[List.length_set];exact Y,V,fun b r=>⟨(f b r).1,(f b r).2.1,by rw[l.size];exact (f b r).2.2.1,(f b r).2.2.2⟩,fun _=>⟨g,c,_,rfl,O,N,J,?_,fun j y m=>?_⟩⟩
 ·simp;omega
 ·rw[List.toList_toArray]
  have W:=Array.length_toList (xs:=d)
  have H:j<xs.length:=by have:=(List.getElem?_eq_some_iff.1 m).1;simpa using this
  have aa:j*sz+sz≤i*sz:=by rw[←Nat.succ_mul];exact Nat.mul_le_mul_right _ (by omega)
  by_cases Q:j=n
  ·subst Q
   rw[List.getElem?_set_self H] at m
   cases m
   rw[List.append_assoc,List.drop_append,List.drop_eq_nil_of_le (by rw[List.length_take];omega),List.nil_append,List.length_take,show c+j*sz-min (c+j*sz) d.toList.length=0 by omega,List.drop_zero,List.take_append_of_le_length (by omega),List.take_of_length_le (by omega)]
   exact hx
  ·rw[List.getElem?_set_ne (by omega)] at m
   have:=Z j y m
   rcases Nat.lt_or_gt_of_ne Q with D | hgt
   ·have L:j*sz+sz≤n*sz:=by rw[←Nat.succ_mul];exact Nat.mul_le_mul_right _ D
    rw[List.append_assoc,List.drop_append_of_le_length (by rw[List.length_take];omega),List.take_append_of_le_length (by rw[List.length_drop,List.length_take];omega),List.drop_take,List.take_take]
    rwa [show min sz (c+n*sz-(c+j*sz))=sz by omega]
   ·have L:n*sz+sz≤j*sz:=by rw[←Nat.succ_mul];exact Nat.mul_le_mul_right _ hgt
    rw[List.drop_append,List.drop_eq_nil_of_le (by rw[List.length_append,List.length_take];omega),List.nil_append,List.length_append,List.length_take,List.drop_drop,C]
    rwa [show c+n*sz+sz+(c+j*sz-(min (c+n*sz) d.toList.length+sz))=c+j*sz by omega]
end
theorem Q5p (p:Nat→Prop): ∀n,p n→ ∃m,p m∧ ∀k,p k→m≤k:=by
 intro n
 induction n using Nat.strongRecOn with
 | _ n c=>
  intro h
  by_cases b: ∃k,k<n∧p k
  ·obtain ⟨k,f,d⟩:=b;exact c k f d
  ·exact ⟨n,h,fun k g=>Nat.le_of_not_lt fun a=>b ⟨k,a,g⟩⟩
noncomputable def Q1t (p:Nat→Prop):Nat:=open Classical in if h: ∃m,p m∧ ∀k,p k→m≤k then Classical.choose h else 0
theorem Q0M {p:Nat→Prop} {n:Nat} (h:p n):p (Q1t p)∧Q1t p≤n:=by
 have a:=Q5p p n h
 unfold Q1t
 rw[dif_pos a]
 exact ⟨(Classical.choose_spec a).1,(Classical.choose_spec a).2 n h⟩
theorem Pr {α:Type} {x0:α} {A:(α→World→Prop)→α→(Nat→Value)→World→Prop} (I:Nat→α→World→Prop) (n:Nat) (j:I n x0 w)
 (i: ∀a n x d w,I n x w→(∀b c w',b<n→I b c w'→a c w')→A a x d w):lp x0 w A:=by
 refine Wn (fun x w=> ∃n,I n x w) (fun x w=>Q1t fun n=>I n x w) ⟨n,j⟩ ?_
 rintro x d w ⟨n,h⟩
 obtain ⟨k,l⟩:=Q0M (p:=fun n=>I n x w) h
 refine i _ _ x d w k fun b c w' f g=>⟨⟨b,g⟩,?_⟩
 exact Nat.lt_of_le_of_lt (Q0M (p:=fun n=>I n c w') g).2 f
section
variable {α : Type} {R : Q6 → α → List Value → Prop} {B sz : Nat} {e : TypeId} {v u : Value} {xs ys : List α} {x : α}
theorem J9.below (h:J9 B e sz R σ w v xs) (a:Below w.heap.size w w'):J9 B e sz R σ w' v xs:=h.kp (D:=fun _=>False) (.of_below a) fun _ _=>id
theorem J9.pre {a:Option Addr} {n m b:Nat} (h:J9 B e sz R σ w (.slice a m b) (xs++ys)) (l:n=xs.length):J9 B e sz R σ w (.slice a n b) xs:=by
 obtain ⟨J,j,t,H,r,f,E⟩:=h
 injection t with z e2 y
 subst z y l
 rw[List.length_append] at H
 refine ⟨a,b,rfl,by omega,r,f,fun s=>?_⟩
 obtain ⟨g,d,c,A,q,p,D,o,C⟩:=E s
 exact ⟨g,d,c,A,q,p,D,o,fun i x k=>C i x (by rw[List.getElem?_append_left (List.getElem?_eq_some_iff.1 k).1];exact k)⟩
def Im (B:Nat) (e:TypeId) (sz:Nat) (R:Q6→α→List Value→Prop) (σ:Q6) (v:Value) (xs:List α) (x:α) (w1 c:World):Prop:=
 Kpt (fun k=>v.ownBlock=some k) w1 c∧(J9 B e sz R σ w1 v xs→J9 B e sz R σ c v xs)∧
  ∀a b,v= .slice a xs.length b→J9 B e sz R σ w1 (.slice a (xs.length+1) b) (xs++[x])→J9 B e sz R σ c (.slice a (xs.length+1) b) (xs++[x])
theorem Im.below (a:Below w.heap.size w w'):Im B e sz R σ v xs x w w':=⟨.of_below a,fun h=>h.below a,fun _ _ _ h=>h.below a⟩
theorem Im.refl:Im B e sz R σ v xs x w w:=Im.below (Below.refl _ _)
def VQa (N B:Nat) (e:TypeId) (sz:Nat) (R:Q6→α→List Value→Prop) (σ:Q6) (v:Value) (xs:List α) (x:α) (c:Value) (w:World):Prop:=
 J9 B e sz R σ w c (xs++[x])∧((∃a b,v= .slice a xs.length b∧c= .slice a (xs.length+1) b)∨((∀k,c.ownBlock=some k→N≤k)∧ ∀k,v.ownBlock=some k→k<N))
theorem VQa.stable {N:Nat} {i:Value} (h:VQa N B e sz R σ v xs x i w) (j:Im B e sz R σ v xs x w w'):VQa N B e sz R σ v xs x i w':=by
 obtain ⟨g,b⟩:=h
 refine ⟨?_,b⟩
 rcases b with ⟨a,c,f,rfl⟩ | ⟨b,f⟩
 ·exact j.2.2 a c f g
 ·exact g.kp j.1 fun k l d=>by have:=b k l;have:=f k d;omega
theorem Kpt.more {D E:Nat→Prop} (h:Kpt D w w') (k:Kpt E w' w'') (hE: ∀j,E j→w.heap.size≤j):Kpt D w w'':=
 ⟨k.os.trans h.os,k.tape.trans h.tape,k.output.trans h.output,Nat.le_trans h.size k.size,fun i a b=>(k.block i (Nat.lt_of_lt_of_le a h.size) fun e=>by have:=hE i e;omega).trans (h.block i a b)⟩
end
end Go.Emb

namespace Go.Hm
open Go.Kd
theorem V4 {l:List Cla} {n:X0} {c:Cla} (h:lk l n=some c):c.name=n∧c∈l∧ ∃i,Z1 l n=some i∧l[i]? =some c:=by
 unfold lk at h
 cases b:Z1 l n with
 | none=>rw[b] at h;cases h
 | some i=>
  rw[b] at h
  obtain ⟨a,e,_⟩:=List.findIdx?_eq_some_iff_getElem.1 b
  have d:l[i]? =some c:=h
  rw[List.getElem?_eq_getElem a] at d
  cases d
  exact ⟨by simpa using e,List.getElem_mem a,i,rfl,List.getElem?_eq_getElem a⟩
theorem Zn {l:List Cla} {n:X0} {i:Nat} (h:Z1 l n=some i): ∃c,lk l n=some c∧l[i]? =some c∧c.name=n:=by
 obtain ⟨a,b,_⟩:=List.findIdx?_eq_some_iff_getElem.1 h
 refine ⟨l[i],?_,List.getElem?_eq_getElem a,by simpa using b⟩
 unfold lk;rw[h];simp[a]
theorem Q1w {l:List Cla} {n:X0}:Q1q l n=(lk l n).isSome:=by
 unfold Q1q
 cases a:Z1 l n with
 | none=>simp[lk,a]
 | some i=>obtain ⟨c,h,_⟩:=Zn a;simp[h]
theorem Q9A {l:List Cla} {c:Cla} (h:c∈l): ∃d,lk l c.name=some d:=by
 cases a:Z1 l c.name with
 | none=>
  have:=List.findIdx?_eq_none_iff.1 a c h
  simp at this
 | some i=>obtain ⟨d,h,_⟩:=Zn a;exact ⟨d,h⟩
inductive Reach (L : Ws) : X0 → X0 → Prop
  | refl {a : X0} {c : Cla} : L a = some c → Reach L a a
  | step {a u b : X0} {c : Cla} : L a = some c → u ∈ U4 c → Reach L u b → Reach L a b
theorem Reach.trans {L:Ws} {a b d:X0} (h:Reach L a b) (k:Reach L b d):Reach L a d:=by
 induction h with
 | refl _=>exact k
 | step e f _ c=>exact .step e f (c k)
theorem Reach.right {L:Ws} {a b:X0} (h:Reach L a b): ∃c,L b=some c:=by
 induction h with
 | refl h=>exact ⟨_,h⟩
 | step _ _ _ d=>exact d
theorem Reach.left {L:Ws} {a b:X0} (h:Reach L a b): ∃c,L a=some c:=by
 cases h with
 | refl h=>exact ⟨_,h⟩
 | step h _ _=>exact ⟨_,h⟩
theorem Q1E (L:Ws): ∀(f:Nat) (a b:List X0),∃r,Uz L f a b=b++r:=by
 intro f
 induction f with
 | zero=>intro a b;exact ⟨[],by simp[Uz]⟩
 | succ f c=>
  intro a b
  cases a with
  | nil=>exact ⟨[],by simp[Uz]⟩
  | cons n a=>
   simp only[Uz]
   split
   ·exact c _ _
   ·split
    ·exact c _ _
    ·obtain ⟨r,d⟩:=c (a++U4 ‹_›) (b++[n])
     exact ⟨n::r,by rw[d];simp⟩
theorem Q9d (L:Ws): ∀(f:Nat) (a b:List X0) (x:X0),x∈Uz L f a b→x∈b∨ ∃t∈a,Reach L t x:=by
 intro f
 induction f with
 | zero=>intro a b x h;exact .inl h
 | succ f d=>
  intro a b x h
  cases a with
  | nil=>exact .inl h
  | cons n a=>
   simp only[Uz] at h
   split at h
   ·rcases d _ _ _ h with h | ⟨t,ht,h⟩
    ·exact .inl h
    ·exact .inr ⟨t,by simp[ht],h⟩
   ·rename_i c e
    split at h
    ·rcases d _ _ _ h with h | ⟨t,ht,h⟩
     ·exact .inl h
     ·exact .inr ⟨t,by simp[ht],h⟩
    ·rcases d _ _ _ h with h | ⟨t,ht,h⟩
     ·rcases List.mem_append.1 h with h | h
      ·exact .inl h
      ·simp at h;subst h;exact .inr ⟨x,by simp, .refl e⟩
     ·rcases List.mem_append.1 ht with ht | ht
      ·exact .inr ⟨t,by simp[ht],h⟩
      ·exact .inr ⟨n,by simp, .step e ht h⟩
theorem X0X (l:List Cla) (b a:List X0) (h: ∀x∈b,x∈a):weigh l a≤weigh l b:=by
 unfold weigh
 induction l with
 | nil=>simp
 | cons c r e=>
  simp only[List.map_cons,List.sum_cons]
  by_cases d:c.name∈b
  ·rw[if_pos d,if_pos (h _ d)];omega
  ·rw[if_neg d];split<;>omega
theorem Pz (l:List Cla) (a:List X0) (c:Cla) (hc:c∈l) (g:c.name∉a):weigh l (a++[c.name])+(U4 c).length≤weigh l a:=by
 unfold weigh
 induction l with
 | nil=>simp at hc
 | cons d r f=>
  simp only[List.map_cons,List.sum_cons]
  have e:weigh r (a++[c.name])≤weigh r a:=X0X _ _ _ (by simp;intro x h;exact .inl h)
  unfold weigh at e
  rcases List.mem_cons.1 hc with rfl | hc
  ·rw[if_pos (by simp),if_neg g];omega
  ·have:=f hc
   by_cases b:d.name∈a
   ·rw[if_pos (by simp[b]),if_pos b];omega
   ·rw[if_neg b];split<;>omega
theorem X14 (l:List Cla): ∀(f:Nat) (a b:List X0),a.length+weigh l b≤f→
 (∀x∈b,∀c,lk l x=some c→ ∀u∈U4 c,∀d,lk l u=some d→u∈b∨u∈a)→
 (∀t∈a,∀d,lk l t=some d→t∈Uz (lk l) f a b)∧ ∀x∈Uz (lk l) f a b,∀c,lk l x=some c→ ∀u∈U4 c,∀d,lk l u=some d→u∈Uz (lk l) f a b:=by
 intro f
 induction f with
 | zero=>
  intro a b y o
  have:a=[]:=List.eq_nil_of_length_eq_zero (by omega)
  subst this
  refine ⟨by simp,fun x hx c i u j d g=>?_⟩
  rcases o x hx c i u j d g with h | h
  ·exact h
  ·simp at h
 | succ f s=>
  intro a b y o
  cases a with
  | nil=>
   refine ⟨by simp,fun x hx c i u j d g=>?_⟩
   rcases o x hx c i u j d g with h | h
   ·exact h
   ·simp at h
  | cons n a=>
   simp only[List.length_cons] at y
   simp only[Uz]
   split
   ·rename_i w
    obtain ⟨q,p⟩:=s a b (by omega) (fun x hx c i u j d g=>by
     rcases o x hx c i u j d g with h | h
     ·exact .inl h
     ·rcases List.mem_cons.1 h with rfl | h
      ·rw[w] at g;cases g
      ·exact .inr h)
    refine ⟨fun t ht d g=>?_,p⟩
    rcases List.mem_cons.1 ht with rfl | ht
    ·rw[w] at g;cases g
    ·exact q t ht d g
   ·rename_i c i
    split
    ·rename_i k
     obtain ⟨r,v⟩:=Q1E (lk l) f a b
     obtain ⟨q,p⟩:=s a b (by omega) (fun x hx c i u j d g=>by
      rcases o x hx c i u j d g with h | h
      ·exact .inl h
      ·rcases List.mem_cons.1 h with rfl | h
       ·exact .inl k
       ·exact .inr h)
     refine ⟨fun t ht d g=>?_,p⟩
     rcases List.mem_cons.1 ht with rfl | ht
     ·rw[v];simp[k]
     ·exact q t ht d g
    ·rename_i k
     obtain ⟨e,B,_⟩:=V4 i
     have A:=Pz l b c B (by rw[e];exact k)
     rw[e] at A
     obtain ⟨q,p⟩:=s (a++U4 c) (b++[n]) (by rw[List.length_append];omega) (fun x hx z m u j d g=>by
      rcases List.mem_append.1 hx with hx | hx
      ·rcases o x hx z m u j d g with h | h
       ·exact .inl (by simp[h])
       ·rcases List.mem_cons.1 h with rfl | h
        ·exact .inl (by simp)
        ·exact .inr (by simp[h])
      ·simp at hx;subst hx
       rw[i] at m;cases m
       exact .inr (by simp[j]))
     refine ⟨fun t ht d g=>?_,p⟩
     rcases List.mem_cons.1 ht with rfl | ht
     ·obtain ⟨r,v⟩:=Q1E (lk l) f (a++U4 c) (b++[t])
      rw[v];simp
     ·exact q t (by simp[ht]) d g
theorem Uv {l:List Cla} {a b:X0}:b∈G6 l a↔Reach (lk l) a b:=by
 obtain ⟨n,g⟩:=X14 l (1+weigh l []) [a] [] (by simp) (by simp)
 constructor
 ·intro h
  rcases Q9d _ _ _ _ _ h with h | ⟨t,e,m⟩
  ·simp at h
  ·simp at e;subst e;exact m
 ·intro h
  have key: ∀{x y:X0},Reach (lk l) x y→x∈G6 l a→y∈G6 l a:=by
   intro x y h
   induction h with
   | refl _=>exact id
   | step j k i f=>
    intro o
    obtain ⟨d,c⟩:=i.left
    exact f (g _ o _ j _ k _ c)
  obtain ⟨d,c⟩:=h.left
  exact key h (n a (by simp) d c)
theorem X0N (l:List Cla): ∀(f:Nat) (a b:List X0),a.length+weigh l b≤f→ ∀k,Uz (lk l) (f+k) a b=Uz (lk l) f a b:=by
 intro f
 induction f with
 | zero=>
  intro a b h k
  have:a=[]:=List.eq_nil_of_length_eq_zero (by omega)
  subst this
  cases k<;>rfl
 | succ f d=>
  intro a b h k
  cases a with
  | nil=>rw[Nat.succ_add];rfl
  | cons n a=>
   simp only[List.length_cons] at h
   rw[Nat.succ_add]
   simp only[Uz]
   split
   ·exact d _ _ (by omega) k
   ·rename_i c i
    split
    ·exact d _ _ (by omega) k
    ·rename_i g
     obtain ⟨e,m,_⟩:=V4 i
     have j:=Pz l b c m (by rw[e];exact g)
     rw[e] at j
     exact d _ _ (by rw[List.length_append];omega) k
end Go.Hm

namespace Go.Hm
open Go.Kd
def Wy (L:Ws) (a b:X0):Prop:= ∃c,L a=some c∧ ∃u∈U4 c,Reach L u b
def Jg (l:List Cla):Prop:= ∀a,¬Wy (lk l) a a
theorem Wy.reach {L:Ws} {a b:X0} (h:Wy L a b):Reach L a b:=by
 obtain ⟨c,e,u,f,d⟩:=h;exact .step e f d
theorem Wy.trans {L:Ws} {a b d:X0} (h:Wy L a b) (k:Reach L b d):Wy L a d:=by
 obtain ⟨c,f,u,g,e⟩:=h;exact ⟨c,f,u,g,e.trans k⟩
theorem Q1k {L:Ws} {a b:X0}:Reach L a b↔(a=b∧(∃c,L a=some c))∨Wy L a b:=by
 constructor
 ·intro h
  cases h with
  | refl h=>exact .inl ⟨rfl,_,h⟩
  | step d e f=>exact .inr ⟨_,d,_,e,f⟩
 ·rintro (⟨rfl,c,h⟩ | h)
  ·exact .refl h
  ·exact h.reach
def Xm (l:List Cla) (a b:X0):Bool:=match lk l a with
 | none=>false
 | some c=>(U4 c).any fun u=>(G6 l u).contains b
theorem Jr {l:List Cla} {a b:X0}:Xm l a b=true↔Wy (lk l) a b:=by
 unfold Xm Wy
 cases h:lk l a with
 | none=>simp
 | some c=>
  simp only[List.any_eq_true,List.contains_iff_mem,Uv]
  constructor
  ·rintro ⟨u,e,d⟩;exact ⟨c,rfl,u,e,d⟩
  ·rintro ⟨_,⟨⟩,u,e,d⟩;exact ⟨u,e,d⟩
def K9 (l:List Cla) (n:X0):Nat:=l.countP fun m=>Xm l n m.name
theorem Q1R (l:List Cla) (n:X0):K9 l n≤l.length:=List.countP_le_length
theorem Q4P {α:Type} {p q:α→Bool}: ∀{l:List α},(∀x∈l,p x=true→q x=true)→(∃x∈l,q x=true∧p x=false)→l.countP p<l.countP q:=by
 intro l
 induction l with
 | nil=>rintro _ ⟨x,hx,_⟩;simp at hx
 | cons a r e=>
  rintro h ⟨x,hx,c,d⟩
  have g:r.countP p≤r.countP q:=List.countP_mono_left fun x hx=>h x (by simp[hx])
  rw[List.countP_cons,List.countP_cons]
  rcases List.mem_cons.1 hx with rfl | hx
  ·rw[c,d];simp;omega
  ·have:=e (fun x hx=>h x (by simp[hx])) ⟨x,hx,c,d⟩
   have f:=h a (by simp)
   cases b:p a
   ·simp;split<;>omega
   ·rw[f b];simp;omega
theorem X2z {l:List Cla} (g:Jg l) {a b:X0} (h:Wy (lk l) a b):K9 l b<K9 l a:=by
 unfold K9
 refine Q4P (fun x _ j=>?_) ?_
 ·rw[Jr] at*
  exact h.trans j.reach
 ·obtain ⟨d,i⟩:=(Reach.right (h.reach))
  obtain ⟨e,f,_⟩:=V4 i
  refine ⟨d,f,?_,?_⟩
  ·rw[Jr,e];exact h
  ·cases c:Xm l b d.name with
   | false=>rfl
   | true=>rw[Jr,e] at c;exact absurd c (g b)
theorem Yd {l:List Cla} (e:Jg l) {a u:X0} {c d:Cla} (b:lk l a=some c) (g:u∈U4 c) (f:lk l u=some d):K9 l u<K9 l a:=
 X2z e ⟨c,b,u,g, .refl f⟩
theorem Q6V {l:List Cla} (i:Jg l): ∀(f g:Nat) (n:X0),K9 l n<f→K9 l n<g→I7 (lk l) f n=I7 (lk l) g n:=by
 intro f
 induction f with
 | zero=>intro g n h;omega
 | succ f b=>
  intro g n k j
  obtain ⟨g,rfl⟩: ∃m,g=m+1:=⟨g-1,by omega⟩
  simp only[I7]
  cases e:lk l n with
  | none=>rfl
  | some c=>
   simp only
   congr 1
   cases a:lk l c.super with
   | none=>cases f<;>cases g<;>simp[I7,a]
   | some d=>
    have:=Yd i e (by simp[U4]) a
    exact b g c.super (by omega) (by omega)
theorem A9 {l:List Cla} (a:Jg l) (n:X0):chain l n=match lk l n with | none=>[] | some c=>c::chain l c.super:=by
 have:=Q1R l n
 unfold chain
 rw[I7]
 cases e:lk l n with
 | none=>rfl
 | some c=>
  simp only
  congr 1
  cases b:lk l c.super with
  | none=>cases l.length<;>simp[I7,b]
  | some d=>
   have:=Yd a e (by simp[U4]) b
   exact Q6V a _ _ _ (by omega) (by omega)
theorem Yy {l:List Cla} {n:X0} (h:lk l n=none):chain l n=[]:=by simp[chain,I7,h]
theorem Dt {α β:Type} {f g:α→Option β}: ∀{l:List α},(∀x∈l,f x=g x)→l.findSome? f=l.findSome? g
 | [],_=>rfl
 | a::r,h=>by
  rw[List.findSome?_cons,List.findSome?_cons,h a (by simp),Dt fun x b=>h x (by simp[b])]
theorem Q7j {l:List Cla} (k:Jg l) (n:X0): ∀(f g:Nat) (c:Cla),lk l c.name=some c→K9 l c.name<f→K9 l c.name<g→Ch (lk l) f c n=Ch (lk l) g c n:=by
 intro f
 induction f with
 | zero=>intro g c _ h;omega
 | succ f b=>
  intro g c i p o
  obtain ⟨g,rfl⟩: ∃m,g=m+1:=⟨g-1,by omega⟩
  simp only[Ch]
  refine Dt fun u j=>?_
  cases a:lk l u with
  | none=>rfl
  | some d=>
   simp only
   cases F4 d n with
   | some m=>rfl
   | none=>
    simp only
    have:=Yd k i (by simp[U4,j]) a
    have e:=(V4 a).1
    exact b g d (by rw[e];exact a) (by rw[e];omega) (by rw[e];omega)
def V5 (l:List Cla) (c:Cla) (n:X0):Option (X0×Hm.Met):=Ch (lk l) (l.length+1) c n
theorem Q4H {l:List Cla} (b:Jg l) {c:Cla} (f:lk l c.name=some c) (n:X0):V5 l c n=c.like.findSome? fun u=>match lk l u with
 | none=>none
 | some d=>match F4 d n with
  | some m=>some (u,m)
  | none=>V5 l d n:=by
 have:=Q1R l c.name
 unfold V5
 rw[Ch]
 refine Dt fun u g=>?_
 cases a:lk l u with
 | none=>rfl
 | some d=>
  simp only
  cases F4 d n with
  | some m=>rfl
  | none=>
   have:=Yd b f (by simp[U4,g]) a
   have e:=(V4 a).1
   exact Q7j b n _ _ d (by rw[e];exact a) (by rw[e];omega) (by rw[e];omega)
def T7 (l:List Cla):Prop:=(l.map (·.name)).Nodup
theorem T7.lk {l:List Cla} (h:T7 l) {c:Cla} (k:c∈l):Go.Hm.lk l c.name=some c:=by
 obtain ⟨d,f⟩:=Q9A k
 obtain ⟨e,o,i,p,b⟩:=V4 f
 obtain ⟨j,n,rfl⟩:=List.getElem_of_mem k
 obtain ⟨a,g⟩:=List.getElem?_eq_some_iff.1 b
 have:i=j:=by
  have m:(l.map (·.name))[i]'(by simpa using a)=(l.map (·.name))[j]'(by simpa using n):=by simp[g,e]
  exact (List.getElem_inj h).1 m
 subst this
 rw[f,←g]
theorem T7.find {l:List Cla} (h:T7 l) {i:Nat} {c:Cla} (m:l[i]? =some c):Z1 l c.name=some i:=by
 obtain ⟨b,rfl⟩:=List.getElem?_eq_some_iff.1 m
 have:=h.lk (List.getElem_mem b)
 obtain ⟨e,n,j,f,g⟩:=V4 this
 obtain ⟨a,k⟩:=List.getElem?_eq_some_iff.1 g
 have:j=i:=by
  have d:(l.map (·.name))[j]'(by simpa using a)=(l.map (·.name))[i]'(by simpa using b):=by simp[k]
  exact (List.getElem_inj h).1 d
 rw[f,this]
end Go.Hm

namespace Go.Emb
open Go.RowKit Go.Hm
variable {P : Program} {w w0 w1 w' w'' : World} {K : Value → World → Prop} {σ σ0 σ1 σ2 σ' : Q6}
theorem Stp.join (c:Stp w σ w' σ1) (d:Stp w σ w' σ2): ∃f,Stp w σ w' f∧SLe σ1 f∧SLe σ2 f:=by
 have g: ∀b o,σ1 b=some o→(fun b=>(σ1 b).or (σ2 b)) b=some o:=fun b o e=>by simp[e]
 have j: ∀b o,σ2 b=some o→(fun b=>(σ1 b).or (σ2 b)) b=some o:=by
  intro b o e
  cases a:σ1 b with
  | none=>simp[a,e]
  | some p=>
   have i:=c.sat b p a
   have h:=d.sat b o e
   rw[i] at h;cases h;simp only[a,Option.some_or]
 refine ⟨fun b=>(σ1 b).or (σ2 b),⟨c.bel,?_,fun b o e=>g b o (c.le b o e),?_⟩,⟨g⟩,⟨j⟩⟩
 ·intro b o e
  cases a:σ1 b with
  | none=>simp only[a,Option.none_or] at e;exact d.sat b o e
  | some p=>simp only[a,Option.some_or] at e;cases e;exact c.sat b _ a
 ·intro b a
  simp only[c.old b a,d.old b a];cases σ b<;>rfl
theorem Wh {Φ:Q6→Value→Prop} {A a:(Value→World→Prop)→Prop} (h:A (fun v w'=> ∃σ',Stp w σ w' σ'∧Φ σ' v)) (e:a (fun v w'=> ∃σ',Stp w σ w' σ'∧Φ σ' v)):Q5 (fun w w'=>Below w.heap.size w w') A a:=
 E8 _ (fun _ _ _ ⟨σ',b,d⟩ c=>⟨σ',b.trans (Stp.of_below b.sat c),d⟩) h e
theorem Rx {Φ:Q6→Value→Prop} {v:Value} (b:Hst w σ w1 σ) (h:Stp w1 σ w' σ') (a:Φ σ' v):dk (fun w w'=>Below w.heap.size w w') (fun v w'=> ∃σ',Stp w σ w' σ'∧Φ σ' v) w1 v w':=
 ⟨h.bel,σ',b.stp.trans h,a⟩
theorem E5.mk {m:Hm.Met} {pv a b:Value} (d:Sl 1 U9 σ pv m.params) (e:Sl 3 Qi σ a m.code) (h:Sl 4 Ju σ b m.catches) (c:m.name.length≤U0) (f:m.result.length≤U0) (g:Yz m.locals):E5 σ m [S m.name,pv,S m.result, .bool m.abs,I m.locals,a,b]:=
 ⟨pv,a,b,rfl,d,e,h,c,f,g⟩
theorem V0.mk {c:Cla} {b a mv:Value} (f:Sl 1 U9 σ b c.like) (g:Sl 3 R9 σ a c.fields) (h:Sl 7 E5 σ mv c.methods) (d:c.name.length≤U0) (e:c.super.length≤U0):V0 σ c [S c.name,S c.super,b, .bool c.iface, .bool c.abs, .bool c.fin,a,mv]:=
 ⟨b,a,mv,rfl,f,g,h,d,e⟩
end Go.Emb
namespace Go.Hm
def SmM (m:Hm.Met):Prop:=m.params.length≤1000000∧m.code.length≤1000000∧m.catches.length≤1000000
def Qw (c:Cla):Prop:=c.like.length≤1000000∧c.fields.length≤1000000∧c.methods.length≤1000000∧ ∀m∈c.methods,SmM m
end Go.Hm
namespace Go.Proofs.YtjdiakhipmggjaaGreatDoor
open Go.Emb Go.RowKit Go.Kd Go.Hm
variable {w : World} {K : Value → World → Prop} {σ : Q6}
theorem Q4Z {m:Hm.Met} {cs:List Value} (hs:X2 w σ) (hm:E5 σ m cs) (z:SmM m)
 (h: ∀pv o f w' σ',Stp w σ w' σ'→E5 σ' m [S m.name,pv,S m.result, .bool m.abs,I m.locals,o,f]→K (.agg [S m.name,pv,S m.result, .bool m.abs,I m.locals,o,f].toArray) w'):Q1 P F.c7 [.agg cs.toArray] w K:=Q57 (by
 obtain ⟨pv,o,f,rfl,M,B,H,g4,Z,g6⟩:=hm
 obtain ⟨s1,s2,s3⟩:=z
 unfold Ts
 refine Ex hs fun b w1 σ1 d j a=>?_
 refine M8 j.sat fun b2 w2 σ2 y g c=>?_
 have Y:=a.lt
 replace a:=a.step g
 have D:=g.sat
 have M:=(M.up j).up g
 have B:=(B.up j).up g
 have H:=(H.up j).up g
 have L: ∀{w':World} (i:Nat) (v:Value),[S m.name,pv,S m.result, .bool m.abs,I m.locals,o,f][i]? =some v→Hst w2 σ2 w' σ2→w'.cell? ((⟨b,0,none⟩:Addr).add i)=some v:=fun i v f hh=>(a.step hh.stp).cell f
 refine U2 D ?_
 refine X4 (.pointer (some ((⟨b,0,none⟩:Addr).add 1))) (fun w d=>by rw[fa];exact X6 rfl) ?_
 refine X4 (.pointer (some ((⟨b,0,none⟩:Addr).add 5))) (fun w d=>by rw[fa];exact X6 rfl) ?_
 refine X4 (.pointer (some ((⟨b,0,none⟩:Addr).add 6))) (fun w d=>by rw[fa];exact X6 rfl) ?_
 refine X4 pv (fun t w d e=>by rw[e];exact Qg (L 1 pv rfl d) (X6 rfl)) ?_
 refine Wh (Φ:=fun σ' v=>Sl 1 U9 σ' v m.params) (fun t w d e=>by rw[e];exact Li d.sat M s1 fun O w' σ' r f=>Rx d r f) ?_
 refine X4 o (fun t w d e=>by rw[e];exact Qg (L 5 o rfl d) (X6 rfl)) ?_
 refine Wh (Φ:=fun σ' v=>Sl 3 Qi σ' v m.code) (fun t w d e=>by rw[e];exact Ha d.sat B s2 fun O w' σ' r f=>Rx d r f) ?_
 refine X4 f (fun t w d e=>by rw[e];exact Qg (L 6 f rfl d) (X6 rfl)) ?_
 refine X4 (.pointer (some ((⟨b,0,none⟩:Addr).add 1))) (fun w d=>by rw[fa];exact X6 rfl) ?_
 refine Wh (Φ:=fun σ' v=>Sl 4 Ju σ' v m.catches) (fun t w d e=>by rw[e];exact Ek d.sat H s3 fun O w' σ' r f=>Rx d r f) ?_
 rintro t1 t2 t3 t4 t5 t6 t8 t9 am A w3 ah e1 e2 e3 e4 ⟨σ5,k5,s⟩ e6 ⟨σ8,k8,p⟩ e9 E ⟨X,J,k⟩
 subst E
 obtain ⟨σa,ka,N,u⟩:=k5.join k8
 obtain ⟨σ3,C,Q,l2⟩:=ka.join J
 have s:=(s.lift N).lift Q
 have p:=(p.lift u).lift Q
 have k:=k.lift l2
 have a:=a.step C
 have c:=c.step C
 have n:b2≠b:=by omega
 have l:=(j.trans g).trans C
 refine Ue a (by simp) (Wu s) (A6 s) fun w4 W a=>?_
 rw[fa]
 have l:=W.stp l d a.1
 have c:=c.upd W n
 refine Ue a (by simp) (Wu p) (A6 p) fun w5 R a=>?_
 rw[fa]
 have l:=R.stp l d a.1
 have c:=c.upd R n
 refine Ue a (by simp) (Wu k) (A6 k) fun w6 V a=>?_
 have l:=V.stp l d a.1
 have c:=c.upd V n
 refine Co a rfl ?_
 have U:=E5.mk s p k g4 Z g6
 have q:=N0 y j
 refine My c rfl rfl (by rw[List.all_toArray];exact List.all_eq_true.2 (Rep.one U)) fun w7 u7 c=>?_
 have l:=u7.stp l q c.1
 refine V2 c rfl ?_
 exact h t5 t8 A w7 σ3 l U)
theorem X0t {c:Cla} {cs:List Value} (hs:X2 w σ) (hc:V0 σ c cs) (ak:Qw c)
 (h: ∀R U mv w' σ',Stp w σ w' σ'→V0 σ' c [S c.name,S c.super,R, .bool c.iface, .bool c.abs, .bool c.fin,U,mv]→K (.agg [S c.name,S c.super,R, .bool c.iface, .bool c.abs, .bool c.fin,U,mv].toArray) w'):Q1 P F.cx [.agg cs.toArray] w K:=Q56 (by
 obtain ⟨R,U,mv,rfl,g1,g2,X,g4,g5⟩:=hc
 obtain ⟨s1,s2,s3,s4⟩:=ak
 unfold Ty
 refine Ex hs fun b w1 σ1 l r f=>?_
 refine M8 r.sat fun W w2 σ2 ai m g=>?_
 have a9:=f.lt
 replace f:=f.step m
 have ao:=m.sat
 have g1:=(g1.up r).up m
 have g2:=(g2.up r).up m
 have X:=(X.up r).up m
 have L: ∀{w':World} (i:Nat) (v:Value),[S c.name,S c.super,R, .bool c.iface, .bool c.abs, .bool c.fin,U,mv][i]? =some v→Hst w2 σ2 w' σ2→w'.cell? ((⟨b,0,none⟩:Addr).add i)=some v:=fun i v V hh=>(f.step hh.stp).cell V
 refine U2 ao ?_
 refine X4 (.pointer (some ((⟨b,0,none⟩:Addr).add 2))) (fun w l=>by rw[fa];exact X6 rfl) ?_
 refine X4 (.pointer (some ((⟨b,0,none⟩:Addr).add 6))) (fun w l=>by rw[fa];exact X6 rfl) ?_
 refine X4 R (fun t w l e=>by rw[e];exact Qg (L 2 R rfl l) (X6 rfl)) ?_
 refine Wh (Φ:=fun σ' v=>Sl 1 U9 σ' v c.like) (fun t w l e=>by rw[e];exact Li l.sat g1 s1 fun v' w' σ' H V=>Rx l H V) ?_
 refine X4 U (fun t w l e=>by rw[e];exact Qg (L 6 U rfl l) (X6 rfl)) ?_
 refine X4 (.pointer (some ((⟨b,0,none⟩:Addr).add 2))) (fun w l=>by rw[fa];exact X6 rfl) ?_
 refine Wh (Φ:=fun σ' v=>Sl 3 R9 σ' v c.fields) (fun t w l e=>by rw[e];exact Ev l.sat g2 s2 fun v' w' σ' H V=>Rx l H V) ?_
 rintro t6 t9 t7 t8 bp bq Y w3 bi e6 e9 e7 ⟨σ8,k8,f8⟩ bm ap ⟨a7,aq,A⟩
 subst ap
 obtain ⟨σ3,k3,l1,l2⟩:=k8.join aq
 have f8:=f8.lift l1
 have A:=A.lift l2
 have X:=X.up k3
 have f:=f.step k3
 have g:=g.step k3
 have Q:W≠b:=by omega
 have hS:=(r.trans m).trans k3
 refine Ue f (by simp) (Wu f8) (A6 f8) fun w4 u4 f=>?_
 rw[fa]
 have hS:=u4.stp hS l f.1
 have g:=g.upd u4 Q
 refine Ue f (by simp) (Wu A) (A6 A) fun w5 u5 f=>?_
 rw[fa]
 have hS:=u5.stp hS l f.1
 have g:=g.upd u5 Q
 refine Yk f rfl ?_
 refine Q8 X ?_
 refine H0 c.methods.length (fun n a w'=> ∃σ',Stp w σ w' σ'∧SLe σ3 σ'∧V6 w.heap.size T.d 7 E5 σ' w' a (c.methods.take n)∧Y3 σ' w' b [S c.name,S c.super,t8, .bool c.iface, .bool c.abs, .bool c.fin,Y,mv]∧Y3 σ' w' W [S [],S [], .slice none 0 0, .bool false, .bool false, .bool false, .slice none 0 0, .slice none 0 0]∧ ∀k,a.ownBlock=some k→k≠b∧k≠W)
  ⟨σ3,hS,SLe.refl _,V6.nil,f,g,fun k H=>by cases H⟩ fun n a w6 d hn hi=>?_
 obtain ⟨σ6,C,B,ha,f,g,j⟩:=hi
 refine Z2 ?_
 refine Q7 (fun hh=>?_) (fun hh=>?_)
 ·have y:n<c.methods.length:=by simpa using hh
  have ae:c.methods.length≤9223372036854775807:=by omega
  refine M9 (X.lift B) y fun p cs hl u hr=>?_
  refine Y5 C.sat hl u ?_
  refine Y7 C.sat (by rfl) u (Rep.one hr) fun q w7 σ7 o hq=>?_
  refine Y5 o.sat hq u ?_
  refine Q4Z o.sat (Rep.up o.le hr) (s4 _ (List.getElem_mem y)) fun pv cv V w8 σ8 M ar=>?_
  have J:=(Nxt.of_stp (D:=fun k=>a.ownBlock=some k) o).trans (Nxt.of_stp M)
  have an:=(ha.up o).up M
  have ay:=(f.nx J fun e=>(j _ e).1 rfl).lt
  have az:=(g.nx J fun e=>(j _ e).2 rfl).lt
  refine Jo ((C.trans o).trans M) an ar rfl rfl rfl (by rw[List.length_take];omega) (by rw[List.length_take];omega) fun s v' w9 σ9 z aj al hat=>?_
  refine O8 ?_
  have z:=J.trans z
  refine J6 ae y ⟨σ9,aj,B.more z.le,?_,f.nx z fun e=>(j _ e).1 rfl,g.nx z fun e=>(j _ e).2 rfl,?_⟩
  ·rw[List.take_add_one,List.getElem?_eq_getElem y];exact al
  ·intro k H
   rcases hat with hat | hat
   ·exact j k (hat▸H)
   ·have:=hat k H
    constructor<;>omega
 ·have y: ¬n<c.methods.length:=by simpa using hh
  rw[List.take_of_length_le (by omega)] at ha
  obtain ⟨σ7,O,N,Z,E⟩:=ha.keep C
  have f:Y3 σ7 w6 b _:=⟨(E b fun e=>(j b e.symm).1 rfl).trans f.1,f.2⟩
  have g:Y3 σ7 w6 W _:=⟨(E W fun e=>(j W e.symm).2 rfl).trans g.1,g.2⟩
  rw[fa]
  refine Ue f (by simp) (Wu N) (A6 N) fun w7 u7 f=>?_
  have O:=u7.stp O l f.1
  have g:=g.upd u7 Q
  refine Co f rfl ?_
  have hr:=V0.mk (f8.lift (B.more ⟨Z⟩)) (A.lift (B.more ⟨Z⟩)) N g4 g5
  have ac:=N0 ai r
  refine My g rfl rfl (by rw[List.all_toArray];exact List.all_eq_true.2 (Rep.one hr)) fun w8 u8 g=>?_
  have ah:=u8.stp O ac g.1
  refine V2 g rfl ?_
  exact h t8 Y a w8 σ7 ah hr)
end Go.Proofs.YtjdiakhipmggjaaGreatDoor

namespace Go.Hm
open Go.Kd
def C6 {α:Type}:Nat→List α→List α
 | 0,xs=>xs
 | i+1,xs=>match (C6 i xs)[i]?,(C6 i xs)[xs.length-1-i]? with
  | some a,some b=>((C6 i xs).set i b).set (xs.length-1-i) a
  | _,_=>C6 i xs
theorem Q0W {α:Type} (xs:List α): ∀i,2*i≤xs.length→(C6 i xs).length=xs.length∧ ∀k,k<xs.length→(C6 i xs)[k]? =if k<i∨xs.length-1-k<i then xs[xs.length-1-k]? else xs[k]?
 | 0,_=>⟨rfl,fun k j=>by simp[C6]⟩
 | i+1,h=>by
  obtain ⟨m,e⟩:=Q0W xs i (by omega)
  have b:=e i (by omega)
  have d:=e (xs.length-1-i) (by omega)
  rw[if_neg (by omega)] at b d
  have n:i<xs.length:=by omega
  have f:xs.length-1-i<xs.length:=by omega
  rw[List.getElem?_eq_getElem (l:=xs) n] at b
  rw[List.getElem?_eq_getElem (l:=xs) f] at d
  simp only[C6,b,d]
  refine ⟨by simp[m],fun k j=>?_⟩
  by_cases c:k=xs.length-1-i
  ·subst c
   rw[List.getElem?_set_self (by simp[m];omega),if_pos (by omega)]
   rw[show xs.length-1-(xs.length-1-i)=i by omega,List.getElem?_eq_getElem (by omega)]
  ·rw[List.getElem?_set_ne (by omega)]
   by_cases a:k=i
   ·subst a
    rw[List.getElem?_set_self (by omega),if_pos (by omega),List.getElem?_eq_getElem (by omega)]
   ·rw[List.getElem?_set_ne (by omega),e k j]
    by_cases g:k<i∨xs.length-1-k<i
    ·rw[if_pos g,if_pos (by omega)]
    ·rw[if_neg g,if_neg (by omega)]
theorem X0h {α:Type} (xs:List α) (i:Nat) (c:2*i≤xs.length) (e:xs.length≤2*i+1):C6 i xs=xs.reverse:=by
 obtain ⟨f,d⟩:=Q0W xs i c
 apply List.ext_getElem?
 intro k
 by_cases b:k<xs.length
 ·rw[d k b,List.getElem?_reverse b]
  by_cases a:k<i∨xs.length-1-k<i
  ·rw[if_pos a]
  ·rw[if_neg a];congr 1;omega
 ·rw[List.getElem?_eq_none (by omega),List.getElem?_eq_none (by simp;omega)]
theorem Kk (L:Ws): ∀(f:Nat) (n:X0),(I7 L f n).length≤f
 | 0,_=>by simp[I7]
 | f+1,n=>by
  simp only[I7]
  split
  ·simp
  ·have:=Kk L f (by rename_i c _;exact c.super)
   simp only[List.length_cons];rename_i c _;have:=Kk L f c.super;omega
theorem Bw (l:List Cla) (n:X0):(chain l n).length≤l.length+1:=Kk _ _ _
theorem Bi {l:List Cla} {n:X0} {c:Cla} (h:c∈chain l n):c∈l:=by
 have key: ∀(f:Nat) (n:X0),c∈I7 (lk l) f n→c∈l:=by
  intro f
  induction f with
  | zero=>intro n h;simp[I7] at h
  | succ f a=>
   intro n h
   simp only[I7] at h
   split at h
   ·simp at h
   ·rename_i d b
    rcases List.mem_cons.1 h with rfl | h
    ·exact (V4 b).2.1
    ·exact a _ h
 exact key _ _ h
theorem Vm {α β:Type} (f:α→List β) (k:Nat): ∀(xs:List α),(∀x∈xs,(f x).length≤k)→(xs.flatMap f).length≤xs.length*k
 | [],_=>by simp
 | x::r,h=>by
  have b:=h x (by simp)
  have c:=Vm f k r fun y a=>h y (by simp[a])
  simp only[List.flatMap_cons,List.length_append,List.length_cons,Nat.add_mul];omega
end Go.Hm

namespace Go.Hm
open Go.Kd
def Y1 (l:List Cla) (i:Nat):X0:=(l.getD i Cla.zero).name
theorem Yl {l:List Cla} (b:T7 l) {i:Nat} (a:i<l.length):lk l (Y1 l i)=some (l.getD i Cla.zero):=by
 have e:l.getD i Cla.zero=l[i]:=by rw[List.getD_eq_getElem?_getD,List.getElem?_eq_getElem a];rfl
 unfold Y1
 rw[e];exact b.lk (List.getElem_mem a)
theorem S5 {l:List Cla} {u:X0} {j:Nat} (h:Z1 l u=some j):j<l.length∧Y1 l j=u:=by
 obtain ⟨a,b,_⟩:=List.findIdx?_eq_some_iff_getElem.1 h
 refine ⟨a,?_⟩
 unfold Y1
 rw[List.getD_eq_getElem?_getD,List.getElem?_eq_getElem a]
 simpa using b
theorem Q1A {l:List Cla} (d:Jg l) (g:T7 l) {i j:Nat} (e:i<l.length) {u:X0} (f:u∈U4 (l.getD i Cla.zero)) (a:Z1 l u=some j):K9 l (Y1 l j)<K9 l (Y1 l i):=by
 obtain ⟨c,b,_⟩:=Zn a
 rw[(S5 a).2]
 exact Yd d (Yl g e) f b
theorem Fk {α β:Type} {f g:β→α→β}: ∀(xs:List α) (b:β),(∀b x,x∈xs→f b x=g b x)→xs.foldl f b=xs.foldl g b
 | [],_,_=>rfl
 | x::r,b,h=>by
  rw[List.foldl_cons,List.foldl_cons,h b x (by simp)]
  exact Fk r _ fun b y a=>h b y (by simp[a])
theorem Yw {l:List Cla} {frm:Nat} (f:Nat) (a:List Nat) {i:Nat} (h:i<frm):A8 l frm f a i=a:=by
 cases f<;>simp[A8,h]
theorem X0b {l:List Cla} (o:Jg l) (p:T7 l) {frm:Nat} (d:0<frm): ∀(f g:Nat) (a:List Nat) (i:Nat),i<l.length→K9 l (Y1 l i)<f→K9 l (Y1 l i)<g→A8 l frm f a i=A8 l frm g a i:=by
 intro f
 induction f with
 | zero=>intro g a i _ h;omega
 | succ f e=>
  intro g a i k r q
  obtain ⟨g,rfl⟩: ∃m,g=m+1:=⟨g-1,by omega⟩
  simp only[A8]
  split
  ·rfl
  ·split
   ·rfl
   ·congr 1
    refine Fk _ _ fun b u n=>?_
    cases c:Z1 l u with
    | none=>simp only[Option.getD_none];rw[Yw f b d,Yw g b d]
    | some j=>
     simp only[Option.getD_some]
     have:=Q1A o p k n c
     exact e g b j (S5 c).1 (by omega) (by omega)
def Xu (l:List Cla) (frm:Nat) (a:List Nat) (i:Nat):List Nat:=A8 l frm (l.length+1) a i
theorem Q7R {l:List Cla} (e:Jg l) (f:T7 l) {frm:Nat} (c:0<frm) (a:List Nat) {i:Nat} (g:i<l.length):Xu l frm a i=if i<frm then a else if i∈a then a else
 ((U4 (l.getD i Cla.zero)).foldl (fun a n=>Xu l frm a ((Z1 l n).getD 0)) a)++[i]:=by
 have k:=Q1R l (Y1 l i)
 unfold Xu
 rw[A8]
 split
 ·rfl
 ·split
  ·rfl
  ·congr 1
   refine Fk _ _ fun b u h=>?_
   cases d:Z1 l u with
   | none=>simp only[Option.getD_none];rw[Yw _ b c,Yw _ b c]
   | some j=>
    simp only[Option.getD_some]
    have:=Q1A e f g h d
    exact X0b e f c _ _ b j (S5 d).1 (by omega) (by omega)
theorem Lj {α:Type} {p:Nat→Prop} {f:List Nat→α→List Nat}: ∀(xs:List α) (b:List Nat),(∀b x,x∈xs→ ∀y∈f b x,y∈b∨p y)→ ∀y∈xs.foldl f b,y∈b∨p y
 | [],b,_=>fun y a=> .inl a
 | x::r,b,h=>fun y a=>by
  rw[List.foldl_cons] at a
  rcases Lj r _ (fun b z c=>h b z (by simp[c])) y a with h1 | h1
  ·exact h b x (by simp) y h1
  ·exact .inr h1
theorem Q6x {l:List Cla} (o:T7 l) {frm:Nat} (s:0<frm): ∀(f:Nat) (a:List Nat) (i:Nat),i<l.length→ ∀y∈A8 l frm f a i,y∈a∨(y<l.length∧(y=i∨Wy (lk l) (Y1 l i) (Y1 l y))):=by
 intro f
 induction f with
 | zero=>intro a i _ y hy;exact .inl hy
 | succ f q=>
  intro a i g y hy
  simp only[A8] at hy
  split at hy
  ·exact .inl hy
  ·split at hy
   ·exact .inl hy
   ·rcases List.mem_append.1 hy with hy | hy
    ·refine Lj (p:=fun y=>y<l.length∧(y=i∨Wy (lk l) (Y1 l i) (Y1 l y))) _ _ (fun b u m y hy=>?_) y hy
     cases e:Z1 l u with
     | none=>
      rw[e] at hy
      simp only[Option.getD_none] at hy
      rw[Yw f b s] at hy
      exact .inl hy
     | some j=>
      rw[e] at hy
      simp only[Option.getD_some] at hy
      obtain ⟨k,d⟩:=S5 e
      obtain ⟨c,r,_⟩:=Zn e
      rcases q b j k y hy with h | ⟨n,rfl | h2⟩
      ·exact .inl h
      ·exact .inr ⟨n, .inr ⟨_,Yl o g,u,m,by rw[d];exact .refl r⟩⟩
      ·exact .inr ⟨n, .inr ⟨_,Yl o g,u,m,by rw[←d];exact h2.reach⟩⟩
    ·simp at hy;subst hy;exact .inr ⟨g, .inl rfl⟩
theorem Q3d {α:Type} {q:List Nat→Prop} {f:List Nat→α→List Nat}: ∀(xs:List α) (b:List Nat),(∀b x,x∈xs→q b→q (f b x))→q b→q (xs.foldl f b)
 | [],b,_,h=>h
 | x::r,b,a,h=>by
  rw[List.foldl_cons]
  exact Q3d r _ (fun b z c=>a b z (by simp[c])) (a b x (by simp) h)
def Few (l:List Cla) (a:List Nat):Prop:=a.Nodup∧ ∀y∈a,y<l.length
theorem Few.len {l:List Cla} {b:List Nat} (h:Few l b):b.length≤l.length:=by
 have key: ∀(n:Nat) (b:List Nat),b.Nodup→(∀y∈b,y<n)→b.length≤n:=by
  intro n
  induction n with
  | zero=>
   intro b _ h
   cases b with
   | nil=>simp
   | cons a r=>have:=h a (by simp);omega
  | succ n g=>
   intro b f h
   have k:=g (b.filter (fun y=> !decide (y=n))) (f.sublist List.filter_sublist) (fun y c=>by
    have:=List.mem_filter.1 c
    have i:=h y this.1
    have o:y≠n:=by simpa using this.2
    omega)
   have i:b.length≤(b.filter (fun y=> !decide (y=n))).length+1:=by
    clear k h
    induction b with
    | nil=>simp
    | cons a r d=>
     obtain ⟨m,j⟩:=List.nodup_cons.1 f
     by_cases e:a=n
     ·subst e
      have:r.filter (fun y=> !decide (y=a))=r:=List.filter_eq_self.2 fun y c=>by simp;rintro rfl;exact m c
      simp[this]
     ·have:=d j
      simp[e];exact this
   omega
 exact key _ _ h.1 h.2
theorem Ta {l:List Cla} (s:Jg l) (w:T7 l) {frm:Nat} (v:0<frm): ∀(f:Nat) (d:List Nat) (i:Nat),i<l.length→Few l d→Few l (A8 l frm f d i):=by
 intro f
 induction f with
 | zero=>intro d i _ h;exact h
 | succ f B=>
  intro d i z h
  simp only[A8]
  split
  ·exact h
  ·split
   ·exact h
   ·rename_i q
    have A:Few l ((U4 (l.getD i Cla.zero)).foldl (fun d n=>A8 l frm f d ((Z1 l n).getD 0)) d):=by
     refine Q3d _ _ (fun b u r k=>?_) h
     cases e:Z1 l u with
     | none=>simp only[Option.getD_none];rw[Yw f b v];exact k
     | some j=>exact B b j (S5 e).1 k
    have t:i∉(U4 (l.getD i Cla.zero)).foldl (fun d n=>A8 l frm f d ((Z1 l n).getD 0)) d:=by
     intro m
     rcases Lj (p:=fun y=>Wy (lk l) (Y1 l i) (Y1 l y)) _ _ (fun b u r y hy=>by
      cases e:Z1 l u with
      | none=>
       rw[e] at hy
       simp only[Option.getD_none] at hy
       rw[Yw f b v] at hy
       exact .inl hy
      | some j=>
       rw[e] at hy
       simp only[Option.getD_some] at hy
       obtain ⟨o,g⟩:=S5 e
       obtain ⟨c,C,_⟩:=Zn e
       rcases Q6x w v f b j o y hy with h | ⟨h1,rfl | h2⟩
       ·exact .inl h
       ·exact .inr ⟨_,Yl w z,u,r,by rw[g];exact .refl C⟩
       ·exact .inr ⟨_,Yl w z,u,r,by rw[←g];exact h2.reach⟩) i m with h1 | h1
     ·exact q h1
     ·exact s _ h1
    refine ⟨?_,fun y hy=>?_⟩
    ·rw[List.nodup_append]
     exact ⟨A.1,by simp,by rintro a s b k rfl;simp at k;subst k;exact t s⟩
    ·rcases List.mem_append.1 hy with hy | hy
     ·exact A.2 y hy
     ·simp at hy;omega
end Go.Hm

namespace Go.Emb
open Go.RowKit Go.Hm
variable {P : Program} {w w0 w1 w' w'' : World} {K : Value → World → Prop} {σ σ0 σ1 σ' : Q6}
def Vw (sz:Nat) (v:Value) (i:Nat):Addr:=match v with
 | .slice (some b) _ _=>b.add (i*sz)
 | _=>⟨0,0,none⟩
section
variable {α : Type} {R : Q6 → α → List Value → Prop} {sz : Nat} {v : Value} {xs : List α}
theorem Sl.el (h:Sl sz R σ v xs) {i:Nat} (k:i<xs.length): ∃cs,Z6 σ (Vw sz v i) cs∧cs.length=sz∧R σ xs[i] cs:=by
 obtain ⟨a,g,rfl,l,m,c,e⟩:=h
 cases a with
 | none=>have:=c rfl;omega
 | some b=>
  obtain ⟨cs,f,j,d⟩:=(e b rfl).2 i xs[i] (by simp[k])
  exact ⟨cs,f,j,d⟩
theorem Y2 {t e:TypeId} {c:Nat} {z:Value} [TS P t e] [TZ P e sz c z] (h:Sl sz R σ v xs) {i:Nat} (l:i<xs.length) (g:K (.pointer (some (Vw sz v i))) w):indexAddr P t v (I i) w K:=by
 obtain ⟨a,f,rfl,k,m,d,j⟩:=h
 cases a with
 | none=>have:=d rfl;omega
 | some b=>
  rw[Se (by omega) (by omega)]
  simpa [Vw] using g
theorem Sl.elS {xs:List Kd.X0} (h:Sl 1 U9 σ v xs) {i:Nat} (c:i<xs.length):Z6 σ (Vw 1 v i) [S xs[i]]∧xs[i].length≤U0:=by
 obtain ⟨cs,b,d,rfl,a⟩:=h.el c;exact ⟨b,a⟩
theorem Sl.elF {xs:List Fld} (h:Sl 3 R9 σ v xs) {i:Nat} (c:i<xs.length):Z6 σ (Vw 3 v i) [S xs[i].name,S xs[i].kind, .bool xs[i].tr]∧R9 σ xs[i] [S xs[i].name,S xs[i].kind, .bool xs[i].tr]:=by
 obtain ⟨cs,b,d,rfl,a⟩:=h.el c;exact ⟨b,rfl,a⟩
theorem Sl.elI {xs:List Ins} (h:Sl 3 Qi σ v xs) {i:Nat} (c:i<xs.length):Z6 σ (Vw 3 v i) [S xs[i].op,I xs[i].n,S xs[i].s]∧Qi σ xs[i] [S xs[i].op,I xs[i].n,S xs[i].s]:=by
 obtain ⟨cs,b,d,rfl,a⟩:=h.el c;exact ⟨b,rfl,a⟩
theorem Sl.elK {xs:List Cat} (h:Sl 4 Ju σ v xs) {i:Nat} (c:i<xs.length):Z6 σ (Vw 4 v i) [I xs[i].frm,I xs[i].to,I xs[i].at_,S xs[i].cls]∧Ju σ xs[i] [I xs[i].frm,I xs[i].to,I xs[i].at_,S xs[i].cls]:=by
 obtain ⟨cs,b,d,rfl,a⟩:=h.el c;exact ⟨b,rfl,a⟩
theorem Sl.conv {α β:Type} {R:Q6→α→List Value→Prop} {R':Q6→β→List Value→Prop} {sz:Nat} {v:Value} {xs:List α} {ys:List β} (h:Sl sz R σ v xs) (j:ys.length=xs.length) (m: ∀i (g:i<xs.length) (t:i<ys.length) cs,R σ xs[i] cs→R' σ ys[i] cs):Sl sz R' σ v ys:=by
 obtain ⟨a,d,rfl,l,o,k,e⟩:=h
 refine ⟨a,d,by rw[j],by rw[j];exact l,o,k,fun b f=>⟨fun s=>(e b f).1 (by omega),fun i x r=>?_⟩⟩
 obtain ⟨g,rfl⟩:=List.getElem?_eq_some_iff.1 r
 have c:i<xs.length:=by omega
 obtain ⟨cs,p,q,n⟩:=(e b f).2 i xs[i] (List.getElem?_eq_getElem c)
 exact ⟨cs,p,q,m i c g cs n⟩
theorem Sl.elM {xs:List Hm.Met} (h:Sl 7 E5 σ v xs) {i:Nat} (e:i<xs.length): ∃pv a b,Z6 σ (Vw 7 v i) [S xs[i].name,pv,S xs[i].result, .bool xs[i].abs,I xs[i].locals,a,b]∧E5 σ xs[i] [S xs[i].name,pv,S xs[i].result, .bool xs[i].abs,I xs[i].locals,a,b]:=by
 obtain ⟨cs,d,f,pv,a,b,rfl,c⟩:=h.el e;exact ⟨pv,a,b,d,pv,a,b,rfl,c⟩
theorem Sl.elC {xs:List Cla} (h:Sl 8 V0 σ v xs) {i:Nat} (e:i<xs.length): ∃b a mv,Z6 σ (Vw 8 v i) [S xs[i].name,S xs[i].super,b, .bool xs[i].iface, .bool xs[i].abs, .bool xs[i].fin,a,mv]∧V0 σ xs[i] [S xs[i].name,S xs[i].super,b, .bool xs[i].iface, .bool xs[i].abs, .bool xs[i].fin,a,mv]:=by
 obtain ⟨cs,d,f,b,a,mv,rfl,c⟩:=h.el e;exact ⟨b,a,mv,d,b,a,mv,rfl,c⟩
end
theorem Z8 {c:World→World→Prop} {A a:(Value→World→Prop)→Prop} {V:Value} (h:A (fun v _=>V=v)) (b:a (fun v _=>V=v)):Q5 c A a:=E8 _ (fun _ _ _ h _=>h) h b
theorem L1 {v V:Value} (h:V=v):dk (fun w w'=>Below w.heap.size w w') (fun v _=>V=v) w v w:=⟨Below.refl _ _,h⟩
theorem S3 {v V:Value} (a:Below w.heap.size w w') (h:V=v):dk (fun w w'=>Below w.heap.size w w') (fun v _=>V=v) w v w':=⟨a,h⟩
theorem G2 {c b:Bool} {V:Value} {a:World→(Value→World→Prop)→Prop} (h:c=b→a w (dk (fun w w'=>Below w.heap.size w w') (fun v _=>V=v) w)):Q0 (.bool c) b w a (dk (fun w w'=>Below w.heap.size w w') (fun v _=>(if c=b then V else undef)=v) w):=by
 by_cases e:c=b
 ·simp only[e,if_true]
  subst e
  have:=h rfl
  cases c
  ·rw[W9];exact this
  ·rw[W5];exact this
 ·have d:c= !b:=by cases c<;>cases b<;>simp_all
  rw[if_neg e];subst d
  cases b
  ·rw[Bool.not_false,S4];exact ⟨Below.refl _ _,rfl⟩
  ·rw[Bool.not_true,E2];exact ⟨Below.refl _ _,rfl⟩
theorem Qd {p:Prop} (hq:p:=by intros;(repeat (rename_i hx;subst hx));(repeat' (first | (with_reducible exact L1 rfl) | (with_reducible exact S3 (Stp.bel (by (repeat (first | exact Stp.refl (by (first | assumption | exact Stp.sat (by assumption) | exact Hst.sat (by assumption))) | assumption | refine Stp.trans ?_ (by first | assumption | exact Hst.stp (by assumption)))))) rfl) | (with_reducible intro _) | (simp only[↓M2,M2,Mb,reduceIte]) | (with_reducible show Q2 _ _ _ _ _;first | refine X7 aS aL aR ?_ | refine Y5 aS aL aR ?_ | refine ld aS aL aR ?_) | (with_reducible show indexAddr _ _ _ _ _ _;refine Y2 aL au ?_) | (with_reducible show X3 _ _ _ _ _ _ _ _;refine Q8 aL ?_) | (with_reducible show F5 _ _ _ _ _ _;refine J4 aR ?_) | (with_reducible show pick _ _ _ _ _ _;refine M3 ?_) | (apply G2;intro hh;(try simp only[hh,reduceIte,↓M2,M2,Mb,reduceIte]))));done):p:=hq
end Go.Emb

namespace Go.Emb
open Go.RowKit Go.Hm
variable {P : Program} {w w0 w1 w' w'' : World} {K : Value → World → Prop} {σ σ0 σ1 σ' : Q6}
section
variable {α : Type} {R : Q6 → α → List Value → Prop} {B sz : Nat} {e : TypeId} {v u : Value} {xs ys : List α}
def Emp (v:Value):Prop:= ∃a,v= .slice a 0 0
theorem Q7x {t r:TypeId} {p:Nat} {z:Value} {cs:List Bool} [ts:TS P t e] [tz:TZ P e sz p z] [hr:Rep R] (X:Stp w0 σ0 w σ) (ha:V6 w0.heap.size e sz R σ w v []) (hv:Emp v) (Q:X2 w σ') (hu:Sl sz R σ' u ys) (hR: ∀x cs,R σ' x cs→R σ x cs) (U:(z.cells.size==sz&&decide (0<sz))=true)
 (hb:ys.length*p≤140737488355328) (hm:ys.length≤1000000000000)
 (h: ∀j w',Stp w σ w' σ→V6 w0.heap.size e sz R σ w' j ys→K j w'):X3 P .append [t,t] r cs [v,u] w K:=by
 obtain ⟨l,rfl⟩:=hv
 have O:=X.sat
 obtain ⟨a,d,c,rfl,n1,y,n3,n4,n5⟩:=hu.cells Q
 obtain ⟨i,V,J,N,o⟩:=tz.info
 simp only[Bool.and_eq_true,beq_iff_eq,decide_eq_true_eq] at U
 obtain ⟨L,al⟩:=U
 have g:Src P i.size t (.slice a ys.length d) ys.length c w:=by
  cases a with
  | some b=>exact Src.ofSlice w ts.h b ys.length d c (by rw[J];exact y) (n3 b rfl) n4
  | none=>
   have C:ys.length=0:=by
    obtain ⟨Y,aa,e',q1,_,q3,_⟩:=hu;injection e' with e1 e2 e3;have:=n1 rfl;omega
   have E:c=[]:=List.eq_nil_of_length_eq_zero (by rw[y,C];simp)
   subst E
   rw[C];exact Src.ofNil w ts.h d
 have q: ∀j w',(Builtin.append_ #[t,t] r #[.slice l 0 0, .slice a ys.length d]).run P w= .ok j w'→Stp w σ w' σ→V6 w0.heap.size e sz R σ w' j ys→X3 P .append [t,t] r cs [.slice l 0 0, .slice a ys.length d] w K:=by
  intro j w' f M hq
  have m:(builtin .append #[t,t] r cs.toArray #[.slice l 0 0, .slice a ys.length d]).run P w= .ok (.value j) w':=by
   simp[builtin,f]
  unfold X3
  rw[Qa];unfold T2
  rw[m]
  exact h j w' M hq
 by_cases C:ys=[]
 ·subst C
  have E:c=[]:=List.eq_nil_of_length_eq_zero (by simpa using y)
  subst E
  refine q (.slice l 0 0) w ?_ (Stp.refl O) ha
  have W:=g.len w
  have s:=g.cells
  simp only[List.length_nil] at W s⊢
  cases l<;>simp[Builtin.append_,run_underlying ts.h,sizeOf,typeInfo,V,W,s,storeCells]
 ·have aj:0<ys.length:=List.length_pos_iff.2 C
  have n:(Builtin.firstCells i.size 0 (.slice l 0 0)).run P w.drew= .ok (#[]:Array Value) w.drew:=by
   cases l with
   | none=>exact run_firstCells_none w.drew i.size 0 0 0
   | some Y=>exact run_firstCells_some w.drew i.size 0 Y 0 0 [] (by simp) (by intro _ _ h';simp at h')
  have Z:0<0+ys.length:=by omega
  have f:=run_append_grow_src (P:=P) w t t r e i z ts.h V o l 0 0 [] n (.slice a ys.length d) ys.length c g Z (by omega) (growslice_fits Z (by rw[N,Nat.zero_add];exact hb))
  simp only[Nat.zero_add] at f
  have H:=grownCap_le_maxLen w ys.length 0 e (by simp only[maxLen];omega)
  have D:=grownCap_ge w ys.length 0 e
  refine q _ _ f (Stp.of_below O ((Below.refl _ _).drew.alloc (Nat.le_refl _) _)) ⟨c,⟨y, .inr ⟨w.heap.size,_,_,rfl,X.bel.size,heap_alloc_new w.drew _,D,H,?_,?_⟩⟩,?_,fun i x hx=>hR _ _ (n5 i x hx)⟩
  ·simp only[List.nil_append]
   rw[Array.size_append,List.size_toArray,y,size_zeroCells,L,←Nat.add_mul]
   congr 1;omega
  ·simp only[List.nil_append]
   rw[Array.toList_append]
   rw[List.take_append_of_le_length (by simp only[List.toList_toArray];omega),List.take_of_length_le (by simp only[List.toList_toArray];omega)]
  ·intro k M;cases M;exact O.none (Nat.le_refl _)
theorem X3p {t g:TypeId} {a:Nat} {z:Value} {cs:List Bool} [ts:TS P t e] [tz:TZ P e sz a z] [hr:Rep R] (b:Stp w0 σ0 w σ) (i:V6 w0.heap.size e sz R σ w v []) (f:Emp v) (l:Sl sz R σ u ys) (j:(z.cells.size==sz&&decide (0<sz))=true)
 (d:ys.length*a≤140737488355328) (k:ys.length≤1000000000000)
 (h: ∀c w',Stp w σ w' σ→V6 w0.heap.size e sz R σ w' c ys→K c w'):X3 P .append [t,t] g cs [v,u] w K:=
 Q7x b i f b.sat l (fun _ _ h=>h) j d k h
end
def X1h {α:Type} (w0:World) (σ:Q6) (e:TypeId) (sz:Nat) (R:Q6→α→List Value→Prop) (xs:List α) (v:Value) (w':World):Prop:=Stp w0 σ w' σ∧V6 w0.heap.size e sz R σ w' v xs
def Q8E {α:Type} (w0:World) (σ:Q6) (e:TypeId) (sz:Nat) (R:Q6→α→List Value→Prop) (v:Value) (w':World):Prop:=Stp w0 σ w' σ∧V6 w0.heap.size e sz R σ w' v ([]:List α)∧Emp v
section
variable {α : Type} {R : Q6 → α → List Value → Prop} {sz : Nat} {e : TypeId} {v u : Value} {xs ys : List α} {A rest : (Value → World → Prop) → Prop}
theorem Q1L [Rep R] (xs:List α) (h:A (X1h w σ e sz R xs)) (d:rest (X1h w σ e sz R xs)):Q5 (fun w w'=>Below w.heap.size w w') A rest:=
 E8 _ (fun _ _ _ ⟨a,c⟩ b=>⟨a.trans (Stp.of_below a.sat b),c.up (Stp.of_below a.sat b)⟩) h d
theorem X23 [Rep R] (h:A (Q8E w σ e sz R)) (d:rest (Q8E w σ e sz R)):Q5 (fun w w'=>Below w.heap.size w w') A rest:=
 E8 _ (fun _ _ _ ⟨a,c,f⟩ b=>⟨a.trans (Stp.of_below a.sat b),c.up (Stp.of_below a.sat b),f⟩) h d
theorem Q3m (a:Hst w σ w1 σ) (h:Stp w1 σ w' σ) (b:V6 w.heap.size e sz R σ w' v xs):dk (fun w w'=>Below w.heap.size w w') (X1h w σ e sz R xs) w1 v w':=⟨h.bel,a.stp.trans h,b⟩
theorem X30 (b:Hst w σ w1 σ) (h:Stp w1 σ w' σ) (c:V6 w.heap.size e sz R σ w' v ([]:List α)) (a:Emp v):dk (fun w w'=>Below w.heap.size w w') (Q8E w σ e sz R) w1 v w':=⟨h.bel,b.stp.trans h,c,a⟩
theorem Hl {t:TypeId} {c:Nat} {z:Value} [ts:TS P t e] [tz:TZ P e sz c z] (R:Q6→α→List Value→Prop) (b:Stp w0 σ0 w σ) (i:0<sz)
 (h: ∀v w',Stp w σ w' σ→V6 w0.heap.size e sz R σ w' v ([]:List α)→Emp v→K v w'):buildSlice P t 0 [] w K:=by
 obtain ⟨cells,d,f⟩:=Ra (P:=P) (t:=t) (sz:=sz) (e:=e) [] (by simp) (by simp) w
 unfold buildSlice
 have a:(Instr.buildSlice t 0 ([]:List (Nat×Value)).toArray).run P w=_:=d
 rw[X9 a]
 refine h _ _ (Stp.own b.sat _) ⟨[],⟨by simp, .inr ⟨_,_,cells,rfl,b.bel.size,heap_alloc_new w _,by simp,by simp[maxLen],?_,by simp⟩⟩,?_,by simp⟩ ⟨_,rfl⟩
 ·have:cells.size=0:=by rw[←Array.length_toList,f];rfl
  simp[this]
 ·intro k g;cases g;exact b.sat.none (Nat.le_refl _)
theorem Q3w [Rep R] {t:TypeId} {a:Nat} {z:Value} [ts:TS P t e] [tz:TZ P e sz a z] (b:(decide (0<sz))=true) (d:rest (Q8E w σ e sz R)):
 Q5 (fun w w'=>Below w.heap.size w w') (fun φ=> ∀w1:World,Hst w σ w1 σ→buildSlice P t 0 [] w1 (dk (fun w w'=>Below w.heap.size w w') φ w1)) rest:=
 X23 (fun w1 c=>Hl R c.stp (by simpa using b) fun v w' f g h=>X30 c f g h) d
end
theorem V0.parts {c:Cla} {a b j d e f g mv:Value} (h:V0 σ c [a,b,j,d,e,f,g,mv]):Sl 1 U9 σ j c.like∧Sl 3 R9 σ g c.fields∧Sl 7 E5 σ mv c.methods∧c.name.length≤U0∧c.super.length≤U0:=by
 obtain ⟨_,_,_,i,k⟩:=h
 simp only[List.cons.injEq,and_true] at i
 obtain ⟨_,_,rfl,_,_,_,rfl,rfl⟩:=i
 exact k
theorem E5.parts {m:Hm.Met} {a pv b d e c f:Value} (h:E5 σ m [a,pv,b,d,e,c,f]):Sl 1 U9 σ pv m.params∧Sl 3 Qi σ c m.code∧Sl 4 Ju σ f m.catches∧m.name.length≤U0∧m.result.length≤U0∧Yz m.locals:=by
 obtain ⟨_,_,_,g,i⟩:=h
 simp only[List.cons.injEq,and_true] at g
 obtain ⟨_,rfl,_,_,_,rfl,rfl⟩:=g
 exact i
end Go.Emb

namespace Go.Emb
open Go.RowKit
variable {P : Program} {w : World} {K : Value → World → Prop}
theorem X2f {d:Nat} {xs ys:Array Value}:(Op.eqFields d xs ys []).run P w= .ok true w:=by simp[Op.eqFields]
theorem Ph {d:Nat} {xs ys:Array Value} {f:Field} {a:List Field} {u v:Value} {b c:Bool} (g:f.name≠ "_") [tg:TG P f.type false] (j:xs[f.offset]? =some u) (e:ys[f.offset]? =some v)
 (h:(Op.equalIn d f.type u v).run P w= .ok b w) (i:(Op.eqFields d xs ys a).run P w= .ok c w):(Op.eqFields d xs ys (f::a)).run P w= .ok (b&&c) w:=by
 simp only[Op.eqFields,if_pos g]
 simp[part,Xq tg,j,e,h]
 cases b
 ·simp
 ·simp[i]
theorem X2H {d:Nat} {t:TypeId} (c:P.underlying t=some .string) (a b:List UInt8):(Op.equalIn (d+1) t (S a) (S b)).run P w= .ok (decide (a=b)) w:=by
 simp[Op.equalIn,run_underlying c,Hi]
theorem Q4f {d:Nat} {t:TypeId} {k c:IntKind} (f:P.underlying t=some (.int k)) (a b:Int):(Op.equalIn (d+1) t (.int c a) (.int c b)).run P w= .ok (decide (a=b)) w:=by
 simp[Op.equalIn,run_underlying f]
 by_cases e:a=b<;>simp[e]
theorem X21 {t:TypeId} {c a:Operand} {xs ys:List Value} {b:Bool} (g:P.underlying t=some (.struct (P.fieldsOf t))) (i:P.stoodInHeld t=false) (d:P.eqGuardType P.depth t=false)
 (f:(Op.eqFields 9999 xs.toArray ys.toArray (P.fieldsOf t).toList).run P w= .ok b w) (h:K (.bool (!b)) w):Q3 P .neq t c a (.agg xs.toArray) (.agg ys.toArray) w K:=by
 have e:Q3 P .neq t c a (.agg xs.toArray) (.agg ys.toArray) w K=K (.bool (!b)) w:=X9 (by
  simp only[Sem.run_bind,run_eqGuard_agg w .neq t c a xs.toArray ys.toArray d,Result.andThen_ok]
  rw[run_neq_struct,run_equalIn_struct w 9999 t _ _ g i,f];rfl)
 rw[e];exact h
theorem X24 {t:TypeId} {c a:Operand} {xs ys:List Value} {b:Bool} (g:P.underlying t=some (.struct (P.fieldsOf t))) (i:P.stoodInHeld t=false) (d:P.eqGuardType P.depth t=false)
 (f:(Op.eqFields 9999 xs.toArray ys.toArray (P.fieldsOf t).toList).run P w= .ok b w) (h:K (.bool b) w):Q3 P .eql t c a (.agg xs.toArray) (.agg ys.toArray) w K:=by
 have e:Q3 P .eql t c a (.agg xs.toArray) (.agg ys.toArray) w K=K (.bool b) w:=X9 (by
  simp only[Sem.run_bind,run_eqGuard_agg w .eql t c a xs.toArray ys.toArray d,Result.andThen_ok]
  rw[run_eql_struct,run_equalIn_struct w 9999 t _ _ g i,f];rfl)
 rw[e];exact h
end Go.Emb
namespace Go.Proofs.YtjdiakhipmggjaaGreatDoor
open Go.Emb Go.RowKit Go.Kd Go.Hm
variable {w : World} {K : Value → World → Prop} {σ : Q6}
end Go.Proofs.YtjdiakhipmggjaaGreatDoor

namespace Go.Proofs.YtjdiakhipmggjaaGreatDoor
open Go.Emb Go.RowKit Go.Kd
variable {w : World} {K : Value → World → Prop}
end Go.Proofs.YtjdiakhipmggjaaGreatDoor
