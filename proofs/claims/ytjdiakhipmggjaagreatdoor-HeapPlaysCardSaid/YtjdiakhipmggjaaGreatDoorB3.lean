/- Parts of a proof about the given program: its functions as texts of their own, what each computes, plain laws of that. The conditions of each stand in its statement. -/
import Derived.Test.YtjdiakhipmggjaaGreatDoorB2
import Derived.Test.YtjdiakhipmggjaaGreatDoorB1
import Derived.ChangeArms
import Derived.DataReads
import Derived.SizedLaws
import Derived.Deep.AppendSrc
import Derived.Laws.StructEq
set_option linter.unnecessarySimpa false
set_option linter.defProp false
set_option linter.unusedSectionVars false
set_option linter.unusedVariables false
set_option linter.unusedSimpArgs false
namespace Go.Proofs.YtjdiakhipmggjaaGreatDoor
open Go.Emb
instance z_x:TZ P T.x 1 0 (.tuple #[]):=⟨by kernel_rfl⟩
instance g_x:TG P T.x false:=⟨by kernel_rfl⟩
instance z_int64:TZ P T.a1 1 8 (.int .i64 0):=⟨by kernel_rfl⟩
instance g_int64:TG P T.a1 false:=⟨by kernel_rfl⟩
instance z_int:TZ P T.e 1 8 (.int .i64 0):=⟨by kernel_rfl⟩
instance g_int:TG P T.e false:=⟨by kernel_rfl⟩
instance z_bool:TZ P T.u 1 1 (.bool false):=⟨by kernel_rfl⟩
instance g_bool:TG P T.u false:=⟨by kernel_rfl⟩
instance z_uint8:TZ P T.a3 1 1 (.int .u8 0):=⟨by kernel_rfl⟩
instance g_uint8:TG P T.a3 false:=⟨by kernel_rfl⟩
instance z_string:TZ P T.c 1 16 (.string ⟨#[]⟩):=⟨by kernel_rfl⟩
instance g_string:TG P T.c false:=⟨by kernel_rfl⟩
instance z_uintptr:TZ P T.av 1 8 (.int .u64 0):=⟨by kernel_rfl⟩
instance g_uintptr:TG P T.av false:=⟨by kernel_rfl⟩
instance z_int32:TZ P T.an 1 4 (.int .i32 0):=⟨by kernel_rfl⟩
instance g_int32:TG P T.an false:=⟨by kernel_rfl⟩
instance z_P_hier_Table:TZ P T.r 1 8 (.pointer none):=⟨by kernel_rfl⟩
instance g_P_hier_Table:TG P T.r false:=⟨by kernel_rfl⟩
instance z_api_Errno:TZ P T.y 1 8 (.int .i64 0):=⟨by kernel_rfl⟩
instance g_api_Errno:TG P T.y false:=⟨by kernel_rfl⟩
instance z_S_api_Class:TZ P T.i 1 24 (.slice none 0 0):=⟨by kernel_rfl⟩
instance g_S_api_Class:TG P T.i false:=⟨by kernel_rfl⟩
instance s_S_api_Class:TS P T.i 85:=⟨by kernel_rfl⟩
instance z_P_heap_Heap:TZ P T.a5 1 8 (.pointer none):=⟨by kernel_rfl⟩
instance g_P_heap_Heap:TG P T.a5 false:=⟨by kernel_rfl⟩
instance z_api_Value:TZ P T.g 4 40 (.agg #[.int .i64 0, .int .i64 0, .string ⟨#[]⟩, .int .i64 0]):=⟨by kernel_rfl⟩
instance g_api_Value:TG P T.g true:=⟨by kernel_rfl⟩
instance f_api_Value_0:TF P T.g 0 0 3:=⟨by kernel_rfl⟩
instance f_api_Value_1:TF P T.g 1 1 2:=⟨by kernel_rfl⟩
instance f_api_Value_2:TF P T.g 2 2 9:=⟨by kernel_rfl⟩
instance f_api_Value_3:TF P T.g 3 3 3:=⟨by kernel_rfl⟩
instance z_S_api_Cell:TZ P T.f 1 24 (.slice none 0 0):=⟨by kernel_rfl⟩
instance g_S_api_Cell:TG P T.f false:=⟨by kernel_rfl⟩
instance s_S_api_Cell:TS P T.f 78:=⟨by kernel_rfl⟩
instance z_uint16:TZ P T.aq 1 2 (.int .u16 0):=⟨by kernel_rfl⟩
instance g_uint16:TG P T.aq false:=⟨by kernel_rfl⟩
instance z_S_squinchref09_Act:TZ P T.z 1 24 (.slice none 0 0):=⟨by kernel_rfl⟩
instance g_S_squinchref09_Act:TG P T.z false:=⟨by kernel_rfl⟩
instance s_S_squinchref09_Act:TS P T.z 51:=⟨by kernel_rfl⟩
instance z_squinchref09_Heap:TZ P T.a 3 56 (.agg #[.slice none 0 0, .int .i64 0, .slice none 0 0]):=⟨by kernel_rfl⟩
instance g_squinchref09_Heap:TG P T.a true:=⟨by kernel_rfl⟩
instance f_squinchref09_Heap_0:TF P T.a 0 0 26:=⟨by kernel_rfl⟩
instance f_squinchref09_Heap_1:TF P T.a 1 1 3:=⟨by kernel_rfl⟩
instance f_squinchref09_Heap_2:TF P T.a 2 2 37:=⟨by kernel_rfl⟩
instance z_squinchref09_Act:TZ P T.n 8 80 (.agg #[.int .i64 0, .string ⟨#[]⟩, .int .i64 0, .int .i64 0, .int .i64 0, .int .i64 0, .string ⟨#[]⟩, .int .i64 0]):=⟨by kernel_rfl⟩
instance g_squinchref09_Act:TG P T.n true:=⟨by kernel_rfl⟩
instance f_squinchref09_Act_0:TF P T.n 0 0 3:=⟨by kernel_rfl⟩
instance f_squinchref09_Act_1:TF P T.n 1 1 9:=⟨by kernel_rfl⟩
instance f_squinchref09_Act_2:TF P T.n 2 2 2:=⟨by kernel_rfl⟩
instance f_squinchref09_Act_3:TF P T.n 3 3 3:=⟨by kernel_rfl⟩
instance f_squinchref09_Act_4:TF P T.n 4 4 33:=⟨by kernel_rfl⟩
instance z_S_string:TZ P T.h 1 24 (.slice none 0 0):=⟨by kernel_rfl⟩
instance g_S_string:TG P T.h false:=⟨by kernel_rfl⟩
instance s_S_string:TS P T.h 9:=⟨by kernel_rfl⟩
instance z_S_api_Field:TZ P T.k 1 24 (.slice none 0 0):=⟨by kernel_rfl⟩
instance g_S_api_Field:TG P T.k false:=⟨by kernel_rfl⟩
instance s_S_api_Field:TS P T.k 69:=⟨by kernel_rfl⟩
instance z_api_Field:TZ P T.o 3 40 (.agg #[.string ⟨#[]⟩, .string ⟨#[]⟩, .bool false]):=⟨by kernel_rfl⟩
instance g_api_Field:TG P T.o true:=⟨by kernel_rfl⟩
instance f_api_Field_0:TF P T.o 0 0 9:=⟨by kernel_rfl⟩
instance f_api_Field_1:TF P T.o 1 1 9:=⟨by kernel_rfl⟩
instance f_api_Field_2:TF P T.o 2 2 4:=⟨by kernel_rfl⟩
instance z_func_int_2:TZ P T.ak 1 8 .nilFunc:=⟨by kernel_rfl⟩
instance g_func_int_2:TG P T.ak false:=⟨by kernel_rfl⟩
instance z_S_api_Value:TZ P T.l 1 24 (.slice none 0 0):=⟨by kernel_rfl⟩
instance g_S_api_Value:TG P T.l false:=⟨by kernel_rfl⟩
instance s_S_api_Value:TS P T.l 33:=⟨by kernel_rfl⟩
instance z_api_Cell:TZ P T.m 2 40 (.agg #[.string ⟨#[]⟩, .slice none 0 0]):=⟨by kernel_rfl⟩
instance g_api_Cell:TG P T.m true:=⟨by kernel_rfl⟩
instance f_api_Cell_0:TF P T.m 0 0 9:=⟨by kernel_rfl⟩
instance f_api_Cell_1:TF P T.m 1 1 76:=⟨by kernel_rfl⟩
instance z_M_string_int:TZ P T.a2 1 8 (.map none):=⟨by kernel_rfl⟩
instance g_M_string_int:TG P T.a2 false:=⟨by kernel_rfl⟩
instance m_M_string_int:TM P T.a2 9 3:=⟨by kernel_rfl⟩
instance z_hier_Table:TZ P T.a0 2 32 (.agg #[.slice none 0 0, .map none]):=⟨by kernel_rfl⟩
instance g_hier_Table:TG P T.a0 true:=⟨by kernel_rfl⟩
instance f_hier_Table_0:TF P T.a0 0 0 26:=⟨by kernel_rfl⟩
instance f_hier_Table_1:TF P T.a0 1 1 80:=⟨by kernel_rfl⟩
instance z_S_api_Method:TZ P T.j 1 24 (.slice none 0 0):=⟨by kernel_rfl⟩
instance g_S_api_Method:TG P T.j false:=⟨by kernel_rfl⟩
instance s_S_api_Method:TS P T.j 98:=⟨by kernel_rfl⟩
instance z_api_Class:TZ P T.b 8 112 (.agg #[.string ⟨#[]⟩, .string ⟨#[]⟩, .slice none 0 0, .bool false, .bool false, .bool false, .slice none 0 0, .slice none 0 0]):=⟨by kernel_rfl⟩
instance g_api_Class:TG P T.b true:=⟨by kernel_rfl⟩
instance f_api_Class_0:TF P T.b 0 0 9:=⟨by kernel_rfl⟩
instance f_api_Class_1:TF P T.b 1 1 9:=⟨by kernel_rfl⟩
instance f_api_Class_2:TF P T.b 2 2 54:=⟨by kernel_rfl⟩
instance f_api_Class_3:TF P T.b 3 3 4:=⟨by kernel_rfl⟩
instance f_api_Class_4:TF P T.b 4 4 4:=⟨by kernel_rfl⟩
instance f_api_Class_5:TF P T.b 5 5 4:=⟨by kernel_rfl⟩
instance f_api_Class_6:TF P T.b 6 6 65:=⟨by kernel_rfl⟩
instance f_api_Class_7:TF P T.b 7 7 83:=⟨by kernel_rfl⟩
instance z_func_string_bool:TZ P T.a4 1 8 .nilFunc:=⟨by kernel_rfl⟩
instance g_func_string_bool:TG P T.a4 false:=⟨by kernel_rfl⟩
instance z_S_int:TZ P T.a7 1 24 (.slice none 0 0):=⟨by kernel_rfl⟩
instance g_S_int:TG P T.a7 false:=⟨by kernel_rfl⟩
instance s_S_int:TS P T.a7 3:=⟨by kernel_rfl⟩
instance z_api_Instr:TZ P T.v 3 40 (.agg #[.string ⟨#[]⟩, .int .i64 0, .string ⟨#[]⟩]):=⟨by kernel_rfl⟩
instance g_api_Instr:TG P T.v true:=⟨by kernel_rfl⟩
instance f_api_Instr_0:TF P T.v 0 0 9:=⟨by kernel_rfl⟩
instance f_api_Instr_1:TF P T.v 1 1 2:=⟨by kernel_rfl⟩
instance f_api_Instr_2:TF P T.v 2 2 9:=⟨by kernel_rfl⟩
instance z_S_api_Instr:TZ P T.q 1 24 (.slice none 0 0):=⟨by kernel_rfl⟩
instance g_S_api_Instr:TG P T.q false:=⟨by kernel_rfl⟩
instance s_S_api_Instr:TS P T.q 94:=⟨by kernel_rfl⟩
instance z_S_api_Catch:TZ P T.s 1 24 (.slice none 0 0):=⟨by kernel_rfl⟩
instance g_S_api_Catch:TG P T.s false:=⟨by kernel_rfl⟩
instance s_S_api_Catch:TS P T.s 172:=⟨by kernel_rfl⟩
instance z_api_Method:TZ P T.d 7 120 (.agg #[.string ⟨#[]⟩, .slice none 0 0, .string ⟨#[]⟩, .bool false, .int .i64 0, .slice none 0 0, .slice none 0 0]):=⟨by kernel_rfl⟩
instance g_api_Method:TG P T.d true:=⟨by kernel_rfl⟩
instance f_api_Method_0:TF P T.d 0 0 9:=⟨by kernel_rfl⟩
instance f_api_Method_1:TF P T.d 1 1 54:=⟨by kernel_rfl⟩
instance f_api_Method_2:TF P T.d 2 2 9:=⟨by kernel_rfl⟩
instance f_api_Method_3:TF P T.d 3 3 4:=⟨by kernel_rfl⟩
instance f_api_Method_4:TF P T.d 4 4 3:=⟨by kernel_rfl⟩
instance f_api_Method_5:TF P T.d 5 5 95:=⟨by kernel_rfl⟩
instance f_api_Method_6:TF P T.d 6 6 96:=⟨by kernel_rfl⟩
instance z_heap_Heap:TZ P T.p 4 48 (.agg #[.pointer none, .int .i64 0, .int .i64 0, .slice none 0 0]):=⟨by kernel_rfl⟩
instance g_heap_Heap:TG P T.p true:=⟨by kernel_rfl⟩
instance f_heap_Heap_0:TF P T.p 0 0 22:=⟨by kernel_rfl⟩
instance f_heap_Heap_1:TF P T.p 1 1 3:=⟨by kernel_rfl⟩
instance f_heap_Heap_2:TF P T.p 2 2 3:=⟨by kernel_rfl⟩
instance f_heap_Heap_3:TF P T.p 3 3 37:=⟨by kernel_rfl⟩
instance z_func_string_string:TZ P T.ac 1 8 .nilFunc:=⟨by kernel_rfl⟩
instance g_func_string_string:TG P T.ac false:=⟨by kernel_rfl⟩
instance z_A6_string:TZ P T.ao 6 96 (.agg #[.string ⟨#[]⟩, .string ⟨#[]⟩, .string ⟨#[]⟩, .string ⟨#[]⟩, .string ⟨#[]⟩, .string ⟨#[]⟩]):=⟨by kernel_rfl⟩
instance g_A6_string:TG P T.ao true:=⟨by kernel_rfl⟩
instance a_A6_string:TA P T.ao 6 9:=⟨by kernel_rfl⟩
instance z_M_string_string:TZ P T.w 1 8 (.map none):=⟨by kernel_rfl⟩
instance g_M_string_string:TG P T.w false:=⟨by kernel_rfl⟩
instance m_M_string_string:TM P T.w 9 9:=⟨by kernel_rfl⟩
instance z_func_api_Method_string:TZ P T.a9 1 8 .nilFunc:=⟨by kernel_rfl⟩
instance g_func_api_Method_string:TG P T.a9 false:=⟨by kernel_rfl⟩
instance z_func_api_Method_bool:TZ P T.ae 1 8 .nilFunc:=⟨by kernel_rfl⟩
instance g_func_api_Method_bool:TG P T.ae false:=⟨by kernel_rfl⟩
instance z_S_S_bool:TZ P T.a8 1 24 (.slice none 0 0):=⟨by kernel_rfl⟩
instance g_S_S_bool:TG P T.a8 false:=⟨by kernel_rfl⟩
instance s_S_S_bool:TS P T.a8 148:=⟨by kernel_rfl⟩
instance z_S_bool:TZ P T.a6 1 24 (.slice none 0 0):=⟨by kernel_rfl⟩
instance g_S_bool:TG P T.a6 false:=⟨by kernel_rfl⟩
instance s_S_bool:TS P T.a6 4:=⟨by kernel_rfl⟩
instance g_A256_uint8:TG P T.au true:=⟨by kernel_rfl⟩
instance a_A256_uint8:TA P T.au 256 5:=⟨by kernel_rfl⟩
instance z_utf8_acceptRange:TZ P T.aj 2 2 (.agg #[.int .u8 0, .int .u8 0]):=⟨by kernel_rfl⟩
instance g_utf8_acceptRange:TG P T.aj true:=⟨by kernel_rfl⟩
instance f_utf8_acceptRange_0:TF P T.aj 0 0 5:=⟨by kernel_rfl⟩
instance f_utf8_acceptRange_1:TF P T.aj 1 1 5:=⟨by kernel_rfl⟩
instance z_A16_utf8_acceptRange:TZ P T.al 32 32 (.agg #[.int .u8 0, .int .u8 0, .int .u8 0, .int .u8 0, .int .u8 0, .int .u8 0, .int .u8 0, .int .u8 0, .int .u8 0, .int .u8 0, .int .u8 0, .int .u8 0, .int .u8 0, .int .u8 0, .int .u8 0, .int .u8 0, .int .u8 0, .int .u8 0, .int .u8 0, .int .u8 0, .int .u8 0, .int .u8 0, .int .u8 0, .int .u8 0, .int .u8 0, .int .u8 0, .int .u8 0, .int .u8 0, .int .u8 0, .int .u8 0, .int .u8 0, .int .u8 0]):=⟨by kernel_rfl⟩
instance g_A16_utf8_acceptRange:TG P T.al true:=⟨by kernel_rfl⟩
instance a_A16_utf8_acceptRange:TA P T.al 16 156:=⟨by kernel_rfl⟩
instance z_func_api_Field_string:TZ P T.aa 1 8 .nilFunc:=⟨by kernel_rfl⟩
instance g_func_api_Field_string:TG P T.aa false:=⟨by kernel_rfl⟩
instance z_func_api_Field_bool:TZ P T.ag 1 8 .nilFunc:=⟨by kernel_rfl⟩
instance g_func_api_Field_bool:TG P T.ag false:=⟨by kernel_rfl⟩
instance z_api_Catch:TZ P T.t 4 40 (.agg #[.int .i64 0, .int .i64 0, .int .i64 0, .string ⟨#[]⟩]):=⟨by kernel_rfl⟩
instance g_api_Catch:TG P T.t true:=⟨by kernel_rfl⟩
instance f_api_Catch_0:TF P T.t 0 0 3:=⟨by kernel_rfl⟩
instance f_api_Catch_1:TF P T.t 1 1 3:=⟨by kernel_rfl⟩
instance f_api_Catch_2:TF P T.t 2 2 3:=⟨by kernel_rfl⟩
instance f_api_Catch_3:TF P T.t 3 3 9:=⟨by kernel_rfl⟩
instance z_uint64:TZ P T.ax 1 8 (.int .u64 0):=⟨by kernel_rfl⟩
instance g_uint64:TG P T.ax false:=⟨by kernel_rfl⟩
instance g_strings_asciiSet:TG P T.ab true:=⟨by kernel_rfl⟩
instance a_strings_asciiSet:TA P T.ab 256 4:=⟨by kernel_rfl⟩
instance z_func_api_Catch_bool:TZ P T.ah 1 8 .nilFunc:=⟨by kernel_rfl⟩
instance g_func_api_Catch_bool:TG P T.ah false:=⟨by kernel_rfl⟩
instance z_func_api_Instr_bool:TZ P T.ai 1 8 .nilFunc:=⟨by kernel_rfl⟩
instance g_func_api_Instr_bool:TG P T.ai false:=⟨by kernel_rfl⟩
instance z_S_uint8:TZ P T.ar 1 24 (.slice none 0 0):=⟨by kernel_rfl⟩
instance g_S_uint8:TG P T.ar false:=⟨by kernel_rfl⟩
instance s_S_uint8:TS P T.ar 5:=⟨by kernel_rfl⟩
instance z_strings_Builder:TZ P T.am 2 32 (.agg #[.pointer none, .slice none 0 0]):=⟨by kernel_rfl⟩
instance g_strings_Builder:TG P T.am true:=⟨by kernel_rfl⟩
instance f_strings_Builder_0:TF P T.am 0 0 202:=⟨by kernel_rfl⟩
instance f_strings_Builder_1:TF P T.am 1 1 203:=⟨by kernel_rfl⟩
instance z_P_uint8:TZ P T.aw 1 8 (.pointer none):=⟨by kernel_rfl⟩
instance g_P_uint8:TG P T.aw false:=⟨by kernel_rfl⟩
instance z_code_op:TZ P T.ad 3 24 (.agg #[.string ⟨#[]⟩, .bool false, .bool false]):=⟨by kernel_rfl⟩
instance g_code_op:TG P T.ad true:=⟨by kernel_rfl⟩
instance f_code_op_0:TF P T.ad 0 0 9:=⟨by kernel_rfl⟩
instance f_code_op_1:TF P T.ad 1 1 4:=⟨by kernel_rfl⟩
instance f_code_op_2:TF P T.ad 2 2 4:=⟨by kernel_rfl⟩
instance g_A42_code_op:TG P T.af true:=⟨by kernel_rfl⟩
instance a_A42_code_op:TA P T.af 42 225:=⟨by kernel_rfl⟩
instance z_S_code_op:TZ P T.ap 1 24 (.slice none 0 0):=⟨by kernel_rfl⟩
instance g_S_code_op:TG P T.ap false:=⟨by kernel_rfl⟩
instance s_S_code_op:TS P T.ap 225:=⟨by kernel_rfl⟩
instance z_uint32:TZ P T.ay 1 4 (.int .u32 0):=⟨by kernel_rfl⟩
instance g_uint32:TG P T.ay false:=⟨by kernel_rfl⟩
end Go.Proofs.YtjdiakhipmggjaaGreatDoor

namespace Go.Emb
theorem aS {p:Prop} (h:p:=by (first | assumption | exact Stp.sat (by assumption) | exact Hst.sat (by assumption))):p:=h
theorem aL {p:Prop} (h:p:=by (first | assumption | exact Sl.lift (by assumption) (by (repeat (first | exact SLe.refl _ | refine SLe.more ?_ (by assumption) | refine SLe.more ?_ (Nxt.le (by assumption)) | refine SLe.step ?_ (by assumption)))) | exact Z6.lift (by assumption) (by (repeat (first | exact SLe.refl _ | refine SLe.more ?_ (by assumption) | refine SLe.more ?_ (Nxt.le (by assumption)) | refine SLe.step ?_ (by assumption)))) | exact Xj.lift (by assumption) (by (repeat (first | exact SLe.refl _ | refine SLe.more ?_ (by assumption) | refine SLe.more ?_ (Nxt.le (by assumption)) | refine SLe.step ?_ (by assumption)))) | exact RCl_lift (by assumption) (by (repeat (first | exact SLe.refl _ | refine SLe.more ?_ (by assumption) | refine SLe.more ?_ (Nxt.le (by assumption)) | refine SLe.step ?_ (by assumption)))) | exact RMe_lift (by assumption) (by (repeat (first | exact SLe.refl _ | refine SLe.more ?_ (by assumption) | refine SLe.more ?_ (Nxt.le (by assumption)) | refine SLe.step ?_ (by assumption)))) | exact Glb.lift (by assumption) (by (repeat (first | exact SLe.refl _ | refine SLe.more ?_ (by assumption) | refine SLe.more ?_ (Nxt.le (by assumption)) | refine SLe.step ?_ (by assumption)))) | exact Tab.lift (by assumption) (by (repeat (first | exact SLe.refl _ | refine SLe.more ?_ (by assumption) | refine SLe.more ?_ (Nxt.le (by assumption)) | refine SLe.step ?_ (by assumption)))) | exact RIn_any (by assumption) | exact RFd_any (by assumption) | exact RCa_any (by assumption))):p:=h
theorem aR {p:Prop} (h:p:=by with_unfolding_all rfl):p:=h
theorem aF {p:Prop} (a:p:=by (refine Eq.subst (motive:=fun b=>K b _) ?_ (h _ _ (by (repeat (first | exact Stp.refl (by (first | assumption | exact Stp.sat (by assumption) | exact Hst.sat (by assumption))) | assumption | refine Stp.trans ?_ (by first | assumption | exact Hst.stp (by assumption))))));clear h;(try clear hA);(try clear hB);(try clear hC);first | rfl | ((try simp only[Bool.not_eq_true',Bool.not_eq_false',Bool.not_true,Bool.not_false,Bool.not_eq_true] at*);simp only[*,Mb,reduceIte];done) | (simp[*];done) | simp_all)):p:=a
theorem au {p:Prop} (h:p:=by (first | assumption | (first | assumption | exact Stp.sat (by assumption) | exact Hst.sat (by assumption)) | (first | assumption | exact Sl.lift (by assumption) (by (repeat (first | exact SLe.refl _ | refine SLe.more ?_ (by assumption) | refine SLe.more ?_ (Nxt.le (by assumption)) | refine SLe.step ?_ (by assumption)))) | exact Z6.lift (by assumption) (by (repeat (first | exact SLe.refl _ | refine SLe.more ?_ (by assumption) | refine SLe.more ?_ (Nxt.le (by assumption)) | refine SLe.step ?_ (by assumption)))) | exact Xj.lift (by assumption) (by (repeat (first | exact SLe.refl _ | refine SLe.more ?_ (by assumption) | refine SLe.more ?_ (Nxt.le (by assumption)) | refine SLe.step ?_ (by assumption)))) | exact RCl_lift (by assumption) (by (repeat (first | exact SLe.refl _ | refine SLe.more ?_ (by assumption) | refine SLe.more ?_ (Nxt.le (by assumption)) | refine SLe.step ?_ (by assumption)))) | exact RMe_lift (by assumption) (by (repeat (first | exact SLe.refl _ | refine SLe.more ?_ (by assumption) | refine SLe.more ?_ (Nxt.le (by assumption)) | refine SLe.step ?_ (by assumption)))) | exact Glb.lift (by assumption) (by (repeat (first | exact SLe.refl _ | refine SLe.more ?_ (by assumption) | refine SLe.more ?_ (Nxt.le (by assumption)) | refine SLe.step ?_ (by assumption)))) | exact Tab.lift (by assumption) (by (repeat (first | exact SLe.refl _ | refine SLe.more ?_ (by assumption) | refine SLe.more ?_ (Nxt.le (by assumption)) | refine SLe.step ?_ (by assumption)))) | exact RIn_any (by assumption) | exact RFd_any (by assumption) | exact RCa_any (by assumption)) | exact Nat.le_trans (by assumption) (by decide) | omega)):p:=h
end Go.Emb
namespace Go.Proofs.YtjdiakhipmggjaaGreatDoor
open Go.Emb
theorem X4f {a:List UInt8} {cs:List Bool} {r:TypeId} {w:World} {K:Value→World→Prop}:X2 P .len [T.c] r cs [S a] w K=K (I a.length) w:=S1 X8
theorem X3O {c d:Operand} {a b:Bool} {w:World} {K:Value→World→Prop}:Q3 P .eql T.u c d (.bool a) (.bool b) w K=K (.bool (a==b)) w:=Q6y Q3r
theorem X4a {c d:Operand} {a b:Bool} {w:World} {K:Value→World→Prop}:Q3 P .neq T.u c d (.bool a) (.bool b) w K=K (.bool (!(a==b))) w:=Q63 Q3r
def Mm:=And.intro @fa <| And.intro @L8 <| And.intro @Qi <| And.intro @X4f <| And.intro @X3O @X4a
def M1:=And.intro Mm Mr
def M2:=And.intro Mm Mp
end Go.Proofs.YtjdiakhipmggjaaGreatDoor

namespace Go.Proofs.YtjdiakhipmggjaaGreatDoor
open Go.Emb Go.RowKit Go.Kd Go.Hm
variable {w : World} {K : Value → World → Prop} {σ : Q6}
def Wr (m:Hm.Met):Bool:=decide (32<m.params.length)||decide (32<m.catches.length)||decide (200<m.code.length)||decide (64<m.locals)
def Zw (c:Cla):Bool:=c.methods.any Wr||decide (32<c.like.length)||decide (32<c.fields.length)||decide (32<c.methods.length)
theorem X34 {c : Cla} {cs : List Value} (hs : X3 w σ) (hc : U9 σ c cs) (h : ∀ w', Below w.heap.size w w' → K (.bool (Zw c)) w') : Q1 P F.cG [.agg cs.toArray] w K := Q5C (by
  obtain ⟨lv, fv, mv, rfl, hl, hf, hm, hn, hsu⟩ := hc
  unfold Q0C
  refine E5 hs fun a w1 σ1 hk ha => ?_
  have hs := hk.sat
  replace hl := hl.up hk
  replace hf := hf.up hk
  replace hm := hm.up hk
  simp only [Value.cells] at ha
  ((try simp only [↓M1, M1, Mb, reduceIte]); repeat ((first | refine ld (by assumption) (by assumption) rfl ?_ | refine X7 (by assumption) (by assumption) rfl ?_ | refine Q8 (by assumption) ?_); (try simp only [↓M1, M1, Mb, reduceIte])))
  refine U3 c.methods.length (fun n w' => Below w1.heap.size w1 w' ∧ ((c.methods.take n).any Wr) = false) ⟨Below.refl _ _, by simp⟩ fun n w2 d hn hi => ?_
  obtain ⟨hb, hp⟩ := hi
  have hs2 := hs.below hb
  ((try simp only [↓M1, M1, Mb, reduceIte]); repeat ((first | refine ld (by assumption) (by assumption) rfl ?_ | refine X7 (by assumption) (by assumption) rfl ?_ | refine Q8 (by assumption) ?_); (try simp only [↓M1, M1, Mb, reduceIte])))
  refine Q7 (fun hc => ?_) (fun hc => ?_)
  · have hn' : n < c.methods.length := by simpa using hc
    refine N0 hm hn' fun p cs hl1 hlen hr => ?_
    refine Y4 hs2 hl1 hlen ?_
    refine Y8 hs2 (by rfl) hlen (Rep.one hr) fun q w3 σ3 hk3 hq => ?_
    obtain ⟨pv, cv, hv, rfl, g1, g2, g3, g4⟩ := hr
    have hs3 := hk3.sat
    replace g1 := g1.up hk3
    replace g2 := g2.up hk3
    replace g3 := g3.up hk3
    ((try simp only [↓M1, M1, Mb, reduceIte]); repeat ((first | refine ld (by assumption) (by assumption) rfl ?_ | refine X7 (by assumption) (by assumption) rfl ?_ | refine Q8 (by assumption) ?_); (try simp only [↓M1, M1, Mb, reduceIte])))
    (repeat' ((first | refine J0 (fun hh => ?_) (fun hh => ?_) | refine Q7 (fun hh => ?_) (fun hh => ?_)) <;> (try simp only [hh, Bool.not_true, Bool.not_false, ↓M1, M1, Mb, reduceIte]) <;> ((try simp only [↓M1, M1, Mb, reduceIte]); repeat ((first | refine ld (by assumption) (by assumption) rfl ?_ | refine X7 (by assumption) (by assumption) rfl ?_ | refine Q8 (by assumption) ?_); (try simp only [↓M1, M1, Mb, reduceIte])))))
    all_goals first
      | refine Y5 hm.max hn' ⟨bt hb hk3.bel, ?_⟩
        rw [L2 hn', hp]; simp only [Wr]; (first | (simp only [decide_eq_true_eq, decide_eq_false_iff_not, Bool.not_true, Bool.not_false, Bool.not_eq_true', Bool.not_eq_false', Bool.or_eq_true, Bool.and_eq_true, Bool.or_eq_false_iff, Bool.and_eq_false_iff, Bool.false_or, Bool.true_and, Bool.or_false, Bool.and_true] at *; first | omega | (and_intros <;> omega)) | (rw [Bool.eq_iff_iff]; (simp only [decide_eq_true_eq, decide_eq_false_iff_not, Bool.not_true, Bool.not_false, Bool.not_eq_true', Bool.not_eq_false', Bool.or_eq_true, Bool.and_eq_true, Bool.or_eq_false_iff, Bool.and_eq_false_iff, Bool.false_or, Bool.true_and, Bool.or_false, Bool.and_true] at *; first | omega | (and_intros <;> omega))))
      | have e : Zw c = true := by
          have : Wr c.methods[n] = true := by simp only [Wr]; (first | (simp only [decide_eq_true_eq, decide_eq_false_iff_not, Bool.not_true, Bool.not_false, Bool.not_eq_true', Bool.not_eq_false', Bool.or_eq_true, Bool.and_eq_true, Bool.or_eq_false_iff, Bool.and_eq_false_iff, Bool.false_or, Bool.true_and, Bool.or_false, Bool.and_true] at *; first | omega | (and_intros <;> omega)) | (rw [Bool.eq_iff_iff]; (simp only [decide_eq_true_eq, decide_eq_false_iff_not, Bool.not_true, Bool.not_false, Bool.not_eq_true', Bool.not_eq_false', Bool.or_eq_true, Bool.and_eq_true, Bool.or_eq_false_iff, Bool.and_eq_false_iff, Bool.false_or, Bool.true_and, Bool.or_false, Bool.and_true] at *; first | omega | (and_intros <;> omega))))
          simp [Zw, C0 hn' this]
        rw [← e]; exact h _ (bt hk.bel (bt hb hk3.bel))
  · have hn' : ¬ n < c.methods.length := by simpa using hc
    rw [E0 hn'] at hp
    have h := h w2 (bt hk.bel hb)
    ((try simp only [↓M1, M1, Mb, reduceIte]); repeat ((first | refine ld (by assumption) (by assumption) rfl ?_ | refine X7 (by assumption) (by assumption) rfl ?_ | refine Q8 (by assumption) ?_); (try simp only [↓M1, M1, Mb, reduceIte])))
    (repeat' ((first | refine J0 (fun hh => ?_) (fun hh => ?_) | refine Q7 (fun hh => ?_) (fun hh => ?_)) <;> (try simp only [hh, Bool.not_true, Bool.not_false, ↓M1, M1, Mb, reduceIte]) <;> ((try simp only [↓M1, M1, Mb, reduceIte]); repeat ((first | refine ld (by assumption) (by assumption) rfl ?_ | refine X7 (by assumption) (by assumption) rfl ?_ | refine Q8 (by assumption) ?_); (try simp only [↓M1, M1, Mb, reduceIte])))))
    all_goals
      refine Eq.subst (motive := fun b => K (.bool b) w2) ?_ h
      simp only [Zw, hp]
      (first | (simp only [decide_eq_true_eq, decide_eq_false_iff_not, Bool.not_true, Bool.not_false, Bool.not_eq_true', Bool.not_eq_false', Bool.or_eq_true, Bool.and_eq_true, Bool.or_eq_false_iff, Bool.and_eq_false_iff, Bool.false_or, Bool.true_and, Bool.or_false, Bool.and_true] at *; first | omega | (and_intros <;> omega)) | (rw [Bool.eq_iff_iff]; (simp only [decide_eq_true_eq, decide_eq_false_iff_not, Bool.not_true, Bool.not_false, Bool.not_eq_true', Bool.not_eq_false', Bool.or_eq_true, Bool.and_eq_true, Bool.or_eq_false_iff, Bool.and_eq_false_iff, Bool.false_or, Bool.true_and, Bool.or_false, Bool.and_true] at *; first | omega | (and_intros <;> omega)))))
end Go.Proofs.YtjdiakhipmggjaaGreatDoor

namespace Go.Emb
open Go.RowKit Go.Hm
variable {H : Type} {enc : TypeId × Value → H} {P : Program} {W : World} {t : TypeId} {cs : List Value} {fuel : Nat} {x : DataW H × List MemPlace}
def Wq (W:World):Q6:=fun b=>W.heap[b]?
theorem Q9C:X3 W (Wq W):=fun b o h=>h
def Wt (P:Program) (t:TypeId) (d:DataW H):Prop:= ∀n∈d.weights P t,n≤reachBytes
theorem X2O {a:Addr} {n:Nat} (h:W.cells? 0 a n=some cs) (D:0<n):cs.length=n∧Z6 (Wq W) a cs:=by
 obtain ⟨_,k,u⟩:=World.cells?_some h
 refine ⟨k,?_⟩
 have key: ∀i v,cs[i]? =some v→ ∃arr e f,W.heap[a.block]? =some (.cells arr e f)∧(a.add i).spot=none∧arr[a.off+i]? =some v:=by
  intro i v g
  have B:i<cs.length:=(List.getElem?_eq_some_iff.1 g).1
  have b:=u i (by omega)
  rw[g] at b
  unfold World.cell? at b
  rw[S9,Qh] at b
  cases l:W.heap[a.block]? with
  | none=>rw[l] at b;cases b
  | some o=>
   rw[l] at b
   cases o with
   | cells arr e f=>
    simp only at b
    split at b
    ·cases b
    ·rename_i q
     exact ⟨arr,e,f,rfl,by simpa using q,b⟩
   | _=>cases b
 cases j:cs with
 | nil=>subst j;simp at k;omega
 | cons c r=>
  obtain ⟨arr,e,f,m,w,z⟩:=key 0 c (by rw[j];rfl)
  refine ⟨by simpa [Addr.add] using w,arr,e,f,m,fun i v g=>?_⟩
  obtain ⟨p,A,s,d,C,y⟩:=key i v (by rw[j];exact g)
  rw[m] at d
  injection d with d
  injection d with d
  subst d
  exact y
theorem Q9c (a:P.underlying t=some .string) (h:DataW.trod enc P W 0 (fun _=>true) true fuel t cs=some x) (b:Wt P t x.1): ∃s:Kd.X0,cs=[S s]∧s.length≤U2:=by
 obtain ⟨⟨⟨s⟩⟩,rfl,rfl,_⟩:=DataW.trod_string a h
 refine ⟨s,rfl,?_⟩
 have:=b s.length (by simp[DataW.weights])
 exact this
theorem Gh (c:P.underlying t=some (.int .i64)) (h:DataW.trod enc P W 0 (fun _=>true) true fuel t cs=some x): ∃n,cs=[I n]∧Yn n:=by
 obtain ⟨n,b,_,a⟩:=DataW.trod_int c h
 refine ⟨n,b,?_⟩
 simp only[Lit.wf,Bool.and_eq_true,decide_eq_true_eq] at a
 exact ⟨a.1,a.2⟩
theorem X2v {α:Type} {Q:Nat→α→Prop}: ∀(n:Nat),(∀i,i<n→ ∃y,Q i y)→ ∃xs:List α,xs.length=n∧ ∀i y,xs[i]? =some y→Q i y:=by
 intro n
 induction n with
 | zero=>intro _;exact ⟨[],rfl,by simp⟩
 | succ n c=>
  intro h
  obtain ⟨xs,d,e⟩:=c fun i b=>h i (by omega)
  obtain ⟨y,f⟩:=h n (by omega)
  refine ⟨xs++[y],by simp[d],fun i z a=>?_⟩
  by_cases b:i<xs.length
  ·rw[List.getElem?_append_left b] at a;exact e i z a
  ·rw[List.getElem?_append_right (by omega)] at a
   have:i-xs.length=0:=by
    have:=(List.getElem?_eq_some_iff.1 a).1
    simp at this;omega
   rw[this] at a
   simp at a
   subst a
   rw[show i=n by omega];exact f
theorem X3a {e:TypeId} {d:DataW H}: ∀{l:List (DataW H)},d∈l→ ∀n∈d.weights P e,n∈DataW.weightsAll P e l:=by
 intro l
 induction l with
 | nil=>intro h;simp at h
 | cons a r c=>
  intro h n b
  simp only[DataW.weightsAll,List.mem_append]
  rcases List.mem_cons.1 h with rfl | h
  ·exact .inl b
  ·exact .inr (c h n b)
theorem X43 {α:Type} {R:Q6→α→List Value→Prop} {e:TypeId} {sz:Nat} (w:P.underlying t=some (.slice e)) (J:P.cellsOf e=sz) (E:0<sz)
 (p: ∀fuel cs (x:DataW H×List MemPlace),DataW.trod enc P W 0 (fun _=>true) true fuel e cs=some x→Wt P e x.1→ ∃y,R (Wq W) y cs)
 (h:DataW.trod enc P W 0 (fun _=>true) true fuel t cs=some x) (L:Wt P t x.1): ∃v xs,cs=[v]∧Sl sz R (Wq W) v xs:=by
 rcases DataW.trod_slice w h with ⟨rfl,rfl⟩ | ⟨a,k,s,d,z,n,_,rfl,rfl,_,M,q,A,l,_⟩
 ·exact ⟨_,[],rfl,Sl.nil⟩
 subst J
 have step: ∀i,i<k→ ∃y,∃c,Z6 (Wq W) (a.add (i*P.cellsOf e)) c∧c.length=P.cellsOf e∧R (Wq W) y c:=by
  intro i Q
  have u:=l i Q
  have g:i<d.length:=by omega
  rw[List.getElem?_eq_getElem g] at u
  obtain ⟨c,O,B⟩:=Option.bind_eq_some_iff.1 u
  obtain ⟨C,r⟩:=X2O O E
  obtain ⟨y,j⟩:=p n c _ B (fun m q=>L m (by
   simp only[DataW.weights,w,List.mem_cons,List.mem_append]
   exact .inr (.inl (X3a (List.mem_map.2 ⟨_,List.getElem_mem g,rfl⟩) m q))))
  exact ⟨y,c,r,C,j⟩
 obtain ⟨xs,o,f⟩:=X2v k step
 refine ⟨_,xs,rfl,some a,s,by rw[o],by rw[o];exact M,q,by simp,fun b N=>?_⟩
 cases N
 refine ⟨fun D=>?_,fun i y j=>f i y j⟩
 obtain ⟨y,j⟩: ∃y,xs[0]? =some y:=⟨xs[0],List.getElem?_eq_getElem D⟩
 obtain ⟨c,r,_,_⟩:=f 0 y j
 have:=r.1
 simpa [Addr.add] using this
theorem Q7T: ∀{a:List TypeId} {l:List (DataW H)} {i:Nat} {u:TypeId} {d:DataW H},a[i]? =some u→l[i]? =some d→ ∀n∈d.weights P u,n∈DataW.weightsEach P a l:=
 fun b e n c=>DataW.weights_mem_each b e n c
theorem Lp {e:Array Field} (d:P.underlying t=some (.struct e)) (h:DataW.trod enc P W 0 (fun _=>true) true fuel t cs=some x) (r:Wt P t x.1) (i:Nat) {o:Nat} {b:TypeId}
 (k:(e[i]?).map (fun f=>(f.type,f.offset))=some (b,o)) (q:P.cellsOf b=1): ∃n y,DataW.trod enc P W 0 (fun _=>true) true n b ((cs.drop o).take 1)=some y∧Wt P b y.1:=by
 obtain ⟨xs,n,_,rfl,v,s,j⟩:=DataW.trod_struct d h
 obtain ⟨f,a,l⟩:=Option.map_eq_some_iff.1 k
 cases l
 have c:=j i f a
 have g:i<xs.length:=by rw[s];exact (Array.getElem?_eq_some_iff.1 a).1
 rw[List.getElem?_eq_getElem g,q] at c
 refine ⟨n,_,c,fun m p=>r m ?_⟩
 simp only[DataW.weights,d]
 exact Q7T (i:=i) (u:=f.type) (by rw[List.getElem?_map,Array.getElem?_toList,a];rfl) (by rw[List.getElem?_map,List.getElem?_eq_getElem g];rfl) m p
theorem X0d {c:Array Field} {k:Nat} (b:P.underlying t=some (.struct c)) (d:P.cellsOf t=k) (h:DataW.trod enc P W 0 (fun _=>true) true fuel t cs=some x):cs.length=k:=by
 obtain ⟨_,_,_,_,a,_,_⟩:=DataW.trod_struct b h
 rw[a,d]
theorem X1u {α:Type} {l:List α} (h:l.length=3): ∃a b c,l=[a,b,c]:=by
 match l,h with
 | [a,b,c],_=>exact ⟨a,b,c,rfl⟩
theorem X47 {α:Type} {l:List α} (h:l.length=4): ∃a b c d,l=[a,b,c,d]:=by
 match l,h with
 | [a,b,c,d],_=>exact ⟨a,b,c,d,rfl⟩
theorem X4d {α:Type} {l:List α} (h:l.length=8): ∃a b c d e f g i,l=[a,b,c,d,e,f,g,i]:=by
 match l,h with
 | [a,b,c,d,e,f,g,i],_=>exact ⟨a,b,c,d,e,f,g,i,rfl⟩
end Go.Emb
namespace Go.Proofs.YtjdiakhipmggjaaGreatDoor
open Go.Emb Go.RowKit Go.Kd Go.Hm
variable {H : Type} {enc : TypeId × Value → H} {W : World} {cs : List Value} {fuel : Nat} {x : DataW H × List MemPlace}
theorem Kf:P.cellsOf T.c=1:=by kernel_rfl
theorem X3f:P.cellsOf T.u=1:=by kernel_rfl
theorem Q5g:P.cellsOf T.e=1:=by kernel_rfl
end Go.Proofs.YtjdiakhipmggjaaGreatDoor

namespace Go.Emb
def J6 {α β:Type} (a:β→α→Bool×β):β→List α→Nat→Option Nat×β
 | s,[],_=>(none,s)
 | s,x::xs,i=>if (a s x).1 then (some i,(a s x).2) else J6 a (a s x).2 xs (i+1)
def L6 (o:Option Nat):Int:=match o with | some i=>i | none=> -1
theorem K6 {α:Type} (p:α→Bool): ∀(xs:List α) (i:Nat),(J6 (fun (_:Unit) x=>(p x,())) () xs i).1=(xs.findIdx? p).map (· +i):=by
 intro xs
 induction xs with
 | nil=>intro i;rfl
 | cons x r ih=>
  intro i
  rw[List.findIdx?_cons]
  simp only[J6]
  cases p x with
  | true=>simp
  | false=>
   simp only[Bool.false_eq_true,if_false]
   rw[ih (i+1),Option.map_map]
   congr 1;funext n;simp only[Function.comp];omega
theorem Dt {α β:Type} (a:β→α→Bool×β) (s:β) (xs:List α) (i:Nat):decide ((0:Int)≤L6 (J6 a s xs i).1)=(J6 a s xs i).1.isSome:=by
 cases (J6 a s xs i).1<;>simp[L6]
end Go.Emb
namespace Go.Proofs.YtjdiakhipmggjaaGreatDoor
open Go.Emb Go.RowKit Go.Kd Go.Hm
variable {w : World} {K : Value → World → Prop} {σ : Q6}
theorem Vv {β:Type} {xs:List Hm.Met} {v f:Value} (a:β→Hm.Met→Bool×β) (k:β) (b:β→World→Prop) (D:Nat→Prop) (j: ∀s w,b s w→X3 w σ) (z:b k w) (t:Sl 7 E7 σ v xs)
 (y: ∀s x cs (w1:World) (K:Value→World→Prop),x∈xs→Kpt D w w1→b s w1→E7 σ x cs→cs.length=7→(∀w',Kpt D w w'→b (a s x).2 w'→K (.bool (a s x).1) w')→Z4 P f [.agg cs.toArray] w1 K)
 (h: ∀w',Kpt D w w'→b (J6 a k xs 0).2 w'→K (I (L6 (J6 a k xs 0).1)) w'):Q1 P F.g [v,f] w K:=Yd (by
 unfold F0
 ((try simp only[↓M1,M1,Mb,reduceIte]);repeat ((first | refine ld (by assumption) (by assumption) rfl ?_ | refine X7 (by assumption) (by assumption) rfl ?_ | refine Q8 (by assumption) ?_);(try simp only[↓M1,M1,Mb,reduceIte])))
 refine U3 xs.length (fun n w'=>Kpt D w w'∧ ∃s,b s w'∧J6 a k xs 0=J6 a s (xs.drop n) n) ⟨Kpt.refl,k,z,rfl⟩ fun n w1 d E l=>?_
 obtain ⟨u,s,l,g⟩:=l
 have o:=j s w1 l
 ((try simp only[↓M1,M1,Mb,reduceIte]);repeat ((first | refine ld (by assumption) (by assumption) rfl ?_ | refine X7 (by assumption) (by assumption) rfl ?_ | refine Q8 (by assumption) ?_);(try simp only[↓M1,M1,Mb,reduceIte])))
 refine Q7 (fun q=>?_) (fun q=>?_)
 ·have c:n<xs.length:=by simpa using q
  refine N0 t c fun p cs C e B=>?_
  refine Y4 o C e ?_
  refine y s xs[n] cs w1 _ (List.getElem_mem c) u l B e fun A m i=>?_
  rw[List.drop_eq_getElem_cons c] at g
  simp only[J6] at g
  refine Q7 (fun r=>?_) (fun r=>?_)
  ·rw[r] at g
   have:=h A m
   rw[g] at this
   exact this i
  ·rw[r] at g
   ((try simp only[↓M1,M1,Mb,reduceIte]);repeat ((first | refine ld (by assumption) (by assumption) rfl ?_ | refine X7 (by assumption) (by assumption) rfl ?_ | refine Q8 (by assumption) ?_);(try simp only[↓M1,M1,Mb,reduceIte])))
   exact Y5 t.max c ⟨m,_,i,by simpa using g⟩
 ·have c: ¬n<xs.length:=by simpa using q
  rw[List.drop_eq_nil_of_le (by omega)] at g
  have:=h w1 u
  rw[g] at this
  exact this l)
theorem Ja {β:Type} {xs:List Hm.Met} {v f:Value} (b:β→Hm.Met→Bool×β) (d:β) (a:β→World→Prop) (D:Nat→Prop) (c: ∀s w,a s w→X3 w σ) (g:a d w) (i:Sl 7 E7 σ v xs)
 (e: ∀s x cs (w1:World) (K:Value→World→Prop),x∈xs→Kpt D w w1→a s w1→E7 σ x cs→cs.length=7→(∀w',Kpt D w w'→a (b s x).2 w'→K (.bool (b s x).1) w')→Z4 P f [.agg cs.toArray] w1 K)
 (h: ∀w',Kpt D w w'→a (J6 b d xs 0).2 w'→K (.bool (J6 b d xs 0).1.isSome) w'):Q1 P F.a [v,f] w K:=Qt (by
 unfold C1
 refine Vv b d a D c g i e fun w1 j k=>?_
 (try simp only[↓M1,M1,Mb,reduceIte])
 rw[Dt]
 exact h w1 j k)
theorem Fb {xs:List Hm.Met} {v f:Value} (p:Hm.Met→Bool) (hs:X3 w σ) (hv:Sl 7 E7 σ v xs)
 (hf: ∀x cs (w1:World) (K:Value→World→Prop),x∈xs→X3 w1 σ→E7 σ x cs→cs.length=7→(∀w',Below w1.heap.size w1 w'→K (.bool (p x)) w')→Z4 P f [.agg cs.toArray] w1 K)
 (h: ∀w',Below w.heap.size w w'→K (I (L6 (xs.findIdx? p))) w'):Q1 P F.g [v,f] w K:=by
 refine Vv (fun (_:Unit) x=>(p x,())) () (fun _ w'=>Below w.heap.size w w') (fun _=>False) (fun _ w' hb=>hs.below hb) (Below.refl _ _) hv (fun s x cs w1 K hx hk hi hr hl hK=>hf x cs w1 K hx (hs.below hi) hr hl fun w' hb=>hK w' (.of_below (bt hi hb)) (bt hi hb)) fun w' hk hi=>?_
 rw[K6]
 simpa using h w' hi
theorem F2 {xs:List Hm.Met} {v f:Value} (p:Hm.Met→Bool) (hs:X3 w σ) (hv:Sl 7 E7 σ v xs)
 (hf: ∀x cs (w1:World) (K:Value→World→Prop),x∈xs→X3 w1 σ→E7 σ x cs→cs.length=7→(∀w',Below w1.heap.size w1 w'→K (.bool (p x)) w')→Z4 P f [.agg cs.toArray] w1 K)
 (h: ∀w',Below w.heap.size w w'→K (.bool (xs.any p)) w'):Q1 P F.a [v,f] w K:=by
 refine Ja (fun (_:Unit) x=>(p x,())) () (fun _ w'=>Below w.heap.size w w') (fun _=>False) (fun _ w' hb=>hs.below hb) (Below.refl _ _) hv (fun s x cs w1 K hx hk hi hr hl hK=>hf x cs w1 K hx (hs.below hi) hr hl fun w' hb=>hK w' (.of_below (bt hi hb)) (bt hi hb)) fun w' hk hi=>?_
 rw[K6]
 simpa using h w' hi
theorem Lo {β:Type} {xs:List Fld} {v f:Value} (a:β→Fld→Bool×β) (k:β) (b:β→World→Prop) (D:Nat→Prop) (j: ∀s w,b s w→X3 w σ) (z:b k w) (t:Sl 3 S5 σ v xs)
 (y: ∀s x cs (w1:World) (K:Value→World→Prop),x∈xs→Kpt D w w1→b s w1→S5 σ x cs→cs.length=3→(∀w',Kpt D w w'→b (a s x).2 w'→K (.bool (a s x).1) w')→Z4 P f [.agg cs.toArray] w1 K)
 (h: ∀w',Kpt D w w'→b (J6 a k xs 0).2 w'→K (I (L6 (J6 a k xs 0).1)) w'):Q1 P F.i [v,f] w K:=Yq (by
 unfold F9
 ((try simp only[↓M1,M1,Mb,reduceIte]);repeat ((first | refine ld (by assumption) (by assumption) rfl ?_ | refine X7 (by assumption) (by assumption) rfl ?_ | refine Q8 (by assumption) ?_);(try simp only[↓M1,M1,Mb,reduceIte])))
 refine U3 xs.length (fun n w'=>Kpt D w w'∧ ∃s,b s w'∧J6 a k xs 0=J6 a s (xs.drop n) n) ⟨Kpt.refl,k,z,rfl⟩ fun n w1 d E l=>?_
 obtain ⟨u,s,l,g⟩:=l
 have o:=j s w1 l
 ((try simp only[↓M1,M1,Mb,reduceIte]);repeat ((first | refine ld (by assumption) (by assumption) rfl ?_ | refine X7 (by assumption) (by assumption) rfl ?_ | refine Q8 (by assumption) ?_);(try simp only[↓M1,M1,Mb,reduceIte])))
 refine Q7 (fun q=>?_) (fun q=>?_)
 ·have c:n<xs.length:=by simpa using q
  refine N0 t c fun p cs C e B=>?_
  refine Y4 o C e ?_
  refine y s xs[n] cs w1 _ (List.getElem_mem c) u l B e fun A m i=>?_
  rw[List.drop_eq_getElem_cons c] at g
  simp only[J6] at g
  refine Q7 (fun r=>?_) (fun r=>?_)
  ·rw[r] at g
   have:=h A m
   rw[g] at this
   exact this i
  ·rw[r] at g
   ((try simp only[↓M1,M1,Mb,reduceIte]);repeat ((first | refine ld (by assumption) (by assumption) rfl ?_ | refine X7 (by assumption) (by assumption) rfl ?_ | refine Q8 (by assumption) ?_);(try simp only[↓M1,M1,Mb,reduceIte])))
   exact Y5 t.max c ⟨m,_,i,by simpa using g⟩
 ·have c: ¬n<xs.length:=by simpa using q
  rw[List.drop_eq_nil_of_le (by omega)] at g
  have:=h w1 u
  rw[g] at this
  exact this l)
theorem Cr {β:Type} {xs:List Fld} {v f:Value} (b:β→Fld→Bool×β) (d:β) (a:β→World→Prop) (D:Nat→Prop) (c: ∀s w,a s w→X3 w σ) (g:a d w) (i:Sl 3 S5 σ v xs)
 (e: ∀s x cs (w1:World) (K:Value→World→Prop),x∈xs→Kpt D w w1→a s w1→S5 σ x cs→cs.length=3→(∀w',Kpt D w w'→a (b s x).2 w'→K (.bool (b s x).1) w')→Z4 P f [.agg cs.toArray] w1 K)
 (h: ∀w',Kpt D w w'→a (J6 b d xs 0).2 w'→K (.bool (J6 b d xs 0).1.isSome) w'):Q1 P F.f [v,f] w K:=Xe (by
 unfold B3
 refine Lo b d a D c g i e fun w1 j k=>?_
 (try simp only[↓M1,M1,Mb,reduceIte])
 rw[Dt]
 exact h w1 j k)
theorem Gx {xs:List Fld} {v f:Value} (p:Fld→Bool) (hs:X3 w σ) (hv:Sl 3 S5 σ v xs)
 (hf: ∀x cs (w1:World) (K:Value→World→Prop),x∈xs→X3 w1 σ→S5 σ x cs→cs.length=3→(∀w',Below w1.heap.size w1 w'→K (.bool (p x)) w')→Z4 P f [.agg cs.toArray] w1 K)
 (h: ∀w',Below w.heap.size w w'→K (I (L6 (xs.findIdx? p))) w'):Q1 P F.i [v,f] w K:=by
 refine Lo (fun (_:Unit) x=>(p x,())) () (fun _ w'=>Below w.heap.size w w') (fun _=>False) (fun _ w' hb=>hs.below hb) (Below.refl _ _) hv (fun s x cs w1 K hx hk hi hr hl hK=>hf x cs w1 K hx (hs.below hi) hr hl fun w' hb=>hK w' (.of_below (bt hi hb)) (bt hi hb)) fun w' hk hi=>?_
 rw[K6]
 simpa using h w' hi
theorem Jx {xs:List Fld} {v f:Value} (p:Fld→Bool) (hs:X3 w σ) (hv:Sl 3 S5 σ v xs)
 (hf: ∀x cs (w1:World) (K:Value→World→Prop),x∈xs→X3 w1 σ→S5 σ x cs→cs.length=3→(∀w',Below w1.heap.size w1 w'→K (.bool (p x)) w')→Z4 P f [.agg cs.toArray] w1 K)
 (h: ∀w',Below w.heap.size w w'→K (.bool (xs.any p)) w'):Q1 P F.f [v,f] w K:=by
 refine Cr (fun (_:Unit) x=>(p x,())) () (fun _ w'=>Below w.heap.size w w') (fun _=>False) (fun _ w' hb=>hs.below hb) (Below.refl _ _) hv (fun s x cs w1 K hx hk hi hr hl hK=>hf x cs w1 K hx (hs.below hi) hr hl fun w' hb=>hK w' (.of_below (bt hi hb)) (bt hi hb)) fun w' hk hi=>?_
 rw[K6]
 simpa using h w' hi
theorem Gi {β:Type} {xs:List Ins} {v f:Value} (a:β→Ins→Bool×β) (k:β) (b:β→World→Prop) (D:Nat→Prop) (j: ∀s w,b s w→X3 w σ) (z:b k w) (t:Sl 3 Qp σ v xs)
 (y: ∀s x cs (w1:World) (K:Value→World→Prop),x∈xs→Kpt D w w1→b s w1→Qp σ x cs→cs.length=3→(∀w',Kpt D w w'→b (a s x).2 w'→K (.bool (a s x).1) w')→Z4 P f [.agg cs.toArray] w1 K)
 (h: ∀w',Kpt D w w'→b (J6 a k xs 0).2 w'→K (I (L6 (J6 a k xs 0).1)) w'):Q1 P F.a6 [v,f] w K:=Yv (by
 unfold G2
 ((try simp only[↓M1,M1,Mb,reduceIte]);repeat ((first | refine ld (by assumption) (by assumption) rfl ?_ | refine X7 (by assumption) (by assumption) rfl ?_ | refine Q8 (by assumption) ?_);(try simp only[↓M1,M1,Mb,reduceIte])))
 refine U3 xs.length (fun n w'=>Kpt D w w'∧ ∃s,b s w'∧J6 a k xs 0=J6 a s (xs.drop n) n) ⟨Kpt.refl,k,z,rfl⟩ fun n w1 d E l=>?_
 obtain ⟨u,s,l,g⟩:=l
 have o:=j s w1 l
 ((try simp only[↓M1,M1,Mb,reduceIte]);repeat ((first | refine ld (by assumption) (by assumption) rfl ?_ | refine X7 (by assumption) (by assumption) rfl ?_ | refine Q8 (by assumption) ?_);(try simp only[↓M1,M1,Mb,reduceIte])))
 refine Q7 (fun q=>?_) (fun q=>?_)
 ·have c:n<xs.length:=by simpa using q
  refine N0 t c fun p cs C e B=>?_
  refine Y4 o C e ?_
  refine y s xs[n] cs w1 _ (List.getElem_mem c) u l B e fun A m i=>?_
  rw[List.drop_eq_getElem_cons c] at g
  simp only[J6] at g
  refine Q7 (fun r=>?_) (fun r=>?_)
  ·rw[r] at g
   have:=h A m
   rw[g] at this
   exact this i
  ·rw[r] at g
   ((try simp only[↓M1,M1,Mb,reduceIte]);repeat ((first | refine ld (by assumption) (by assumption) rfl ?_ | refine X7 (by assumption) (by assumption) rfl ?_ | refine Q8 (by assumption) ?_);(try simp only[↓M1,M1,Mb,reduceIte])))
   exact Y5 t.max c ⟨m,_,i,by simpa using g⟩
 ·have c: ¬n<xs.length:=by simpa using q
  rw[List.drop_eq_nil_of_le (by omega)] at g
  have:=h w1 u
  rw[g] at this
  exact this l)
theorem Sp {β:Type} {xs:List Ins} {v f:Value} (b:β→Ins→Bool×β) (d:β) (a:β→World→Prop) (D:Nat→Prop) (c: ∀s w,a s w→X3 w σ) (g:a d w) (i:Sl 3 Qp σ v xs)
 (e: ∀s x cs (w1:World) (K:Value→World→Prop),x∈xs→Kpt D w w1→a s w1→Qp σ x cs→cs.length=3→(∀w',Kpt D w w'→a (b s x).2 w'→K (.bool (b s x).1) w')→Z4 P f [.agg cs.toArray] w1 K)
 (h: ∀w',Kpt D w w'→a (J6 b d xs 0).2 w'→K (.bool (J6 b d xs 0).1.isSome) w'):Q1 P F.l [v,f] w K:=Xh (by
 unfold B1
 refine Gi b d a D c g i e fun w1 j k=>?_
 (try simp only[↓M1,M1,Mb,reduceIte])
 rw[Dt]
 exact h w1 j k)
theorem Sy {xs:List Ins} {v f:Value} (p:Ins→Bool) (hs:X3 w σ) (hv:Sl 3 Qp σ v xs)
 (hf: ∀x cs (w1:World) (K:Value→World→Prop),x∈xs→X3 w1 σ→Qp σ x cs→cs.length=3→(∀w',Below w1.heap.size w1 w'→K (.bool (p x)) w')→Z4 P f [.agg cs.toArray] w1 K)
 (h: ∀w',Below w.heap.size w w'→K (.bool (xs.any p)) w'):Q1 P F.l [v,f] w K:=by
 refine Sp (fun (_:Unit) x=>(p x,())) () (fun _ w'=>Below w.heap.size w w') (fun _=>False) (fun _ w' hb=>hs.below hb) (Below.refl _ _) hv (fun s x cs w1 K hx hk hi hr hl hK=>hf x cs w1 K hx (hs.below hi) hr hl fun w' hb=>hK w' (.of_below (bt hi hb)) (bt hi hb)) fun w' hk hi=>?_
 rw[K6]
 simpa using h w' hi
theorem Ih {β:Type} {xs:List Cat} {v f:Value} (a:β→Cat→Bool×β) (k:β) (b:β→World→Prop) (D:Nat→Prop) (j: ∀s w,b s w→X3 w σ) (z:b k w) (t:Sl 4 Um σ v xs)
 (y: ∀s x cs (w1:World) (K:Value→World→Prop),x∈xs→Kpt D w w1→b s w1→Um σ x cs→cs.length=4→(∀w',Kpt D w w'→b (a s x).2 w'→K (.bool (a s x).1) w')→Z4 P f [.agg cs.toArray] w1 K)
 (h: ∀w',Kpt D w w'→b (J6 a k xs 0).2 w'→K (I (L6 (J6 a k xs 0).1)) w'):Q1 P F.a7 [v,f] w K:=Yl (by
 unfold I1
 ((try simp only[↓M1,M1,Mb,reduceIte]);repeat ((first | refine ld (by assumption) (by assumption) rfl ?_ | refine X7 (by assumption) (by assumption) rfl ?_ | refine Q8 (by assumption) ?_);(try simp only[↓M1,M1,Mb,reduceIte])))
 refine U3 xs.length (fun n w'=>Kpt D w w'∧ ∃s,b s w'∧J6 a k xs 0=J6 a s (xs.drop n) n) ⟨Kpt.refl,k,z,rfl⟩ fun n w1 d E l=>?_
 obtain ⟨u,s,l,g⟩:=l
 have o:=j s w1 l
 ((try simp only[↓M1,M1,Mb,reduceIte]);repeat ((first | refine ld (by assumption) (by assumption) rfl ?_ | refine X7 (by assumption) (by assumption) rfl ?_ | refine Q8 (by assumption) ?_);(try simp only[↓M1,M1,Mb,reduceIte])))
 refine Q7 (fun q=>?_) (fun q=>?_)
 ·have c:n<xs.length:=by simpa using q
  refine N0 t c fun p cs C e B=>?_
  refine Y4 o C e ?_
  refine y s xs[n] cs w1 _ (List.getElem_mem c) u l B e fun A m i=>?_
  rw[List.drop_eq_getElem_cons c] at g
  simp only[J6] at g
  refine Q7 (fun r=>?_) (fun r=>?_)
  ·rw[r] at g
   have:=h A m
   rw[g] at this
   exact this i
  ·rw[r] at g
   ((try simp only[↓M1,M1,Mb,reduceIte]);repeat ((first | refine ld (by assumption) (by assumption) rfl ?_ | refine X7 (by assumption) (by assumption) rfl ?_ | refine Q8 (by assumption) ?_);(try simp only[↓M1,M1,Mb,reduceIte])))
   exact Y5 t.max c ⟨m,_,i,by simpa using g⟩
 ·have c: ¬n<xs.length:=by simpa using q
  rw[List.drop_eq_nil_of_le (by omega)] at g
  have:=h w1 u
  rw[g] at this
  exact this l)
theorem Sf {β:Type} {xs:List Cat} {v f:Value} (b:β→Cat→Bool×β) (d:β) (a:β→World→Prop) (D:Nat→Prop) (c: ∀s w,a s w→X3 w σ) (g:a d w) (i:Sl 4 Um σ v xs)
 (e: ∀s x cs (w1:World) (K:Value→World→Prop),x∈xs→Kpt D w w1→a s w1→Um σ x cs→cs.length=4→(∀w',Kpt D w w'→a (b s x).2 w'→K (.bool (b s x).1) w')→Z4 P f [.agg cs.toArray] w1 K)
 (h: ∀w',Kpt D w w'→a (J6 b d xs 0).2 w'→K (.bool (J6 b d xs 0).1.isSome) w'):Q1 P F.m [v,f] w K:=Xg (by
 unfold B4
 refine Ih b d a D c g i e fun w1 j k=>?_
 (try simp only[↓M1,M1,Mb,reduceIte])
 rw[Dt]
 exact h w1 j k)
theorem Se {xs:List Cat} {v f:Value} (p:Cat→Bool) (hs:X3 w σ) (hv:Sl 4 Um σ v xs)
 (hf: ∀x cs (w1:World) (K:Value→World→Prop),x∈xs→X3 w1 σ→Um σ x cs→cs.length=4→(∀w',Below w1.heap.size w1 w'→K (.bool (p x)) w')→Z4 P f [.agg cs.toArray] w1 K)
 (h: ∀w',Below w.heap.size w w'→K (.bool (xs.any p)) w'):Q1 P F.m [v,f] w K:=by
 refine Sf (fun (_:Unit) x=>(p x,())) () (fun _ w'=>Below w.heap.size w w') (fun _=>False) (fun _ w' hb=>hs.below hb) (Below.refl _ _) hv (fun s x cs w1 K hx hk hi hr hl hK=>hf x cs w1 K hx (hs.below hi) hr hl fun w' hb=>hK w' (.of_below (bt hi hb)) (bt hi hb)) fun w' hk hi=>?_
 rw[K6]
 simpa using h w' hi
theorem Gl {β:Type} {xs:List Cla} {v f:Value} (a:β→Cla→Bool×β) (k:β) (b:β→World→Prop) (D:Nat→Prop) (j: ∀s w,b s w→X3 w σ) (z:b k w) (t:Sl 8 U9 σ v xs)
 (y: ∀s x cs (w1:World) (K:Value→World→Prop),x∈xs→Kpt D w w1→b s w1→U9 σ x cs→cs.length=8→(∀w',Kpt D w w'→b (a s x).2 w'→K (.bool (a s x).1) w')→Z4 P f [.agg cs.toArray] w1 K)
 (h: ∀w',Kpt D w w'→b (J6 a k xs 0).2 w'→K (I (L6 (J6 a k xs 0).1)) w'):Q1 P F.o [v,f] w K:=Yw (by
 unfold G1
 ((try simp only[↓M1,M1,Mb,reduceIte]);repeat ((first | refine ld (by assumption) (by assumption) rfl ?_ | refine X7 (by assumption) (by assumption) rfl ?_ | refine Q8 (by assumption) ?_);(try simp only[↓M1,M1,Mb,reduceIte])))
 refine U3 xs.length (fun n w'=>Kpt D w w'∧ ∃s,b s w'∧J6 a k xs 0=J6 a s (xs.drop n) n) ⟨Kpt.refl,k,z,rfl⟩ fun n w1 d E l=>?_
 obtain ⟨u,s,l,g⟩:=l
 have o:=j s w1 l
 ((try simp only[↓M1,M1,Mb,reduceIte]);repeat ((first | refine ld (by assumption) (by assumption) rfl ?_ | refine X7 (by assumption) (by assumption) rfl ?_ | refine Q8 (by assumption) ?_);(try simp only[↓M1,M1,Mb,reduceIte])))
 refine Q7 (fun q=>?_) (fun q=>?_)
 ·have c:n<xs.length:=by simpa using q
  refine N0 t c fun p cs C e B=>?_
  refine Y4 o C e ?_
  refine y s xs[n] cs w1 _ (List.getElem_mem c) u l B e fun A m i=>?_
  rw[List.drop_eq_getElem_cons c] at g
  simp only[J6] at g
  refine Q7 (fun r=>?_) (fun r=>?_)
  ·rw[r] at g
   have:=h A m
   rw[g] at this
   exact this i
  ·rw[r] at g
   ((try simp only[↓M1,M1,Mb,reduceIte]);repeat ((first | refine ld (by assumption) (by assumption) rfl ?_ | refine X7 (by assumption) (by assumption) rfl ?_ | refine Q8 (by assumption) ?_);(try simp only[↓M1,M1,Mb,reduceIte])))
   exact Y5 t.max c ⟨m,_,i,by simpa using g⟩
 ·have c: ¬n<xs.length:=by simpa using q
  rw[List.drop_eq_nil_of_le (by omega)] at g
  have:=h w1 u
  rw[g] at this
  exact this l)
theorem Ge {xs:List Cla} {v f:Value} (p:Cla→Bool) (hs:X3 w σ) (hv:Sl 8 U9 σ v xs)
 (hf: ∀x cs (w1:World) (K:Value→World→Prop),x∈xs→X3 w1 σ→U9 σ x cs→cs.length=8→(∀w',Below w1.heap.size w1 w'→K (.bool (p x)) w')→Z4 P f [.agg cs.toArray] w1 K)
 (h: ∀w',Below w.heap.size w w'→K (I (L6 (xs.findIdx? p))) w'):Q1 P F.o [v,f] w K:=by
 refine Gl (fun (_:Unit) x=>(p x,())) () (fun _ w'=>Below w.heap.size w w') (fun _=>False) (fun _ w' hb=>hs.below hb) (Below.refl _ _) hv (fun s x cs w1 K hx hk hi hr hl hK=>hf x cs w1 K hx (hs.below hi) hr hl fun w' hb=>hK w' (.of_below (bt hi hb)) (bt hi hb)) fun w' hk hi=>?_
 rw[K6]
 simpa using h w' hi
theorem Q0U {β:Type} {xs:List X0} {v f:Value} (a:β→X0→Bool×β) (k:β) (b:β→World→Prop) (D:Nat→Prop) (j: ∀s w,b s w→X3 w σ) (A:b k w) (u:Sl 1 U8 σ v xs)
 (z: ∀s x (w1:World) (K:Value→World→Prop),x∈xs→Kpt D w w1→b s w1→x.length≤U2→(∀w',Kpt D w w'→b (a s x).2 w'→K (.bool (a s x).1) w')→Z4 P f [S x] w1 K)
 (h: ∀w',Kpt D w w'→b (J6 a k xs 0).2 w'→K (I (L6 (J6 a k xs 0).1)) w'):Q1 P F.w [v,f] w K:=Vp (by
 unfold T2
 ((try simp only[↓M1,M1,Mb,reduceIte]);repeat ((first | refine ld (by assumption) (by assumption) rfl ?_ | refine X7 (by assumption) (by assumption) rfl ?_ | refine Q8 (by assumption) ?_);(try simp only[↓M1,M1,Mb,reduceIte])))
 refine U3 xs.length (fun n w'=>Kpt D w w'∧ ∃s,b s w'∧J6 a k xs 0=J6 a s (xs.drop n) n) ⟨Kpt.refl,k,A,rfl⟩ fun n w1 d H l=>?_
 obtain ⟨y,s,l,e⟩:=l
 have o:=j s w1 l
 ((try simp only[↓M1,M1,Mb,reduceIte]);repeat ((first | refine ld (by assumption) (by assumption) rfl ?_ | refine X7 (by assumption) (by assumption) rfl ?_ | refine Q8 (by assumption) ?_);(try simp only[↓M1,M1,Mb,reduceIte])))
 refine Q7 (fun q=>?_) (fun q=>?_)
 ·have c:n<xs.length:=by simpa using q
  refine N0 u c fun p cs E t C=>?_
  obtain ⟨rfl,i⟩:=C
  refine X7 o E rfl ?_
  refine z s xs[n] w1 _ (List.getElem_mem c) y l i fun B m g=>?_
  rw[List.drop_eq_getElem_cons c] at e
  simp only[J6] at e
  refine Q7 (fun r=>?_) (fun r=>?_)
  ·rw[r] at e
   have:=h B m
   rw[e] at this
   exact this g
  ·rw[r] at e
   ((try simp only[↓M1,M1,Mb,reduceIte]);repeat ((first | refine ld (by assumption) (by assumption) rfl ?_ | refine X7 (by assumption) (by assumption) rfl ?_ | refine Q8 (by assumption) ?_);(try simp only[↓M1,M1,Mb,reduceIte])))
   exact Y5 u.max c ⟨m,_,g,by simpa using e⟩
 ·have c: ¬n<xs.length:=by simpa using q
  rw[List.drop_eq_nil_of_le (by omega)] at e
  have:=h w1 y
  rw[e] at this
  exact this l)
theorem Q0E {xs:List X0} {v f:Value} (p:X0→Bool) (hs:X3 w σ) (hv:Sl 1 U8 σ v xs)
 (hf: ∀x (w1:World) (K:Value→World→Prop),x∈xs→X3 w1 σ→x.length≤U2→(∀w',Below w1.heap.size w1 w'→K (.bool (p x)) w')→Z4 P f [S x] w1 K)
 (h: ∀w',Below w.heap.size w w'→K (I (L6 (xs.findIdx? p))) w'):Q1 P F.w [v,f] w K:=by
 refine Q0U (fun (_:Unit) x=>(p x,())) () (fun _ w'=>Below w.heap.size w w') (fun _=>False) (fun _ w' hb=>hs.below hb) (Below.refl _ _) hv (fun s x w1 K hx hk hi hr hK=>hf x w1 K hx (hs.below hi) hr fun w' hb=>hK w' (.of_below (bt hi hb)) (bt hi hb)) fun w' hk hi=>?_
 rw[K6]
 simpa using h w' hi
theorem Q5k {α:Type} (p:α→Bool) (xs:List α):decide ((0:Int)≤L6 (xs.findIdx? p))=xs.any p:=by
 rw[Bool.eq_iff_iff,List.any_eq_true]
 simp only[decide_eq_true_eq]
 cases h:xs.findIdx? p with
 | none=>
  simp only[L6]
  constructor
  ·intro h;omega
  ·rintro ⟨x,c,a⟩;have:=List.findIdx?_eq_none_iff.1 h x c;rw[a] at this;cases this
 | some i=>
  simp only[L6]
  obtain ⟨b,a,_⟩:=List.findIdx?_eq_some_iff_getElem.1 h
  exact ⟨fun _=>⟨xs[i],List.getElem_mem b,a⟩,fun _=>by omega⟩
theorem P2 {xs:List X0} {v f:Value} (p:X0→Bool) (a:X3 w σ) (d:Sl 1 U8 σ v xs)
 (b: ∀x (w1:World) (K:Value→World→Prop),x∈xs→X3 w1 σ→x.length≤U2→(∀w',Below w1.heap.size w1 w'→K (.bool (p x)) w')→Z4 P f [S x] w1 K)
 (h: ∀w',Below w.heap.size w w'→K (.bool (xs.any p)) w'):Q1 P F.c [v,f] w K:=Jm (by
 unfold K3
 refine Q0E p a d b fun w1 c=>?_
 (try simp only[↓M1,M1,Mb,reduceIte])
 rw[Q5k]
 exact h w1 c)
theorem Q4a {xs:List X0} {v:Value} {x:X0} (m:X3 w σ) (i:Sl 1 U8 σ v xs)
 (h:K (I (L6 (xs.findIdx? fun y=>decide (x=y)))) w):Q1 P F.au [v,S x] w K:=Mq (by
 unfold Qu
 ((try simp only[↓M1,M1,Mb,reduceIte]);repeat ((first | refine ld (by assumption) (by assumption) rfl ?_ | refine X7 (by assumption) (by assumption) rfl ?_ | refine Q8 (by assumption) ?_);(try simp only[↓M1,M1,Mb,reduceIte])))
 refine U3 xs.length (fun n w'=>w=w'∧(xs.take n).any (fun y=>decide (x=y))=false) ⟨rfl,rfl⟩ fun n w1 d q b=>?_
 obtain ⟨rfl,b⟩:=b
 ((try simp only[↓M1,M1,Mb,reduceIte]);repeat ((first | refine ld (by assumption) (by assumption) rfl ?_ | refine X7 (by assumption) (by assumption) rfl ?_ | refine Q8 (by assumption) ?_);(try simp only[↓M1,M1,Mb,reduceIte])))
 refine Q7 (fun c=>?_) (fun c=>?_)
 ·have a:n<xs.length:=by simpa using c
  refine N0 i a fun p cs o f l=>?_
  obtain ⟨rfl,g⟩:=l
  ((try simp only[↓M1,M1,Mb,reduceIte]);repeat ((first | refine ld (by assumption) (by assumption) rfl ?_ | refine X7 (by assumption) (by assumption) rfl ?_ | refine Q8 (by assumption) ?_);(try simp only[↓M1,M1,Mb,reduceIte])))
  refine Q7 (fun e=>?_) (fun e=>?_)
  ·have:xs.findIdx? (fun y=>decide (x=y))=some n:=by
    rw[List.findIdx?_eq_some_iff_getElem]
    refine ⟨a,e,fun j r=>?_⟩
    have:=List.any_eq_false.1 b (xs[j]) (List.mem_take_iff_getElem.2 ⟨j,by omega,rfl⟩)
    exact this
   rw[this] at h;exact h
  ·((try simp only[↓M1,M1,Mb,reduceIte]);repeat ((first | refine ld (by assumption) (by assumption) rfl ?_ | refine X7 (by assumption) (by assumption) rfl ?_ | refine Q8 (by assumption) ?_);(try simp only[↓M1,M1,Mb,reduceIte])))
   exact Y5 i.max a ⟨rfl,by rw[L2 a,b,e];rfl⟩
 ·have a: ¬n<xs.length:=by simpa using c
  rw[E0 a] at b
  have:xs.findIdx? (fun y=>decide (x=y))=none:=by
   rw[List.findIdx?_eq_none_iff];intro y k;simpa using List.any_eq_false.1 b y k
  rw[this] at h;exact h)
theorem Q28 {xs:List X0} {v:Value} {x:X0} (a:X3 w σ) (b:Sl 1 U8 σ v xs)
 (h:K (.bool (xs.any fun y=>decide (x=y))) w):Q1 P F.ag [v,S x] w K:=Vs (by
 unfold A0
 refine Q4a a b ?_
 (try simp only[↓M1,M1,Mb,reduceIte])
 rw[Q5k]
 exact h)
end Go.Proofs.YtjdiakhipmggjaaGreatDoor

namespace Go.Emb
abbrev Q6.Le (σ σ':Q6):Prop:= ∀b o,σ b=some o→σ' b=some o
def B0 {α:Type} (f:α→List UInt8):List α→List α→Bool
 | _,[]=>true
 | seen,x::r=> !(seen.any fun y=>decide (f y=f x))&&B0 f (seen++[x]) r
theorem Vw {α:Type} (p:α→Bool) (xs:List α):(!xs.any fun x=> !p x)=xs.all p:=by
 rw[List.all_eq_not_any_not]
end Go.Emb
namespace Go.Proofs.YtjdiakhipmggjaaGreatDoor
open Go.Emb Go.RowKit Go.Kd Go.Hm
variable {w : World} {K : Value → World → Prop} {σ : Q6}
theorem Q0L {xs:List Hm.Met} {v:Value} {fn:Fn} {l d:Array Value} (p:Hm.Met→Bool) (q:X3 w σ) (y:Sl 7 E7 σ v xs)
 (r: ∀(σ1:Q6) x cs (w1:World) (K:Value→World→Prop),σ.Le σ1→x∈xs→X3 w1 σ1→E7 σ1 x cs→cs.length=7→(∀w',Below w1.heap.size w1 w'→K (.bool (p x)) w')→Z4 P (.func fn l d) [.agg cs.toArray] w1 K)
 (h: ∀w',Below w.heap.size w w'→K (.bool (xs.all p)) w'):Q1 P F.an [v, .func fn l d] w K:=Ca (by
 unfold Jq
 refine E5 q fun a w1 σ1 f n=>?_
 simp only[Value.cells] at n
 ((try simp only[↓M1,M1,Mb,reduceIte]);repeat ((first | refine ld (by assumption) (by assumption) rfl ?_ | refine X7 (by assumption) (by assumption) rfl ?_ | refine Q8 (by assumption) ?_);(try simp only[↓M1,M1,Mb,reduceIte])))
 refine F2 (fun x=> !p x) f.sat (y.up f) (fun x cs k K z g u m t=>?_) fun k B=>?_
 ·refine Z8 (Hs ?_)
  unfold Zg
  refine E5 g fun b s A c i=>?_
  refine X7 c.sat (n.up c) rfl ?_
  refine Y4 c.sat i m ?_
  refine r A x _ s _ (fun b o e=>c.le b o (f.le b o e)) z c.sat (Rep.up c.le u) m fun C j=>?_
  (try simp only[↓M1,M1,Mb,reduceIte])
  exact t C (bt c.bel j)
 ·(try simp only[↓M1,M1,Mb,reduceIte])
  rw[Vw]
  exact h k (bt f.bel B))
theorem Q1X {xs:List Fld} {v:Value} {fn:Fn} {l d:Array Value} (p:Fld→Bool) (q:X3 w σ) (y:Sl 3 S5 σ v xs)
 (r: ∀(σ1:Q6) x cs (w1:World) (K:Value→World→Prop),σ.Le σ1→x∈xs→X3 w1 σ1→S5 σ1 x cs→cs.length=3→(∀w',Below w1.heap.size w1 w'→K (.bool (p x)) w')→Z4 P (.func fn l d) [.agg cs.toArray] w1 K)
 (h: ∀w',Below w.heap.size w w'→K (.bool (xs.all p)) w'):Q1 P F.ar [v, .func fn l d] w K:=Cx (by
 unfold Vk
 refine E5 q fun a w1 σ1 f n=>?_
 simp only[Value.cells] at n
 ((try simp only[↓M1,M1,Mb,reduceIte]);repeat ((first | refine ld (by assumption) (by assumption) rfl ?_ | refine X7 (by assumption) (by assumption) rfl ?_ | refine Q8 (by assumption) ?_);(try simp only[↓M1,M1,Mb,reduceIte])))
 refine Jx (fun x=> !p x) f.sat (y.up f) (fun x cs k K z g u m t=>?_) fun k B=>?_
 ·refine Z8 (Rp ?_)
  unfold Ji
  refine E5 g fun b s A c i=>?_
  refine X7 c.sat (n.up c) rfl ?_
  refine Y4 c.sat i m ?_
  refine r A x _ s _ (fun b o e=>c.le b o (f.le b o e)) z c.sat (Rep.up c.le u) m fun C j=>?_
  (try simp only[↓M1,M1,Mb,reduceIte])
  exact t C (bt c.bel j)
 ·(try simp only[↓M1,M1,Mb,reduceIte])
  rw[Vw]
  exact h k (bt f.bel B))
theorem Q1Y {xs:List Ins} {v:Value} {fn:Fn} {l d:Array Value} (p:Ins→Bool) (q:X3 w σ) (y:Sl 3 Qp σ v xs)
 (r: ∀(σ1:Q6) x cs (w1:World) (K:Value→World→Prop),σ.Le σ1→x∈xs→X3 w1 σ1→Qp σ1 x cs→cs.length=3→(∀w',Below w1.heap.size w1 w'→K (.bool (p x)) w')→Z4 P (.func fn l d) [.agg cs.toArray] w1 K)
 (h: ∀w',Below w.heap.size w w'→K (.bool (xs.all p)) w'):Q1 P F.av [v, .func fn l d] w K:=Ba (by
 unfold Vf
 refine E5 q fun a w1 σ1 f n=>?_
 simp only[Value.cells] at n
 ((try simp only[↓M1,M1,Mb,reduceIte]);repeat ((first | refine ld (by assumption) (by assumption) rfl ?_ | refine X7 (by assumption) (by assumption) rfl ?_ | refine Q8 (by assumption) ?_);(try simp only[↓M1,M1,Mb,reduceIte])))
 refine Sy (fun x=> !p x) f.sat (y.up f) (fun x cs k K z g u m t=>?_) fun k B=>?_
 ·refine Z8 (Re ?_)
  unfold Jk
  refine E5 g fun b s A c i=>?_
  refine X7 c.sat (n.up c) rfl ?_
  refine Y4 c.sat i m ?_
  refine r A x _ s _ (fun b o e=>c.le b o (f.le b o e)) z c.sat (Rep.up c.le u) m fun C j=>?_
  (try simp only[↓M1,M1,Mb,reduceIte])
  exact t C (bt c.bel j)
 ·(try simp only[↓M1,M1,Mb,reduceIte])
  rw[Vw]
  exact h k (bt f.bel B))
theorem Q1V {xs:List Cat} {v:Value} {fn:Fn} {l d:Array Value} (p:Cat→Bool) (q:X3 w σ) (y:Sl 4 Um σ v xs)
 (r: ∀(σ1:Q6) x cs (w1:World) (K:Value→World→Prop),σ.Le σ1→x∈xs→X3 w1 σ1→Um σ1 x cs→cs.length=4→(∀w',Below w1.heap.size w1 w'→K (.bool (p x)) w')→Z4 P (.func fn l d) [.agg cs.toArray] w1 K)
 (h: ∀w',Below w.heap.size w w'→K (.bool (xs.all p)) w'):Q1 P F.aw [v, .func fn l d] w K:=Bc (by
 unfold Vg
 refine E5 q fun a w1 σ1 f n=>?_
 simp only[Value.cells] at n
 ((try simp only[↓M1,M1,Mb,reduceIte]);repeat ((first | refine ld (by assumption) (by assumption) rfl ?_ | refine X7 (by assumption) (by assumption) rfl ?_ | refine Q8 (by assumption) ?_);(try simp only[↓M1,M1,Mb,reduceIte])))
 refine Se (fun x=> !p x) f.sat (y.up f) (fun x cs k K z g u m t=>?_) fun k B=>?_
 ·refine Z8 (Rl ?_)
  unfold Jd
  refine E5 g fun b s A c i=>?_
  refine X7 c.sat (n.up c) rfl ?_
  refine Y4 c.sat i m ?_
  refine r A x _ s _ (fun b o e=>c.le b o (f.le b o e)) z c.sat (Rep.up c.le u) m fun C j=>?_
  (try simp only[↓M1,M1,Mb,reduceIte])
  exact t C (bt c.bel j)
 ·(try simp only[↓M1,M1,Mb,reduceIte])
  rw[Vw]
  exact h k (bt f.bel B))
theorem Ft {xs:List X0} {v:Value} {fn:Fn} {g c:Array Value} (p:X0→Bool) (j:X3 w σ) (n:Sl 1 U8 σ v xs)
 (k: ∀(σ1:Q6) x (w1:World) (K:Value→World→Prop),σ.Le σ1→x∈xs→X3 w1 σ1→x.length≤U2→(∀w',Below w1.heap.size w1 w'→K (.bool (p x)) w')→Z4 P (.func fn g c) [S x] w1 K)
 (h: ∀w',Below w.heap.size w w'→K (.bool (xs.all p)) w'):Q1 P F.aa [v, .func fn g c] w K:=Kk (by
 unfold Nh
 refine E5 j fun a w1 σ1 d i=>?_
 simp only[Value.cells] at i
 ((try simp only[↓M1,M1,Mb,reduceIte]);repeat ((first | refine ld (by assumption) (by assumption) rfl ?_ | refine X7 (by assumption) (by assumption) rfl ?_ | refine Q8 (by assumption) ?_);(try simp only[↓M1,M1,Mb,reduceIte])))
 refine P2 (fun x=> !p x) d.sat (n.up d) (fun x e K o b m l=>?_) fun e q=>?_
 ·refine Z8 (Fi ?_)
  unfold We
  refine X7 b i rfl ?_
  refine k σ1 x e _ d.le o b m fun r f=>?_
  (try simp only[↓M1,M1,Mb,reduceIte])
  exact l r f
 ·(try simp only[↓M1,M1,Mb,reduceIte])
  rw[Vw]
  exact h e (bt d.bel q))
theorem Q22 {xs:List Hm.Met} {v:Value} {fn:Fn} {E l:Array Value} (f:Hm.Met→X0) (hs:X3 w σ) (C:Sl 7 E7 σ v xs)
 (X: ∀(σ1:Q6) x cs (w1:World) (K:Value→World→Prop),σ.Le σ1→X3 w1 σ1→E7 σ1 x cs→cs.length=7→(∀w',Below w1.heap.size w1 w'→K (S (f x)) w')→Z4 P (.func fn E l) [.agg cs.toArray] w1 K)
 (h: ∀w',Below w.heap.size w w'→K (.bool (B0 f [] xs)) w'):Q1 P F.aq [v, .func fn E l] w K:=Cv (by
 unfold Vd
 refine E5 hs fun a w1 σ1 D Z=>?_
 simp only[Value.cells] at Z
 have H:=D.sat
 replace C:=C.up D
 ((try simp only[↓M1,M1,Mb,reduceIte]);repeat ((first | refine ld (by assumption) (by assumption) rfl ?_ | refine X7 (by assumption) (by assumption) rfl ?_ | refine Q8 (by assumption) ?_);(try simp only[↓M1,M1,Mb,reduceIte])))
 refine U3 xs.length (fun n w'=>Below w1.heap.size w1 w'∧B0 f [] xs=B0 f (xs.take n) (xs.drop n)) ⟨Below.refl _ _,rfl⟩ fun n w2 d hn hi=>?_
 obtain ⟨j,m⟩:=hi
 have u:=H.below j
 ((try simp only[↓M1,M1,Mb,reduceIte]);repeat ((first | refine ld (by assumption) (by assumption) rfl ?_ | refine X7 (by assumption) (by assumption) rfl ?_ | refine Q8 (by assumption) ?_);(try simp only[↓M1,M1,Mb,reduceIte])))
 refine Q7 (fun R=>?_) (fun R=>?_)
 ·have k:n<xs.length:=by simpa using R
  rw[List.drop_eq_getElem_cons k] at m
  simp only[B0] at m
  refine N0 C k fun p cs hl g Y=>?_
  refine Y4 u hl g ?_
  refine Y8 u (by rfl) g (Rep.one Y) fun q w3 σ3 i hq=>?_
  refine Et (C.up i) none (some (I n)) 0 n (.inl ⟨rfl,rfl⟩) (.inr rfl) (by omega) (by omega) fun v' W=>?_
  ((try simp only[↓M1,M1,Mb,reduceIte]);repeat ((first | refine ld (by assumption) (by assumption) rfl ?_ | refine X7 (by assumption) (by assumption) rfl ?_ | refine Q8 (by assumption) ?_);(try simp only[↓M1,M1,Mb,reduceIte])))
  refine F2 (fun y=>decide (f y=f xs[n])) i.sat W (fun y ys w4 K hy J M z hK=>?_) fun w4 V=>?_
  ·refine Z8 (Rq ?_)
   unfold Je
   refine E5 J fun b w5 U c L=>?_
   have B:=(Z.up i).up c
   have Q:=hq.up c
   have r:σ.Le U:=fun b o e=>c.le b o (i.le b o (D.le b o e))
   refine Dx (Below.refl _ _) ?_
   refine X4 (.func fn E l) (fun w j=>X7 (c.sat.below j) B rfl (X6 rfl)) ?_
   refine X4 (.agg ys.toArray) (fun w j=>Y4 (c.sat.below j) L z (X6 rfl)) ?_
   refine X4 (S (f y)) (fun t t' w j e e'=>by rw[e,e'];exact X U y ys w _ r (c.sat.below j) (Rep.up c.le M) z fun w' O=>Q35 O rfl) ?_
   refine X4 (.func fn E l) (fun w j=>X7 (c.sat.below j) B rfl (X6 rfl)) ?_
   refine X4 (.agg cs.toArray) (fun w j=>Y4 (c.sat.below j) Q g (X6 rfl)) ?_
   rintro _ _ _ _ _ w6 A rfl rfl rfl rfl rfl
   refine X U xs[n] cs w6 _ r (c.sat.below A) (Rep.up (fun b o e=>c.le b o (i.le b o e)) Y) g fun w7 N=>?_
   (try simp only[↓M1,M1,Mb,reduceIte])
   exact hK w7 (bt (bt c.bel A) N)
  ·have s:=bt j (bt i.bel V)
   simp only[List.drop_zero,Nat.sub_zero] at*
   refine Q7 (fun hh=>?_) (fun hh=>?_)
   ·rw[hh] at m
    have:=h w4 (bt D.bel s)
    rw[m] at this;exact this
   ·rw[hh] at m
    ((try simp only[↓M1,M1,Mb,reduceIte]);repeat ((first | refine ld (by assumption) (by assumption) rfl ?_ | refine X7 (by assumption) (by assumption) rfl ?_ | refine Q8 (by assumption) ?_);(try simp only[↓M1,M1,Mb,reduceIte])))
    refine Y5 C.max k ⟨s,?_⟩
    rw[m,List.take_add_one,List.getElem?_eq_getElem k];rfl
 ·have k: ¬n<xs.length:=by simpa using R
  rw[List.drop_eq_nil_of_le (by omega)] at m
  have:=h w2 (bt D.bel j)
  rw[m] at this;exact this)
theorem Q2A {xs:List Fld} {v:Value} {fn:Fn} {E l:Array Value} (f:Fld→X0) (hs:X3 w σ) (C:Sl 3 S5 σ v xs)
 (X: ∀(σ1:Q6) x cs (w1:World) (K:Value→World→Prop),σ.Le σ1→X3 w1 σ1→S5 σ1 x cs→cs.length=3→(∀w',Below w1.heap.size w1 w'→K (S (f x)) w')→Z4 P (.func fn E l) [.agg cs.toArray] w1 K)
 (h: ∀w',Below w.heap.size w w'→K (.bool (B0 f [] xs)) w'):Q1 P F.aE [v, .func fn E l] w K:=Fg (by
 unfold Wb
 refine E5 hs fun a w1 σ1 D Z=>?_
 simp only[Value.cells] at Z
 have H:=D.sat
 replace C:=C.up D
 ((try simp only[↓M1,M1,Mb,reduceIte]);repeat ((first | refine ld (by assumption) (by assumption) rfl ?_ | refine X7 (by assumption) (by assumption) rfl ?_ | refine Q8 (by assumption) ?_);(try simp only[↓M1,M1,Mb,reduceIte])))
 refine U3 xs.length (fun n w'=>Below w1.heap.size w1 w'∧B0 f [] xs=B0 f (xs.take n) (xs.drop n)) ⟨Below.refl _ _,rfl⟩ fun n w2 d hn hi=>?_
 obtain ⟨j,m⟩:=hi
 have u:=H.below j
 ((try simp only[↓M1,M1,Mb,reduceIte]);repeat ((first | refine ld (by assumption) (by assumption) rfl ?_ | refine X7 (by assumption) (by assumption) rfl ?_ | refine Q8 (by assumption) ?_);(try simp only[↓M1,M1,Mb,reduceIte])))
 refine Q7 (fun R=>?_) (fun R=>?_)
 ·have k:n<xs.length:=by simpa using R
  rw[List.drop_eq_getElem_cons k] at m
  simp only[B0] at m
  refine N0 C k fun p cs hl g Y=>?_
  refine Y4 u hl g ?_
  refine Y8 u (by rfl) g (Rep.one Y) fun q w3 σ3 i hq=>?_
  refine Et (C.up i) none (some (I n)) 0 n (.inl ⟨rfl,rfl⟩) (.inr rfl) (by omega) (by omega) fun v' W=>?_
  ((try simp only[↓M1,M1,Mb,reduceIte]);repeat ((first | refine ld (by assumption) (by assumption) rfl ?_ | refine X7 (by assumption) (by assumption) rfl ?_ | refine Q8 (by assumption) ?_);(try simp only[↓M1,M1,Mb,reduceIte])))
  refine Jx (fun y=>decide (f y=f xs[n])) i.sat W (fun y ys w4 K hy J M z hK=>?_) fun w4 V=>?_
  ·refine Z8 (Cs ?_)
   unfold Uu
   refine E5 J fun b w5 U c L=>?_
   have B:=(Z.up i).up c
   have Q:=hq.up c
   have r:σ.Le U:=fun b o e=>c.le b o (i.le b o (D.le b o e))
   refine Dx (Below.refl _ _) ?_
   refine X4 (.func fn E l) (fun w j=>X7 (c.sat.below j) B rfl (X6 rfl)) ?_
   refine X4 (.agg ys.toArray) (fun w j=>Y4 (c.sat.below j) L z (X6 rfl)) ?_
   refine X4 (S (f y)) (fun t t' w j e e'=>by rw[e,e'];exact X U y ys w _ r (c.sat.below j) (Rep.up c.le M) z fun w' O=>Q35 O rfl) ?_
   refine X4 (.func fn E l) (fun w j=>X7 (c.sat.below j) B rfl (X6 rfl)) ?_
   refine X4 (.agg cs.toArray) (fun w j=>Y4 (c.sat.below j) Q g (X6 rfl)) ?_
   rintro _ _ _ _ _ w6 A rfl rfl rfl rfl rfl
   refine X U xs[n] cs w6 _ r (c.sat.below A) (Rep.up (fun b o e=>c.le b o (i.le b o e)) Y) g fun w7 N=>?_
   (try simp only[↓M1,M1,Mb,reduceIte])
   exact hK w7 (bt (bt c.bel A) N)
  ·have s:=bt j (bt i.bel V)
   simp only[List.drop_zero,Nat.sub_zero] at*
   refine Q7 (fun hh=>?_) (fun hh=>?_)
   ·rw[hh] at m
    have:=h w4 (bt D.bel s)
    rw[m] at this;exact this
   ·rw[hh] at m
    ((try simp only[↓M1,M1,Mb,reduceIte]);repeat ((first | refine ld (by assumption) (by assumption) rfl ?_ | refine X7 (by assumption) (by assumption) rfl ?_ | refine Q8 (by assumption) ?_);(try simp only[↓M1,M1,Mb,reduceIte])))
    refine Y5 C.max k ⟨s,?_⟩
    rw[m,List.take_add_one,List.getElem?_eq_getElem k];rfl
 ·have k: ¬n<xs.length:=by simpa using R
  rw[List.drop_eq_nil_of_le (by omega)] at m
  have:=h w2 (bt D.bel j)
  rw[m] at this;exact this)
theorem Q54 {xs:List X0} {v:Value} {fn:Fn} {D k:Array Value} (f:X0→X0) (Y:X3 w σ) (B:Sl 1 U8 σ v xs)
 (U: ∀(σ1:Q6) x (w1:World) (K:Value→World→Prop),σ.Le σ1→X3 w1 σ1→x.length≤U2→(∀w',Below w1.heap.size w1 w'→K (S (f x)) w')→Z4 P (.func fn D k) [S x] w1 K)
 (h: ∀w',Below w.heap.size w w'→K (.bool (B0 f [] xs)) w'):Q1 P F.aU [v, .func fn D k] w K:=Q0a (by
 unfold Da
 refine E5 Y fun a w1 σ1 C V=>?_
 simp only[Value.cells] at V
 have E:=C.sat
 replace B:=B.up C
 ((try simp only[↓M1,M1,Mb,reduceIte]);repeat ((first | refine ld (by assumption) (by assumption) rfl ?_ | refine X7 (by assumption) (by assumption) rfl ?_ | refine Q8 (by assumption) ?_);(try simp only[↓M1,M1,Mb,reduceIte])))
 refine U3 xs.length (fun n w'=>Below w1.heap.size w1 w'∧B0 f [] xs=B0 f (xs.take n) (xs.drop n)) ⟨Below.refl _ _,rfl⟩ fun n Z d hn hi=>?_
 obtain ⟨j,l⟩:=hi
 have s:=E.below j
 ((try simp only[↓M1,M1,Mb,reduceIte]);repeat ((first | refine ld (by assumption) (by assumption) rfl ?_ | refine X7 (by assumption) (by assumption) rfl ?_ | refine Q8 (by assumption) ?_);(try simp only[↓M1,M1,Mb,reduceIte])))
 refine Q7 (fun M=>?_) (fun M=>?_)
 ·have i:n<xs.length:=by simpa using M
  rw[List.drop_eq_getElem_cons i] at l
  simp only[B0] at l
  refine N0 B i fun p cs hl R hr=>?_
  obtain ⟨rfl,u⟩:=hr
  refine X7 s hl rfl ?_
  refine U7 s (by rfl) rfl rfl fun q w3 N g hq=>?_
  refine Et (B.up g) none (some (I n)) 0 n (.inl ⟨rfl,rfl⟩) (.inr rfl) (by omega) (by omega) fun v' Q=>?_
  ((try simp only[↓M1,M1,Mb,reduceIte]);repeat ((first | refine ld (by assumption) (by assumption) rfl ?_ | refine X7 (by assumption) (by assumption) rfl ?_ | refine Q8 (by assumption) ?_);(try simp only[↓M1,M1,Mb,reduceIte])))
  refine P2 (fun y=>decide (f y=f xs[n])) g.sat Q (fun y W K hy c H hK=>?_) fun W O=>?_
  ·refine Z8 (Gg ?_)
   unfold Ln
   have A:=V.up g
   have m:σ.Le N:=fun b o e=>g.le b o (C.le b o e)
   refine Dx (Below.refl _ _) ?_
   refine X4 (.func fn D k) (fun w j=>X7 (c.below j) A rfl (X6 rfl)) ?_
   refine X4 (S (f y)) (fun t w j e=>by rw[e];exact U N y w _ m (c.below j) H fun w' L=>Q35 L rfl) ?_
   refine X4 (.func fn D k) (fun w j=>X7 (c.below j) A rfl (X6 rfl)) ?_
   refine X4 (S xs[n]) (fun w j=>X7 (c.below j) hq rfl (X6 rfl)) ?_
   rintro _ _ _ _ w6 z rfl rfl rfl rfl
   refine U N xs[n] w6 _ m (c.below z) u fun X J=>?_
   (try simp only[↓M1,M1,Mb,reduceIte])
   exact hK X (bt z J)
  ·have r:=bt j (bt g.bel O)
   simp only[List.drop_zero,Nat.sub_zero] at*
   refine Q7 (fun hh=>?_) (fun hh=>?_)
   ·rw[hh] at l
    have:=h W (bt C.bel r)
    rw[l] at this;exact this
   ·rw[hh] at l
    ((try simp only[↓M1,M1,Mb,reduceIte]);repeat ((first | refine ld (by assumption) (by assumption) rfl ?_ | refine X7 (by assumption) (by assumption) rfl ?_ | refine Q8 (by assumption) ?_);(try simp only[↓M1,M1,Mb,reduceIte])))
    refine Y5 B.max i ⟨r,?_⟩
    rw[l,List.take_add_one,List.getElem?_eq_getElem i];rfl
 ·have i: ¬n<xs.length:=by simpa using M
  rw[List.drop_eq_nil_of_le (by omega)] at l
  have:=h Z (bt C.bel j)
  rw[l] at this;exact this)
theorem Q7d {P:Program} {w:World} (d:Nat) (t e:TypeId) (a:Option Addr) (n c:Nat) (h:P.underlying t=some (.slice e)):
 (Op.equalIn (d+1) t (.slice a n c) (.slice none 0 0)).run P w= .ok a.isNone w:=by
 cases a<;>simp[Op.equalIn,run_underlying h]
theorem Q1O {t e:TypeId} {f g:Operand} [ts:TS P t e] {a:Option Addr} {n c:Nat} {b:Bool} (j:a.isNone=b) (i:K (.bool b) w):Q3 P .eql t f g (.slice a n c) (.slice none 0 0) w K:=by
 have d:(Op.equal t (.slice a n c) (.slice none 0 0)).run P w= .ok b w:=by
  have:=Q7d (P:=P) (w:=w) 9999 t e a n c ts.h
  rw[j] at this
  exact this
 unfold Q3
 rw[Y0 (v:= .bool b) (w':=w) (by simp[eqGuard,Go.binOp,d])]
 exact i
theorem Lt {xs:List X0} {v:Value} (e:X3 w σ) (g:Sl 1 U8 σ v xs) (z:xs.length≤1000000)
 (h: ∀f w' b,Stp w σ w' b→Sl 1 U8 b f xs→K f w'):Q1 P F.a8 [v] w K:=Mh (by
 unfold Qo
 have d:=g
 obtain ⟨a,q,rfl,A,s,j,y⟩:=g
 refine Q1O rfl ?_
 refine Q7 (fun i=>?_) (fun i=>?_)
 ·have:a=none:=by simpa using i
  have t:=j this
  have l:xs=[]:=List.eq_nil_of_length_eq_zero (by omega)
  subst l
  exact h _ w σ (Stp.refl e) Sl.nil
 ·refine Zf (R:=U8) (sz:=1) (Stp.refl e) [] [] rfl rfl (by simp) (by rfl) trivial fun B w1 n o _=>?_
  refine app n o d (by rfl) (by simp only[List.length_nil];omega) (by simp only[List.length_nil];omega) fun u k C r c _=>?_
  obtain ⟨b,m,p,_⟩:=c.keep r
  exact h _ k b m p)
theorem Em {xs:List Fld} {v:Value} (e:X3 w σ) (g:Sl 3 S5 σ v xs) (z:xs.length≤1000000)
 (h: ∀f w' b,Stp w σ w' b→Sl 3 S5 b f xs→K f w'):Q1 P F.ad [v] w K:=Jv (by
 unfold P1
 have d:=g
 obtain ⟨a,q,rfl,A,s,j,y⟩:=g
 refine Q1O rfl ?_
 refine Q7 (fun i=>?_) (fun i=>?_)
 ·have:a=none:=by simpa using i
  have t:=j this
  have l:xs=[]:=List.eq_nil_of_length_eq_zero (by omega)
  subst l
  exact h _ w σ (Stp.refl e) Sl.nil
 ·refine Zf (R:=S5) (sz:=3) (Stp.refl e) [] [] rfl rfl (by simp) (by rfl) trivial fun B w1 n o _=>?_
  refine app n o d (by rfl) (by simp only[List.length_nil];omega) (by simp only[List.length_nil];omega) fun u k C r c _=>?_
  obtain ⟨b,m,p,_⟩:=c.keep r
  exact h _ k b m p)
theorem Eu {xs:List Ins} {v:Value} (e:X3 w σ) (g:Sl 3 Qp σ v xs) (z:xs.length≤1000000)
 (h: ∀f w' b,Stp w σ w' b→Sl 3 Qp b f xs→K f w'):Q1 P F.ae [v] w K:=Ue (by
 unfold K7
 have d:=g
 obtain ⟨a,q,rfl,A,s,j,y⟩:=g
 refine Q1O rfl ?_
 refine Q7 (fun i=>?_) (fun i=>?_)
 ·have:a=none:=by simpa using i
  have t:=j this
  have l:xs=[]:=List.eq_nil_of_length_eq_zero (by omega)
  subst l
  exact h _ w σ (Stp.refl e) Sl.nil
 ·refine Zf (R:=Qp) (sz:=3) (Stp.refl e) [] [] rfl rfl (by simp) (by rfl) trivial fun B w1 n o _=>?_
  refine app n o d (by rfl) (by simp only[List.length_nil];omega) (by simp only[List.length_nil];omega) fun u k C r c _=>?_
  obtain ⟨b,m,p,_⟩:=c.keep r
  exact h _ k b m p)
theorem Eg {xs:List Cat} {v:Value} (e:X3 w σ) (g:Sl 4 Um σ v xs) (z:xs.length≤1000000)
 (h: ∀f w' b,Stp w σ w' b→Sl 4 Um b f xs→K f w'):Q1 P F.af [v] w K:=Ul (by
 unfold P0
 have d:=g
 obtain ⟨a,q,rfl,A,s,j,y⟩:=g
 refine Q1O rfl ?_
 refine Q7 (fun i=>?_) (fun i=>?_)
 ·have:a=none:=by simpa using i
  have t:=j this
  have l:xs=[]:=List.eq_nil_of_length_eq_zero (by omega)
  subst l
  exact h _ w σ (Stp.refl e) Sl.nil
 ·refine Zf (R:=Um) (sz:=4) (Stp.refl e) [] [] rfl rfl (by simp) (by rfl) trivial fun B w1 n o _=>?_
  refine app n o d (by rfl) (by simp only[List.length_nil];omega) (by simp only[List.length_nil];omega) fun u k C r c _=>?_
  obtain ⟨b,m,p,_⟩:=c.keep r
  exact h _ k b m p)
end Go.Proofs.YtjdiakhipmggjaaGreatDoor

namespace Go.Hm
open Go.Kd
structure Opr where
  name : X0
  number : Bool
  text : Bool
deriving DecidableEq
def Uf:List Opr:=[
 ⟨[105,110,116],true,false⟩,
 ⟨[116,114,117,101],false,false⟩,
 ⟨[102,97,108,115,101],false,false⟩,
 ⟨[119,111,114,100],false,true⟩,
 ⟨[110,117,108,108],false,false⟩,
 ⟨[108,111,97,100],true,false⟩,
 ⟨[115,116,111,114,101],true,false⟩,
 ⟨[112,111,112],false,false⟩,
 ⟨[100,117,112],false,false⟩,
 ⟨[115,119,97,112],false,false⟩,
 ⟨[97,100,100],false,false⟩,
 ⟨[115,117,98],false,false⟩,
 ⟨[109,117,108],false,false⟩,
 ⟨[100,105,118],false,false⟩,
 ⟨[114,101,109],false,false⟩,
 ⟨[110,101,103],false,false⟩,
 ⟨[108,101,115,115],false,false⟩,
 ⟨[115,97,109,101],false,false⟩,
 ⟨[110,111,116],false,false⟩,
 ⟨[98,111,116,104],false,false⟩,
 ⟨[106,111,105,110],false,false⟩,
 ⟨[115,105,122,101],false,false⟩,
 ⟨[106,117,109,112],true,false⟩,
 ⟨[98,114,97,110,99,104],true,false⟩,
 ⟨[110,101,119],false,true⟩,
 ⟨[103,101,116],false,true⟩,
 ⟨[112,117,116],false,true⟩,
 ⟨[99,97,108,108],false,true⟩,
 ⟨[97,114,114,97,121],false,true⟩,
 ⟨[97,116],false,false⟩,
 ⟨[115,101,116],false,false⟩,
 ⟨[105,115],false,true⟩,
 ⟨[99,97,115,116],false,true⟩,
 ⟨[114,101,116,117,114,110],false,false⟩,
 ⟨[116,104,114,111,119],false,false⟩,
 ⟨[111,117,116],false,false⟩,
 ⟨[101,113,117,97,108],false,false⟩,
 ⟨[97,110,100],false,false⟩,
 ⟨[111,114],false,false⟩,
 ⟨[120,111,114],false,false⟩,
 ⟨[115,104,108],false,false⟩,
 ⟨[115,104,114],false,false⟩]
end Go.Hm
namespace Go.Emb
open Go.Hm
def ROp (_:Q6) (o:Opr) (cs:List Value):Prop:=cs=[S o.name, .bool o.number, .bool o.text]
def cOp (o:Opr):List Value:=[S o.name, .bool o.number, .bool o.text]
instance:Rep ROp:=⟨fun _ h=>h,fun h u hu=>by rw[h] at hu;simp at hu;rcases hu with rfl | rfl | rfl<;>rfl⟩
end Go.Emb
namespace Go.Proofs.YtjdiakhipmggjaaGreatDoor
open Go.Emb Go.RowKit Go.Kd Go.Hm
variable {w : World} {K : Value → World → Prop} {σ : Q6}
theorem Q5Y {a:X0} (l:a.length≤U2) (h: ∀w',Below w.heap.size w w'→K (.bool (D7 a)) w'):Q1 P F.bU [S a] w K:=Q46 (by
 unfold Ie
 have b:a.length≤140737488355328:=by simp only[U2] at l;omega
 refine Q6p a b fun w1 f=>?_
 cases d:name a
 ·(try simp only[↓M1,M1,Mb,reduceIte])
  have:=h w1 f
  rwa [show D7 a=false by cases a with | nil=>rfl | cons c r=>simp[D7,d]] at this
 ·(try simp only[↓M1,M1,Mb,reduceIte])
  refine Ru a b fun j k=>?_
  (try simp only[↓M1,M1,Mb,reduceIte])
  have:=h j (bt f k)
  rwa [show D7 a= !M9 a by
   cases a with
   | nil=>simp[name] at d
   | cons c r=>
    obtain ⟨g,m⟩:=Te d
    simp only[M9,D7,d,Bool.true_and]
    simp only[C2,m,Bool.or_false] at g
    cases i:Xm c.toNat<;>cases e:Qd c.toNat
    ·simp[i,e] at g
    ·rfl
    ·rfl
    ·exfalso
     simp only[Xm,Qd,Bool.and_eq_true,decide_eq_true_eq] at i e
     omega] at this)
theorem X2L {t e:TypeId} {n sz b:Nat} {z:Value} [ta:TA P t n e] [tz:TZ P e sz b z] {a:Addr} (d:K (.slice (some a) n n) w):S4 P t (.pointer (some a)) none none none w K:=by
 unfold S4
 have:(Instr.sliceAt t (.pointer (some a)) none none none).run P w= .ok (.slice (some (if n=0 then a else a.add (0*sz))) (n-0) (n-0)) w:=by
  simp[Instr.sliceAt,run_underlying ta.h,Instr.sureAddr,Instr.sliceBounds,L3 tz]
 rw[Y0 this]
 have c:(if n=0 then a else a.add (0*sz))=a:=by
  by_cases h:n=0
  ·rw[if_pos h]
  ·rw[if_neg h,Nat.zero_mul,add_zero]
 rw[c];exact d
def Q2H (σ:Q6):Prop:=Z6 σ ⟨G.a,0,none⟩ (Uf.flatMap cOp)
theorem Q7Q (i:Nat) (o:Opr) (h:Uf[i]? =some o):((Uf.flatMap cOp).drop (i*3)).take 3=cOp o:=by
 have c:i<42:=(List.getElem?_eq_some_iff.1 h).1
 have key: ∀l:List Opr,∀i o,l[i]? =some o→((l.flatMap cOp).drop (i*3)).take 3=cOp o:=by
  intro l
  induction l with
  | nil=>intro i o h;simp at h
  | cons a r b=>
   intro i o h
   cases i with
   | zero=>simp at h;subst h;rfl
   | succ i=>
    have:=b i o (by simpa using h)
    rw[List.flatMap_cons,show (i+1)*3=(cOp a).length+i*3 by simp[cOp];omega,List.drop_append]
    simpa [List.drop_eq_nil_of_le] using this
 exact key _ i o h
theorem Q32 {σ:Q6} {a:Addr} {cs:List Value} (h:Z6 σ a cs) (i n:Nat):Z6 σ (a.add i) ((cs.drop i).take n):=by
 obtain ⟨c,arr,e,f,g,d⟩:=h
 refine ⟨I8 c _,arr,e,f,by rw[S9];exact g,fun j v b=>?_⟩
 rw[List.getElem?_take] at b
 split at b
 ·rw[List.getElem?_drop] at b
  rw[Qh,Nat.add_assoc];exact d _ _ b
 ·cases b
theorem X3J (h:Q2H σ):Sl 3 ROp σ (.slice (some ⟨G.a,0,none⟩) 42 42) Uf:=by
 refine ⟨_,42,rfl,by decide,by decide,by simp,?_⟩
 rintro _ ⟨⟩
 refine ⟨fun _=>rfl,fun i x a=>⟨cOp x,?_,rfl,rfl⟩⟩
 rw[←Q7Q i x a]
 exact Q32 h (i*3) 3
theorem Q0l {β:Type} {xs:List Opr} {v f:Value} (a:β→Opr→Bool×β) (k:β) (b:β→World→Prop) (D:Nat→Prop) (j: ∀s w,b s w→X3 w σ) (z:b k w) (t:Sl 3 ROp σ v xs)
 (y: ∀s x cs (w1:World) (K:Value→World→Prop),x∈xs→Kpt D w w1→b s w1→ROp σ x cs→cs.length=3→(∀w',Kpt D w w'→b (a s x).2 w'→K (.bool (a s x).1) w')→Z4 P f [.agg cs.toArray] w1 K)
 (h: ∀w',Kpt D w w'→b (J6 a k xs 0).2 w'→K (I (L6 (J6 a k xs 0).1)) w'):Q1 P F.t [v,f] w K:=Uk (by
 unfold K9
 ((try simp only[↓M1,M1,Mb,reduceIte]);repeat ((first | refine ld (by assumption) (by assumption) rfl ?_ | refine X7 (by assumption) (by assumption) rfl ?_ | refine Q8 (by assumption) ?_);(try simp only[↓M1,M1,Mb,reduceIte])))
 refine U3 xs.length (fun n w'=>Kpt D w w'∧ ∃s,b s w'∧J6 a k xs 0=J6 a s (xs.drop n) n) ⟨Kpt.refl,k,z,rfl⟩ fun n w1 d E l=>?_
 obtain ⟨u,s,l,g⟩:=l
 have o:=j s w1 l
 ((try simp only[↓M1,M1,Mb,reduceIte]);repeat ((first | refine ld (by assumption) (by assumption) rfl ?_ | refine X7 (by assumption) (by assumption) rfl ?_ | refine Q8 (by assumption) ?_);(try simp only[↓M1,M1,Mb,reduceIte])))
 refine Q7 (fun q=>?_) (fun q=>?_)
 ·have c:n<xs.length:=by simpa using q
  refine N0 t c fun p cs C e B=>?_
  refine Y4 o C e ?_
  refine y s xs[n] cs w1 _ (List.getElem_mem c) u l B e fun A m i=>?_
  rw[List.drop_eq_getElem_cons c] at g
  simp only[J6] at g
  refine Q7 (fun r=>?_) (fun r=>?_)
  ·rw[r] at g
   have:=h A m
   rw[g] at this
   exact this i
  ·rw[r] at g
   ((try simp only[↓M1,M1,Mb,reduceIte]);repeat ((first | refine ld (by assumption) (by assumption) rfl ?_ | refine X7 (by assumption) (by assumption) rfl ?_ | refine Q8 (by assumption) ?_);(try simp only[↓M1,M1,Mb,reduceIte])))
   exact Y5 t.max c ⟨m,_,i,by simpa using g⟩
 ·have c: ¬n<xs.length:=by simpa using q
  rw[List.drop_eq_nil_of_le (by omega)] at g
  have:=h w1 u
  rw[g] at this
  exact this l)
theorem Av {xs:List Opr} {v f:Value} (p:Opr→Bool) (hs:X3 w σ) (hv:Sl 3 ROp σ v xs)
 (hf: ∀x cs (w1:World) (K:Value→World→Prop),x∈xs→X3 w1 σ→ROp σ x cs→cs.length=3→(∀w',Below w1.heap.size w1 w'→K (.bool (p x)) w')→Z4 P f [.agg cs.toArray] w1 K)
 (h: ∀w',Below w.heap.size w w'→K (I (L6 (xs.findIdx? p))) w'):Q1 P F.t [v,f] w K:=by
 refine Q0l (fun (_:Unit) x=>(p x,())) () (fun _ w'=>Below w.heap.size w w') (fun _=>False) (fun _ w' hb=>hs.below hb) (Below.refl _ _) hv (fun s x cs w1 K hx hk hi hr hl hK=>hf x cs w1 K hx (hs.below hi) hr hl fun w' hb=>hK w' (.of_below (bt hi hb)) (bt hi hb)) fun w' hk hi=>?_
 rw[K6]
 simpa using h w' hi
theorem Q2H.le {σ a:Q6} (h:Q2H σ) (c: ∀b o,σ b=some o→a b=some o):Q2H a:=Z6.le h c
def Qv (n:X0):Option Nat:=Uf.findIdx? fun o=>decide (o.name=n)
theorem X2Z {a:X0} (i:X3 w σ) (t:Q2H σ) (h: ∀w',Below w.heap.size w w'→K (I (L6 (Qv a))) w'):Q1 P F.cM [S a] w K:=Q72 (by
 unfold Q2q
 refine E5 i fun p w1 σ1 e g=>?_
 simp only[Value.cells] at g
 refine X2L ?_
 ((try simp only[↓M1,M1,Mb,reduceIte]);repeat ((first | refine ld (by assumption) (by assumption) rfl ?_ | refine X7 (by assumption) (by assumption) rfl ?_ | refine Q8 (by assumption) ?_);(try simp only[↓M1,M1,Mb,reduceIte])))
 refine Av (fun o=>decide (o.name=a)) e.sat (X3J (t.le e.le)) (fun x cs f K u c n y l=>?_) fun f s=>?_
 ·refine Z8 (Q51 ?_)
  unfold Tq
  refine E5 c fun q j v b k=>?_
  have d:cs=[S x.name, .bool x.number, .bool x.text]:=n
  subst d
  have m:=b.sat
  have r:=g.up b
  simp only[Value.cells] at k
  ((try simp only[↓M1,M1,Mb,reduceIte]);repeat ((first | refine ld (by assumption) (by assumption) rfl ?_ | refine X7 (by assumption) (by assumption) rfl ?_ | refine Q8 (by assumption) ?_);(try simp only[↓M1,M1,Mb,reduceIte])))
  exact l j b.bel
 ·(try simp only[↓M1,M1,Mb,reduceIte])
  exact h f (bt e.bel s))
def takes (n:X0):Bool×Bool×Bool:=match Qv n with
 | none=>(false,false,false)
 | some i=>((Uf.getD i ⟨[],false,false⟩).number,(Uf.getD i ⟨[],false,false⟩).text,true)
theorem X2E {a:X0} (j:X3 w σ) (l:Q2H σ) (h: ∀w',Below w.heap.size w w'→K (.tuple #[.bool (takes a).1, .bool (takes a).2.1, .bool (takes a).2.2]) w'):Q1 P F.cm [S a] w K:=Q5Q (by
 unfold Q1d
 refine X2Z j l fun w1 b=>?_
 have c:=j.below b
 unfold takes at h
 cases d:Qv a with
 | none=>
  rw[d] at h
  simp only[L6]
  (try simp only[↓M1,M1,Mb,reduceIte])
  simp only[show decide ((-1:Int)<0)=true from rfl,↓M1,M1,Mb,reduceIte]
  exact h w1 b
 | some i=>
  rw[d] at h
  simp only at h
  have p:i<42:=(List.findIdx?_eq_some_iff_getElem.1 d).1
  have k:Uf[i]? =some (Uf.getD i ⟨[],false,false⟩):=by
   rw[List.getD,List.getElem?_eq_getElem (by exact p)];rfl
  generalize Uf.getD i ⟨[],false,false⟩=o at h k
  have f:=Q32 l (i*3) 3
  rw[Q7Q i o k] at f
  simp only[L6]
  have n:decide ((i:Int)<0)=false:=by simp
  simp only[n,↓M1,M1,Mb,reduceIte]
  have A: ∀{w:World} {K:Value→World→Prop},K (.pointer (some ((⟨G.a,0,none⟩:Addr).add (i*3)))) w→indexAddr P T.af (.pointer (some ⟨G.a,0,none⟩)) (I i) w K:=by
   intro w K h
   rw[X05 (by omega) (by omega)]
   simpa using h
  refine Dx (Below.refl _ _) ?_
  refine X4 (.pointer (some ((⟨G.a,0,none⟩:Addr).add (i*3)))) (fun w b=>A (X6 rfl)) ?_
  refine X4 (.pointer (some (((⟨G.a,0,none⟩:Addr).add (i*3)).add 1))) (fun t w b e=>by rw[e,fa];exact X6 rfl) ?_
  refine X4 (.pointer (some ((⟨G.a,0,none⟩:Addr).add (i*3)))) (fun w b=>A (X6 rfl)) ?_
  refine X4 (.pointer (some (((⟨G.a,0,none⟩:Addr).add (i*3)).add 2))) (fun t w b e=>by rw[e,fa];exact X6 rfl) ?_
  refine X4 (.bool o.number) (fun t w b e=>by rw[e];exact ld (c.below b) f rfl (X6 rfl)) ?_
  refine X4 (.bool o.text) (fun t w b e=>by rw[e];exact ld (c.below b) f rfl (X6 rfl)) ?_
  rintro _ _ _ _ _ _ m g rfl rfl rfl rfl rfl rfl
  exact h m (bt b g))
end Go.Proofs.YtjdiakhipmggjaaGreatDoor

namespace Go.Emb
open Go.RowKit Go.Hm
variable {P : Program} {w w0 w1 w' w'' : World} {K : Value → World → Prop} {σ σ0 σ1 σ' : Q6}
structure SLe (σ σ' : Q6) : Prop where
  le : ∀ b o, σ b = some o → σ' b = some o
theorem SLe.refl (σ:Q6):SLe σ σ:=⟨fun _ _ h=>h⟩
theorem SLe.step {w w':World} (h:SLe σ0 σ) (k:Stp w σ w' σ'):SLe σ0 σ':=⟨fun b o e=>k.le b o (h.le b o e)⟩
theorem SLe.more (h:SLe σ0 σ) (k:SLe σ σ'):SLe σ0 σ':=⟨fun b o e=>k.le b o (h.le b o e)⟩
structure Hst (w : World) (σ : Q6) (w' : World) (σ' : Q6) : Prop where
  stp : Stp w σ w' σ'
theorem Hst.sat (h:Hst w σ w' σ'):X3 w' σ':=h.stp.sat
section lifts
variable {α : Type} {R : Q6 → α → List Value → Prop} {sz : Nat} {v : Value} {xs : List α} {a : Addr} {cs : List Value}
theorem Sl.lift [Rep R] (h:Sl sz R σ0 v xs) (k:SLe σ0 σ):Sl sz R σ v xs:=h.le k.le
theorem Z6.lift (h:Z6 σ0 a cs) (k:SLe σ0 σ):Z6 σ a cs:=h.le k.le
theorem Xj.lift {r:Nat} {m:List (List UInt8×Value)} (h:Xj σ0 r m) (k:SLe σ0 σ):Xj σ r m:=h.le k.le
theorem RMe_lift {x:Hm.Met} (h:E7 σ0 x cs) (k:SLe σ0 σ):E7 σ x cs:=Rep.up k.le h
theorem RCl_lift {x:Cla} (h:U9 σ0 x cs) (k:SLe σ0 σ):U9 σ x cs:=Rep.up k.le h
theorem RFd_any {x:Fld} (h:S5 σ0 x cs):S5 σ x cs:=h
theorem RIn_any {x:Ins} (h:Qp σ0 x cs):Qp σ x cs:=h
theorem RCa_any {x:Cat} (h:Um σ0 x cs):Um σ x cs:=h
theorem Y2.step {b:Nat} (h:Y2 σ w b cs) (k:Stp w σ w' σ'):Y2 σ' w' b cs:=h.up k
theorem V7.step [Rep R] {B:Nat} {e:TypeId} (h:V7 B e sz R σ w v xs) (k:Stp w σ w' σ'):V7 B e sz R σ' w' v xs:=h.up k
end lifts
theorem W8 {Q:World→Prop} (c:X3 w σ) (h: ∀w' σ',Stp w σ w' σ'→Q w'): ∀w',Below w.heap.size w w'→Q w':=fun w' d=>h w' σ (Stp.of_below c d)
section plain
variable {k : IntKind} {t : TypeId} {ox oy : Operand} {a b : Int} {x y : Bool} {s u : List UInt8}
theorem N3 (h:K (.int k (k.wrap (a+b))) w):Q3 P .add t ox oy (.int k a) (.int k b) w K:=by rw[Gb];exact h
theorem Xw (c: -9223372036854775808≤a+b∧a+b≤9223372036854775807) (h:K (I (a+b)) w):Q3 P .add t ox oy (I a) (I b) w K:=by rw[Gb,G7 c.1 c.2];exact h
theorem Zp (c: -9223372036854775808≤a-b∧a-b≤9223372036854775807) (h:K (I (a-b)) w):Q3 P .sub t ox oy (I a) (I b) w K:=by rw[Q3K,G7 c.1 c.2];exact h
theorem Y9 (h:K (.bool (decide (a<b))) w):Q3 P .lss t ox oy (.int k a) (.int k b) w K:=by rw[Q3U];exact h
theorem Q5d (h:K (.bool (decide (a≤b))) w):Q3 P .leq t ox oy (.int k a) (.int k b) w K:=by rw[Q4h];exact h
theorem Q1G (h:K (.bool (decide (b<a))) w):Q3 P .gtr t ox oy (.int k a) (.int k b) w K:=by rw[Rt];exact h
theorem P7 (h:K (.bool (decide (b≤a))) w):Q3 P .geq t ox oy (.int k a) (.int k b) w K:=by rw[Q1B];exact h
theorem P4 (h:K (.bool (decide (a=b))) w):Q3 P .eql t ox oy (.int k a) (.int k b) w K:=by rw[Q1N];exact h
theorem Za (h:K (.bool (!decide (a=b))) w):Q3 P .neq t ox oy (.int k a) (.int k b) w K:=by rw[Q42];exact h
theorem Jj (h:K (.bool (!x)) w):J8 P .not (.bool x) w K:=by rw[Q47];exact h
theorem P6 (h:K (.bool (decide (s=u))) w):Q3 P .eql t ox oy (S s) (S u) w K:=by rw[Fc];exact h
theorem Jh (h:K (.bool (!decide (s=u))) w):Q3 P .neq t ox oy (S s) (S u) w K:=by rw[Bx];exact h
theorem Rk (c:s.length+u.length≤9223372036854775807) (h:K (S (s++u)) w):Q3 P .add t ox oy (S s) (S u) w K:=by rw[Q2e c];exact h
theorem Fw {cs:List Bool} {r:TypeId} (c:P.underlying t=some .string) (h:K (I s.length) w):X2 P .len [t] r cs [S s] w K:=by rw[S1 c];exact h
theorem X2t {v u:Value} (h:K v w):pick P (.bool true) v u w K:=by rw[M8];exact h
theorem X1P {v u:Value} (h:K u w):pick P (.bool false) v u w K:=by rw[L1];exact h
theorem M3 {v u:Value} (h:K (if x=true then v else u) w):pick P (.bool x) v u w K:=by rw[Hg];exact h
theorem J4 {vs:List Value} {i:Nat} {v:Value} (c:vs[i]? =some v) (h:K v w):ext P (.tuple vs.toArray) i w K:=by rw[Ug c];exact h
theorem J7 {t e:Prop} (h:t):X1 (.bool true) t e:=by rw[H6];exact h
theorem Z7 {t e:Prop} (h:e):X1 (.bool false) t e:=by rw[M7];exact h
theorem X3x {c:World→(Value→World→Prop)→Prop} (h:c w K):Q0 (.bool true) true w c K:=by rw[W5];exact h
theorem X3C {c:World→(Value→World→Prop)→Prop} (h:c w K):Q0 (.bool false) false w c K:=by rw[W9];exact h
theorem X22 {c:World→(Value→World→Prop)→Prop} (h:K undef w):Q0 (.bool true) false w c K:=by rw[S6];exact h
theorem X2q {c:World→(Value→World→Prop)→Prop} (h:K undef w):Q0 (.bool false) true w c K:=by rw[E1];exact h
end plain
section mem
variable {α : Type} {R : Q6 → α → List Value → Prop} {sz : Nat} {v : Value} {xs : List α} {a : Addr} {cs : List Value}
theorem Z1 {t:TypeId} (c:X3 w σ) (h: ∀a w' σ',Stp w σ w' σ'→Z6 σ' a cs→K (.pointer (some a)) w'):box P t (.agg cs.toArray) w K:=
 E5 c fun a w' σ' d f=>h a w' σ' d (by simpa [Value.cells] using f)
theorem U6 {t:TypeId} (f:X3 w σ) (d:v.cells= #[v]) (h: ∀a w' σ',Stp w σ w' σ'→Z6 σ' a [v]→K (.pointer (some a)) w'):box P t v w K:=
 E5 f fun a w' σ' g c=>h a w' σ' g (by rw[d] at c;exact c)
theorem Wv (h:Sl sz R σ v xs):v.cells= #[v]:=by
 obtain ⟨a,c,rfl,_⟩:=h;rfl
theorem W3 {t:TypeId} {k c:Nat} {d:TypeId} {sz by_:Nat} {z:Value} [tf:TF P t k c d] [tz:TZ P d sz by_ z] [nz:NZ sz] (h:K (.pointer (some (a.add c))) w):fieldAddr P t (.pointer (some a)) k w K:=by
 rw[fa];exact h
theorem J3 {t:TypeId} {k c:Nat} {d:TypeId} [tf:TF P t k c d] [tg:TG P d false] {cs:List Value} {v:Value} (f:cs[c]? =some v) (h:K v w):B7 P t (.agg cs.toArray) k w K:=by
 rw[X2r (v:=v) (by simpa using f)];exact h
end mem
theorem U0 {A:(World→World→Prop)→(World→Prop)→Prop} (d:X3 w σ) (h:A (fun w w'=>Below w.heap.size w w') (fun w'=>Hst w σ w' σ)):dr w A:=
 Ph _ _ ⟨Stp.of_below d (Below.refl _ _).drew⟩ (fun _ _ c f=>⟨c.stp.trans (Stp.of_below c.sat f)⟩) h
theorem N2 {α:Type} {R:Q6→α→List Value→Prop} {sz:Nat} {v:Value} {xs:List α} {t:TypeId} (c:X3 w σ) (d:Sl sz R σ v xs) (h: ∀a w' σ',Stp w σ w' σ'→Z6 σ' a [v]→K (.pointer (some a)) w'):box P t v w K:=
 U6 c (Wv d) h
section elems
variable {v : Value} {t e : TypeId} {by_ : Nat} {z : Value} {n : Nat}
theorem Q5w {xs:List Kd.X0} [TS P t e] [TZ P e 1 by_ z] (h:Sl 1 U8 σ v xs) (g:n<xs.length) (i: ∀a,Z6 σ a [S xs[n]]→xs[n].length≤U2→K (.pointer (some a)) w):indexAddr P t v (I n) w K:=
 N0 h g fun a cs c j d=>by obtain ⟨rfl,f⟩:=d;exact i a c f
theorem Q9x {xs:List Fld} [TS P t e] [TZ P e 3 by_ z] (h:Sl 3 S5 σ v xs) (g:n<xs.length) (i: ∀a,Z6 σ a [S xs[n].name,S xs[n].kind, .bool xs[n].tr]→S5 σ xs[n] [S xs[n].name,S xs[n].kind, .bool xs[n].tr]→K (.pointer (some a)) w):indexAddr P t v (I n) w K:=
 N0 h g fun a cs c j d=>by obtain ⟨rfl,f⟩:=d;exact i a c ⟨rfl,f⟩
end elems
end Go.Emb

namespace Go.Hm
open Go.Kd
abbrev Wy:=X0→Option Cla
def Z3 (l:List Cla) (n:X0):Option Nat:=l.findIdx? fun c=>decide (c.name=n)
def lk (l:List Cla):Wy:=fun n=>(Z3 l n).bind (l[·]?)
def U4 (c:Cla):List X0:=c.super::c.like
def U1:X0:=[79,98,106,101,99,116]
def L5:X0:=[70,97,117,108,116]
def H8:X0:=[110,117,108,108]
def D0:X0:=[116,101,120,116]
def Qm:X0:=[119,104,97,116]
def U5:List X0:=[[78,117,108,108,70,97,117,108,116],[73,110,100,101,120,70,97,117,108,116],[67,97,115,116,70,97,117,108,116],[90,101,114,111,70,97,117,108,116],[82,111,111,109,70,97,117,108,116],[67,97,108,108,70,97,117,108,116]]
def I2:List Cla:=[⟨U1,[],[],false,false,false,[],[]⟩,⟨L5,U1,[],false,false,false,[⟨Qm,D0,false⟩],[]⟩]++U5.map fun n=>⟨n,L5,[],false,false,true,[],[]⟩
def Vh (L:Wy):Nat→List X0→List X0→List X0
 | 0,_,a=>a
 | _,[],a=>a
 | f+1,n::b,a=>match L n with
  | none=>Vh L f b a
  | some c=>if n∈a then Vh L f b a else Vh L f (b++U4 c) (a++[n])
def weigh (l:List Cla) (a:List X0):Nat:=(l.map fun c=>if c.name∈a then 0 else (U4 c).length).sum
def G5 (l:List Cla) (n:X0):List X0:=Vh (lk l) (1+weigh l []) [n] []
def Q1r (l:List Cla) (n:X0):Bool:=(Z3 l n).isSome
def N1 (l:List Cla) (s:X0):Bool:=decide (s=H8)||(right s&&(plain (base s).1||Q1r l (base s).1))
def Xo (l:List Cla) (a b:X0):Bool:=
 if !N1 l a|| !N1 l b then false else if a=b then true else if plain a||plain b then false else if a=H8 then true
 else if elem a≠[] then decide (b=U1) else (G5 l a).contains b
def I4 (L:Wy):Nat→X0→List Cla
 | 0,_=>[]
 | f+1,n=>match L n with
  | none=>[]
  | some c=>c::I4 L f c.super
def chain (l:List Cla) (n:X0):List Cla:=I4 (lk l) (l.length+1) n
def Y6 (l:List Cla) (n:X0):List Fld:=(chain l n).reverse.flatMap (·.fields)
def Ju (l:List Cla) (n f:X0):Option Nat:=(Y6 l n).findIdx? fun x=>decide (x.name=f)
def F7 (c:Cla) (n:X0):Option Hm.Met:=c.methods.find? fun m=>decide (m.name=n)
def Co (L:Wy):Nat→Cla→X0→Option (X0×Hm.Met)
 | 0,_,_=>none
 | f+1,c,n=>c.like.findSome? fun u=>match L u with
  | none=>none
  | some d=>match F7 d n with
   | some m=>some (u,m)
   | none=>Co L f d n
def V4 (l:List Cla) (k n:X0):Option (X0×Hm.Met):=
 match (chain l k).findSome? fun c=>(F7 c n).map (c.name,·) with
 | some r=>some r
 | none=>(chain l k).findSome? fun c=>Co (lk l) (l.length+1) c n
def A9 (l:List Cla) (n:X0):Bool:=match lk l n with
 | some c=> !c.abs
 | none=>false
def H9:List X0→X0
 | []=>[]
 | [a]=>a
 | a::b::r=>a++[44]++H9 (b::r)
def Qw (m:Hm.Met):X0:=[40]++H9 m.params++[41]++m.result
def O8 (l:List Cla) (s:X0):Bool:= !decide (s=H8)&&N1 l s
def Yx (l:List Cla) (c:Cla):Bool:=c.fields.any fun f=>(Ju l c.super f.name).isSome
def B6 (l:List Cla) (c:Cla):Bool:=c.fields.any (fun f=> !O8 l f.kind)||c.methods.any fun m=>(!O8 l m.result&& !decide (m.result=[]))||m.params.any fun s=> !O8 l s
def Lk (l:List Cla) (n:X0):List Hm.Met:=(G5 l n).flatMap fun u=>((lk l u).map (·.methods)).getD []
def Nt (a:List Hm.Met):Bool:=a.any fun x=>a.any fun y=>decide (x.name=y.name)&& !decide (Qw x=Qw y)
def Zj (l:List Cla) (c:Cla):Bool:=Nt (Lk l c.name)
def Zh (l:List Cla) (k n:X0):Bool:=match V4 l k n with
 | none=>true
 | some r=>r.2.abs
def Dv (l:List Cla) (c:Cla):Bool:= !c.abs&&(Lk l c.name).any fun m=>Zh l c.name m.name
def V9 (l:List Cla) (c:Cla):Nat:=if Yx l c then 64 else if B6 l c then 65 else if Zj l c then 66 else if Dv l c then 67 else 0
def Qy (l:List Cla) (n:X0):Bool:=match lk l n with
 | none=>true
 | some d=>d.iface||d.fin
def R5 (l:List Cla) (n:X0):Bool:=match lk l n with
 | none=>true
 | some d=> !d.iface
def D2 (l:List Cla) (c:Cla):Nat:=if Qy l c.super then 61 else if c.like.any (R5 l) then 62 else 0
def T1 (l:List Cla) (c:Cla):Bool:=(U4 c).any fun n=>(G5 l n).contains c.name
def Qb (l:List Cla) (frm:Nat):Nat→List Nat→Nat→List Nat
 | 0,a,_=>a
 | f+1,a,i=>if i<frm then a else if i∈a then a else ((U4 (l.getD i Cla.zero)).foldl (fun a n=>Qb l frm f a ((Z3 l n).getD 0)) a)++[i]
def W0 (l:List Cla) (frm:Nat):List Nat:=((List.range l.length).drop frm).foldl (fun a i=>Qb l frm (l.length+1) a i) []
end Go.Hm

namespace Go.Emb
open Go.RowKit Go.Hm
variable {P : Program} {w w0 w1 w' w'' : World} {K : Value → World → Prop} {σ σ0 σ1 σ' : Q6}
def J9 {α:Type} (B:Nat) (e:TypeId) (sz:Nat) (R:Q6→α→List Value→Prop) (σ:Q6) (w:World) (v:Value) (xs:List α):Prop:=
 ∃a c,v= .slice a xs.length c∧xs.length≤c∧c≤maxLen∧(∀b,a=some b→b.spot=none∧B≤b.block∧b.block<w.heap.size∧σ b.block=none)∧(0<c→ ∃g d f,a=some ⟨g,d,none⟩∧B≤g∧σ g=none∧w.heap[g]? =some (.cells f e (0,0))∧d+c*sz≤f.size∧ ∀i x,xs[i]? =some x→R σ x ((f.toList.drop (d+i*sz)).take sz))
section
variable {α : Type} {R : Q6 → α → List Value → Prop} {B sz : Nat} {e : TypeId} {v u : Value} {xs ys : List α}
theorem J9.of_acc (h:V7 B e sz R σ w v xs):J9 B e sz R σ w v xs:=by
 obtain ⟨cells,p,l,n⟩:=h
 rcases p.2 with ⟨rfl,o⟩ | ⟨g,f,d,rfl,k,m,b,a,q,c⟩
 ·exact ⟨none,0,by rw[o],by omega,by simp,by simp,fun h=>by omega⟩
 ·refine ⟨_,f,rfl,b,a,by rintro _ ⟨⟩;exact ⟨rfl,k,(Array.getElem?_eq_some_iff.1 m).1,l g rfl⟩,fun _=>⟨g,0,d,rfl,k,l g rfl,m,by omega,fun i x j=>?_⟩⟩
  have r:i<xs.length:=(List.getElem?_eq_some_iff.1 j).1
  have hh:i*sz+sz≤xs.length*sz:=by rw[←Nat.succ_mul];exact Nat.mul_le_mul_right _ r
  have:=n i x j
  rw[←c,List.drop_take,List.take_take] at this
  rw[Nat.zero_add]
  rwa [show min sz (xs.length*sz-i*sz)=sz by omega] at this
theorem J9.mem (h:J9 B e sz R σ w v xs) {k:Nat} (c:v.ownBlock=some k):B≤k∧k<w.heap.size∧σ k=none:=by
 obtain ⟨a,d,rfl,f,i,b,g⟩:=h
 cases a with
 | none=>cases c
 | some a=>cases c;exact (b a rfl).2
theorem J9.up [hr:Rep R] (h:J9 B e sz R σ w v xs) (d:Stp w σ w' σ'):J9 B e sz R σ' w' v xs:=by
 obtain ⟨a,l,rfl,q,z,c,o⟩:=h
 refine ⟨a,l,rfl,q,z,fun b f=>⟨(c b f).1,(c b f).2.1,Nat.lt_of_lt_of_le (c b f).2.2.1 d.bel.size,(d.old _ (c b f).2.2.1).trans (c b f).2.2.2⟩,fun r=>?_⟩
 obtain ⟨g,j,k,rfl,y,A,n,t,p⟩:=o r
 have m:=(Array.getElem?_eq_some_iff.1 n).1
 exact ⟨g,j,k,rfl,y,(d.old g m).trans A,(d.bel.block g m).trans n,t,fun i x s=>hr.up d.le (p i x s)⟩
theorem J9.step [hr:Rep R] (h:J9 B e sz R σ w v xs) (a:Stp w σ w' σ'):J9 B e sz R σ' w' v xs:=h.up a
theorem J9.kp {D:Nat→Prop} (h:J9 B e sz R σ w v xs) (m:Kpt D w w') (l: ∀k,v.ownBlock=some k→ ¬D k):J9 B e sz R σ w' v xs:=by
 obtain ⟨a,j,rfl,q,z,c,o⟩:=h
 refine ⟨a,j,rfl,q,z,fun b d=>⟨(c b d).1,(c b d).2.1,Nat.lt_of_lt_of_le (c b d).2.2.1 m.size,(c b d).2.2.2⟩,fun r=>?_⟩
 obtain ⟨g,f,i,rfl,t,A,n,s,p⟩:=o r
 have y:=(Array.getElem?_eq_some_iff.1 n).1
 exact ⟨g,f,i,rfl,t,A,(m.block g y (l g rfl)).trans n,s,p⟩
theorem Q1v {b t:TypeId} {cs:List Bool} [ts:TS P b e] (h:J9 B e sz R σ w v xs) (d:K (I xs.length) w):X2 P .len [b] t cs [v] w K:=by
 obtain ⟨a,c,rfl,_⟩:=h
 rw[Q1K];exact d
theorem Q5K {t:TypeId} {c:Nat} {z:Value} [TS P t e] [TZ P e sz c z] (h:J9 B e sz R σ w v xs) {n:Nat} (p:n<xs.length)
 (o: ∀a cs,(∀j u,cs[j]? =some u→w.cell? (a.add j)=some u)→cs.length=sz→R σ xs[n] cs→K (.pointer (some a)) w):indexAddr P t v (I n) w K:=by
 obtain ⟨a,i,rfl,r,A,l,k⟩:=h
 obtain ⟨g,d,f,rfl,y,C,q,s,m⟩:=k (by omega)
 rw[Sr (by omega) (by omega)]
 have hh:n*sz+sz≤i*sz:=by rw[←Nat.succ_mul];exact Nat.mul_le_mul_right _ (by omega)
 refine o _ ((f.toList.drop (d+n*sz)).take sz) ?_ ?_ (m n _ (by simp[p]))
 ·intro j u b
  rw[List.getElem?_take] at b
  split at b
  ·rw[List.getElem?_drop] at b
   unfold World.cell?
   rw[S9,S9,Qh,Qh,I8 (I8 rfl _)]
   simp only[q]
   simpa using b
  ·cases b
 ·rw[List.length_take,List.length_drop,Array.length_toList];omega
theorem X4b {t:TypeId} {m:Nat} {z:Value} [ts:TS P t e] [tz:TZ P e sz m z] (h:J9 B e sz R σ w v xs) (l:Nat) (M:l≤xs.length)
 (C: ∀j,J9 B e sz R σ w j (xs.drop l)→(j.ownBlock=v.ownBlock∨j.ownBlock=none)→K j w):S4 P t v (some (I l)) none none w K:=by
 obtain ⟨a,c,rfl,y,N,d,p⟩:=h
 have hh: ∀w:World,(Instr.sliceBounds true xs.length c (some (I l)) none none).run P w= .ok (l,xs.length,c) w:=by
  intro w
  have D:(l:Int)≤xs.length:=by omega
  simp[Instr.sliceBounds,Instr.sliceBound,asIntOf,y,D]
  intros;omega
 unfold S4
 have:(Instr.sliceAt t (.slice a xs.length c) (some (I l)) none none).run P w= .ok (.slice (if c=l then a else a.map (·.add (l*sz))) (xs.length-l) (c-l)) w:=by
  simp[Instr.sliceAt,run_underlying ts.h,Instr.slice,hh,L3 tz]
 rw[Y0 this]
 refine C _ ⟨_,c-l,by rw[List.length_drop],by rw[List.length_drop];omega,by omega,?_,fun J=>?_⟩ ?_
 ·intro b k
  split at k
  ·exact d b k
  ·cases a with
   | none=>cases k
   | some a=>cases k;exact ⟨I8 (d a rfl).1 _,by rw[S9];exact (d a rfl).2⟩
 ·have r:=p (by omega)
  clear p
  obtain ⟨g,n,o,rfl,A,E,H,L,s⟩:=r
  refine ⟨g,n+l*sz,o,?_,A,E,H,?_,fun i x q=>?_⟩
  ·rw[if_neg (by omega)];simp only[Option.map_some];congr 1;unfold Addr.add;split<;>simp_all
  ·have:l*sz+(c-l)*sz=c*sz:=by rw[←Nat.add_mul];congr 1;omega
   omega
  ·rw[List.getElem?_drop] at q
   have:=s _ _ q
   rwa [Nat.add_mul,←Nat.add_assoc] at this
 ·left
  by_cases f:c=l
  ·rw[if_pos f];cases a<;>rfl
  ·rw[if_neg f]
   cases a with
   | none=>rfl
   | some a=>simp only[Option.map_some,Value.ownBlock,S9]
theorem Q8b {t ty:TypeId} {V:Nat} {z:Value} {cs:List Bool} [ts:TS P t e] [tz:TZ P e sz V z] [hr:Rep R] (W:X3 w σ) (hB:B≤w.heap.size) (ha:J9 B e sz R σ w v xs) (H:Sl sz R σ u ys) (hz:(z.cells.size==sz&&decide (0<sz))=true)
 (Q:(xs.length+ys.length)*V≤140737488355328) (hm:xs.length+ys.length≤1000000000000)
 (h: ∀s w',Kpt (fun k=>v.ownBlock=some k∧B≤k∧σ k=none) w w'→X3 w' σ→J9 B e sz R σ w' s (xs++ys)→((∃a m,v= .slice a xs.length m∧s= .slice a (xs.length+ys.length) m)∨(Below w.heap.size w w'∧ ∀k,s.ownBlock=some k→w.heap.size≤k))→K s w'):X2 P .append [t,t] ty cs [v,u] w K:=by
 obtain ⟨C,c,rfl,c1,c2,D,c3⟩:=ha
 obtain ⟨a,m,d,rfl,n1,n2,n3,n4,n5⟩:=H.cells W
 obtain ⟨i,hi,E,an,L⟩:=tz.info
 simp only[Bool.and_eq_true,beq_iff_eq,decide_eq_true_eq] at hz
 obtain ⟨aw,bj⟩:=hz
 have J: ∀s w',(Builtin.append_ #[t,t] ty #[.slice C xs.length c, .slice a ys.length m]).run P w= .ok s w'→Kpt (fun k=>(Value.slice C xs.length c).ownBlock=some k∧B≤k∧σ k=none) w w'→J9 B e sz R σ w' s (xs++ys)→((∃a m,(Value.slice C xs.length c)= .slice a xs.length m∧s= .slice a (xs.length+ys.length) m)∨(Below w.heap.size w w'∧ ∀k,s.ownBlock=some k→w.heap.size≤k))→X2 P .append [t,t] ty cs [.slice C xs.length c, .slice a ys.length m] w K:=by
  intro s w' A hk hq ao
  have O:(builtin .append #[t,t] ty cs.toArray #[.slice C xs.length c, .slice a ys.length m]).run P w= .ok (.value s) w':=by
   simp[builtin,A]
  unfold X2
  rw[T3];unfold P5
  rw[O]
  exact h s w' hk (fun k o ho=>by rw[hk.block k (W.lt ho) fun e=>by rw[e.2.2] at ho;cases ho];exact W k o ho) hq ao
 have q:Src P i.size t (.slice a ys.length m) ys.length d w:=by
  cases a with
  | some b=>exact Src.ofSlice w ts.h b ys.length m d (by rw[E];exact n2) (n3 b rfl) n4
  | none=>
   have hy:ys.length=0:=by
    obtain ⟨a',a1,e',q1,_,Z,_⟩:=H;injection e' with e1 e2 e3;have:=n1 rfl;omega
   have hn:d=[]:=List.eq_nil_of_length_eq_zero (by rw[n2,hy];simp)
   subst hn
   rw[hy];exact Src.ofNil w ts.h m
 by_cases r:xs.length+ys.length≤c
 ·by_cases M:c=0
  ·-- nothing at all
   subst M
   have p:xs=[]:=List.eq_nil_of_length_eq_zero (by omega)
   have hy:ys=[]:=List.eq_nil_of_length_eq_zero (by omega)
   subst p hy
   have hn:d=[]:=List.eq_nil_of_length_eq_zero (by simpa using n2)
   subst hn
   refine J (.slice C 0 0) w ?_ Kpt.refl ⟨C,0,rfl,by simp,by simp,D,fun h=>by omega⟩ (.inl ⟨_,_,rfl,rfl⟩)
   have hl:=q.len w
   have y:=q.cells
   simp only[List.length_nil] at hl y⊢
   cases C<;>simp[Builtin.append_,run_underlying ts.h,sizeOf,typeInfo,hi,hl,y,storeCells]
  ·obtain ⟨g,l,f,rfl,q1,q2,Z,q4,q5⟩:=c3 (by omega)
   have e1:(xs.length+ys.length)*sz≤c*sz:=Nat.mul_le_mul_right _ r
   rw[Nat.add_mul] at e1
   have ab:=run_storeCells_at P g (l+xs.length*sz) e d 0 f w Z (by omega) n4
   simp only[Nat.add_zero] at ab
   obtain ⟨X,av⟩:=Uy (cs:=(f.toList.take (l+xs.length*sz)++d++f.toList.drop (l+xs.length*sz+d.length)).toArray) Z
   refine J (.slice (some ⟨g,l,none⟩) (xs.length+ys.length) c) _ ?_ (Kpt.of_upd X ⟨rfl,q1,q2⟩) ?_ (.inl ⟨_,_,rfl,rfl⟩)
   ·have hl:=q.len w
    have y:=q.cells
    rw[E] at y
    simp[Builtin.append_,run_underlying ts.h,sizeOf,typeInfo,hi,hl,y,E,r,Addr.add_lit,ab]
   ·refine ⟨_,c,by rw[List.length_append],by rw[List.length_append];exact r,c2,fun b Q=>⟨(D b Q).1,(D b Q).2.1,by rw[X.size];exact (D b Q).2.2.1,(D b Q).2.2.2⟩,fun _=>⟨g,l,_,rfl,q1,q2,av,?_,fun j x p=>?_⟩⟩
    ·simp;omega
    ·by_cases U:j<xs.length
     ·rw[List.getElem?_append_left U] at p
      have:=q5 j x p
      have hh:j*sz+sz≤xs.length*sz:=by rw[←Nat.succ_mul];exact Nat.mul_le_mul_right _ U
      have e2:((f.toList.take (l+xs.length*sz)++d++f.toList.drop (l+xs.length*sz+d.length)).toArray.toList.drop (l+j*sz)).take sz=(f.toList.drop (l+j*sz)).take sz:=by
       rw[List.toList_toArray,List.append_assoc]
       rw[List.drop_append_of_le_length (by rw[List.length_take,Array.length_toList (xs:=f)];omega),List.take_append_of_le_length (by rw[List.length_drop,List.length_take,Array.length_toList (xs:=f)];omega),List.drop_take,List.take_take]
       congr 1;omega
      rw[e2];exact this
     ·rw[List.getElem?_append_right (by omega)] at p
      have:=n5 _ _ p
      have ay:j-xs.length<ys.length:=(List.getElem?_eq_some_iff.1 p).1
      have hh:(j-xs.length)*sz+sz≤ys.length*sz:=by rw[←Nat.succ_mul];exact Nat.mul_le_mul_right _ ay
      have bf:j*sz=xs.length*sz+(j-xs.length)*sz:=by rw[←Nat.add_mul];congr 1;omega
      have e2:((f.toList.take (l+xs.length*sz)++d++f.toList.drop (l+xs.length*sz+d.length)).toArray.toList.drop (l+j*sz)).take sz=(d.drop ((j-xs.length)*sz)).take sz:=by
       rw[List.toList_toArray,List.append_assoc]
       rw[List.drop_append,List.drop_eq_nil_of_le (by rw[List.length_take,Array.length_toList (xs:=f)];omega),List.nil_append,List.length_take,Array.length_toList (xs:=f),
        show l+j*sz-min (l+xs.length*sz) f.size=(j-xs.length)*sz by omega,
        List.drop_append_of_le_length (by omega),List.take_append_of_le_length (by rw[List.length_drop];omega)]
      rw[e2];exact this
 ·-- a new row
  have N: ∃n:List Value,n.length=xs.length*sz∧(Builtin.firstCells i.size xs.length (.slice C xs.length c)).run P w.drew= .ok n.toArray w.drew∧ ∀j x,xs[j]? =some x→R σ x ((n.drop (j*sz)).take sz):=by
   by_cases M:c=0
   ·subst M
    have p:xs=[]:=List.eq_nil_of_length_eq_zero (by omega)
    subst p
    refine ⟨[],by simp,?_,by simp⟩
    cases C with
    | none=>exact run_firstCells_none w.drew i.size 0 0 0
    | some a'=>exact run_firstCells_some w.drew i.size 0 a' 0 0 [] (by simp) (by intro _ _ h';simp at h')
   ·obtain ⟨g,l,f,rfl,q1,q2,Z,q4,q5⟩:=c3 (by omega)
    have e1:xs.length*sz≤c*sz:=Nat.mul_le_mul_right _ c1
    refine ⟨(f.toList.drop l).take (xs.length*sz),by rw[List.length_take,List.length_drop,Array.length_toList (xs:=f)];omega,?_,fun j x p=>?_⟩
    ·refine run_firstCells_some w.drew i.size xs.length ⟨g,l,none⟩ xs.length c _ (by rw[List.length_take,List.length_drop,Array.length_toList (xs:=f),E];omega) (fun j u H=>?_)
     rw[List.getElem?_take] at H
     split at H
     ·rw[List.getElem?_drop] at H
      have ar:w.drew.heap[g]? =some (.cells f e (0,0)):=Z
      unfold World.cell?
      rw[S9,Qh,I8 rfl]
      simp only[ar]
      simpa using H
     ·cases H
    ·have U:j<xs.length:=(List.getElem?_eq_some_iff.1 p).1
     have hh:j*sz+sz≤xs.length*sz:=by rw[←Nat.succ_mul];exact Nat.mul_le_mul_right _ U
     have:=q5 j x p
     rw[List.drop_take,List.take_take,List.drop_drop,show min sz (xs.length*sz-j*sz)=sz by omega]
     exact this
  obtain ⟨n,o1,o2,o3⟩:=N
  have hg:c<xs.length+ys.length:=by omega
  have A:=run_append_grow_src (P:=P) w t t ty e i z ts.h hi L C xs.length c n o2 (.slice a ys.length m) ys.length d q hg (by omega) (growslice_fits hg (by rw[an];exact Q))
  have ax:=grownCap_le_maxLen w (xs.length+ys.length) c e (by simp only[maxLen];omega)
  have am:=grownCap_ge w (xs.length+ys.length) c e
  have hL:(n++d).length=(xs.length+ys.length)*sz:=by rw[List.length_append,o1,n2,Nat.add_mul]
  refine J _ _ A ?_ ?_ (.inr ⟨(Below.refl _ _).drew.alloc (Nat.le_refl _) _,by intro k hk;cases hk;exact Nat.le_refl _⟩)
  ·exact Kpt.of_below ((Below.refl _ _).drew.alloc (Nat.le_refl _) _)
  ·refine ⟨_,_,by rw[List.length_append],by rw[List.length_append];exact am,ax,by rintro _ ⟨⟩;exact ⟨rfl,hB,(Array.getElem?_eq_some_iff.1 (heap_alloc_new w.drew _)).1,W.none (Nat.le_refl _)⟩,fun _=>⟨w.heap.size,0,_,rfl,hB,W.none (Nat.le_refl _),heap_alloc_new w.drew _,?_,fun j x p=>?_⟩⟩
   ·rw[Array.size_append,List.size_toArray,hL,size_zeroCells,aw,←Nat.add_mul]
    rw[Nat.zero_add];exact Nat.mul_le_mul_right _ (by omega)
   ·rw[Nat.zero_add,Array.toList_append]
    have U:j<xs.length+ys.length:=by have:=(List.getElem?_eq_some_iff.1 p).1;rwa [List.length_append] at this
    have hh:j*sz+sz≤(xs.length+ys.length)*sz:=by rw[←Nat.succ_mul];exact Nat.mul_le_mul_right _ U
    rw[List.drop_append_of_le_length (by simp only[List.toList_toArray];omega),List.take_append_of_le_length (by rw[List.length_drop];simp only[List.toList_toArray];omega)]
    simp only[List.toList_toArray]
    by_cases Y:j<xs.length
    ·rw[List.getElem?_append_left Y] at p
     rw[La n d xs.length j o1 Y]
     exact o3 j x p
    ·rw[List.getElem?_append_right (by omega)] at p
     have:=n5 _ _ p
     rw[show j*sz=n.length+(j-xs.length)*sz by rw[o1,←Nat.add_mul];congr 1;omega,List.drop_append]
     simpa [List.drop_eq_nil_of_le] using this
end
theorem L9 {b:Nat} (h:w1.heap.size≤b) (k:Stp w σ w1 σ1):w.heap.size≤b:=Nat.le_trans k.bel.size h
theorem M0 {t:TypeId} {sz a:Nat} {z:Value} [tz:TZ P t sz a z] (c:X3 w σ) (h: ∀b w' σ',w.heap.size≤b→Stp w σ w' σ'→Y2 σ' w' b z.cells.toList→K (.pointer (some ⟨b,0,none⟩)) w'):V6 P t w K:=
 Ti c fun b w' d f g=>h b w' σ d f g
theorem Hk {t:TypeId} {cs:List Value} (a:X3 w σ) (h: ∀b w' σ',w.heap.size≤b→Stp w σ w' σ'→Y2 σ' w' b cs→K (.pointer (some ⟨b,0,none⟩)) w'):box P t (.agg cs.toArray) w K:=
 Q5W a fun b w' c f d=>h b w' σ c f (by simpa [Value.cells] using d)
theorem G8 {t:TypeId} {sz a:Nat} {z:Value} [tz:TZ P t sz a z] {b:Nat} {cs ds:List Value} (d:Y2 σ w b cs) (j:Stp w0 σ0 w σ) (l:w0.heap.size≤b) (k:cs.length=sz) (i:ds.length=sz) (f: ∀u∈ds,u.oneCell'=true)
 (h: ∀w',Hst w0 σ0 w' σ→Y2 σ w' b ds→K undef w'):X9 P t (.pointer (some ⟨b,0,none⟩)) (.agg ds.toArray) w K:=
 Wc d k i (by rw[List.all_toArray];exact List.all_eq_true.2 f) fun w' g c=>h w' ⟨g.stp j l d.1⟩ c
structure Nxt (D : Nat → Prop) (w : World) (σ : Q6) (w' : World) (σ' : Q6) : Prop where
  kp : Kpt D w w'
  le : SLe σ σ'
  old : ∀ k, k < w.heap.size → σ' k = σ k
  sat : X3 w' σ'
theorem Nxt.of_stp {D:Nat→Prop} (h:Stp w σ w' σ'):Nxt D w σ w' σ':=⟨Kpt.of_below h.bel,⟨h.le⟩,h.old,h.sat⟩
theorem Nxt.mono {D D':Nat→Prop} (h:Nxt D w σ w' σ') (a: ∀k,k<w.heap.size→D k→D' k):Nxt D' w σ w' σ':=⟨h.kp.mono a,h.le,h.old,h.sat⟩
theorem Nxt.trans {D:Nat→Prop} (h:Nxt D w σ w' σ') (k:Nxt D w' σ' w'' σ1):Nxt D w σ w'' σ1:=
 ⟨h.kp.trans k.kp,h.le.more k.le,fun i a=>(k.old i (Nat.lt_of_lt_of_le a h.kp.size)).trans (h.old i a),k.sat⟩
theorem Y2.nx {D:Nat→Prop} {b:Nat} {cs:List Value} (h:Y2 σ w b cs) (k:Nxt D w σ w' σ') (d: ¬D b):Y2 σ' w' b cs:=by
 have a:=h.lt
 obtain ⟨c,e,f⟩:=h
 exact ⟨(k.old b a).trans c,e,(k.kp.block b a d).trans f⟩
theorem C8.nx {D:Nat→Prop} {r:Nat} {m:List (List UInt8×Value)} (h:C8 σ w r m) (k:Nxt D w σ w' σ') (a: ¬D r):C8 σ' w' r m:=
 ⟨(k.old r h.lt).trans h.1,(k.kp.block r h.lt a).symm▸h.2⟩
section
variable {α : Type} {R : Q6 → α → List Value → Prop} {B sz : Nat} {e : TypeId} {v u : Value} {xs : List α} {x : α}
theorem V7.nx [hr:Rep R] {D:Nat→Prop} (h:V7 B e sz R σ w v xs) (k:Nxt D w σ w' σ') (g: ∀k,v.ownBlock=some k→ ¬D k):V7 B e sz R σ' w' v xs:=by
 have f:=h.kp k.kp g
 obtain ⟨cells,b,j,c⟩:=f
 refine ⟨cells,b,fun i a=>(k.old i (h.mem i a).2.1).trans (j i a),fun i x d=>hr.up k.le.le (c i x d)⟩
theorem J9.nx [hr:Rep R] {D:Nat→Prop} (h:J9 B e sz R σ w v xs) (k:Nxt D w σ w' σ') (C: ∀k,v.ownBlock=some k→ ¬D k):J9 B e sz R σ' w' v xs:=by
 obtain ⟨a,l,rfl,q,z,c,o⟩:=h
 refine ⟨a,l,rfl,q,z,fun b d=>⟨(c b d).1,(c b d).2.1,Nat.lt_of_lt_of_le (c b d).2.2.1 k.kp.size,(k.old _ (c b d).2.2.1).trans (c b d).2.2.2⟩,fun r=>?_⟩
 obtain ⟨g,f,j,rfl,y,A,n,t,p⟩:=o r
 have m:=(Array.getElem?_eq_some_iff.1 n).1
 exact ⟨g,f,j,rfl,y,(k.old g m).trans A,(k.kp.block g m (C g rfl)).trans n,t,fun i x s=>hr.up k.le.le (p i x s)⟩
theorem Jp {t o:TypeId} {c:Nat} {z:Value} {cs:List Bool} {A:Value→Value→World→Prop} [ts:TS P t e] [tz:TZ P e sz c z] [hr:Rep R] (n:Stp w0 σ0 w σ) (C:V7 w0.heap.size e sz R σ w v xs) (q:R σ x u.cells.toList) (y:u.cells.size=sz) (p:(z.cells.size==sz&&decide (0<sz))=true) (l:(decide (0<sz)&&decide ([u].length*sz≤16777216))=true)
 (D:(xs.length+1)*c≤140737488355328) (r:xs.length+1≤9223372036854775807)
 (h: ∀s a w' σ',Nxt (fun k=>v.ownBlock=some k) w σ w' σ'→Stp w0 σ0 w' σ'→V7 w0.heap.size e sz R σ' w' a (xs++[x])→(a.ownBlock=v.ownBlock∨ ∀k,a.ownBlock=some k→w.heap.size≤k)→A s a w'):
 buildSlice P t 1 [(0,u)] w (fun s w=>X2 P .append [t,t] o cs [v,s] w (fun a w=>A s a w)):=by
 refine T4 n.sat [u] [x] rfl rfl (by simpa using y) l ⟨q,trivial⟩ fun s w1 σ1 b f=>?_
 refine app (n.trans b) (C.up b) f p (by simpa using D) (by simpa using r) fun a m E d g hat=>?_
 have i:Kpt (fun k=>v.ownBlock=some k) w m:=(Kpt.of_below b.bel).trans (Kpt.of_grown E fun k b=>b)
 refine h s a m σ1 ⟨i,⟨b.le⟩,b.old,d.sat⟩ d g ?_
 rcases hat with hat | hat
 ·exact .inl hat
 ·exact .inr fun k j=>Nat.le_trans b.bel.size (hat k j)
theorem Wm {t g:TypeId} {b:Nat} {z:Value} {cs:List Bool} {ys:List α} [ts:TS P t e] [tz:TZ P e sz b z] [hr:Rep R] (q:Stp w0 σ0 w σ) (p:V7 w0.heap.size e sz R σ w v xs) (l:Sl sz R σ u ys) (i:(z.cells.size==sz&&decide (0<sz))=true)
 (o:(xs.length+ys.length)*b≤140737488355328) (m:xs.length+ys.length≤9223372036854775807)
 (h: ∀a w',Nxt (fun k=>v.ownBlock=some k) w σ w' σ→Stp w0 σ0 w' σ→V7 w0.heap.size e sz R σ w' a (xs++ys)→(a.ownBlock=v.ownBlock∨ ∀k,a.ownBlock=some k→w.heap.size≤k)→K a w'):X2 P .append [t,t] g cs [v,u] w K:=
 app q p l i o m fun a j r c d f=>h a j ⟨Kpt.of_grown r fun k n=>n,SLe.refl _,fun _ _=>rfl,c.sat⟩ c d f
end
section
variable {α : Type} {R : Q6 → α → List Value → Prop} {B sz : Nat} {e : TypeId} {v u : Value} {xs : List α} {x : α}
theorem J9.mono {B':Nat} (h:J9 B e sz R σ w v xs) (k:B'≤B):J9 B' e sz R σ w v xs:=by
 obtain ⟨a,f,rfl,l,p,d,m⟩:=h
 refine ⟨a,f,rfl,l,p,fun b c=>⟨(d b c).1,Nat.le_trans k (d b c).2.1,(d b c).2.2⟩,fun n=>?_⟩
 obtain ⟨g,j,i,rfl,o,q⟩:=m n
 exact ⟨g,j,i,rfl,Nat.le_trans k o,q⟩
theorem J9.own (h:J9 B e sz R σ w v xs) {k:Nat} (a:v.ownBlock=some k):B≤k:=(h.mem a).1
theorem J9.keep [hr:Rep R] (h:J9 w0.heap.size e sz R σ w v xs) (p:Stp w0 σ0 w σ): ∃σ',Stp w0 σ0 w σ'∧Sl sz R σ' v xs∧SLe σ σ'∧(∀k,some k≠v.ownBlock→σ' k=σ k):=by
 obtain ⟨a,f,rfl,t,C,n,r⟩:=h
 by_cases y:f=0
 ·have m:xs=[]:=List.eq_nil_of_length_eq_zero (by omega)
  subst y m
  exact ⟨σ,p,⟨a,0,rfl,by simp,by simp,fun _=>rfl,fun b D=>⟨fun _=>(n b D).1,by simp⟩⟩,SLe.refl _,fun _ _=>rfl⟩
 ·obtain ⟨g,o,c,rfl,z,q,E,H,s⟩:=r (by omega)
  have d:=Q6.put_le p.sat q (.cells c e (0,0))
  refine ⟨σ.put g (.cells c e (0,0)),p.put q z E,⟨_,f,rfl,t,C,by simp,?_⟩,⟨d⟩,?_⟩
  ·rintro _ ⟨⟩
   refine ⟨fun _=>rfl,fun i x m=>⟨(c.toList.drop (o+i*sz)).take sz,⟨I8 rfl _,c,e,(0,0),by rw[S9];simp[Q6.put],?_⟩,?_,hr.up d (s i x m)⟩⟩
   ·intro j u l
    rw[Qh]
    rw[List.getElem?_take] at l
    split at l
    ·rw[List.getElem?_drop] at l;simpa using l
    ·cases l
   ·have J:i<xs.length:=(List.getElem?_eq_some_iff.1 m).1
    have h:i*sz+sz≤f*sz:=by rw[←Nat.succ_mul];exact Nat.mul_le_mul_right _ (by omega)
    rw[List.length_take,List.length_drop,Array.length_toList (xs:=c)];omega
  ·intro k A
   have:k≠g:=by intro e;subst e;exact A rfl
   simp only[Q6.put,if_neg this]
theorem Q2W {t M:TypeId} {s:Nat} {z:Value} {A:Value→Value→World→Prop} {ds:List Value} [ts:TS P t e] [tz:TZ P e sz s z] {D:Nat} {X:Value} [tz':TZ P M sz D X] (hS:Stp w0 σ0 w σ) (ha:J9 w0.heap.size e sz R σ w v xs) {n:Nat} (hn:n<xs.length) (L:ds.length=sz) (hx:R σ x ds) (Y: ∀u∈ds,u.oneCell'=true)
 (h: ∀p u w',Kpt (fun k=>v.ownBlock=some k) w w'→Hst w0 σ0 w' σ→J9 w0.heap.size e sz R σ w' v (xs.set n x)→A p u w'):
 indexAddr P t v (I n) w (fun p w=>X9 P M p (.agg ds.toArray) w (fun u w=>A p u w)):=by
 obtain ⟨a,i,rfl,c1,W,f,Z⟩:=ha
 obtain ⟨g,c,d,rfl,O,Q,U,q4,V⟩:=Z (by omega)
 rw[Sr (by omega) (by omega)]
 have hh:n*sz+sz≤i*sz:=by rw[←Nat.succ_mul];exact Nat.mul_le_mul_right _ (by omega)
 have o:(⟨g,c,none⟩:Addr).add ((n:Int).toNat*sz)=⟨g,c+n*sz,none⟩:=by unfold Addr.add;split<;>simp_all
 rw[o]
 have q:=run_storeCells_at P g (c+n*sz) e ds 0 d w U (by omega) Y
 simp only[Nat.add_zero] at q
 obtain ⟨l,E⟩:=Uy (cs:=(d.toList.take (c+n*sz)++ds++d.toList.drop (c+n*sz+ds.length)).toArray) U
 unfold X9
 rw[Lg (w':=w.setRow g (d.toList.take (c+n*sz)++ds++d.toList.drop (c+n*sz+ds.length)).toArray) (by
  simp[Instr.storeAt,Instr.sureAddr,storeVar,L3 tz',Value.cells,L]
  simpa [L] using q)]
 have hk:Kpt (fun k=>(Value.slice (some ⟨g,c,none⟩) xs.length i).ownBlock=some k) w (w.setRow g (d.toList.take (c+n*sz)++ds++d.toList.drop (c+n*sz+ds.length)).toArray):=Kpt.of_upd l rfl
 refine h _ _ _ hk ⟨l.stp hS O Q⟩ ⟨_,i,by rw[List.length_set],by rw[List.length_set];exact c1,W,fun b r=>⟨(f b r).1,(f b r).2.1,by rw[l.size];exact (f b r).2.2.1,(f b r).2.2.2⟩,fun _=>⟨g,c,_,rfl,O,Q,E,?_,fun j y m=>?_⟩⟩
 ·simp;omega
 ·rw[List.toList_toArray]
  have aa:=Array.length_toList (xs:=d)
  have H:j<xs.length:=by have:=(List.getElem?_eq_some_iff.1 m).1;simpa using this
  have ag:j*sz+sz≤i*sz:=by rw[←Nat.succ_mul];exact Nat.mul_le_mul_right _ (by omega)
  by_cases N:j=n
  ·subst N
   rw[List.getElem?_set_self H] at m
   cases m
   rw[List.append_assoc,List.drop_append,List.drop_eq_nil_of_le (by rw[List.length_take];omega),List.nil_append,List.length_take,show c+j*sz-min (c+j*sz) d.toList.length=0 by omega,List.drop_zero,List.take_append_of_le_length (by omega),List.take_of_length_le (by omega)]
   exact hx
  ·rw[List.getElem?_set_ne (by omega)] at m
   have:=V j y m
   rcases Nat.lt_or_gt_of_ne N with J | hgt
   ·have C:j*sz+sz≤n*sz:=by rw[←Nat.succ_mul];exact Nat.mul_le_mul_right _ J
    rw[List.append_assoc,List.drop_append_of_le_length (by rw[List.length_take];omega),List.take_append_of_le_length (by rw[List.length_drop,List.length_take];omega),List.drop_take,List.take_take]
    rwa [show min sz (c+n*sz-(c+j*sz))=sz by omega]
   ·have C:n*sz+sz≤j*sz:=by rw[←Nat.succ_mul];exact Nat.mul_le_mul_right _ hgt
    rw[List.drop_append,List.drop_eq_nil_of_le (by rw[List.length_append,List.length_take];omega),List.nil_append,List.length_append,List.length_take,List.drop_drop,L]
    rwa [show c+n*sz+sz+(c+j*sz-(min (c+n*sz) d.toList.length+sz))=c+j*sz by omega]
end
theorem Q5v (p:Nat→Prop): ∀n,p n→ ∃m,p m∧ ∀k,p k→m≤k:=by
 intro n
 induction n using Nat.strongRecOn with
 | _ n c=>
  intro h
  by_cases b: ∃k,k<n∧p k
  ·obtain ⟨k,d,g⟩:=b;exact c k d g
  ·exact ⟨n,h,fun k f=>Nat.le_of_not_lt fun a=>b ⟨k,a,f⟩⟩
noncomputable def Q1Q (p:Nat→Prop):Nat:=open Classical in if h: ∃m,p m∧ ∀k,p k→m≤k then Classical.choose h else 0
theorem Q18 {p:Nat→Prop} {n:Nat} (h:p n):p (Q1Q p)∧Q1Q p≤n:=by
 have a:=Q5v p n h
 unfold Q1Q
 rw[dif_pos a]
 exact ⟨(Classical.choose_spec a).1,(Classical.choose_spec a).2 n h⟩
theorem Pf {α:Type} {x0:α} {A:(α→World→Prop)→α→(Nat→Value)→World→Prop} (I:Nat→α→World→Prop) (n:Nat) (h:I n x0 w)
 (j: ∀a n x d w,I n x w→(∀c b w',c<n→I c b w'→a b w')→A a x d w):lp x0 w A:=by
 refine Wo (fun x w=> ∃n,I n x w) (fun x w=>Q1Q fun n=>I n x w) ⟨n,h⟩ ?_
 rintro x d w ⟨n,k⟩
 obtain ⟨i,l⟩:=Q18 (p:=fun n=>I n x w) k
 refine j _ _ x d w i fun c b w' f g=>⟨⟨c,g⟩,?_⟩
 exact Nat.lt_of_le_of_lt (Q18 (p:=fun n=>I n b w') g).2 f
section
variable {α : Type} {R : Q6 → α → List Value → Prop} {B sz : Nat} {e : TypeId} {v u : Value} {xs ys : List α} {x : α}
theorem J9.below (h:J9 B e sz R σ w v xs) (a:Below w.heap.size w w'):J9 B e sz R σ w' v xs:=h.kp (D:=fun _=>False) (.of_below a) fun _ _=>id
theorem J9.pre {a:Option Addr} {n m b:Nat} (h:J9 B e sz R σ w (.slice a m b) (xs++ys)) (D:n=xs.length):J9 B e sz R σ w (.slice a n b) xs:=by
 obtain ⟨J,k,p,r,A,c,l⟩:=h
 injection p with s e2 E
 subst s E D
 rw[List.length_append] at r
 refine ⟨a,b,rfl,by omega,A,c,fun t=>?_⟩
 obtain ⟨g,d,f,q,z,C,H,y,o⟩:=l t
 exact ⟨g,d,f,q,z,C,H,y,fun i x j=>o i x (by rw[List.getElem?_append_left (List.getElem?_eq_some_iff.1 j).1];exact j)⟩
def Gw (B:Nat) (e:TypeId) (sz:Nat) (R:Q6→α→List Value→Prop) (σ:Q6) (v:Value) (xs:List α) (x:α) (w1 c:World):Prop:=
 Kpt (fun k=>v.ownBlock=some k) w1 c∧(J9 B e sz R σ w1 v xs→J9 B e sz R σ c v xs)∧
  ∀a b,v= .slice a xs.length b→J9 B e sz R σ w1 (.slice a (xs.length+1) b) (xs++[x])→J9 B e sz R σ c (.slice a (xs.length+1) b) (xs++[x])
theorem Gw.below (a:Below w.heap.size w w'):Gw B e sz R σ v xs x w w':=⟨.of_below a,fun h=>h.below a,fun _ _ _ h=>h.below a⟩
theorem Gw.refl:Gw B e sz R σ v xs x w w:=Gw.below (Below.refl _ _)
def VQa (N B:Nat) (e:TypeId) (sz:Nat) (R:Q6→α→List Value→Prop) (σ:Q6) (v:Value) (xs:List α) (x:α) (c:Value) (w:World):Prop:=
 J9 B e sz R σ w c (xs++[x])∧((∃a b,v= .slice a xs.length b∧c= .slice a (xs.length+1) b)∨((∀k,c.ownBlock=some k→N≤k)∧ ∀k,v.ownBlock=some k→k<N))
theorem VQa.stable {N:Nat} {j:Value} (h:VQa N B e sz R σ v xs x j w) (i:Gw B e sz R σ v xs x w w'):VQa N B e sz R σ v xs x j w':=by
 obtain ⟨g,b⟩:=h
 refine ⟨?_,b⟩
 rcases b with ⟨a,c,d,rfl⟩ | ⟨b,d⟩
 ·exact i.2.2 a c d g
 ·exact g.kp i.1 fun k l f=>by have:=b k l;have:=d k f;omega
theorem Kpt.more {D E:Nat→Prop} (h:Kpt D w w') (k:Kpt E w' w'') (hE: ∀j,E j→w.heap.size≤j):Kpt D w w'':=
 ⟨k.os.trans h.os,k.tape.trans h.tape,k.output.trans h.output,Nat.le_trans h.size k.size,fun i a b=>(k.block i (Nat.lt_of_lt_of_le a h.size) fun e=>by have:=hE i e;omega).trans (h.block i a b)⟩
end
end Go.Emb

namespace Go.Hm
open Go.Kd
theorem V3 {l:List Cla} {n:X0} {c:Cla} (h:lk l n=some c):c.name=n∧c∈l∧ ∃i,Z3 l n=some i∧l[i]? =some c:=by
 unfold lk at h
 cases b:Z3 l n with
 | none=>rw[b] at h;cases h
 | some i=>
  rw[b] at h
  obtain ⟨a,e,_⟩:=List.findIdx?_eq_some_iff_getElem.1 b
  have d:l[i]? =some c:=h
  rw[List.getElem?_eq_getElem a] at d
  cases d
  exact ⟨by simpa using e,List.getElem_mem a,i,rfl,List.getElem?_eq_getElem a⟩
theorem Zk {l:List Cla} {n:X0} {i:Nat} (h:Z3 l n=some i): ∃c,lk l n=some c∧l[i]? =some c∧c.name=n:=by
 obtain ⟨a,b,_⟩:=List.findIdx?_eq_some_iff_getElem.1 h
 refine ⟨l[i],?_,List.getElem?_eq_getElem a,by simpa using b⟩
 unfold lk;rw[h];simp[a]
theorem Q1S {l:List Cla} {n:X0}:Q1r l n=(lk l n).isSome:=by
 unfold Q1r
 cases a:Z3 l n with
 | none=>simp[lk,a]
 | some i=>obtain ⟨c,h,_⟩:=Zk a;simp[h]
theorem Q9F {l:List Cla} {c:Cla} (h:c∈l): ∃d,lk l c.name=some d:=by
 cases a:Z3 l c.name with
 | none=>
  have:=List.findIdx?_eq_none_iff.1 a c h
  simp at this
 | some i=>obtain ⟨d,h,_⟩:=Zk a;exact ⟨d,h⟩
inductive Reach (L : Wy) : X0 → X0 → Prop
  | refl {a : X0} {c : Cla} : L a = some c → Reach L a a
  | step {a u b : X0} {c : Cla} : L a = some c → u ∈ U4 c → Reach L u b → Reach L a b
theorem Reach.trans {L:Wy} {a b d:X0} (h:Reach L a b) (k:Reach L b d):Reach L a d:=by
 induction h with
 | refl _=>exact k
 | step e f _ c=>exact .step e f (c k)
theorem Reach.right {L:Wy} {a b:X0} (h:Reach L a b): ∃c,L b=some c:=by
 induction h with
 | refl h=>exact ⟨_,h⟩
 | step _ _ _ d=>exact d
theorem Reach.left {L:Wy} {a b:X0} (h:Reach L a b): ∃c,L a=some c:=by
 cases h with
 | refl h=>exact ⟨_,h⟩
 | step h _ _=>exact ⟨_,h⟩
theorem Q1R (L:Wy): ∀(f:Nat) (a b:List X0),∃r,Vh L f a b=b++r:=by
 intro f
 induction f with
 | zero=>intro a b;exact ⟨[],by simp[Vh]⟩
 | succ f c=>
  intro a b
  cases a with
  | nil=>exact ⟨[],by simp[Vh]⟩
  | cons n a=>
   simp only[Vh]
   split
   ·exact c _ _
   ·split
    ·exact c _ _
    ·obtain ⟨r,d⟩:=c (a++U4 ‹_›) (b++[n])
     exact ⟨n::r,by rw[d];simp⟩
theorem Q9g (L:Wy): ∀(f:Nat) (a b:List X0) (x:X0),x∈Vh L f a b→x∈b∨ ∃t∈a,Reach L t x:=by
 intro f
 induction f with
 | zero=>intro a b x h;exact .inl h
 | succ f d=>
  intro a b x h
  cases a with
  | nil=>exact .inl h
  | cons n a=>
   simp only[Vh] at h
   split at h
   ·rcases d _ _ _ h with h | ⟨t,ht,h⟩
    ·exact .inl h
    ·exact .inr ⟨t,by simp[ht],h⟩
   ·rename_i c e
    split at h
    ·rcases d _ _ _ h with h | ⟨t,ht,h⟩
     ·exact .inl h
     ·exact .inr ⟨t,by simp[ht],h⟩
    ·rcases d _ _ _ h with h | ⟨t,ht,h⟩
     ·rcases List.mem_append.1 h with h | h
      ·exact .inl h
      ·simp at h;subst h;exact .inr ⟨x,by simp, .refl e⟩
     ·rcases List.mem_append.1 ht with ht | ht
      ·exact .inr ⟨t,by simp[ht],h⟩
      ·exact .inr ⟨n,by simp, .step e ht h⟩
theorem X1h (l:List Cla) (b a:List X0) (h: ∀x∈b,x∈a):weigh l a≤weigh l b:=by
 unfold weigh
 induction l with
 | nil=>simp
 | cons c r e=>
  simp only[List.map_cons,List.sum_cons]
  by_cases d:c.name∈b
  ·rw[if_pos d,if_pos (h _ d)];omega
  ·rw[if_neg d];split<;>omega
theorem Pz (l:List Cla) (a:List X0) (c:Cla) (hc:c∈l) (h:c.name∉a):weigh l (a++[c.name])+(U4 c).length≤weigh l a:=by
 unfold weigh
 induction l with
 | nil=>simp at hc
 | cons d r f=>
  simp only[List.map_cons,List.sum_cons]
  have e:weigh r (a++[c.name])≤weigh r a:=X1h _ _ _ (by simp;intro x g;exact .inl g)
  unfold weigh at e
  rcases List.mem_cons.1 hc with rfl | hc
  ·rw[if_pos (by simp),if_neg h];omega
  ·have:=f hc
   by_cases b:d.name∈a
   ·rw[if_pos (by simp[b]),if_pos b];omega
   ·rw[if_neg b];split<;>omega
theorem X0O (l:List Cla): ∀(f:Nat) (a b:List X0),a.length+weigh l b≤f→
 (∀x∈b,∀c,lk l x=some c→ ∀u∈U4 c,∀d,lk l u=some d→u∈b∨u∈a)→
 (∀t∈a,∀d,lk l t=some d→t∈Vh (lk l) f a b)∧ ∀x∈Vh (lk l) f a b,∀c,lk l x=some c→ ∀u∈U4 c,∀d,lk l u=some d→u∈Vh (lk l) f a b:=by
 intro f
 induction f with
 | zero=>
  intro a b w o
  have:a=[]:=List.eq_nil_of_length_eq_zero (by omega)
  subst this
  refine ⟨by simp,fun x hx c j u i d g=>?_⟩
  rcases o x hx c j u i d g with h | h
  ·exact h
  ·simp at h
 | succ f v=>
  intro a b w o
  cases a with
  | nil=>
   refine ⟨by simp,fun x hx c j u i d g=>?_⟩
   rcases o x hx c j u i d g with h | h
   ·exact h
   ·simp at h
  | cons n a=>
   simp only[List.length_cons] at w
   simp only[Vh]
   split
   ·rename_i y
    obtain ⟨p,q⟩:=v a b (by omega) (fun x hx c j u i d g=>by
     rcases o x hx c j u i d g with h | h
     ·exact .inl h
     ·rcases List.mem_cons.1 h with rfl | h
      ·rw[y] at g;cases g
      ·exact .inr h)
    refine ⟨fun t ht d g=>?_,q⟩
    rcases List.mem_cons.1 ht with rfl | ht
    ·rw[y] at g;cases g
    ·exact p t ht d g
   ·rename_i c j
    split
    ·rename_i k
     obtain ⟨r,s⟩:=Q1R (lk l) f a b
     obtain ⟨p,q⟩:=v a b (by omega) (fun x hx c j u i d g=>by
      rcases o x hx c j u i d g with h | h
      ·exact .inl h
      ·rcases List.mem_cons.1 h with rfl | h
       ·exact .inl k
       ·exact .inr h)
     refine ⟨fun t ht d g=>?_,q⟩
     rcases List.mem_cons.1 ht with rfl | ht
     ·rw[s];simp[k]
     ·exact p t ht d g
    ·rename_i k
     obtain ⟨e,A,_⟩:=V3 j
     have B:=Pz l b c A (by rw[e];exact k)
     rw[e] at B
     obtain ⟨p,q⟩:=v (a++U4 c) (b++[n]) (by rw[List.length_append];omega) (fun x hx z m u i d g=>by
      rcases List.mem_append.1 hx with hx | hx
      ·rcases o x hx z m u i d g with h | h
       ·exact .inl (by simp[h])
       ·rcases List.mem_cons.1 h with rfl | h
        ·exact .inl (by simp)
        ·exact .inr (by simp[h])
      ·simp at hx;subst hx
       rw[j] at m;cases m
       exact .inr (by simp[i]))
     refine ⟨fun t ht d g=>?_,q⟩
     rcases List.mem_cons.1 ht with rfl | ht
     ·obtain ⟨r,s⟩:=Q1R (lk l) f (a++U4 c) (b++[t])
      rw[s];simp
     ·exact p t (by simp[ht]) d g
theorem Vc {l:List Cla} {a b:X0}:b∈G5 l a↔Reach (lk l) a b:=by
 obtain ⟨f,n⟩:=X0O l (1+weigh l []) [a] [] (by simp) (by simp)
 constructor
 ·intro h
  rcases Q9g _ _ _ _ _ h with h | ⟨t,e,j⟩
  ·simp at h
  ·simp at e;subst e;exact j
 ·intro h
  have key: ∀{x y:X0},Reach (lk l) x y→x∈G5 l a→y∈G5 l a:=by
   intro x y h
   induction h with
   | refl _=>exact id
   | step k g i o=>
    intro m
    obtain ⟨d,c⟩:=i.left
    exact o (n _ m _ k _ g _ c)
  obtain ⟨d,c⟩:=h.left
  exact key h (f a (by simp) d c)
theorem X0E (l:List Cla): ∀(f:Nat) (a b:List X0),a.length+weigh l b≤f→ ∀k,Vh (lk l) (f+k) a b=Vh (lk l) f a b:=by
 intro f
 induction f with
 | zero=>
  intro a b h k
  have:a=[]:=List.eq_nil_of_length_eq_zero (by omega)
  subst this
  cases k<;>rfl
 | succ f g=>
  intro a b h k
  cases a with
  | nil=>rw[Nat.succ_add];rfl
  | cons n a=>
   simp only[List.length_cons] at h
   rw[Nat.succ_add]
   simp only[Vh]
   split
   ·exact g _ _ (by omega) k
   ·rename_i c i
    split
    ·exact g _ _ (by omega) k
    ·rename_i d
     obtain ⟨e,m,_⟩:=V3 i
     have j:=Pz l b c m (by rw[e];exact d)
     rw[e] at j
     exact g _ _ (by rw[List.length_append];omega) k
end Go.Hm

namespace Go.Hm
open Go.Kd
def Ww (L:Wy) (a b:X0):Prop:= ∃c,L a=some c∧ ∃u∈U4 c,Reach L u b
def Jc (l:List Cla):Prop:= ∀a,¬Ww (lk l) a a
theorem Ww.reach {L:Wy} {a b:X0} (h:Ww L a b):Reach L a b:=by
 obtain ⟨c,d,u,e,f⟩:=h;exact .step d e f
theorem Ww.trans {L:Wy} {a b d:X0} (h:Ww L a b) (k:Reach L b d):Ww L a d:=by
 obtain ⟨c,e,u,f,g⟩:=h;exact ⟨c,e,u,f,g.trans k⟩
theorem Q0B {L:Wy} {a b:X0}:Reach L a b↔(a=b∧(∃c,L a=some c))∨Ww L a b:=by
 constructor
 ·intro h
  cases h with
  | refl h=>exact .inl ⟨rfl,_,h⟩
  | step d f e=>exact .inr ⟨_,d,_,f,e⟩
 ·rintro (⟨rfl,c,h⟩ | h)
  ·exact .refl h
  ·exact h.reach
def Xi (l:List Cla) (a b:X0):Bool:=match lk l a with
 | none=>false
 | some c=>(U4 c).any fun u=>(G5 l u).contains b
theorem Uc {l:List Cla} {a b:X0}:Xi l a b=true↔Ww (lk l) a b:=by
 unfold Xi Ww
 cases h:lk l a with
 | none=>simp
 | some c=>
  simp only[List.any_eq_true,List.contains_iff_mem,Vc]
  constructor
  ·rintro ⟨u,d,e⟩;exact ⟨c,rfl,u,d,e⟩
  ·rintro ⟨_,⟨⟩,u,d,e⟩;exact ⟨u,d,e⟩
def K8 (l:List Cla) (n:X0):Nat:=l.countP fun m=>Xi l n m.name
theorem Q1E (l:List Cla) (n:X0):K8 l n≤l.length:=List.countP_le_length
theorem Q4k {α:Type} {p q:α→Bool}: ∀{l:List α},(∀x∈l,p x=true→q x=true)→(∃x∈l,q x=true∧p x=false)→l.countP p<l.countP q:=by
 intro l
 induction l with
 | nil=>rintro _ ⟨x,hx,_⟩;simp at hx
 | cons a r e=>
  rintro h ⟨x,hx,c,d⟩
  have f:r.countP p≤r.countP q:=List.countP_mono_left fun x hx=>h x (by simp[hx])
  rw[List.countP_cons,List.countP_cons]
  rcases List.mem_cons.1 hx with rfl | hx
  ·rw[c,d];simp;omega
  ·have:=e (fun x hx=>h x (by simp[hx])) ⟨x,hx,c,d⟩
   have g:=h a (by simp)
   cases b:p a
   ·simp;split<;>omega
   ·rw[g b];simp;omega
theorem X2G {l:List Cla} (g:Jc l) {a b:X0} (h:Ww (lk l) a b):K8 l b<K8 l a:=by
 unfold K8
 refine Q4k (fun x _ f=>?_) ?_
 ·rw[Uc] at*
  exact h.trans f.reach
 ·obtain ⟨d,i⟩:=(Reach.right (h.reach))
  obtain ⟨e,j,_⟩:=V3 i
  refine ⟨d,j,?_,?_⟩
  ·rw[Uc,e];exact h
  ·cases c:Xi l b d.name with
   | false=>rfl
   | true=>rw[Uc,e] at c;exact absurd c (g b)
theorem Yb {l:List Cla} (g:Jc l) {a u:X0} {c d:Cla} (b:lk l a=some c) (e:u∈U4 c) (f:lk l u=some d):K8 l u<K8 l a:=
 X2G g ⟨c,b,u,e, .refl f⟩
theorem Q7n {l:List Cla} (i:Jc l): ∀(f g:Nat) (n:X0),K8 l n<f→K8 l n<g→I4 (lk l) f n=I4 (lk l) g n:=by
 intro f
 induction f with
 | zero=>intro g n h;omega
 | succ f b=>
  intro g n j k
  obtain ⟨g,rfl⟩: ∃m,g=m+1:=⟨g-1,by omega⟩
  simp only[I4]
  cases e:lk l n with
  | none=>rfl
  | some c=>
   simp only
   congr 1
   cases a:lk l c.super with
   | none=>cases f<;>cases g<;>simp[I4,a]
   | some d=>
    have:=Yb i e (by simp[U4]) a
    exact b g c.super (by omega) (by omega)
theorem Qc {l:List Cla} (b:Jc l) (n:X0):chain l n=match lk l n with | none=>[] | some c=>c::chain l c.super:=by
 have:=Q1E l n
 unfold chain
 rw[I4]
 cases e:lk l n with
 | none=>rfl
 | some c=>
  simp only
  congr 1
  cases a:lk l c.super with
  | none=>cases l.length<;>simp[I4,a]
  | some d=>
   have:=Yb b e (by simp[U4]) a
   exact Q7n b _ _ _ (by omega) (by omega)
theorem Ym {l:List Cla} {n:X0} (h:lk l n=none):chain l n=[]:=by simp[chain,I4,h]
theorem Dr {α β:Type} {f g:α→Option β}: ∀{l:List α},(∀x∈l,f x=g x)→l.findSome? f=l.findSome? g
 | [],_=>rfl
 | a::r,h=>by
  rw[List.findSome?_cons,List.findSome?_cons,h a (by simp),Dr fun x b=>h x (by simp[b])]
theorem Q6T {l:List Cla} (j:Jc l) (n:X0): ∀(f g:Nat) (c:Cla),lk l c.name=some c→K8 l c.name<f→K8 l c.name<g→Co (lk l) f c n=Co (lk l) g c n:=by
 intro f
 induction f with
 | zero=>intro g c _ h;omega
 | succ f k=>
  intro g c i o p
  obtain ⟨g,rfl⟩: ∃m,g=m+1:=⟨g-1,by omega⟩
  simp only[Co]
  refine Dr fun u b=>?_
  cases a:lk l u with
  | none=>rfl
  | some d=>
   simp only
   cases F7 d n with
   | some m=>rfl
   | none=>
    simp only
    have:=Yb j i (by simp[U4,b]) a
    have e:=(V3 a).1
    exact k g d (by rw[e];exact a) (by rw[e];omega) (by rw[e];omega)
def V5 (l:List Cla) (c:Cla) (n:X0):Option (X0×Hm.Met):=Co (lk l) (l.length+1) c n
theorem Q4v {l:List Cla} (b:Jc l) {c:Cla} (f:lk l c.name=some c) (n:X0):V5 l c n=c.like.findSome? fun u=>match lk l u with
 | none=>none
 | some d=>match F7 d n with
  | some m=>some (u,m)
  | none=>V5 l d n:=by
 have:=Q1E l c.name
 unfold V5
 rw[Co]
 refine Dr fun u g=>?_
 cases a:lk l u with
 | none=>rfl
 | some d=>
  simp only
  cases F7 d n with
  | some m=>rfl
  | none=>
   have:=Yb b f (by simp[U4,g]) a
   have e:=(V3 a).1
   exact Q6T b n _ _ d (by rw[e];exact a) (by rw[e];omega) (by rw[e];omega)
def T9 (l:List Cla):Prop:=(l.map (·.name)).Nodup
theorem T9.lk {l:List Cla} (h:T9 l) {c:Cla} (f:c∈l):Go.Hm.lk l c.name=some c:=by
 obtain ⟨d,g⟩:=Q9F f
 obtain ⟨e,o,i,p,b⟩:=V3 g
 obtain ⟨j,n,rfl⟩:=List.getElem_of_mem f
 obtain ⟨a,k⟩:=List.getElem?_eq_some_iff.1 b
 have:i=j:=by
  have m:(l.map (·.name))[i]'(by simpa using a)=(l.map (·.name))[j]'(by simpa using n):=by simp[k,e]
  exact (List.getElem_inj h).1 m
 subst this
 rw[g,←k]
theorem T9.find {l:List Cla} (h:T9 l) {i:Nat} {c:Cla} (f:l[i]? =some c):Z3 l c.name=some i:=by
 obtain ⟨b,rfl⟩:=List.getElem?_eq_some_iff.1 f
 have:=h.lk (List.getElem_mem b)
 obtain ⟨e,n,j,m,g⟩:=V3 this
 obtain ⟨a,k⟩:=List.getElem?_eq_some_iff.1 g
 have:j=i:=by
  have d:(l.map (·.name))[j]'(by simpa using a)=(l.map (·.name))[i]'(by simpa using b):=by simp[k]
  exact (List.getElem_inj h).1 d
 rw[m,this]
end Go.Hm

namespace Go.Emb
open Go.RowKit Go.Hm
variable {P : Program} {w w0 w1 w' w'' : World} {K : Value → World → Prop} {σ σ0 σ1 σ2 σ' : Q6}
theorem Stp.join (c:Stp w σ w' σ1) (f:Stp w σ w' σ2): ∃d,Stp w σ w' d∧SLe σ1 d∧SLe σ2 d:=by
 have g: ∀b o,σ1 b=some o→(fun b=>(σ1 b).or (σ2 b)) b=some o:=fun b o e=>by simp[e]
 have i: ∀b o,σ2 b=some o→(fun b=>(σ1 b).or (σ2 b)) b=some o:=by
  intro b o e
  cases a:σ1 b with
  | none=>simp[a,e]
  | some p=>
   have j:=c.sat b p a
   have h:=f.sat b o e
   rw[j] at h;cases h;simp only[a,Option.some_or]
 refine ⟨fun b=>(σ1 b).or (σ2 b),⟨c.bel,?_,fun b o e=>g b o (c.le b o e),?_⟩,⟨g⟩,⟨i⟩⟩
 ·intro b o e
  cases a:σ1 b with
  | none=>simp only[a,Option.none_or] at e;exact f.sat b o e
  | some p=>simp only[a,Option.some_or] at e;cases e;exact c.sat b _ a
 ·intro b a
  simp only[c.old b a,f.old b a];cases σ b<;>rfl
theorem Uv {Φ:Q6→Value→Prop} {A a:(Value→World→Prop)→Prop} (h:A (fun v w'=> ∃σ',Stp w σ w' σ'∧Φ σ' v)) (d:a (fun v w'=> ∃σ',Stp w σ w' σ'∧Φ σ' v)):Q5 (fun w w'=>Below w.heap.size w w') A a:=
 E8 _ (fun _ _ _ ⟨σ',b,c⟩ e=>⟨σ',b.trans (Stp.of_below b.sat e),c⟩) h d
theorem Hr {Φ:Q6→Value→Prop} {v:Value} (a:Hst w σ w1 σ) (h:Stp w1 σ w' σ') (b:Φ σ' v):dk (fun w w'=>Below w.heap.size w w') (fun v w'=> ∃σ',Stp w σ w' σ'∧Φ σ' v) w1 v w':=
 ⟨h.bel,σ',a.stp.trans h,b⟩
theorem E7.mk {m:Hm.Met} {pv a b:Value} (d:Sl 1 U8 σ pv m.params) (h:Sl 3 Qp σ a m.code) (e:Sl 4 Um σ b m.catches) (f:m.name.length≤U2) (g:m.result.length≤U2) (c:Yn m.locals):E7 σ m [S m.name,pv,S m.result, .bool m.abs,I m.locals,a,b]:=
 ⟨pv,a,b,rfl,d,h,e,f,g,c⟩
theorem U9.mk {c:Cla} {a b mv:Value} (d:Sl 1 U8 σ a c.like) (h:Sl 3 S5 σ b c.fields) (e:Sl 7 E7 σ mv c.methods) (f:c.name.length≤U2) (g:c.super.length≤U2):U9 σ c [S c.name,S c.super,a, .bool c.iface, .bool c.abs, .bool c.fin,b,mv]:=
 ⟨a,b,mv,rfl,d,h,e,f,g⟩
end Go.Emb
namespace Go.Hm
def SmM (m:Hm.Met):Prop:=m.params.length≤1000000∧m.code.length≤1000000∧m.catches.length≤1000000
def Qs (c:Cla):Prop:=c.like.length≤1000000∧c.fields.length≤1000000∧c.methods.length≤1000000∧ ∀m∈c.methods,SmM m
end Go.Hm
namespace Go.Proofs.YtjdiakhipmggjaaGreatDoor
open Go.Emb Go.RowKit Go.Kd Go.Hm
variable {w : World} {K : Value → World → Prop} {σ : Q6}
theorem Q4I {m:Hm.Met} {cs:List Value} (X:X3 w σ) (hm:E7 σ m cs) (N:SmM m)
 (h: ∀pv o f w' σ',Stp w σ w' σ'→E7 σ' m [S m.name,pv,S m.result, .bool m.abs,I m.locals,o,f]→K (.agg [S m.name,pv,S m.result, .bool m.abs,I m.locals,o,f].toArray) w'):Q1 P F.c8 [.agg cs.toArray] w K:=Q52 (by
 obtain ⟨pv,o,f,rfl,E,H,B,g4,Z,g6⟩:=hm
 obtain ⟨s1,s2,s3⟩:=N
 unfold Tw
 refine Hk X fun b w1 σ1 d j a=>?_
 refine M0 j.sat fun b2 Y σ2 A g c=>?_
 have ae:=a.lt
 replace a:=a.step g
 have u:=g.sat
 have E:=(E.up j).up g
 have H:=(H.up j).up g
 have B:=(B.up j).up g
 have L: ∀{w':World} (i:Nat) (v:Value),[S m.name,pv,S m.result, .bool m.abs,I m.locals,o,f][i]? =some v→Hst Y σ2 w' σ2→w'.cell? ((⟨b,0,none⟩:Addr).add i)=some v:=fun i v f hh=>(a.step hh.stp).cell f
 refine U0 u ?_
 refine X4 (.pointer (some ((⟨b,0,none⟩:Addr).add 1))) (fun w d=>by rw[fa];exact X6 rfl) ?_
 refine X4 (.pointer (some ((⟨b,0,none⟩:Addr).add 5))) (fun w d=>by rw[fa];exact X6 rfl) ?_
 refine X4 (.pointer (some ((⟨b,0,none⟩:Addr).add 6))) (fun w d=>by rw[fa];exact X6 rfl) ?_
 refine X4 pv (fun t w d e=>by rw[e];exact Qg (L 1 pv rfl d) (X6 rfl)) ?_
 refine Uv (Φ:=fun σ' v=>Sl 1 U8 σ' v m.params) (fun t w d e=>by rw[e];exact Lt d.sat E s1 fun W w' σ' s f=>Hr d s f) ?_
 refine X4 o (fun t w d e=>by rw[e];exact Qg (L 5 o rfl d) (X6 rfl)) ?_
 refine Uv (Φ:=fun σ' v=>Sl 3 Qp σ' v m.code) (fun t w d e=>by rw[e];exact Eu d.sat H s2 fun W w' σ' s f=>Hr d s f) ?_
 refine X4 f (fun t w d e=>by rw[e];exact Qg (L 6 f rfl d) (X6 rfl)) ?_
 refine X4 (.pointer (some ((⟨b,0,none⟩:Addr).add 1))) (fun w d=>by rw[fa];exact X6 rfl) ?_
 refine Uv (Φ:=fun σ' v=>Sl 4 Um σ' v m.catches) (fun t w d e=>by rw[e];exact Eg d.sat B s3 fun W w' σ' s f=>Hr d s f) ?_
 rintro t1 t2 t3 t4 t5 t6 t8 t9 ah J w3 aj e1 e2 e3 e4 ⟨σ5,k5,r⟩ e6 ⟨σ8,k8,q⟩ e9 y ⟨ar,M,k⟩
 subst y
 obtain ⟨σa,ka,D,C⟩:=k5.join k8
 obtain ⟨σ3,z,Q,l2⟩:=ka.join M
 have r:=(r.lift D).lift Q
 have q:=(q.lift C).lift Q
 have k:=k.lift l2
 have a:=a.step z
 have c:=c.step z
 have n:b2≠b:=by omega
 have l:=(j.trans g).trans z
 refine Jz a (by simp) (Wv r) (A8 r) fun w4 U a=>?_
 rw[fa]
 have l:=U.stp l d a.1
 have c:=c.upd U n
 refine Jz a (by simp) (Wv q) (A8 q) fun w5 O a=>?_
 rw[fa]
 have l:=O.stp l d a.1
 have c:=c.upd O n
 refine Jz a (by simp) (Wv k) (A8 k) fun w6 R a=>?_
 have l:=R.stp l d a.1
 have c:=c.upd R n
 refine Dz a rfl ?_
 have V:=E7.mk r q k g4 Z g6
 have p:=L9 A j
 refine Wc c rfl rfl (by rw[List.all_toArray];exact List.all_eq_true.2 (Rep.one V)) fun w7 u7 c=>?_
 have l:=u7.stp l p c.1
 refine V2 c rfl ?_
 exact h t5 t8 J w7 σ3 l V)
theorem X0z {c:Cla} {cs:List Value} (hs:X3 w σ) (hc:U9 σ c cs) (aw:Qs c)
 (h: ∀V R mv w' σ',Stp w σ w' σ'→U9 σ' c [S c.name,S c.super,V, .bool c.iface, .bool c.abs, .bool c.fin,R,mv]→K (.agg [S c.name,S c.super,V, .bool c.iface, .bool c.abs, .bool c.fin,R,mv].toArray) w'):Q1 P F.cz [.agg cs.toArray] w K:=Q57 (by
 obtain ⟨V,R,mv,rfl,g1,g2,W,g4,g5⟩:=hc
 obtain ⟨s1,s2,s3,s4⟩:=aw
 unfold To
 refine Hk hs fun b w1 σ1 l r f=>?_
 refine M0 r.sat fun X w2 σ2 an o g=>?_
 have bh:=f.lt
 replace f:=f.step o
 have ai:=o.sat
 have g1:=(g1.up r).up o
 have g2:=(g2.up r).up o
 have W:=(W.up r).up o
 have L: ∀{w':World} (i:Nat) (v:Value),[S c.name,S c.super,V, .bool c.iface, .bool c.abs, .bool c.fin,R,mv][i]? =some v→Hst w2 σ2 w' σ2→w'.cell? ((⟨b,0,none⟩:Addr).add i)=some v:=fun i v U hh=>(f.step hh.stp).cell U
 refine U0 ai ?_
 refine X4 (.pointer (some ((⟨b,0,none⟩:Addr).add 2))) (fun w l=>by rw[fa];exact X6 rfl) ?_
 refine X4 (.pointer (some ((⟨b,0,none⟩:Addr).add 6))) (fun w l=>by rw[fa];exact X6 rfl) ?_
 refine X4 V (fun t w l e=>by rw[e];exact Qg (L 2 V rfl l) (X6 rfl)) ?_
 refine Uv (Φ:=fun σ' v=>Sl 1 U8 σ' v c.like) (fun t w l e=>by rw[e];exact Lt l.sat g1 s1 fun v' w' σ' H U=>Hr l H U) ?_
 refine X4 R (fun t w l e=>by rw[e];exact Qg (L 6 R rfl l) (X6 rfl)) ?_
 refine X4 (.pointer (some ((⟨b,0,none⟩:Addr).add 2))) (fun w l=>by rw[fa];exact X6 rfl) ?_
 refine Uv (Φ:=fun σ' v=>Sl 3 S5 σ' v c.fields) (fun t w l e=>by rw[e];exact Em l.sat g2 s2 fun v' w' σ' H U=>Hr l H U) ?_
 rintro t6 t9 t7 t8 bj bs ae w3 bn e6 e9 e7 ⟨σ8,k8,f8⟩ bg ao ⟨bv,av,y⟩
 subst ao
 obtain ⟨σ3,k3,l1,l2⟩:=k8.join av
 have f8:=f8.lift l1
 have y:=y.lift l2
 have W:=W.up k3
 have f:=f.step k3
 have g:=g.step k3
 have O:X≠b:=by omega
 have hS:=(r.trans o).trans k3
 refine Jz f (by simp) (Wv f8) (A8 f8) fun w4 u4 f=>?_
 rw[fa]
 have hS:=u4.stp hS l f.1
 have g:=g.upd u4 O
 refine Jz f (by simp) (Wv y) (A8 y) fun w5 u5 f=>?_
 rw[fa]
 have hS:=u5.stp hS l f.1
 have g:=g.upd u5 O
 refine Yi f rfl ?_
 refine Q8 W ?_
 refine E2 c.methods.length (fun n a w'=> ∃σ',Stp w σ w' σ'∧SLe σ3 σ'∧V7 w.heap.size T.d 7 E7 σ' w' a (c.methods.take n)∧Y2 σ' w' b [S c.name,S c.super,t8, .bool c.iface, .bool c.abs, .bool c.fin,ae,mv]∧Y2 σ' w' X [S [],S [], .slice none 0 0, .bool false, .bool false, .bool false, .slice none 0 0, .slice none 0 0]∧ ∀k,a.ownBlock=some k→k≠b∧k≠X)
  ⟨σ3,hS,SLe.refl _,V7.nil,f,g,fun k H=>by cases H⟩ fun n a w6 d hn hi=>?_
 obtain ⟨σ6,B,C,ha,f,g,j⟩:=hi
 refine Y9 ?_
 refine Q7 (fun hh=>?_) (fun hh=>?_)
 ·have A:n<c.methods.length:=by simpa using hh
  have ac:c.methods.length≤9223372036854775807:=by omega
  refine N0 (W.lift C) A fun p cs hl u hr=>?_
  refine Y4 B.sat hl u ?_
  refine Y8 B.sat (by rfl) u (Rep.one hr) fun q w7 σ7 m hq=>?_
  refine Y4 m.sat hq u ?_
  refine Q4I m.sat (Rep.up m.le hr) (s4 _ (List.getElem_mem A)) fun pv cv U w8 σ8 J al=>?_
  have N:=(Nxt.of_stp (D:=fun k=>a.ownBlock=some k) m).trans (Nxt.of_stp J)
  have aj:=(ha.up m).up J
  have a5:=(f.nx N fun e=>(j _ e).1 rfl).lt
  have a4:=(g.nx N fun e=>(j _ e).2 rfl).lt
  refine Jp ((B.trans m).trans J) aj al rfl rfl rfl (by rw[List.length_take];omega) (by rw[List.length_take];omega) fun s v' w9 σ9 z ar ah hat=>?_
  refine N3 ?_
  have z:=N.trans z
  refine J5 ac A ⟨σ9,ar,C.more z.le,?_,f.nx z fun e=>(j _ e).1 rfl,g.nx z fun e=>(j _ e).2 rfl,?_⟩
  ·rw[List.take_add_one,List.getElem?_eq_getElem A];exact ah
  ·intro k H
   rcases hat with hat | hat
   ·exact j k (hat▸H)
   ·have:=hat k H
    constructor<;>omega
 ·have A: ¬n<c.methods.length:=by simpa using hh
  rw[List.take_of_length_le (by omega)] at ha
  obtain ⟨σ7,Q,M,Z,E⟩:=ha.keep B
  have f:Y2 σ7 w6 b _:=⟨(E b fun e=>(j b e.symm).1 rfl).trans f.1,f.2⟩
  have g:Y2 σ7 w6 X _:=⟨(E X fun e=>(j X e.symm).2 rfl).trans g.1,g.2⟩
  rw[fa]
  refine Jz f (by simp) (Wv M) (A8 M) fun w7 u7 f=>?_
  have Q:=u7.stp Q l f.1
  have g:=g.upd u7 O
  refine Dz f rfl ?_
  have hr:=U9.mk (f8.lift (C.more ⟨Z⟩)) (y.lift (C.more ⟨Z⟩)) M g4 g5
  have Y:=L9 an r
  refine Wc g rfl rfl (by rw[List.all_toArray];exact List.all_eq_true.2 (Rep.one hr)) fun w8 u8 g=>?_
  have ak:=u8.stp Q Y g.1
  refine V2 g rfl ?_
  exact h t8 ae a w8 σ7 ak hr)
end Go.Proofs.YtjdiakhipmggjaaGreatDoor

namespace Go.Hm
open Go.Kd
def C9 {α:Type}:Nat→List α→List α
 | 0,xs=>xs
 | i+1,xs=>match (C9 i xs)[i]?,(C9 i xs)[xs.length-1-i]? with
  | some a,some b=>((C9 i xs).set i b).set (xs.length-1-i) a
  | _,_=>C9 i xs
theorem Q0A {α:Type} (xs:List α): ∀i,2*i≤xs.length→(C9 i xs).length=xs.length∧ ∀k,k<xs.length→(C9 i xs)[k]? =if k<i∨xs.length-1-k<i then xs[xs.length-1-k]? else xs[k]?
 | 0,_=>⟨rfl,fun k j=>by simp[C9]⟩
 | i+1,h=>by
  obtain ⟨m,e⟩:=Q0A xs i (by omega)
  have a:=e i (by omega)
  have f:=e (xs.length-1-i) (by omega)
  rw[if_neg (by omega)] at a f
  have n:i<xs.length:=by omega
  have c:xs.length-1-i<xs.length:=by omega
  rw[List.getElem?_eq_getElem (l:=xs) n] at a
  rw[List.getElem?_eq_getElem (l:=xs) c] at f
  simp only[C9,a,f]
  refine ⟨by simp[m],fun k j=>?_⟩
  by_cases b:k=xs.length-1-i
  ·subst b
   rw[List.getElem?_set_self (by simp[m];omega),if_pos (by omega)]
   rw[show xs.length-1-(xs.length-1-i)=i by omega,List.getElem?_eq_getElem (by omega)]
  ·rw[List.getElem?_set_ne (by omega)]
   by_cases d:k=i
   ·subst d
    rw[List.getElem?_set_self (by omega),if_pos (by omega),List.getElem?_eq_getElem (by omega)]
   ·rw[List.getElem?_set_ne (by omega),e k j]
    by_cases g:k<i∨xs.length-1-k<i
    ·rw[if_pos g,if_pos (by omega)]
    ·rw[if_neg g,if_neg (by omega)]
theorem Q9K {α:Type} (xs:List α) (i:Nat) (c:2*i≤xs.length) (f:xs.length≤2*i+1):C9 i xs=xs.reverse:=by
 obtain ⟨e,d⟩:=Q0A xs i c
 apply List.ext_getElem?
 intro k
 by_cases b:k<xs.length
 ·rw[d k b,List.getElem?_reverse b]
  by_cases a:k<i∨xs.length-1-k<i
  ·rw[if_pos a]
  ·rw[if_neg a];congr 1;omega
 ·rw[List.getElem?_eq_none (by omega),List.getElem?_eq_none (by simp;omega)]
theorem Ks (L:Wy): ∀(f:Nat) (n:X0),(I4 L f n).length≤f
 | 0,_=>by simp[I4]
 | f+1,n=>by
  simp only[I4]
  split
  ·simp
  ·have:=Ks L f (by rename_i c _;exact c.super)
   simp only[List.length_cons];rename_i c _;have:=Ks L f c.super;omega
theorem Bi (l:List Cla) (n:X0):(chain l n).length≤l.length+1:=Ks _ _ _
theorem Bf {l:List Cla} {n:X0} {c:Cla} (h:c∈chain l n):c∈l:=by
 have key: ∀(f:Nat) (n:X0),c∈I4 (lk l) f n→c∈l:=by
  intro f
  induction f with
  | zero=>intro n h;simp[I4] at h
  | succ f a=>
   intro n h
   simp only[I4] at h
   split at h
   ·simp at h
   ·rename_i d b
    rcases List.mem_cons.1 h with rfl | h
    ·exact (V3 b).2.1
    ·exact a _ h
 exact key _ _ h
theorem Wg {α β:Type} (f:α→List β) (k:Nat): ∀(xs:List α),(∀x∈xs,(f x).length≤k)→(xs.flatMap f).length≤xs.length*k
 | [],_=>by simp
 | x::r,h=>by
  have b:=h x (by simp)
  have c:=Wg f k r fun y a=>h y (by simp[a])
  simp only[List.flatMap_cons,List.length_append,List.length_cons,Nat.add_mul];omega
end Go.Hm

namespace Go.Hm
open Go.Kd
def Y3 (l:List Cla) (i:Nat):X0:=(l.getD i Cla.zero).name
theorem Yh {l:List Cla} (b:T9 l) {i:Nat} (a:i<l.length):lk l (Y3 l i)=some (l.getD i Cla.zero):=by
 have e:l.getD i Cla.zero=l[i]:=by rw[List.getD_eq_getElem?_getD,List.getElem?_eq_getElem a];rfl
 unfold Y3
 rw[e];exact b.lk (List.getElem_mem a)
theorem S8 {l:List Cla} {u:X0} {j:Nat} (h:Z3 l u=some j):j<l.length∧Y3 l j=u:=by
 obtain ⟨a,b,_⟩:=List.findIdx?_eq_some_iff_getElem.1 h
 refine ⟨a,?_⟩
 unfold Y3
 rw[List.getD_eq_getElem?_getD,List.getElem?_eq_getElem a]
 simpa using b
theorem Q1I {l:List Cla} (g:Jc l) (e:T9 l) {i j:Nat} (b:i<l.length) {u:X0} (f:u∈U4 (l.getD i Cla.zero)) (a:Z3 l u=some j):K8 l (Y3 l j)<K8 l (Y3 l i):=by
 obtain ⟨c,d,_⟩:=Zk a
 rw[(S8 a).2]
 exact Yb g (Yh e b) f d
theorem Fq {α β:Type} {f g:β→α→β}: ∀(xs:List α) (b:β),(∀b x,x∈xs→f b x=g b x)→xs.foldl f b=xs.foldl g b
 | [],_,_=>rfl
 | x::r,b,h=>by
  rw[List.foldl_cons,List.foldl_cons,h b x (by simp)]
  exact Fq r _ fun b y a=>h b y (by simp[a])
theorem Yp {l:List Cla} {frm:Nat} (f:Nat) (a:List Nat) {i:Nat} (h:i<frm):Qb l frm f a i=a:=by
 cases f<;>simp[Qb,h]
theorem Q9y {l:List Cla} (o:Jc l) (e:T9 l) {frm:Nat} (c:0<frm): ∀(f g:Nat) (a:List Nat) (i:Nat),i<l.length→K8 l (Y3 l i)<f→K8 l (Y3 l i)<g→Qb l frm f a i=Qb l frm g a i:=by
 intro f
 induction f with
 | zero=>intro g a i _ h;omega
 | succ f n=>
  intro g a i p q r
  obtain ⟨g,rfl⟩: ∃m,g=m+1:=⟨g-1,by omega⟩
  simp only[Qb]
  split
  ·rfl
  ·split
   ·rfl
   ·congr 1
    refine Fq _ _ fun b u k=>?_
    cases d:Z3 l u with
    | none=>simp only[Option.getD_none];rw[Yp f b c,Yp g b c]
    | some j=>
     simp only[Option.getD_some]
     have:=Q1I o e p k d
     exact n g b j (S8 d).1 (by omega) (by omega)
def Xq (l:List Cla) (frm:Nat) (a:List Nat) (i:Nat):List Nat:=Qb l frm (l.length+1) a i
theorem Q7r {l:List Cla} (e:Jc l) (d:T9 l) {frm:Nat} (c:0<frm) (a:List Nat) {i:Nat} (h:i<l.length):Xq l frm a i=if i<frm then a else if i∈a then a else
 ((U4 (l.getD i Cla.zero)).foldl (fun a n=>Xq l frm a ((Z3 l n).getD 0)) a)++[i]:=by
 have k:=Q1E l (Y3 l i)
 unfold Xq
 rw[Qb]
 split
 ·rfl
 ·split
  ·rfl
  ·congr 1
   refine Fq _ _ fun b u g=>?_
   cases f:Z3 l u with
   | none=>simp only[Option.getD_none];rw[Yp _ b c,Yp _ b c]
   | some j=>
    simp only[Option.getD_some]
    have:=Q1I e d h g f
    exact Q9y e d c _ _ b j (S8 f).1 (by omega) (by omega)
theorem Lr {α:Type} {p:Nat→Prop} {f:List Nat→α→List Nat}: ∀(xs:List α) (b:List Nat),(∀b x,x∈xs→ ∀y∈f b x,y∈b∨p y)→ ∀y∈xs.foldl f b,y∈b∨p y
 | [],b,_=>fun y a=> .inl a
 | x::r,b,h=>fun y a=>by
  rw[List.foldl_cons] at a
  rcases Lr r _ (fun b z c=>h b z (by simp[c])) y a with h1 | h1
  ·exact h b x (by simp) y h1
  ·exact .inr h1
theorem Q6d {l:List Cla} (n:T9 l) {frm:Nat} (q:0<frm): ∀(f:Nat) (a:List Nat) (i:Nat),i<l.length→ ∀y∈Qb l frm f a i,y∈a∨(y<l.length∧(y=i∨Ww (lk l) (Y3 l i) (Y3 l y))):=by
 intro f
 induction f with
 | zero=>intro a i _ y hy;exact .inl hy
 | succ f s=>
  intro a i k y hy
  simp only[Qb] at hy
  split at hy
  ·exact .inl hy
  ·split at hy
   ·exact .inl hy
   ·rcases List.mem_append.1 hy with hy | hy
    ·refine Lr (p:=fun y=>y<l.length∧(y=i∨Ww (lk l) (Y3 l i) (Y3 l y))) _ _ (fun b u o y hy=>?_) y hy
     cases e:Z3 l u with
     | none=>
      rw[e] at hy
      simp only[Option.getD_none] at hy
      rw[Yp f b q] at hy
      exact .inl hy
     | some j=>
      rw[e] at hy
      simp only[Option.getD_some] at hy
      obtain ⟨g,d⟩:=S8 e
      obtain ⟨c,r,_⟩:=Zk e
      rcases s b j g y hy with h | ⟨m,rfl | h2⟩
      ·exact .inl h
      ·exact .inr ⟨m, .inr ⟨_,Yh n k,u,o,by rw[d];exact .refl r⟩⟩
      ·exact .inr ⟨m, .inr ⟨_,Yh n k,u,o,by rw[←d];exact h2.reach⟩⟩
    ·simp at hy;subst hy;exact .inr ⟨k, .inl rfl⟩
theorem Q3l {α:Type} {q:List Nat→Prop} {f:List Nat→α→List Nat}: ∀(xs:List α) (b:List Nat),(∀b x,x∈xs→q b→q (f b x))→q b→q (xs.foldl f b)
 | [],b,_,h=>h
 | x::r,b,a,h=>by
  rw[List.foldl_cons]
  exact Q3l r _ (fun b z c=>a b z (by simp[c])) (a b x (by simp) h)
def Few (l:List Cla) (a:List Nat):Prop:=a.Nodup∧ ∀y∈a,y<l.length
theorem Few.len {l:List Cla} {b:List Nat} (h:Few l b):b.length≤l.length:=by
 have key: ∀(n:Nat) (b:List Nat),b.Nodup→(∀y∈b,y<n)→b.length≤n:=by
  intro n
  induction n with
  | zero=>
   intro b _ h
   cases b with
   | nil=>simp
   | cons a r=>have:=h a (by simp);omega
  | succ n k=>
   intro b f h
   have g:=k (b.filter (fun y=> !decide (y=n))) (f.sublist List.filter_sublist) (fun y c=>by
    have:=List.mem_filter.1 c
    have j:=h y this.1
    have o:y≠n:=by simpa using this.2
    omega)
   have j:b.length≤(b.filter (fun y=> !decide (y=n))).length+1:=by
    clear g h
    induction b with
    | nil=>simp
    | cons a r d=>
     obtain ⟨m,i⟩:=List.nodup_cons.1 f
     by_cases e:a=n
     ·subst e
      have:r.filter (fun y=> !decide (y=a))=r:=List.filter_eq_self.2 fun y c=>by simp;rintro rfl;exact m c
      simp[this]
     ·have:=d i
      simp[e];exact this
   omega
 exact key _ _ h.1 h.2
theorem Ip {l:List Cla} (v:Jc l) (r:T9 l) {frm:Nat} (q:0<frm): ∀(f:Nat) (d:List Nat) (i:Nat),i<l.length→Few l d→Few l (Qb l frm f d i):=by
 intro f
 induction f with
 | zero=>intro d i _ h;exact h
 | succ f C=>
  intro d i A h
  simp only[Qb]
  split
  ·exact h
  ·split
   ·exact h
   ·rename_i o
    have z:Few l ((U4 (l.getD i Cla.zero)).foldl (fun d n=>Qb l frm f d ((Z3 l n).getD 0)) d):=by
     refine Q3l _ _ (fun b u s k=>?_) h
     cases e:Z3 l u with
     | none=>simp only[Option.getD_none];rw[Yp f b q];exact k
     | some j=>exact C b j (S8 e).1 k
    have w:i∉(U4 (l.getD i Cla.zero)).foldl (fun d n=>Qb l frm f d ((Z3 l n).getD 0)) d:=by
     intro m
     rcases Lr (p:=fun y=>Ww (lk l) (Y3 l i) (Y3 l y)) _ _ (fun b u s y hy=>by
      cases e:Z3 l u with
      | none=>
       rw[e] at hy
       simp only[Option.getD_none] at hy
       rw[Yp f b q] at hy
       exact .inl hy
      | some j=>
       rw[e] at hy
       simp only[Option.getD_some] at hy
       obtain ⟨t,g⟩:=S8 e
       obtain ⟨c,B,_⟩:=Zk e
       rcases Q6d r q f b j t y hy with h | ⟨h1,rfl | h2⟩
       ·exact .inl h
       ·exact .inr ⟨_,Yh r A,u,s,by rw[g];exact .refl B⟩
       ·exact .inr ⟨_,Yh r A,u,s,by rw[←g];exact h2.reach⟩) i m with h1 | h1
     ·exact o h1
     ·exact v _ h1
    refine ⟨?_,fun y hy=>?_⟩
    ·rw[List.nodup_append]
     exact ⟨z.1,by simp,by rintro a v b k rfl;simp at k;subst k;exact w v⟩
    ·rcases List.mem_append.1 hy with hy | hy
     ·exact z.2 y hy
     ·simp at hy;omega
end Go.Hm

namespace Go.Emb
open Go.RowKit Go.Hm
variable {P : Program} {w w0 w1 w' w'' : World} {K : Value → World → Prop} {σ σ0 σ1 σ' : Q6}
def Wj (sz:Nat) (v:Value) (i:Nat):Addr:=match v with
 | .slice (some b) _ _=>b.add (i*sz)
 | _=>⟨0,0,none⟩
section
variable {α : Type} {R : Q6 → α → List Value → Prop} {sz : Nat} {v : Value} {xs : List α}
theorem Sl.el (h:Sl sz R σ v xs) {i:Nat} (g:i<xs.length): ∃cs,Z6 σ (Wj sz v i) cs∧cs.length=sz∧R σ xs[i] cs:=by
 obtain ⟨a,e,rfl,m,l,j,k⟩:=h
 cases a with
 | none=>have:=j rfl;omega
 | some b=>
  obtain ⟨cs,d,f,c⟩:=(k b rfl).2 i xs[i] (by simp[g])
  exact ⟨cs,d,f,c⟩
theorem Y1 {t e:TypeId} {c:Nat} {z:Value} [TS P t e] [TZ P e sz c z] (h:Sl sz R σ v xs) {i:Nat} (k:i<xs.length) (g:K (.pointer (some (Wj sz v i))) w):indexAddr P t v (I i) w K:=by
 obtain ⟨a,d,rfl,m,j,f,l⟩:=h
 cases a with
 | none=>have:=f rfl;omega
 | some b=>
  rw[Sr (by omega) (by omega)]
  simpa [Wj] using g
theorem Sl.elS {xs:List Kd.X0} (h:Sl 1 U8 σ v xs) {i:Nat} (b:i<xs.length):Z6 σ (Wj 1 v i) [S xs[i]]∧xs[i].length≤U2:=by
 obtain ⟨cs,a,d,rfl,c⟩:=h.el b;exact ⟨a,c⟩
theorem Sl.elF {xs:List Fld} (h:Sl 3 S5 σ v xs) {i:Nat} (b:i<xs.length):Z6 σ (Wj 3 v i) [S xs[i].name,S xs[i].kind, .bool xs[i].tr]∧S5 σ xs[i] [S xs[i].name,S xs[i].kind, .bool xs[i].tr]:=by
 obtain ⟨cs,a,d,rfl,c⟩:=h.el b;exact ⟨a,rfl,c⟩
theorem Sl.elI {xs:List Ins} (h:Sl 3 Qp σ v xs) {i:Nat} (b:i<xs.length):Z6 σ (Wj 3 v i) [S xs[i].op,I xs[i].n,S xs[i].s]∧Qp σ xs[i] [S xs[i].op,I xs[i].n,S xs[i].s]:=by
 obtain ⟨cs,a,d,rfl,c⟩:=h.el b;exact ⟨a,rfl,c⟩
theorem Sl.elK {xs:List Cat} (h:Sl 4 Um σ v xs) {i:Nat} (b:i<xs.length):Z6 σ (Wj 4 v i) [I xs[i].frm,I xs[i].to,I xs[i].at_,S xs[i].cls]∧Um σ xs[i] [I xs[i].frm,I xs[i].to,I xs[i].at_,S xs[i].cls]:=by
 obtain ⟨cs,a,d,rfl,c⟩:=h.el b;exact ⟨a,rfl,c⟩
theorem Sl.conv {α β:Type} {R:Q6→α→List Value→Prop} {R':Q6→β→List Value→Prop} {sz:Nat} {v:Value} {xs:List α} {ys:List β} (h:Sl sz R σ v xs) (f:ys.length=xs.length) (n: ∀i (j:i<xs.length) (t:i<ys.length) cs,R σ xs[i] cs→R' σ ys[i] cs):Sl sz R' σ v ys:=by
 obtain ⟨a,d,rfl,p,l,m,e⟩:=h
 refine ⟨a,d,by rw[f],by rw[f];exact p,l,m,fun b g=>⟨fun s=>(e b g).1 (by omega),fun i x o=>?_⟩⟩
 obtain ⟨j,rfl⟩:=List.getElem?_eq_some_iff.1 o
 have c:i<xs.length:=by omega
 obtain ⟨cs,q,r,k⟩:=(e b g).2 i xs[i] (List.getElem?_eq_getElem c)
 exact ⟨cs,q,r,n i c j cs k⟩
theorem Sl.elM {xs:List Hm.Met} (h:Sl 7 E7 σ v xs) {i:Nat} (d:i<xs.length): ∃pv a b,Z6 σ (Wj 7 v i) [S xs[i].name,pv,S xs[i].result, .bool xs[i].abs,I xs[i].locals,a,b]∧E7 σ xs[i] [S xs[i].name,pv,S xs[i].result, .bool xs[i].abs,I xs[i].locals,a,b]:=by
 obtain ⟨cs,c,f,pv,a,b,rfl,e⟩:=h.el d;exact ⟨pv,a,b,c,pv,a,b,rfl,e⟩
theorem Sl.elC {xs:List Cla} (h:Sl 8 U9 σ v xs) {i:Nat} (d:i<xs.length): ∃a b mv,Z6 σ (Wj 8 v i) [S xs[i].name,S xs[i].super,a, .bool xs[i].iface, .bool xs[i].abs, .bool xs[i].fin,b,mv]∧U9 σ xs[i] [S xs[i].name,S xs[i].super,a, .bool xs[i].iface, .bool xs[i].abs, .bool xs[i].fin,b,mv]:=by
 obtain ⟨cs,c,f,a,b,mv,rfl,e⟩:=h.el d;exact ⟨a,b,mv,c,a,b,mv,rfl,e⟩
end
theorem Z9 {b:World→World→Prop} {A a:(Value→World→Prop)→Prop} {V:Value} (h:A (fun v _=>V=v)) (c:a (fun v _=>V=v)):Q5 b A a:=E8 _ (fun _ _ _ h _=>h) h c
theorem L7 {v V:Value} (h:V=v):dk (fun w w'=>Below w.heap.size w w') (fun v _=>V=v) w v w:=⟨Below.refl _ _,h⟩
theorem R9 {v V:Value} (a:Below w.heap.size w w') (h:V=v):dk (fun w w'=>Below w.heap.size w w') (fun v _=>V=v) w v w':=⟨a,h⟩
theorem B8 {c b:Bool} {V:Value} {a:World→(Value→World→Prop)→Prop} (h:c=b→a w (dk (fun w w'=>Below w.heap.size w w') (fun v _=>V=v) w)):Q0 (.bool c) b w a (dk (fun w w'=>Below w.heap.size w w') (fun v _=>(if c=b then V else undef)=v) w):=by
 by_cases e:c=b
 ·simp only[e,if_true]
  subst e
  have:=h rfl
  cases c
  ·rw[W9];exact this
  ·rw[W5];exact this
 ·have d:c= !b:=by cases c<;>cases b<;>simp_all
  rw[if_neg e];subst d
  cases b
  ·rw[Bool.not_false,S6];exact ⟨Below.refl _ _,rfl⟩
  ·rw[Bool.not_true,E1];exact ⟨Below.refl _ _,rfl⟩
theorem Qa {p:Prop} (hq:p:=by intros;(repeat (rename_i hx;subst hx));(repeat' (first | (with_reducible exact L7 rfl) | (with_reducible exact R9 (Stp.bel (by (repeat (first | exact Stp.refl (by (first | assumption | exact Stp.sat (by assumption) | exact Hst.sat (by assumption))) | assumption | refine Stp.trans ?_ (by first | assumption | exact Hst.stp (by assumption)))))) rfl) | (with_reducible intro _) | (simp only[↓M2,M2,Mb,reduceIte]) | (with_reducible show Q2 _ _ _ _ _;first | refine X7 aS aL aR ?_ | refine Y4 aS aL aR ?_ | refine ld aS aL aR ?_) | (with_reducible show indexAddr _ _ _ _ _ _;refine Y1 aL au ?_) | (with_reducible show X2 _ _ _ _ _ _ _ _;refine Q8 aL ?_) | (with_reducible show B7 _ _ _ _ _ _;refine J3 aR ?_) | (with_reducible show pick _ _ _ _ _ _;refine M3 ?_) | (apply B8;intro hh;(try simp only[hh,reduceIte,↓M2,M2,Mb,reduceIte]))));done):p:=hq
end Go.Emb

namespace Go.Emb
open Go.RowKit Go.Hm
variable {P : Program} {w w0 w1 w' w'' : World} {K : Value → World → Prop} {σ σ0 σ1 σ' : Q6}
section
variable {α : Type} {R : Q6 → α → List Value → Prop} {B sz : Nat} {e : TypeId} {v u : Value} {xs ys : List α}
def Emp (v:Value):Prop:= ∃a,v= .slice a 0 0
theorem Q7M {t p:TypeId} {q:Nat} {z:Value} {cs:List Bool} [ts:TS P t e] [tz:TZ P e sz q z] [hr:Rep R] (hS:Stp w0 σ0 w σ) (ha:V7 w0.heap.size e sz R σ w v []) (hv:Emp v) (Q:X3 w σ') (W:Sl sz R σ' u ys) (hR: ∀x cs,R σ' x cs→R σ x cs) (U:(z.cells.size==sz&&decide (0<sz))=true)
 (hb:ys.length*q≤140737488355328) (hm:ys.length≤1000000000000)
 (h: ∀j w',Stp w σ w' σ→V7 w0.heap.size e sz R σ w' j ys→K j w'):X2 P .append [t,t] p cs [v,u] w K:=by
 obtain ⟨l,rfl⟩:=hv
 have D:=hS.sat
 obtain ⟨a,d,c,rfl,n1,C,n3,n4,n5⟩:=W.cells Q
 obtain ⟨i,Y,E,J,m⟩:=tz.info
 simp only[Bool.and_eq_true,beq_iff_eq,decide_eq_true_eq] at U
 obtain ⟨H,aq⟩:=U
 have g:Src P i.size t (.slice a ys.length d) ys.length c w:=by
  cases a with
  | some b=>exact Src.ofSlice w ts.h b ys.length d c (by rw[E];exact C) (n3 b rfl) n4
  | none=>
   have s:ys.length=0:=by
    obtain ⟨V,Z,e',q1,_,q3,_⟩:=W;injection e' with e1 e2 e3;have:=n1 rfl;omega
   have O:c=[]:=List.eq_nil_of_length_eq_zero (by rw[C,s];simp)
   subst O
   rw[s];exact Src.ofNil w ts.h d
 have y: ∀j w',(Builtin.append_ #[t,t] p #[.slice l 0 0, .slice a ys.length d]).run P w= .ok j w'→Stp w σ w' σ→V7 w0.heap.size e sz R σ w' j ys→X2 P .append [t,t] p cs [.slice l 0 0, .slice a ys.length d] w K:=by
  intro j w' f N hq
  have o:(builtin .append #[t,t] p cs.toArray #[.slice l 0 0, .slice a ys.length d]).run P w= .ok (.value j) w':=by
   simp[builtin,f]
  unfold X2
  rw[T3];unfold P5
  rw[o]
  exact h j w' N hq
 by_cases s:ys=[]
 ·subst s
  have O:c=[]:=List.eq_nil_of_length_eq_zero (by simpa using C)
  subst O
  refine y (.slice l 0 0) w ?_ (Stp.refl D) ha
  have X:=g.len w
  have r:=g.cells
  simp only[List.length_nil] at X r⊢
  cases l<;>simp[Builtin.append_,run_underlying ts.h,sizeOf,typeInfo,Y,X,r,storeCells]
 ·have ae:0<ys.length:=List.length_pos_iff.2 s
  have n:(Builtin.firstCells i.size 0 (.slice l 0 0)).run P w.drew= .ok (#[]:Array Value) w.drew:=by
   cases l with
   | none=>exact run_firstCells_none w.drew i.size 0 0 0
   | some V=>exact run_firstCells_some w.drew i.size 0 V 0 0 [] (by simp) (by intro _ _ h';simp at h')
  have hg:0<0+ys.length:=by omega
  have f:=run_append_grow_src (P:=P) w t t p e i z ts.h Y m l 0 0 [] n (.slice a ys.length d) ys.length c g hg (by omega) (growslice_fits hg (by rw[J,Nat.zero_add];exact hb))
  simp only[Nat.zero_add] at f
  have M:=grownCap_le_maxLen w ys.length 0 e (by simp only[maxLen];omega)
  have L:=grownCap_ge w ys.length 0 e
  refine y _ _ f (Stp.of_below D ((Below.refl _ _).drew.alloc (Nat.le_refl _) _)) ⟨c,⟨C, .inr ⟨w.heap.size,_,_,rfl,hS.bel.size,heap_alloc_new w.drew _,L,M,?_,?_⟩⟩,?_,fun i x hx=>hR _ _ (n5 i x hx)⟩
  ·simp only[List.nil_append]
   rw[Array.size_append,List.size_toArray,C,size_zeroCells,H,←Nat.add_mul]
   congr 1;omega
  ·simp only[List.nil_append]
   rw[Array.toList_append]
   rw[List.take_append_of_le_length (by simp only[List.toList_toArray];omega),List.take_of_length_le (by simp only[List.toList_toArray];omega)]
  ·intro k N;cases N;exact D.none (Nat.le_refl _)
theorem X3B {t d:TypeId} {a:Nat} {z:Value} {cs:List Bool} [ts:TS P t e] [tz:TZ P e sz a z] [hr:Rep R] (c:Stp w0 σ0 w σ) (g:V7 w0.heap.size e sz R σ w v []) (l:Emp v) (f:Sl sz R σ u ys) (j:(z.cells.size==sz&&decide (0<sz))=true)
 (k:ys.length*a≤140737488355328) (i:ys.length≤1000000000000)
 (h: ∀b w',Stp w σ w' σ→V7 w0.heap.size e sz R σ w' b ys→K b w'):X2 P .append [t,t] d cs [v,u] w K:=
 Q7M c g l c.sat f (fun _ _ h=>h) j k i h
end
def X12 {α:Type} (w0:World) (σ:Q6) (e:TypeId) (sz:Nat) (R:Q6→α→List Value→Prop) (xs:List α) (v:Value) (w':World):Prop:=Stp w0 σ w' σ∧V7 w0.heap.size e sz R σ w' v xs
def Q8p {α:Type} (w0:World) (σ:Q6) (e:TypeId) (sz:Nat) (R:Q6→α→List Value→Prop) (v:Value) (w':World):Prop:=Stp w0 σ w' σ∧V7 w0.heap.size e sz R σ w' v ([]:List α)∧Emp v
section
variable {α : Type} {R : Q6 → α → List Value → Prop} {sz : Nat} {e : TypeId} {v u : Value} {xs ys : List α} {A rest : (Value → World → Prop) → Prop}
theorem Q1P [Rep R] (xs:List α) (h:A (X12 w σ e sz R xs)) (d:rest (X12 w σ e sz R xs)):Q5 (fun w w'=>Below w.heap.size w w') A rest:=
 E8 _ (fun _ _ _ ⟨a,c⟩ b=>⟨a.trans (Stp.of_below a.sat b),c.up (Stp.of_below a.sat b)⟩) h d
theorem X2J [Rep R] (h:A (Q8p w σ e sz R)) (f:rest (Q8p w σ e sz R)):Q5 (fun w w'=>Below w.heap.size w w') A rest:=
 E8 _ (fun _ _ _ ⟨a,d,c⟩ b=>⟨a.trans (Stp.of_below a.sat b),d.up (Stp.of_below a.sat b),c⟩) h f
theorem Q3h (a:Hst w σ w1 σ) (h:Stp w1 σ w' σ) (b:V7 w.heap.size e sz R σ w' v xs):dk (fun w w'=>Below w.heap.size w w') (X12 w σ e sz R xs) w1 v w':=⟨h.bel,a.stp.trans h,b⟩
theorem X35 (a:Hst w σ w1 σ) (h:Stp w1 σ w' σ) (b:V7 w.heap.size e sz R σ w' v ([]:List α)) (c:Emp v):dk (fun w w'=>Below w.heap.size w w') (Q8p w σ e sz R) w1 v w':=⟨h.bel,a.stp.trans h,b,c⟩
theorem Ej {t:TypeId} {a:Nat} {z:Value} [ts:TS P t e] [tz:TZ P e sz a z] (R:Q6→α→List Value→Prop) (c:Stp w0 σ0 w σ) (f:0<sz)
 (h: ∀v w',Stp w σ w' σ→V7 w0.heap.size e sz R σ w' v ([]:List α)→Emp v→K v w'):buildSlice P t 0 [] w K:=by
 obtain ⟨cells,d,i⟩:=Ht (P:=P) (t:=t) (sz:=sz) (e:=e) [] (by simp) (by simp) w
 unfold buildSlice
 have b:(Instr.buildSlice t 0 ([]:List (Nat×Value)).toArray).run P w=_:=d
 rw[Y0 b]
 refine h _ _ (Stp.own c.sat _) ⟨[],⟨by simp, .inr ⟨_,_,cells,rfl,c.bel.size,heap_alloc_new w _,by simp,by simp[maxLen],?_,by simp⟩⟩,?_,by simp⟩ ⟨_,rfl⟩
 ·have:cells.size=0:=by rw[←Array.length_toList,i];rfl
  simp[this]
 ·intro k g;cases g;exact c.sat.none (Nat.le_refl _)
theorem Q37 [Rep R] {t:TypeId} {a:Nat} {z:Value} [ts:TS P t e] [tz:TZ P e sz a z] (b:(decide (0<sz))=true) (d:rest (Q8p w σ e sz R)):
 Q5 (fun w w'=>Below w.heap.size w w') (fun φ=> ∀w1:World,Hst w σ w1 σ→buildSlice P t 0 [] w1 (dk (fun w w'=>Below w.heap.size w w') φ w1)) rest:=
 X2J (fun w1 c=>Ej R c.stp (by simpa using b) fun v w' g h f=>X35 c g h f) d
end
theorem U9.parts {c:Cla} {a b g d e f i mv:Value} (h:U9 σ c [a,b,g,d,e,f,i,mv]):Sl 1 U8 σ g c.like∧Sl 3 S5 σ i c.fields∧Sl 7 E7 σ mv c.methods∧c.name.length≤U2∧c.super.length≤U2:=by
 obtain ⟨_,_,_,j,k⟩:=h
 simp only[List.cons.injEq,and_true] at j
 obtain ⟨_,_,rfl,_,_,_,rfl,rfl⟩:=j
 exact k
theorem E7.parts {m:Hm.Met} {a pv b d e c g:Value} (h:E7 σ m [a,pv,b,d,e,c,g]):Sl 1 U8 σ pv m.params∧Sl 3 Qp σ c m.code∧Sl 4 Um σ g m.catches∧m.name.length≤U2∧m.result.length≤U2∧Yn m.locals:=by
 obtain ⟨_,_,_,f,i⟩:=h
 simp only[List.cons.injEq,and_true] at f
 obtain ⟨_,rfl,_,_,_,rfl,rfl⟩:=f
 exact i
end Go.Emb

namespace Go.Emb
open Go.RowKit
variable {P : Program} {w : World} {K : Value → World → Prop}
theorem X2d {d:Nat} {xs ys:Array Value}:(Op.eqFields d xs ys []).run P w= .ok true w:=by simp[Op.eqFields]
theorem Ix {d:Nat} {xs ys:Array Value} {f:Field} {a:List Field} {u v:Value} {b c:Bool} (h:f.name≠ "_") [tg:TG P f.type false] (g:xs[f.offset]? =some u) (j:ys[f.offset]? =some v)
 (e:(Op.equalIn d f.type u v).run P w= .ok b w) (i:(Op.eqFields d xs ys a).run P w= .ok c w):(Op.eqFields d xs ys (f::a)).run P w= .ok (b&&c) w:=by
 simp only[Op.eqFields,if_pos h]
 simp[part,Ya tg,g,j,e]
 cases b
 ·simp
 ·simp[i]
theorem X1Z {d:Nat} {t:TypeId} (c:P.underlying t=some .string) (a b:List UInt8):(Op.equalIn (d+1) t (S a) (S b)).run P w= .ok (decide (a=b)) w:=by
 simp[Op.equalIn,run_underlying c,Ev]
theorem Q3O {d:Nat} {t:TypeId} {k c:IntKind} (f:P.underlying t=some (.int k)) (a b:Int):(Op.equalIn (d+1) t (.int c a) (.int c b)).run P w= .ok (decide (a=b)) w:=by
 simp[Op.equalIn,run_underlying f]
 by_cases e:a=b<;>simp[e]
theorem X1W {t:TypeId} {a c:Operand} {xs ys:List Value} {b:Bool} (d:P.underlying t=some (.struct (P.fieldsOf t))) (i:P.stoodInHeld t=false) (g:P.eqGuardType P.depth t=false)
 (f:(Op.eqFields 9999 xs.toArray ys.toArray (P.fieldsOf t).toList).run P w= .ok b w) (h:K (.bool (!b)) w):Q3 P .neq t a c (.agg xs.toArray) (.agg ys.toArray) w K:=by
 have e:Q3 P .neq t a c (.agg xs.toArray) (.agg ys.toArray) w K=K (.bool (!b)) w:=Y0 (by
  simp only[Sem.run_bind,run_eqGuard_agg w .neq t a c xs.toArray ys.toArray g,Result.andThen_ok]
  rw[run_neq_struct,run_equalIn_struct w 9999 t _ _ d i,f];rfl)
 rw[e];exact h
theorem X2Q {t:TypeId} {a c:Operand} {xs ys:List Value} {b:Bool} (d:P.underlying t=some (.struct (P.fieldsOf t))) (i:P.stoodInHeld t=false) (g:P.eqGuardType P.depth t=false)
 (f:(Op.eqFields 9999 xs.toArray ys.toArray (P.fieldsOf t).toList).run P w= .ok b w) (h:K (.bool b) w):Q3 P .eql t a c (.agg xs.toArray) (.agg ys.toArray) w K:=by
 have e:Q3 P .eql t a c (.agg xs.toArray) (.agg ys.toArray) w K=K (.bool b) w:=Y0 (by
  simp only[Sem.run_bind,run_eqGuard_agg w .eql t a c xs.toArray ys.toArray g,Result.andThen_ok]
  rw[run_eql_struct,run_equalIn_struct w 9999 t _ _ d i,f];rfl)
 rw[e];exact h
end Go.Emb
namespace Go.Proofs.YtjdiakhipmggjaaGreatDoor
open Go.Emb Go.RowKit Go.Kd Go.Hm
variable {w : World} {K : Value → World → Prop} {σ : Q6}
end Go.Proofs.YtjdiakhipmggjaaGreatDoor

namespace Go.Proofs.YtjdiakhipmggjaaGreatDoor
open Go.Emb Go.RowKit Go.Kd
variable {w : World} {K : Value → World → Prop}
end Go.Proofs.YtjdiakhipmggjaaGreatDoor
