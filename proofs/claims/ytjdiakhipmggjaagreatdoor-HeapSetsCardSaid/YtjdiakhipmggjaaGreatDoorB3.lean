/- Parts of a proof about the given program: its functions as texts of their own, what each computes, plain laws of that. The conditions of each stand in its statement. -/
import Derived.Test.YtjdiakhipmggjaaGreatDoorB2
import Derived.Test.YtjdiakhipmggjaaGreatDoorB1
import Derived.ChangeArms
import Derived.DataReads
import Derived.SizedLaws
import Derived.Deep.AppendSrc
import Derived.Laws.StructEq
set_option linter.unnecessarySimpa false
set_option linter.defProp false
set_option linter.unusedSectionVars false
set_option linter.unusedVariables false
set_option linter.unusedSimpArgs false
namespace Go.Proofs.YtjdiakhipmggjaaGreatDoor
open Go.Emb
instance z_x:TZ P T.x 1 0 (.tuple #[]):=⟨by kernel_rfl⟩
instance g_x:TG P T.x false:=⟨by kernel_rfl⟩
instance z_int64:TZ P T.a0 1 8 (.int .i64 0):=⟨by kernel_rfl⟩
instance g_int64:TG P T.a0 false:=⟨by kernel_rfl⟩
instance z_int:TZ P T.d 1 8 (.int .i64 0):=⟨by kernel_rfl⟩
instance g_int:TG P T.d false:=⟨by kernel_rfl⟩
instance z_bool:TZ P T.u 1 1 (.bool false):=⟨by kernel_rfl⟩
instance g_bool:TG P T.u false:=⟨by kernel_rfl⟩
instance z_uint8:TZ P T.a3 1 1 (.int .u8 0):=⟨by kernel_rfl⟩
instance g_uint8:TG P T.a3 false:=⟨by kernel_rfl⟩
instance z_string:TZ P T.c 1 16 (.string ⟨#[]⟩):=⟨by kernel_rfl⟩
instance g_string:TG P T.c false:=⟨by kernel_rfl⟩
instance z_uintptr:TZ P T.av 1 8 (.int .u64 0):=⟨by kernel_rfl⟩
instance g_uintptr:TG P T.av false:=⟨by kernel_rfl⟩
instance z_int32:TZ P T.an 1 4 (.int .i32 0):=⟨by kernel_rfl⟩
instance g_int32:TG P T.an false:=⟨by kernel_rfl⟩
instance z_P_hier_Table:TZ P T.r 1 8 (.pointer none):=⟨by kernel_rfl⟩
instance g_P_hier_Table:TG P T.r false:=⟨by kernel_rfl⟩
instance z_api_Errno:TZ P T.w 1 8 (.int .i64 0):=⟨by kernel_rfl⟩
instance g_api_Errno:TG P T.w false:=⟨by kernel_rfl⟩
instance z_S_api_Class:TZ P T.i 1 24 (.slice none 0 0):=⟨by kernel_rfl⟩
instance g_S_api_Class:TG P T.i false:=⟨by kernel_rfl⟩
instance s_S_api_Class:TS P T.i 85:=⟨by kernel_rfl⟩
instance z_P_heap_Heap:TZ P T.a5 1 8 (.pointer none):=⟨by kernel_rfl⟩
instance g_P_heap_Heap:TG P T.a5 false:=⟨by kernel_rfl⟩
instance z_api_Value:TZ P T.g 4 40 (.agg #[.int .i64 0, .int .i64 0, .string ⟨#[]⟩, .int .i64 0]):=⟨by kernel_rfl⟩
instance g_api_Value:TG P T.g true:=⟨by kernel_rfl⟩
instance f_api_Value_0:TF P T.g 0 0 3:=⟨by kernel_rfl⟩
instance f_api_Value_1:TF P T.g 1 1 2:=⟨by kernel_rfl⟩
instance f_api_Value_2:TF P T.g 2 2 9:=⟨by kernel_rfl⟩
instance f_api_Value_3:TF P T.g 3 3 3:=⟨by kernel_rfl⟩
instance z_S_api_Cell:TZ P T.f 1 24 (.slice none 0 0):=⟨by kernel_rfl⟩
instance g_S_api_Cell:TG P T.f false:=⟨by kernel_rfl⟩
instance s_S_api_Cell:TS P T.f 78:=⟨by kernel_rfl⟩
instance z_uint16:TZ P T.aq 1 2 (.int .u16 0):=⟨by kernel_rfl⟩
instance g_uint16:TG P T.aq false:=⟨by kernel_rfl⟩
instance z_S_squinchref09_Act:TZ P T.z 1 24 (.slice none 0 0):=⟨by kernel_rfl⟩
instance g_S_squinchref09_Act:TG P T.z false:=⟨by kernel_rfl⟩
instance s_S_squinchref09_Act:TS P T.z 51:=⟨by kernel_rfl⟩
instance z_squinchref09_Heap:TZ P T.a 3 56 (.agg #[.slice none 0 0, .int .i64 0, .slice none 0 0]):=⟨by kernel_rfl⟩
instance g_squinchref09_Heap:TG P T.a true:=⟨by kernel_rfl⟩
instance f_squinchref09_Heap_0:TF P T.a 0 0 26:=⟨by kernel_rfl⟩
instance f_squinchref09_Heap_1:TF P T.a 1 1 3:=⟨by kernel_rfl⟩
instance f_squinchref09_Heap_2:TF P T.a 2 2 37:=⟨by kernel_rfl⟩
instance z_squinchref09_Act:TZ P T.l 8 80 (.agg #[.int .i64 0, .string ⟨#[]⟩, .int .i64 0, .int .i64 0, .int .i64 0, .int .i64 0, .string ⟨#[]⟩, .int .i64 0]):=⟨by kernel_rfl⟩
instance g_squinchref09_Act:TG P T.l true:=⟨by kernel_rfl⟩
instance f_squinchref09_Act_0:TF P T.l 0 0 3:=⟨by kernel_rfl⟩
instance f_squinchref09_Act_1:TF P T.l 1 1 9:=⟨by kernel_rfl⟩
instance f_squinchref09_Act_2:TF P T.l 2 2 2:=⟨by kernel_rfl⟩
instance f_squinchref09_Act_3:TF P T.l 3 3 3:=⟨by kernel_rfl⟩
instance f_squinchref09_Act_4:TF P T.l 4 4 33:=⟨by kernel_rfl⟩
instance z_S_string:TZ P T.h 1 24 (.slice none 0 0):=⟨by kernel_rfl⟩
instance g_S_string:TG P T.h false:=⟨by kernel_rfl⟩
instance s_S_string:TS P T.h 9:=⟨by kernel_rfl⟩
instance z_S_api_Field:TZ P T.k 1 24 (.slice none 0 0):=⟨by kernel_rfl⟩
instance g_S_api_Field:TG P T.k false:=⟨by kernel_rfl⟩
instance s_S_api_Field:TS P T.k 69:=⟨by kernel_rfl⟩
instance z_api_Field:TZ P T.o 3 40 (.agg #[.string ⟨#[]⟩, .string ⟨#[]⟩, .bool false]):=⟨by kernel_rfl⟩
instance g_api_Field:TG P T.o true:=⟨by kernel_rfl⟩
instance f_api_Field_0:TF P T.o 0 0 9:=⟨by kernel_rfl⟩
instance f_api_Field_1:TF P T.o 1 1 9:=⟨by kernel_rfl⟩
instance f_api_Field_2:TF P T.o 2 2 4:=⟨by kernel_rfl⟩
instance z_func_int_2:TZ P T.ak 1 8 .nilFunc:=⟨by kernel_rfl⟩
instance g_func_int_2:TG P T.ak false:=⟨by kernel_rfl⟩
instance z_S_api_Value:TZ P T.m 1 24 (.slice none 0 0):=⟨by kernel_rfl⟩
instance g_S_api_Value:TG P T.m false:=⟨by kernel_rfl⟩
instance s_S_api_Value:TS P T.m 33:=⟨by kernel_rfl⟩
instance z_api_Cell:TZ P T.n 2 40 (.agg #[.string ⟨#[]⟩, .slice none 0 0]):=⟨by kernel_rfl⟩
instance g_api_Cell:TG P T.n true:=⟨by kernel_rfl⟩
instance f_api_Cell_0:TF P T.n 0 0 9:=⟨by kernel_rfl⟩
instance f_api_Cell_1:TF P T.n 1 1 76:=⟨by kernel_rfl⟩
instance z_M_string_int:TZ P T.a2 1 8 (.map none):=⟨by kernel_rfl⟩
instance g_M_string_int:TG P T.a2 false:=⟨by kernel_rfl⟩
instance m_M_string_int:TM P T.a2 9 3:=⟨by kernel_rfl⟩
instance z_hier_Table:TZ P T.a1 2 32 (.agg #[.slice none 0 0, .map none]):=⟨by kernel_rfl⟩
instance g_hier_Table:TG P T.a1 true:=⟨by kernel_rfl⟩
instance f_hier_Table_0:TF P T.a1 0 0 26:=⟨by kernel_rfl⟩
instance f_hier_Table_1:TF P T.a1 1 1 80:=⟨by kernel_rfl⟩
instance z_S_api_Method:TZ P T.j 1 24 (.slice none 0 0):=⟨by kernel_rfl⟩
instance g_S_api_Method:TG P T.j false:=⟨by kernel_rfl⟩
instance s_S_api_Method:TS P T.j 98:=⟨by kernel_rfl⟩
instance z_api_Class:TZ P T.b 8 112 (.agg #[.string ⟨#[]⟩, .string ⟨#[]⟩, .slice none 0 0, .bool false, .bool false, .bool false, .slice none 0 0, .slice none 0 0]):=⟨by kernel_rfl⟩
instance g_api_Class:TG P T.b true:=⟨by kernel_rfl⟩
instance f_api_Class_0:TF P T.b 0 0 9:=⟨by kernel_rfl⟩
instance f_api_Class_1:TF P T.b 1 1 9:=⟨by kernel_rfl⟩
instance f_api_Class_2:TF P T.b 2 2 54:=⟨by kernel_rfl⟩
instance f_api_Class_3:TF P T.b 3 3 4:=⟨by kernel_rfl⟩
instance f_api_Class_4:TF P T.b 4 4 4:=⟨by kernel_rfl⟩
instance f_api_Class_5:TF P T.b 5 5 4:=⟨by kernel_rfl⟩
instance f_api_Class_6:TF P T.b 6 6 65:=⟨by kernel_rfl⟩
instance f_api_Class_7:TF P T.b 7 7 83:=⟨by kernel_rfl⟩
instance z_func_string_bool:TZ P T.a4 1 8 .nilFunc:=⟨by kernel_rfl⟩
instance g_func_string_bool:TG P T.a4 false:=⟨by kernel_rfl⟩
instance z_S_int:TZ P T.a7 1 24 (.slice none 0 0):=⟨by kernel_rfl⟩
instance g_S_int:TG P T.a7 false:=⟨by kernel_rfl⟩
instance s_S_int:TS P T.a7 3:=⟨by kernel_rfl⟩
instance z_api_Instr:TZ P T.v 3 40 (.agg #[.string ⟨#[]⟩, .int .i64 0, .string ⟨#[]⟩]):=⟨by kernel_rfl⟩
instance g_api_Instr:TG P T.v true:=⟨by kernel_rfl⟩
instance f_api_Instr_0:TF P T.v 0 0 9:=⟨by kernel_rfl⟩
instance f_api_Instr_1:TF P T.v 1 1 2:=⟨by kernel_rfl⟩
instance f_api_Instr_2:TF P T.v 2 2 9:=⟨by kernel_rfl⟩
instance z_S_api_Instr:TZ P T.q 1 24 (.slice none 0 0):=⟨by kernel_rfl⟩
instance g_S_api_Instr:TG P T.q false:=⟨by kernel_rfl⟩
instance s_S_api_Instr:TS P T.q 94:=⟨by kernel_rfl⟩
instance z_S_api_Catch:TZ P T.s 1 24 (.slice none 0 0):=⟨by kernel_rfl⟩
instance g_S_api_Catch:TG P T.s false:=⟨by kernel_rfl⟩
instance s_S_api_Catch:TS P T.s 172:=⟨by kernel_rfl⟩
instance z_api_Method:TZ P T.e 7 120 (.agg #[.string ⟨#[]⟩, .slice none 0 0, .string ⟨#[]⟩, .bool false, .int .i64 0, .slice none 0 0, .slice none 0 0]):=⟨by kernel_rfl⟩
instance g_api_Method:TG P T.e true:=⟨by kernel_rfl⟩
instance f_api_Method_0:TF P T.e 0 0 9:=⟨by kernel_rfl⟩
instance f_api_Method_1:TF P T.e 1 1 54:=⟨by kernel_rfl⟩
instance f_api_Method_2:TF P T.e 2 2 9:=⟨by kernel_rfl⟩
instance f_api_Method_3:TF P T.e 3 3 4:=⟨by kernel_rfl⟩
instance f_api_Method_4:TF P T.e 4 4 3:=⟨by kernel_rfl⟩
instance f_api_Method_5:TF P T.e 5 5 95:=⟨by kernel_rfl⟩
instance f_api_Method_6:TF P T.e 6 6 96:=⟨by kernel_rfl⟩
instance z_heap_Heap:TZ P T.p 4 48 (.agg #[.pointer none, .int .i64 0, .int .i64 0, .slice none 0 0]):=⟨by kernel_rfl⟩
instance g_heap_Heap:TG P T.p true:=⟨by kernel_rfl⟩
instance f_heap_Heap_0:TF P T.p 0 0 22:=⟨by kernel_rfl⟩
instance f_heap_Heap_1:TF P T.p 1 1 3:=⟨by kernel_rfl⟩
instance f_heap_Heap_2:TF P T.p 2 2 3:=⟨by kernel_rfl⟩
instance f_heap_Heap_3:TF P T.p 3 3 37:=⟨by kernel_rfl⟩
instance z_func_string_string:TZ P T.ac 1 8 .nilFunc:=⟨by kernel_rfl⟩
instance g_func_string_string:TG P T.ac false:=⟨by kernel_rfl⟩
instance z_A6_string:TZ P T.ao 6 96 (.agg #[.string ⟨#[]⟩, .string ⟨#[]⟩, .string ⟨#[]⟩, .string ⟨#[]⟩, .string ⟨#[]⟩, .string ⟨#[]⟩]):=⟨by kernel_rfl⟩
instance g_A6_string:TG P T.ao true:=⟨by kernel_rfl⟩
instance a_A6_string:TA P T.ao 6 9:=⟨by kernel_rfl⟩
instance z_M_string_string:TZ P T.y 1 8 (.map none):=⟨by kernel_rfl⟩
instance g_M_string_string:TG P T.y false:=⟨by kernel_rfl⟩
instance m_M_string_string:TM P T.y 9 9:=⟨by kernel_rfl⟩
instance z_func_api_Method_string:TZ P T.a9 1 8 .nilFunc:=⟨by kernel_rfl⟩
instance g_func_api_Method_string:TG P T.a9 false:=⟨by kernel_rfl⟩
instance z_func_api_Method_bool:TZ P T.ae 1 8 .nilFunc:=⟨by kernel_rfl⟩
instance g_func_api_Method_bool:TG P T.ae false:=⟨by kernel_rfl⟩
instance z_S_S_bool:TZ P T.a8 1 24 (.slice none 0 0):=⟨by kernel_rfl⟩
instance g_S_S_bool:TG P T.a8 false:=⟨by kernel_rfl⟩
instance s_S_S_bool:TS P T.a8 148:=⟨by kernel_rfl⟩
instance z_S_bool:TZ P T.a6 1 24 (.slice none 0 0):=⟨by kernel_rfl⟩
instance g_S_bool:TG P T.a6 false:=⟨by kernel_rfl⟩
instance s_S_bool:TS P T.a6 4:=⟨by kernel_rfl⟩
instance g_A256_uint8:TG P T.au true:=⟨by kernel_rfl⟩
instance a_A256_uint8:TA P T.au 256 5:=⟨by kernel_rfl⟩
instance z_utf8_acceptRange:TZ P T.aj 2 2 (.agg #[.int .u8 0, .int .u8 0]):=⟨by kernel_rfl⟩
instance g_utf8_acceptRange:TG P T.aj true:=⟨by kernel_rfl⟩
instance f_utf8_acceptRange_0:TF P T.aj 0 0 5:=⟨by kernel_rfl⟩
instance f_utf8_acceptRange_1:TF P T.aj 1 1 5:=⟨by kernel_rfl⟩
instance z_A16_utf8_acceptRange:TZ P T.al 32 32 (.agg #[.int .u8 0, .int .u8 0, .int .u8 0, .int .u8 0, .int .u8 0, .int .u8 0, .int .u8 0, .int .u8 0, .int .u8 0, .int .u8 0, .int .u8 0, .int .u8 0, .int .u8 0, .int .u8 0, .int .u8 0, .int .u8 0, .int .u8 0, .int .u8 0, .int .u8 0, .int .u8 0, .int .u8 0, .int .u8 0, .int .u8 0, .int .u8 0, .int .u8 0, .int .u8 0, .int .u8 0, .int .u8 0, .int .u8 0, .int .u8 0, .int .u8 0, .int .u8 0]):=⟨by kernel_rfl⟩
instance g_A16_utf8_acceptRange:TG P T.al true:=⟨by kernel_rfl⟩
instance a_A16_utf8_acceptRange:TA P T.al 16 156:=⟨by kernel_rfl⟩
instance z_func_api_Field_string:TZ P T.aa 1 8 .nilFunc:=⟨by kernel_rfl⟩
instance g_func_api_Field_string:TG P T.aa false:=⟨by kernel_rfl⟩
instance z_func_api_Field_bool:TZ P T.ag 1 8 .nilFunc:=⟨by kernel_rfl⟩
instance g_func_api_Field_bool:TG P T.ag false:=⟨by kernel_rfl⟩
instance z_api_Catch:TZ P T.t 4 40 (.agg #[.int .i64 0, .int .i64 0, .int .i64 0, .string ⟨#[]⟩]):=⟨by kernel_rfl⟩
instance g_api_Catch:TG P T.t true:=⟨by kernel_rfl⟩
instance f_api_Catch_0:TF P T.t 0 0 3:=⟨by kernel_rfl⟩
instance f_api_Catch_1:TF P T.t 1 1 3:=⟨by kernel_rfl⟩
instance f_api_Catch_2:TF P T.t 2 2 3:=⟨by kernel_rfl⟩
instance f_api_Catch_3:TF P T.t 3 3 9:=⟨by kernel_rfl⟩
instance z_uint64:TZ P T.ax 1 8 (.int .u64 0):=⟨by kernel_rfl⟩
instance g_uint64:TG P T.ax false:=⟨by kernel_rfl⟩
instance g_strings_asciiSet:TG P T.ab true:=⟨by kernel_rfl⟩
instance a_strings_asciiSet:TA P T.ab 256 4:=⟨by kernel_rfl⟩
instance z_func_api_Catch_bool:TZ P T.ah 1 8 .nilFunc:=⟨by kernel_rfl⟩
instance g_func_api_Catch_bool:TG P T.ah false:=⟨by kernel_rfl⟩
instance z_func_api_Instr_bool:TZ P T.ai 1 8 .nilFunc:=⟨by kernel_rfl⟩
instance g_func_api_Instr_bool:TG P T.ai false:=⟨by kernel_rfl⟩
instance z_S_uint8:TZ P T.ar 1 24 (.slice none 0 0):=⟨by kernel_rfl⟩
instance g_S_uint8:TG P T.ar false:=⟨by kernel_rfl⟩
instance s_S_uint8:TS P T.ar 5:=⟨by kernel_rfl⟩
instance z_strings_Builder:TZ P T.am 2 32 (.agg #[.pointer none, .slice none 0 0]):=⟨by kernel_rfl⟩
instance g_strings_Builder:TG P T.am true:=⟨by kernel_rfl⟩
instance f_strings_Builder_0:TF P T.am 0 0 202:=⟨by kernel_rfl⟩
instance f_strings_Builder_1:TF P T.am 1 1 203:=⟨by kernel_rfl⟩
instance z_P_uint8:TZ P T.aw 1 8 (.pointer none):=⟨by kernel_rfl⟩
instance g_P_uint8:TG P T.aw false:=⟨by kernel_rfl⟩
instance z_code_op:TZ P T.ad 3 24 (.agg #[.string ⟨#[]⟩, .bool false, .bool false]):=⟨by kernel_rfl⟩
instance g_code_op:TG P T.ad true:=⟨by kernel_rfl⟩
instance f_code_op_0:TF P T.ad 0 0 9:=⟨by kernel_rfl⟩
instance f_code_op_1:TF P T.ad 1 1 4:=⟨by kernel_rfl⟩
instance f_code_op_2:TF P T.ad 2 2 4:=⟨by kernel_rfl⟩
instance g_A42_code_op:TG P T.af true:=⟨by kernel_rfl⟩
instance a_A42_code_op:TA P T.af 42 225:=⟨by kernel_rfl⟩
instance z_S_code_op:TZ P T.ap 1 24 (.slice none 0 0):=⟨by kernel_rfl⟩
instance g_S_code_op:TG P T.ap false:=⟨by kernel_rfl⟩
instance s_S_code_op:TS P T.ap 225:=⟨by kernel_rfl⟩
instance z_uint32:TZ P T.ay 1 4 (.int .u32 0):=⟨by kernel_rfl⟩
instance g_uint32:TG P T.ay false:=⟨by kernel_rfl⟩
end Go.Proofs.YtjdiakhipmggjaaGreatDoor

namespace Go.Emb
theorem aS {p:Prop} (h:p:=by (first | assumption | exact Stp.sat (by assumption) | exact Hst.sat (by assumption))):p:=h
theorem aL {p:Prop} (h:p:=by (first | assumption | exact Sl.lift (by assumption) (by (repeat (first | exact SLe.refl _ | refine SLe.more ?_ (by assumption) | refine SLe.more ?_ (Nxt.le (by assumption)) | refine SLe.step ?_ (by assumption)))) | exact Z4.lift (by assumption) (by (repeat (first | exact SLe.refl _ | refine SLe.more ?_ (by assumption) | refine SLe.more ?_ (Nxt.le (by assumption)) | refine SLe.step ?_ (by assumption)))) | exact Xm.lift (by assumption) (by (repeat (first | exact SLe.refl _ | refine SLe.more ?_ (by assumption) | refine SLe.more ?_ (Nxt.le (by assumption)) | refine SLe.step ?_ (by assumption)))) | exact RCl_lift (by assumption) (by (repeat (first | exact SLe.refl _ | refine SLe.more ?_ (by assumption) | refine SLe.more ?_ (Nxt.le (by assumption)) | refine SLe.step ?_ (by assumption)))) | exact RMe_lift (by assumption) (by (repeat (first | exact SLe.refl _ | refine SLe.more ?_ (by assumption) | refine SLe.more ?_ (Nxt.le (by assumption)) | refine SLe.step ?_ (by assumption)))) | exact Glb.lift (by assumption) (by (repeat (first | exact SLe.refl _ | refine SLe.more ?_ (by assumption) | refine SLe.more ?_ (Nxt.le (by assumption)) | refine SLe.step ?_ (by assumption)))) | exact Tab.lift (by assumption) (by (repeat (first | exact SLe.refl _ | refine SLe.more ?_ (by assumption) | refine SLe.more ?_ (Nxt.le (by assumption)) | refine SLe.step ?_ (by assumption)))) | exact RIn_any (by assumption) | exact RFd_any (by assumption) | exact RCa_any (by assumption))):p:=h
theorem aR {p:Prop} (h:p:=by with_unfolding_all rfl):p:=h
theorem aF {p:Prop} (a:p:=by (refine Eq.subst (motive:=fun b=>K b _) ?_ (h _ _ (by (repeat (first | exact Stp.refl (by (first | assumption | exact Stp.sat (by assumption) | exact Hst.sat (by assumption))) | assumption | refine Stp.trans ?_ (by first | assumption | exact Hst.stp (by assumption))))));clear h;(try clear hA);(try clear hB);(try clear hC);first | rfl | ((try simp only[Bool.not_eq_true',Bool.not_eq_false',Bool.not_true,Bool.not_false,Bool.not_eq_true] at*);simp only[*,Mb,reduceIte];done) | (simp[*];done) | simp_all)):p:=a
theorem au {p:Prop} (h:p:=by (first | assumption | (first | assumption | exact Stp.sat (by assumption) | exact Hst.sat (by assumption)) | (first | assumption | exact Sl.lift (by assumption) (by (repeat (first | exact SLe.refl _ | refine SLe.more ?_ (by assumption) | refine SLe.more ?_ (Nxt.le (by assumption)) | refine SLe.step ?_ (by assumption)))) | exact Z4.lift (by assumption) (by (repeat (first | exact SLe.refl _ | refine SLe.more ?_ (by assumption) | refine SLe.more ?_ (Nxt.le (by assumption)) | refine SLe.step ?_ (by assumption)))) | exact Xm.lift (by assumption) (by (repeat (first | exact SLe.refl _ | refine SLe.more ?_ (by assumption) | refine SLe.more ?_ (Nxt.le (by assumption)) | refine SLe.step ?_ (by assumption)))) | exact RCl_lift (by assumption) (by (repeat (first | exact SLe.refl _ | refine SLe.more ?_ (by assumption) | refine SLe.more ?_ (Nxt.le (by assumption)) | refine SLe.step ?_ (by assumption)))) | exact RMe_lift (by assumption) (by (repeat (first | exact SLe.refl _ | refine SLe.more ?_ (by assumption) | refine SLe.more ?_ (Nxt.le (by assumption)) | refine SLe.step ?_ (by assumption)))) | exact Glb.lift (by assumption) (by (repeat (first | exact SLe.refl _ | refine SLe.more ?_ (by assumption) | refine SLe.more ?_ (Nxt.le (by assumption)) | refine SLe.step ?_ (by assumption)))) | exact Tab.lift (by assumption) (by (repeat (first | exact SLe.refl _ | refine SLe.more ?_ (by assumption) | refine SLe.more ?_ (Nxt.le (by assumption)) | refine SLe.step ?_ (by assumption)))) | exact RIn_any (by assumption) | exact RFd_any (by assumption) | exact RCa_any (by assumption)) | exact Nat.le_trans (by assumption) (by decide) | omega)):p:=h
end Go.Emb
namespace Go.Proofs.YtjdiakhipmggjaaGreatDoor
open Go.Emb
theorem X3D {a:List UInt8} {cs:List Bool} {r:TypeId} {w:World} {K:Value→World→Prop}:X2 P .len [T.c] r cs [S a] w K=K (I a.length) w:=R9 X8
theorem X41 {d c:Operand} {a b:Bool} {w:World} {K:Value→World→Prop}:Q3 P .eql T.u d c (.bool a) (.bool b) w K=K (.bool (a==b)) w:=Q69 Q39
theorem X43 {d c:Operand} {a b:Bool} {w:World} {K:Value→World→Prop}:Q3 P .neq T.u d c (.bool a) (.bool b) w K=K (.bool (!(a==b))) w:=Q58 Q39
def Mm:=And.intro @fa <| And.intro @L9 <| And.intro @Qh <| And.intro @X3D <| And.intro @X41 @X43
def M1:=And.intro Mm Mr
def M2:=And.intro Mm Mp
end Go.Proofs.YtjdiakhipmggjaaGreatDoor

namespace Go.Proofs.YtjdiakhipmggjaaGreatDoor
open Go.Emb Go.RowKit Go.Kd Go.Hm
variable {w : World} {K : Value → World → Prop} {σ : Q6}
def Wo (m:Hm.Met):Bool:=decide (32<m.params.length)||decide (32<m.catches.length)||decide (200<m.code.length)||decide (64<m.locals)
def Zy (c:Cla):Bool:=c.methods.any Wo||decide (32<c.like.length)||decide (32<c.fields.length)||decide (32<c.methods.length)
theorem X2Z {c : Cla} {cs : List Value} (hs : X3 w σ) (hc : V0 σ c cs) (h : ∀ w', Below w.heap.size w w' → K (.bool (Zy c)) w') : Q1 P F.cG [.agg cs.toArray] w K := Q5v (by
  obtain ⟨lv, fv, mv, rfl, hl, hf, hm, hn, hsu⟩ := hc
  unfold Q0Q
  refine E8 hs fun a w1 σ1 hk ha => ?_
  have hs := hk.sat
  replace hl := hl.up hk
  replace hf := hf.up hk
  replace hm := hm.up hk
  simp only [Value.cells] at ha
  ((try simp only [↓M1, M1, Mb, reduceIte]); repeat ((first | refine ld (by assumption) (by assumption) rfl ?_ | refine X7 (by assumption) (by assumption) rfl ?_ | refine Q8 (by assumption) ?_); (try simp only [↓M1, M1, Mb, reduceIte])))
  refine U2 c.methods.length (fun n w' => Below w1.heap.size w1 w' ∧ ((c.methods.take n).any Wo) = false) ⟨Below.refl _ _, by simp⟩ fun n w2 d hn hi => ?_
  obtain ⟨hb, hp⟩ := hi
  have hs2 := hs.below hb
  ((try simp only [↓M1, M1, Mb, reduceIte]); repeat ((first | refine ld (by assumption) (by assumption) rfl ?_ | refine X7 (by assumption) (by assumption) rfl ?_ | refine Q8 (by assumption) ?_); (try simp only [↓M1, M1, Mb, reduceIte])))
  refine Q7 (fun hc => ?_) (fun hc => ?_)
  · have hn' : n < c.methods.length := by simpa using hc
    refine N3 hm hn' fun p cs hl1 hlen hr => ?_
    refine Y2 hs2 hl1 hlen ?_
    refine Y7 hs2 (by rfl) hlen (Rep.one hr) fun q w3 σ3 hk3 hq => ?_
    obtain ⟨pv, cv, hv, rfl, g1, g2, g3, g4⟩ := hr
    have hs3 := hk3.sat
    replace g1 := g1.up hk3
    replace g2 := g2.up hk3
    replace g3 := g3.up hk3
    ((try simp only [↓M1, M1, Mb, reduceIte]); repeat ((first | refine ld (by assumption) (by assumption) rfl ?_ | refine X7 (by assumption) (by assumption) rfl ?_ | refine Q8 (by assumption) ?_); (try simp only [↓M1, M1, Mb, reduceIte])))
    (repeat' ((first | refine Z8 (fun hh => ?_) (fun hh => ?_) | refine Q7 (fun hh => ?_) (fun hh => ?_)) <;> (try simp only [hh, Bool.not_true, Bool.not_false, ↓M1, M1, Mb, reduceIte]) <;> ((try simp only [↓M1, M1, Mb, reduceIte]); repeat ((first | refine ld (by assumption) (by assumption) rfl ?_ | refine X7 (by assumption) (by assumption) rfl ?_ | refine Q8 (by assumption) ?_); (try simp only [↓M1, M1, Mb, reduceIte])))))
    all_goals first
      | refine Y5 hm.max hn' ⟨bt hb hk3.bel, ?_⟩
        rw [L2 hn', hp]; simp only [Wo]; (first | (simp only [decide_eq_true_eq, decide_eq_false_iff_not, Bool.not_true, Bool.not_false, Bool.not_eq_true', Bool.not_eq_false', Bool.or_eq_true, Bool.and_eq_true, Bool.or_eq_false_iff, Bool.and_eq_false_iff, Bool.false_or, Bool.true_and, Bool.or_false, Bool.and_true] at *; first | omega | (and_intros <;> omega)) | (rw [Bool.eq_iff_iff]; (simp only [decide_eq_true_eq, decide_eq_false_iff_not, Bool.not_true, Bool.not_false, Bool.not_eq_true', Bool.not_eq_false', Bool.or_eq_true, Bool.and_eq_true, Bool.or_eq_false_iff, Bool.and_eq_false_iff, Bool.false_or, Bool.true_and, Bool.or_false, Bool.and_true] at *; first | omega | (and_intros <;> omega))))
      | have e : Zy c = true := by
          have : Wo c.methods[n] = true := by simp only [Wo]; (first | (simp only [decide_eq_true_eq, decide_eq_false_iff_not, Bool.not_true, Bool.not_false, Bool.not_eq_true', Bool.not_eq_false', Bool.or_eq_true, Bool.and_eq_true, Bool.or_eq_false_iff, Bool.and_eq_false_iff, Bool.false_or, Bool.true_and, Bool.or_false, Bool.and_true] at *; first | omega | (and_intros <;> omega)) | (rw [Bool.eq_iff_iff]; (simp only [decide_eq_true_eq, decide_eq_false_iff_not, Bool.not_true, Bool.not_false, Bool.not_eq_true', Bool.not_eq_false', Bool.or_eq_true, Bool.and_eq_true, Bool.or_eq_false_iff, Bool.and_eq_false_iff, Bool.false_or, Bool.true_and, Bool.or_false, Bool.and_true] at *; first | omega | (and_intros <;> omega))))
          simp [Zy, S9 hn' this]
        rw [← e]; exact h _ (bt hk.bel (bt hb hk3.bel))
  · have hn' : ¬ n < c.methods.length := by simpa using hc
    rw [E5 hn'] at hp
    have h := h w2 (bt hk.bel hb)
    ((try simp only [↓M1, M1, Mb, reduceIte]); repeat ((first | refine ld (by assumption) (by assumption) rfl ?_ | refine X7 (by assumption) (by assumption) rfl ?_ | refine Q8 (by assumption) ?_); (try simp only [↓M1, M1, Mb, reduceIte])))
    (repeat' ((first | refine Z8 (fun hh => ?_) (fun hh => ?_) | refine Q7 (fun hh => ?_) (fun hh => ?_)) <;> (try simp only [hh, Bool.not_true, Bool.not_false, ↓M1, M1, Mb, reduceIte]) <;> ((try simp only [↓M1, M1, Mb, reduceIte]); repeat ((first | refine ld (by assumption) (by assumption) rfl ?_ | refine X7 (by assumption) (by assumption) rfl ?_ | refine Q8 (by assumption) ?_); (try simp only [↓M1, M1, Mb, reduceIte])))))
    all_goals
      refine Eq.subst (motive := fun b => K (.bool b) w2) ?_ h
      simp only [Zy, hp]
      (first | (simp only [decide_eq_true_eq, decide_eq_false_iff_not, Bool.not_true, Bool.not_false, Bool.not_eq_true', Bool.not_eq_false', Bool.or_eq_true, Bool.and_eq_true, Bool.or_eq_false_iff, Bool.and_eq_false_iff, Bool.false_or, Bool.true_and, Bool.or_false, Bool.and_true] at *; first | omega | (and_intros <;> omega)) | (rw [Bool.eq_iff_iff]; (simp only [decide_eq_true_eq, decide_eq_false_iff_not, Bool.not_true, Bool.not_false, Bool.not_eq_true', Bool.not_eq_false', Bool.or_eq_true, Bool.and_eq_true, Bool.or_eq_false_iff, Bool.and_eq_false_iff, Bool.false_or, Bool.true_and, Bool.or_false, Bool.and_true] at *; first | omega | (and_intros <;> omega)))))
end Go.Proofs.YtjdiakhipmggjaaGreatDoor

namespace Go.Emb
open Go.RowKit Go.Hm
variable {H : Type} {enc : TypeId × Value → H} {P : Program} {W : World} {t : TypeId} {cs : List Value} {fuel : Nat} {x : DataW H × List MemPlace}
def Ux (W:World):Q6:=fun b=>W.heap[b]?
theorem X01:X3 W (Ux W):=fun b o h=>h
def Wt (P:Program) (t:TypeId) (d:DataW H):Prop:= ∀n∈d.weights P t,n≤reachBytes
theorem X1X {a:Addr} {n:Nat} (h:W.cells? 0 a n=some cs) (z:0<n):cs.length=n∧Z4 (Ux W) a cs:=by
 obtain ⟨_,k,u⟩:=World.cells?_some h
 refine ⟨k,?_⟩
 have key: ∀i v,cs[i]? =some v→ ∃arr e f,W.heap[a.block]? =some (.cells arr e f)∧(a.add i).spot=none∧arr[a.off+i]? =some v:=by
  intro i v g
  have B:i<cs.length:=(List.getElem?_eq_some_iff.1 g).1
  have b:=u i (by omega)
  rw[g] at b
  unfold World.cell? at b
  rw[C1,Qg] at b
  cases m:W.heap[a.block]? with
  | none=>rw[m] at b;cases b
  | some o=>
   rw[m] at b
   cases o with
   | cells arr e f=>
    simp only at b
    split at b
    ·cases b
    ·rename_i s
     exact ⟨arr,e,f,rfl,by simpa using s,b⟩
   | _=>cases b
 cases j:cs with
 | nil=>subst j;simp at k;omega
 | cons c r=>
  obtain ⟨arr,e,f,l,q,C⟩:=key 0 c (by rw[j];rfl)
  refine ⟨by simpa [Addr.add] using q,arr,e,f,l,fun i v g=>?_⟩
  obtain ⟨p,A,y,d,D,w⟩:=key i v (by rw[j];exact g)
  rw[l] at d
  injection d with d
  injection d with d
  subst d
  exact w
theorem Q9U (b:P.underlying t=some .string) (h:DataW.trod enc P W 0 (fun _=>true) true fuel t cs=some x) (a:Wt P t x.1): ∃s:Kd.X0,cs=[S s]∧s.length≤U1:=by
 obtain ⟨⟨⟨s⟩⟩,rfl,rfl,_⟩:=DataW.trod_string b h
 refine ⟨s,rfl,?_⟩
 have:=a s.length (by simp[DataW.weights])
 exact this
theorem Gz (c:P.underlying t=some (.int .i64)) (h:DataW.trod enc P W 0 (fun _=>true) true fuel t cs=some x): ∃n,cs=[I n]∧Yw n:=by
 obtain ⟨n,b,_,a⟩:=DataW.trod_int c h
 refine ⟨n,b,?_⟩
 simp only[Lit.wf,Bool.and_eq_true,decide_eq_true_eq] at a
 exact ⟨a.1,a.2⟩
theorem X1D {α:Type} {Q:Nat→α→Prop}: ∀(n:Nat),(∀i,i<n→ ∃y,Q i y)→ ∃xs:List α,xs.length=n∧ ∀i y,xs[i]? =some y→Q i y:=by
 intro n
 induction n with
 | zero=>intro _;exact ⟨[],rfl,by simp⟩
 | succ n d=>
  intro h
  obtain ⟨xs,c,e⟩:=d fun i b=>h i (by omega)
  obtain ⟨y,f⟩:=h n (by omega)
  refine ⟨xs++[y],by simp[c],fun i z a=>?_⟩
  by_cases b:i<xs.length
  ·rw[List.getElem?_append_left b] at a;exact e i z a
  ·rw[List.getElem?_append_right (by omega)] at a
   have:i-xs.length=0:=by
    have:=(List.getElem?_eq_some_iff.1 a).1
    simp at this;omega
   rw[this] at a
   simp at a
   subst a
   rw[show i=n by omega];exact f
theorem X2F {e:TypeId} {d:DataW H}: ∀{l:List (DataW H)},d∈l→ ∀n∈d.weights P e,n∈DataW.weightsAll P e l:=by
 intro l
 induction l with
 | nil=>intro h;simp at h
 | cons a r c=>
  intro h n b
  simp only[DataW.weightsAll,List.mem_append]
  rcases List.mem_cons.1 h with rfl | h
  ·exact .inl b
  ·exact .inr (c h n b)
theorem X3Z {α:Type} {R:Q6→α→List Value→Prop} {e:TypeId} {sz:Nat} (u:P.underlying t=some (.slice e)) (J:P.cellsOf e=sz) (B:0<sz)
 (s: ∀fuel cs (x:DataW H×List MemPlace),DataW.trod enc P W 0 (fun _=>true) true fuel e cs=some x→Wt P e x.1→ ∃y,R (Ux W) y cs)
 (h:DataW.trod enc P W 0 (fun _=>true) true fuel t cs=some x) (C:Wt P t x.1): ∃v xs,cs=[v]∧Sl sz R (Ux W) v xs:=by
 rcases DataW.trod_slice u h with ⟨rfl,rfl⟩ | ⟨a,g,r,d,A,n,_,rfl,rfl,_,D,q,z,f,_⟩
 ·exact ⟨_,[],rfl,Sl.nil⟩
 subst J
 have step: ∀i,i<g→ ∃y,∃c,Z4 (Ux W) (a.add (i*P.cellsOf e)) c∧c.length=P.cellsOf e∧R (Ux W) y c:=by
  intro i N
  have w:=f i N
  have l:i<d.length:=by omega
  rw[List.getElem?_eq_getElem l] at w
  obtain ⟨c,L,E⟩:=Option.bind_eq_some_iff.1 w
  obtain ⟨O,p⟩:=X1X L B
  obtain ⟨y,o⟩:=s n c _ E (fun m q=>C m (by
   simp only[DataW.weights,u,List.mem_cons,List.mem_append]
   exact .inr (.inl (X2F (List.mem_map.2 ⟨_,List.getElem_mem l,rfl⟩) m q))))
  exact ⟨y,c,p,O,o⟩
 obtain ⟨xs,j,k⟩:=X1D g step
 refine ⟨_,xs,rfl,some a,r,by rw[j],by rw[j];exact D,q,by simp,fun b Q=>?_⟩
 cases Q
 refine ⟨fun M=>?_,fun i y o=>k i y o⟩
 obtain ⟨y,o⟩: ∃y,xs[0]? =some y:=⟨xs[0],List.getElem?_eq_getElem M⟩
 obtain ⟨c,p,_,_⟩:=k 0 y o
 have:=p.1
 simpa [Addr.add] using this
theorem Q7v: ∀{a:List TypeId} {l:List (DataW H)} {i:Nat} {u:TypeId} {d:DataW H},a[i]? =some u→l[i]? =some d→ ∀n∈d.weights P u,n∈DataW.weightsEach P a l:=
 fun b e n c=>DataW.weights_mem_each b e n c
theorem Lq {g:Array Field} (c:P.underlying t=some (.struct g)) (h:DataW.trod enc P W 0 (fun _=>true) true fuel t cs=some x) (j:Wt P t x.1) (i:Nat) {o:Nat} {b:TypeId}
 (r:(g[i]?).map (fun f=>(f.type,f.offset))=some (b,o)) (l:P.cellsOf b=1): ∃n y,DataW.trod enc P W 0 (fun _=>true) true n b ((cs.drop o).take 1)=some y∧Wt P b y.1:=by
 obtain ⟨xs,n,_,rfl,v,q,k⟩:=DataW.trod_struct c h
 obtain ⟨f,a,s⟩:=Option.map_eq_some_iff.1 r
 cases s
 have e:=k i f a
 have d:i<xs.length:=by rw[q];exact (Array.getElem?_eq_some_iff.1 a).1
 rw[List.getElem?_eq_getElem d,l] at e
 refine ⟨n,_,e,fun m p=>j m ?_⟩
 simp only[DataW.weights,c]
 exact Q7v (i:=i) (u:=f.type) (by rw[List.getElem?_map,Array.getElem?_toList,a];rfl) (by rw[List.getElem?_map,List.getElem?_eq_getElem d];rfl) m p
theorem Q9F {b:Array Field} {k:Nat} (d:P.underlying t=some (.struct b)) (c:P.cellsOf t=k) (h:DataW.trod enc P W 0 (fun _=>true) true fuel t cs=some x):cs.length=k:=by
 obtain ⟨_,_,_,_,a,_,_⟩:=DataW.trod_struct d h
 rw[a,c]
theorem X1g {α:Type} {l:List α} (h:l.length=3): ∃a b c,l=[a,b,c]:=by
 match l,h with
 | [a,b,c],_=>exact ⟨a,b,c,rfl⟩
theorem X46 {α:Type} {l:List α} (h:l.length=4): ∃a b c d,l=[a,b,c,d]:=by
 match l,h with
 | [a,b,c,d],_=>exact ⟨a,b,c,d,rfl⟩
theorem X3H {α:Type} {l:List α} (h:l.length=8): ∃a b c d e f g i,l=[a,b,c,d,e,f,g,i]:=by
 match l,h with
 | [a,b,c,d,e,f,g,i],_=>exact ⟨a,b,c,d,e,f,g,i,rfl⟩
end Go.Emb
namespace Go.Proofs.YtjdiakhipmggjaaGreatDoor
open Go.Emb Go.RowKit Go.Kd Go.Hm
variable {H : Type} {enc : TypeId × Value → H} {W : World} {cs : List Value} {fuel : Nat} {x : DataW H × List MemPlace}
theorem Pk:P.cellsOf T.c=1:=by kernel_rfl
theorem X34:P.cellsOf T.u=1:=by kernel_rfl
theorem Q50:P.cellsOf T.d=1:=by kernel_rfl
end Go.Proofs.YtjdiakhipmggjaaGreatDoor

namespace Go.Emb
def J5 {α β:Type} (a:β→α→Bool×β):β→List α→Nat→Option Nat×β
 | s,[],_=>(none,s)
 | s,x::xs,i=>if (a s x).1 then (some i,(a s x).2) else J5 a (a s x).2 xs (i+1)
def L6 (o:Option Nat):Int:=match o with | some i=>i | none=> -1
theorem P3 {α:Type} (p:α→Bool): ∀(xs:List α) (i:Nat),(J5 (fun (_:Unit) x=>(p x,())) () xs i).1=(xs.findIdx? p).map (· +i):=by
 intro xs
 induction xs with
 | nil=>intro i;rfl
 | cons x r ih=>
  intro i
  rw[List.findIdx?_cons]
  simp only[J5]
  cases p x with
  | true=>simp
  | false=>
   simp only[Bool.false_eq_true,if_false]
   rw[ih (i+1),Option.map_map]
   congr 1;funext n;simp only[Function.comp];omega
theorem Dx {α β:Type} (a:β→α→Bool×β) (s:β) (xs:List α) (i:Nat):decide ((0:Int)≤L6 (J5 a s xs i).1)=(J5 a s xs i).1.isSome:=by
 cases (J5 a s xs i).1<;>simp[L6]
end Go.Emb
namespace Go.Proofs.YtjdiakhipmggjaaGreatDoor
open Go.Emb Go.RowKit Go.Kd Go.Hm
variable {w : World} {K : Value → World → Prop} {σ : Q6}
theorem Vs {β:Type} {xs:List Hm.Met} {v f:Value} (b:β→Hm.Met→Bool×β) (i:β) (a:β→World→Prop) (D:Nat→Prop) (m: ∀s w,a s w→X3 w σ) (B:a i w) (t:Sl 7 H0 σ v xs)
 (C: ∀s x cs (w1:World) (K:Value→World→Prop),x∈xs→Kpt D w w1→a s w1→H0 σ x cs→cs.length=7→(∀w',Kpt D w w'→a (b s x).2 w'→K (.bool (b s x).1) w')→Z3 P f [.agg cs.toArray] w1 K)
 (h: ∀w',Kpt D w w'→a (J5 b i xs 0).2 w'→K (I (L6 (J5 b i xs 0).1)) w'):Q1 P F.g [v,f] w K:=Ya (by
 unfold F0
 ((try simp only[↓M1,M1,Mb,reduceIte]);repeat ((first | refine ld (by assumption) (by assumption) rfl ?_ | refine X7 (by assumption) (by assumption) rfl ?_ | refine Q8 (by assumption) ?_);(try simp only[↓M1,M1,Mb,reduceIte])))
 refine U2 xs.length (fun n w'=>Kpt D w w'∧ ∃s,a s w'∧J5 b i xs 0=J5 b s (xs.drop n) n) ⟨Kpt.refl,i,B,rfl⟩ fun n w1 d E k=>?_
 obtain ⟨u,s,k,g⟩:=k
 have r:=m s w1 k
 ((try simp only[↓M1,M1,Mb,reduceIte]);repeat ((first | refine ld (by assumption) (by assumption) rfl ?_ | refine X7 (by assumption) (by assumption) rfl ?_ | refine Q8 (by assumption) ?_);(try simp only[↓M1,M1,Mb,reduceIte])))
 refine Q7 (fun o=>?_) (fun o=>?_)
 ·have c:n<xs.length:=by simpa using o
  refine N3 t c fun p cs z e y=>?_
  refine Y2 r z e ?_
  refine C s xs[n] cs w1 _ (List.getElem_mem c) u k y e fun A j l=>?_
  rw[List.drop_eq_getElem_cons c] at g
  simp only[J5] at g
  refine Q7 (fun q=>?_) (fun q=>?_)
  ·rw[q] at g
   have:=h A j
   rw[g] at this
   exact this l
  ·rw[q] at g
   ((try simp only[↓M1,M1,Mb,reduceIte]);repeat ((first | refine ld (by assumption) (by assumption) rfl ?_ | refine X7 (by assumption) (by assumption) rfl ?_ | refine Q8 (by assumption) ?_);(try simp only[↓M1,M1,Mb,reduceIte])))
   exact Y5 t.max c ⟨j,_,l,by simpa using g⟩
 ·have c: ¬n<xs.length:=by simpa using o
  rw[List.drop_eq_nil_of_le (by omega)] at g
  have:=h w1 u
  rw[g] at this
  exact this k)
theorem Jj {β:Type} {xs:List Hm.Met} {v f:Value} (b:β→Hm.Met→Bool×β) (d:β) (a:β→World→Prop) (D:Nat→Prop) (c: ∀s w,a s w→X3 w σ) (i:a d w) (e:Sl 7 H0 σ v xs)
 (k: ∀s x cs (w1:World) (K:Value→World→Prop),x∈xs→Kpt D w w1→a s w1→H0 σ x cs→cs.length=7→(∀w',Kpt D w w'→a (b s x).2 w'→K (.bool (b s x).1) w')→Z3 P f [.agg cs.toArray] w1 K)
 (h: ∀w',Kpt D w w'→a (J5 b d xs 0).2 w'→K (.bool (J5 b d xs 0).1.isSome) w'):Q1 P F.a [v,f] w K:=Qt (by
 unfold C0
 refine Vs b d a D c i e k fun w1 g j=>?_
 (try simp only[↓M1,M1,Mb,reduceIte])
 rw[Dx]
 exact h w1 g j)
theorem Fh {xs:List Hm.Met} {v f:Value} (p:Hm.Met→Bool) (hs:X3 w σ) (hv:Sl 7 H0 σ v xs)
 (hf: ∀x cs (w1:World) (K:Value→World→Prop),x∈xs→X3 w1 σ→H0 σ x cs→cs.length=7→(∀w',Below w1.heap.size w1 w'→K (.bool (p x)) w')→Z3 P f [.agg cs.toArray] w1 K)
 (h: ∀w',Below w.heap.size w w'→K (I (L6 (xs.findIdx? p))) w'):Q1 P F.g [v,f] w K:=by
 refine Vs (fun (_:Unit) x=>(p x,())) () (fun _ w'=>Below w.heap.size w w') (fun _=>False) (fun _ w' hb=>hs.below hb) (Below.refl _ _) hv (fun s x cs w1 K hx hk hi hr hl hK=>hf x cs w1 K hx (hs.below hi) hr hl fun w' hb=>hK w' (.of_below (bt hi hb)) (bt hi hb)) fun w' hk hi=>?_
 rw[P3]
 simpa using h w' hi
theorem F6 {xs:List Hm.Met} {v f:Value} (p:Hm.Met→Bool) (hs:X3 w σ) (hv:Sl 7 H0 σ v xs)
 (hf: ∀x cs (w1:World) (K:Value→World→Prop),x∈xs→X3 w1 σ→H0 σ x cs→cs.length=7→(∀w',Below w1.heap.size w1 w'→K (.bool (p x)) w')→Z3 P f [.agg cs.toArray] w1 K)
 (h: ∀w',Below w.heap.size w w'→K (.bool (xs.any p)) w'):Q1 P F.a [v,f] w K:=by
 refine Jj (fun (_:Unit) x=>(p x,())) () (fun _ w'=>Below w.heap.size w w') (fun _=>False) (fun _ w' hb=>hs.below hb) (Below.refl _ _) hv (fun s x cs w1 K hx hk hi hr hl hK=>hf x cs w1 K hx (hs.below hi) hr hl fun w' hb=>hK w' (.of_below (bt hi hb)) (bt hi hb)) fun w' hk hi=>?_
 rw[P3]
 simpa using h w' hi
theorem Lp {β:Type} {xs:List Fld} {v f:Value} (b:β→Fld→Bool×β) (i:β) (a:β→World→Prop) (D:Nat→Prop) (m: ∀s w,a s w→X3 w σ) (B:a i w) (t:Sl 3 S2 σ v xs)
 (C: ∀s x cs (w1:World) (K:Value→World→Prop),x∈xs→Kpt D w w1→a s w1→S2 σ x cs→cs.length=3→(∀w',Kpt D w w'→a (b s x).2 w'→K (.bool (b s x).1) w')→Z3 P f [.agg cs.toArray] w1 K)
 (h: ∀w',Kpt D w w'→a (J5 b i xs 0).2 w'→K (I (L6 (J5 b i xs 0).1)) w'):Q1 P F.i [v,f] w K:=Yy (by
 unfold F9
 ((try simp only[↓M1,M1,Mb,reduceIte]);repeat ((first | refine ld (by assumption) (by assumption) rfl ?_ | refine X7 (by assumption) (by assumption) rfl ?_ | refine Q8 (by assumption) ?_);(try simp only[↓M1,M1,Mb,reduceIte])))
 refine U2 xs.length (fun n w'=>Kpt D w w'∧ ∃s,a s w'∧J5 b i xs 0=J5 b s (xs.drop n) n) ⟨Kpt.refl,i,B,rfl⟩ fun n w1 d E k=>?_
 obtain ⟨u,s,k,g⟩:=k
 have r:=m s w1 k
 ((try simp only[↓M1,M1,Mb,reduceIte]);repeat ((first | refine ld (by assumption) (by assumption) rfl ?_ | refine X7 (by assumption) (by assumption) rfl ?_ | refine Q8 (by assumption) ?_);(try simp only[↓M1,M1,Mb,reduceIte])))
 refine Q7 (fun o=>?_) (fun o=>?_)
 ·have c:n<xs.length:=by simpa using o
  refine N3 t c fun p cs z e y=>?_
  refine Y2 r z e ?_
  refine C s xs[n] cs w1 _ (List.getElem_mem c) u k y e fun A j l=>?_
  rw[List.drop_eq_getElem_cons c] at g
  simp only[J5] at g
  refine Q7 (fun q=>?_) (fun q=>?_)
  ·rw[q] at g
   have:=h A j
   rw[g] at this
   exact this l
  ·rw[q] at g
   ((try simp only[↓M1,M1,Mb,reduceIte]);repeat ((first | refine ld (by assumption) (by assumption) rfl ?_ | refine X7 (by assumption) (by assumption) rfl ?_ | refine Q8 (by assumption) ?_);(try simp only[↓M1,M1,Mb,reduceIte])))
   exact Y5 t.max c ⟨j,_,l,by simpa using g⟩
 ·have c: ¬n<xs.length:=by simpa using o
  rw[List.drop_eq_nil_of_le (by omega)] at g
  have:=h w1 u
  rw[g] at this
  exact this k)
theorem Rs {β:Type} {xs:List Fld} {v f:Value} (b:β→Fld→Bool×β) (d:β) (a:β→World→Prop) (D:Nat→Prop) (c: ∀s w,a s w→X3 w σ) (i:a d w) (e:Sl 3 S2 σ v xs)
 (k: ∀s x cs (w1:World) (K:Value→World→Prop),x∈xs→Kpt D w w1→a s w1→S2 σ x cs→cs.length=3→(∀w',Kpt D w w'→a (b s x).2 w'→K (.bool (b s x).1) w')→Z3 P f [.agg cs.toArray] w1 K)
 (h: ∀w',Kpt D w w'→a (J5 b d xs 0).2 w'→K (.bool (J5 b d xs 0).1.isSome) w'):Q1 P F.f [v,f] w K:=Xf (by
 unfold B3
 refine Lp b d a D c i e k fun w1 g j=>?_
 (try simp only[↓M1,M1,Mb,reduceIte])
 rw[Dx]
 exact h w1 g j)
theorem Fw {xs:List Fld} {v f:Value} (p:Fld→Bool) (hs:X3 w σ) (hv:Sl 3 S2 σ v xs)
 (hf: ∀x cs (w1:World) (K:Value→World→Prop),x∈xs→X3 w1 σ→S2 σ x cs→cs.length=3→(∀w',Below w1.heap.size w1 w'→K (.bool (p x)) w')→Z3 P f [.agg cs.toArray] w1 K)
 (h: ∀w',Below w.heap.size w w'→K (I (L6 (xs.findIdx? p))) w'):Q1 P F.i [v,f] w K:=by
 refine Lp (fun (_:Unit) x=>(p x,())) () (fun _ w'=>Below w.heap.size w w') (fun _=>False) (fun _ w' hb=>hs.below hb) (Below.refl _ _) hv (fun s x cs w1 K hx hk hi hr hl hK=>hf x cs w1 K hx (hs.below hi) hr hl fun w' hb=>hK w' (.of_below (bt hi hb)) (bt hi hb)) fun w' hk hi=>?_
 rw[P3]
 simpa using h w' hi
theorem Jn {xs:List Fld} {v f:Value} (p:Fld→Bool) (hs:X3 w σ) (hv:Sl 3 S2 σ v xs)
 (hf: ∀x cs (w1:World) (K:Value→World→Prop),x∈xs→X3 w1 σ→S2 σ x cs→cs.length=3→(∀w',Below w1.heap.size w1 w'→K (.bool (p x)) w')→Z3 P f [.agg cs.toArray] w1 K)
 (h: ∀w',Below w.heap.size w w'→K (.bool (xs.any p)) w'):Q1 P F.f [v,f] w K:=by
 refine Rs (fun (_:Unit) x=>(p x,())) () (fun _ w'=>Below w.heap.size w w') (fun _=>False) (fun _ w' hb=>hs.below hb) (Below.refl _ _) hv (fun s x cs w1 K hx hk hi hr hl hK=>hf x cs w1 K hx (hs.below hi) hr hl fun w' hb=>hK w' (.of_below (bt hi hb)) (bt hi hb)) fun w' hk hi=>?_
 rw[P3]
 simpa using h w' hi
theorem Fu {β:Type} {xs:List Ins} {v f:Value} (b:β→Ins→Bool×β) (i:β) (a:β→World→Prop) (D:Nat→Prop) (m: ∀s w,a s w→X3 w σ) (B:a i w) (t:Sl 3 Qr σ v xs)
 (C: ∀s x cs (w1:World) (K:Value→World→Prop),x∈xs→Kpt D w w1→a s w1→Qr σ x cs→cs.length=3→(∀w',Kpt D w w'→a (b s x).2 w'→K (.bool (b s x).1) w')→Z3 P f [.agg cs.toArray] w1 K)
 (h: ∀w',Kpt D w w'→a (J5 b i xs 0).2 w'→K (I (L6 (J5 b i xs 0).1)) w'):Q1 P F.a6 [v,f] w K:=Ym (by
 unfold G5
 ((try simp only[↓M1,M1,Mb,reduceIte]);repeat ((first | refine ld (by assumption) (by assumption) rfl ?_ | refine X7 (by assumption) (by assumption) rfl ?_ | refine Q8 (by assumption) ?_);(try simp only[↓M1,M1,Mb,reduceIte])))
 refine U2 xs.length (fun n w'=>Kpt D w w'∧ ∃s,a s w'∧J5 b i xs 0=J5 b s (xs.drop n) n) ⟨Kpt.refl,i,B,rfl⟩ fun n w1 d E k=>?_
 obtain ⟨u,s,k,g⟩:=k
 have r:=m s w1 k
 ((try simp only[↓M1,M1,Mb,reduceIte]);repeat ((first | refine ld (by assumption) (by assumption) rfl ?_ | refine X7 (by assumption) (by assumption) rfl ?_ | refine Q8 (by assumption) ?_);(try simp only[↓M1,M1,Mb,reduceIte])))
 refine Q7 (fun o=>?_) (fun o=>?_)
 ·have c:n<xs.length:=by simpa using o
  refine N3 t c fun p cs z e y=>?_
  refine Y2 r z e ?_
  refine C s xs[n] cs w1 _ (List.getElem_mem c) u k y e fun A j l=>?_
  rw[List.drop_eq_getElem_cons c] at g
  simp only[J5] at g
  refine Q7 (fun q=>?_) (fun q=>?_)
  ·rw[q] at g
   have:=h A j
   rw[g] at this
   exact this l
  ·rw[q] at g
   ((try simp only[↓M1,M1,Mb,reduceIte]);repeat ((first | refine ld (by assumption) (by assumption) rfl ?_ | refine X7 (by assumption) (by assumption) rfl ?_ | refine Q8 (by assumption) ?_);(try simp only[↓M1,M1,Mb,reduceIte])))
   exact Y5 t.max c ⟨j,_,l,by simpa using g⟩
 ·have c: ¬n<xs.length:=by simpa using o
  rw[List.drop_eq_nil_of_le (by omega)] at g
  have:=h w1 u
  rw[g] at this
  exact this k)
theorem Sv {β:Type} {xs:List Ins} {v f:Value} (b:β→Ins→Bool×β) (d:β) (a:β→World→Prop) (D:Nat→Prop) (c: ∀s w,a s w→X3 w σ) (i:a d w) (e:Sl 3 Qr σ v xs)
 (k: ∀s x cs (w1:World) (K:Value→World→Prop),x∈xs→Kpt D w w1→a s w1→Qr σ x cs→cs.length=3→(∀w',Kpt D w w'→a (b s x).2 w'→K (.bool (b s x).1) w')→Z3 P f [.agg cs.toArray] w1 K)
 (h: ∀w',Kpt D w w'→a (J5 b d xs 0).2 w'→K (.bool (J5 b d xs 0).1.isSome) w'):Q1 P F.l [v,f] w K:=Xg (by
 unfold B1
 refine Fu b d a D c i e k fun w1 g j=>?_
 (try simp only[↓M1,M1,Mb,reduceIte])
 rw[Dx]
 exact h w1 g j)
theorem Sp {xs:List Ins} {v f:Value} (p:Ins→Bool) (hs:X3 w σ) (hv:Sl 3 Qr σ v xs)
 (hf: ∀x cs (w1:World) (K:Value→World→Prop),x∈xs→X3 w1 σ→Qr σ x cs→cs.length=3→(∀w',Below w1.heap.size w1 w'→K (.bool (p x)) w')→Z3 P f [.agg cs.toArray] w1 K)
 (h: ∀w',Below w.heap.size w w'→K (.bool (xs.any p)) w'):Q1 P F.l [v,f] w K:=by
 refine Sv (fun (_:Unit) x=>(p x,())) () (fun _ w'=>Below w.heap.size w w') (fun _=>False) (fun _ w' hb=>hs.below hb) (Below.refl _ _) hv (fun s x cs w1 K hx hk hi hr hl hK=>hf x cs w1 K hx (hs.below hi) hr hl fun w' hb=>hK w' (.of_below (bt hi hb)) (bt hi hb)) fun w' hk hi=>?_
 rw[P3]
 simpa using h w' hi
theorem Fy {β:Type} {xs:List Cat} {v f:Value} (b:β→Cat→Bool×β) (i:β) (a:β→World→Prop) (D:Nat→Prop) (m: ∀s w,a s w→X3 w σ) (B:a i w) (t:Sl 4 Ur σ v xs)
 (C: ∀s x cs (w1:World) (K:Value→World→Prop),x∈xs→Kpt D w w1→a s w1→Ur σ x cs→cs.length=4→(∀w',Kpt D w w'→a (b s x).2 w'→K (.bool (b s x).1) w')→Z3 P f [.agg cs.toArray] w1 K)
 (h: ∀w',Kpt D w w'→a (J5 b i xs 0).2 w'→K (I (L6 (J5 b i xs 0).1)) w'):Q1 P F.a7 [v,f] w K:=Yx (by
 unfold G0
 ((try simp only[↓M1,M1,Mb,reduceIte]);repeat ((first | refine ld (by assumption) (by assumption) rfl ?_ | refine X7 (by assumption) (by assumption) rfl ?_ | refine Q8 (by assumption) ?_);(try simp only[↓M1,M1,Mb,reduceIte])))
 refine U2 xs.length (fun n w'=>Kpt D w w'∧ ∃s,a s w'∧J5 b i xs 0=J5 b s (xs.drop n) n) ⟨Kpt.refl,i,B,rfl⟩ fun n w1 d E k=>?_
 obtain ⟨u,s,k,g⟩:=k
 have r:=m s w1 k
 ((try simp only[↓M1,M1,Mb,reduceIte]);repeat ((first | refine ld (by assumption) (by assumption) rfl ?_ | refine X7 (by assumption) (by assumption) rfl ?_ | refine Q8 (by assumption) ?_);(try simp only[↓M1,M1,Mb,reduceIte])))
 refine Q7 (fun o=>?_) (fun o=>?_)
 ·have c:n<xs.length:=by simpa using o
  refine N3 t c fun p cs z e y=>?_
  refine Y2 r z e ?_
  refine C s xs[n] cs w1 _ (List.getElem_mem c) u k y e fun A j l=>?_
  rw[List.drop_eq_getElem_cons c] at g
  simp only[J5] at g
  refine Q7 (fun q=>?_) (fun q=>?_)
  ·rw[q] at g
   have:=h A j
   rw[g] at this
   exact this l
  ·rw[q] at g
   ((try simp only[↓M1,M1,Mb,reduceIte]);repeat ((first | refine ld (by assumption) (by assumption) rfl ?_ | refine X7 (by assumption) (by assumption) rfl ?_ | refine Q8 (by assumption) ?_);(try simp only[↓M1,M1,Mb,reduceIte])))
   exact Y5 t.max c ⟨j,_,l,by simpa using g⟩
 ·have c: ¬n<xs.length:=by simpa using o
  rw[List.drop_eq_nil_of_le (by omega)] at g
  have:=h w1 u
  rw[g] at this
  exact this k)
theorem Rz {β:Type} {xs:List Cat} {v f:Value} (b:β→Cat→Bool×β) (d:β) (a:β→World→Prop) (D:Nat→Prop) (c: ∀s w,a s w→X3 w σ) (i:a d w) (e:Sl 4 Ur σ v xs)
 (k: ∀s x cs (w1:World) (K:Value→World→Prop),x∈xs→Kpt D w w1→a s w1→Ur σ x cs→cs.length=4→(∀w',Kpt D w w'→a (b s x).2 w'→K (.bool (b s x).1) w')→Z3 P f [.agg cs.toArray] w1 K)
 (h: ∀w',Kpt D w w'→a (J5 b d xs 0).2 w'→K (.bool (J5 b d xs 0).1.isSome) w'):Q1 P F.m [v,f] w K:=Xh (by
 unfold B4
 refine Fy b d a D c i e k fun w1 g j=>?_
 (try simp only[↓M1,M1,Mb,reduceIte])
 rw[Dx]
 exact h w1 g j)
theorem Cd {xs:List Cat} {v f:Value} (p:Cat→Bool) (hs:X3 w σ) (hv:Sl 4 Ur σ v xs)
 (hf: ∀x cs (w1:World) (K:Value→World→Prop),x∈xs→X3 w1 σ→Ur σ x cs→cs.length=4→(∀w',Below w1.heap.size w1 w'→K (.bool (p x)) w')→Z3 P f [.agg cs.toArray] w1 K)
 (h: ∀w',Below w.heap.size w w'→K (.bool (xs.any p)) w'):Q1 P F.m [v,f] w K:=by
 refine Rz (fun (_:Unit) x=>(p x,())) () (fun _ w'=>Below w.heap.size w w') (fun _=>False) (fun _ w' hb=>hs.below hb) (Below.refl _ _) hv (fun s x cs w1 K hx hk hi hr hl hK=>hf x cs w1 K hx (hs.below hi) hr hl fun w' hb=>hK w' (.of_below (bt hi hb)) (bt hi hb)) fun w' hk hi=>?_
 rw[P3]
 simpa using h w' hi
theorem Fq {β:Type} {xs:List Cla} {v f:Value} (b:β→Cla→Bool×β) (i:β) (a:β→World→Prop) (D:Nat→Prop) (m: ∀s w,a s w→X3 w σ) (B:a i w) (t:Sl 8 V0 σ v xs)
 (C: ∀s x cs (w1:World) (K:Value→World→Prop),x∈xs→Kpt D w w1→a s w1→V0 σ x cs→cs.length=8→(∀w',Kpt D w w'→a (b s x).2 w'→K (.bool (b s x).1) w')→Z3 P f [.agg cs.toArray] w1 K)
 (h: ∀w',Kpt D w w'→a (J5 b i xs 0).2 w'→K (I (L6 (J5 b i xs 0).1)) w'):Q1 P F.o [v,f] w K:=Zc (by
 unfold G7
 ((try simp only[↓M1,M1,Mb,reduceIte]);repeat ((first | refine ld (by assumption) (by assumption) rfl ?_ | refine X7 (by assumption) (by assumption) rfl ?_ | refine Q8 (by assumption) ?_);(try simp only[↓M1,M1,Mb,reduceIte])))
 refine U2 xs.length (fun n w'=>Kpt D w w'∧ ∃s,a s w'∧J5 b i xs 0=J5 b s (xs.drop n) n) ⟨Kpt.refl,i,B,rfl⟩ fun n w1 d E k=>?_
 obtain ⟨u,s,k,g⟩:=k
 have r:=m s w1 k
 ((try simp only[↓M1,M1,Mb,reduceIte]);repeat ((first | refine ld (by assumption) (by assumption) rfl ?_ | refine X7 (by assumption) (by assumption) rfl ?_ | refine Q8 (by assumption) ?_);(try simp only[↓M1,M1,Mb,reduceIte])))
 refine Q7 (fun o=>?_) (fun o=>?_)
 ·have c:n<xs.length:=by simpa using o
  refine N3 t c fun p cs z e y=>?_
  refine Y2 r z e ?_
  refine C s xs[n] cs w1 _ (List.getElem_mem c) u k y e fun A j l=>?_
  rw[List.drop_eq_getElem_cons c] at g
  simp only[J5] at g
  refine Q7 (fun q=>?_) (fun q=>?_)
  ·rw[q] at g
   have:=h A j
   rw[g] at this
   exact this l
  ·rw[q] at g
   ((try simp only[↓M1,M1,Mb,reduceIte]);repeat ((first | refine ld (by assumption) (by assumption) rfl ?_ | refine X7 (by assumption) (by assumption) rfl ?_ | refine Q8 (by assumption) ?_);(try simp only[↓M1,M1,Mb,reduceIte])))
   exact Y5 t.max c ⟨j,_,l,by simpa using g⟩
 ·have c: ¬n<xs.length:=by simpa using o
  rw[List.drop_eq_nil_of_le (by omega)] at g
  have:=h w1 u
  rw[g] at this
  exact this k)
theorem Fz {xs:List Cla} {v f:Value} (p:Cla→Bool) (hs:X3 w σ) (hv:Sl 8 V0 σ v xs)
 (hf: ∀x cs (w1:World) (K:Value→World→Prop),x∈xs→X3 w1 σ→V0 σ x cs→cs.length=8→(∀w',Below w1.heap.size w1 w'→K (.bool (p x)) w')→Z3 P f [.agg cs.toArray] w1 K)
 (h: ∀w',Below w.heap.size w w'→K (I (L6 (xs.findIdx? p))) w'):Q1 P F.o [v,f] w K:=by
 refine Fq (fun (_:Unit) x=>(p x,())) () (fun _ w'=>Below w.heap.size w w') (fun _=>False) (fun _ w' hb=>hs.below hb) (Below.refl _ _) hv (fun s x cs w1 K hx hk hi hr hl hK=>hf x cs w1 K hx (hs.below hi) hr hl fun w' hb=>hK w' (.of_below (bt hi hb)) (bt hi hb)) fun w' hk hi=>?_
 rw[P3]
 simpa using h w' hi
theorem Q0Y {β:Type} {xs:List X0} {v f:Value} (b:β→X0→Bool×β) (g:β) (a:β→World→Prop) (D:Nat→Prop) (m: ∀s w,a s w→X3 w σ) (C:a g w) (t:Sl 1 U8 σ v xs)
 (E: ∀s x (w1:World) (K:Value→World→Prop),x∈xs→Kpt D w w1→a s w1→x.length≤U1→(∀w',Kpt D w w'→a (b s x).2 w'→K (.bool (b s x).1) w')→Z3 P f [S x] w1 K)
 (h: ∀w',Kpt D w w'→a (J5 b g xs 0).2 w'→K (I (L6 (J5 b g xs 0).1)) w'):Q1 P F.w [v,f] w K:=Vo (by
 unfold T2
 ((try simp only[↓M1,M1,Mb,reduceIte]);repeat ((first | refine ld (by assumption) (by assumption) rfl ?_ | refine X7 (by assumption) (by assumption) rfl ?_ | refine Q8 (by assumption) ?_);(try simp only[↓M1,M1,Mb,reduceIte])))
 refine U2 xs.length (fun n w'=>Kpt D w w'∧ ∃s,a s w'∧J5 b g xs 0=J5 b s (xs.drop n) n) ⟨Kpt.refl,g,C,rfl⟩ fun n w1 d H k=>?_
 obtain ⟨y,s,k,e⟩:=k
 have r:=m s w1 k
 ((try simp only[↓M1,M1,Mb,reduceIte]);repeat ((first | refine ld (by assumption) (by assumption) rfl ?_ | refine X7 (by assumption) (by assumption) rfl ?_ | refine Q8 (by assumption) ?_);(try simp only[↓M1,M1,Mb,reduceIte])))
 refine Q7 (fun o=>?_) (fun o=>?_)
 ·have c:n<xs.length:=by simpa using o
  refine N3 t c fun p cs A u z=>?_
  obtain ⟨rfl,i⟩:=z
  refine X7 r A rfl ?_
  refine E s xs[n] w1 _ (List.getElem_mem c) y k i fun B j l=>?_
  rw[List.drop_eq_getElem_cons c] at e
  simp only[J5] at e
  refine Q7 (fun q=>?_) (fun q=>?_)
  ·rw[q] at e
   have:=h B j
   rw[e] at this
   exact this l
  ·rw[q] at e
   ((try simp only[↓M1,M1,Mb,reduceIte]);repeat ((first | refine ld (by assumption) (by assumption) rfl ?_ | refine X7 (by assumption) (by assumption) rfl ?_ | refine Q8 (by assumption) ?_);(try simp only[↓M1,M1,Mb,reduceIte])))
   exact Y5 t.max c ⟨j,_,l,by simpa using e⟩
 ·have c: ¬n<xs.length:=by simpa using o
  rw[List.drop_eq_nil_of_le (by omega)] at e
  have:=h w1 y
  rw[e] at this
  exact this k)
theorem Q16 {xs:List X0} {v f:Value} (p:X0→Bool) (hs:X3 w σ) (hv:Sl 1 U8 σ v xs)
 (hf: ∀x (w1:World) (K:Value→World→Prop),x∈xs→X3 w1 σ→x.length≤U1→(∀w',Below w1.heap.size w1 w'→K (.bool (p x)) w')→Z3 P f [S x] w1 K)
 (h: ∀w',Below w.heap.size w w'→K (I (L6 (xs.findIdx? p))) w'):Q1 P F.w [v,f] w K:=by
 refine Q0Y (fun (_:Unit) x=>(p x,())) () (fun _ w'=>Below w.heap.size w w') (fun _=>False) (fun _ w' hb=>hs.below hb) (Below.refl _ _) hv (fun s x w1 K hx hk hi hr hK=>hf x w1 K hx (hs.below hi) hr fun w' hb=>hK w' (.of_below (bt hi hb)) (bt hi hb)) fun w' hk hi=>?_
 rw[P3]
 simpa using h w' hi
theorem Q63 {α:Type} (p:α→Bool) (xs:List α):decide ((0:Int)≤L6 (xs.findIdx? p))=xs.any p:=by
 rw[Bool.eq_iff_iff,List.any_eq_true]
 simp only[decide_eq_true_eq]
 cases h:xs.findIdx? p with
 | none=>
  simp only[L6]
  constructor
  ·intro h;omega
  ·rintro ⟨x,c,a⟩;have:=List.findIdx?_eq_none_iff.1 h x c;rw[a] at this;cases this
 | some i=>
  simp only[L6]
  obtain ⟨b,a,_⟩:=List.findIdx?_eq_some_iff_getElem.1 h
  exact ⟨fun _=>⟨xs[i],List.getElem_mem b,a⟩,fun _=>by omega⟩
theorem P8 {xs:List X0} {v f:Value} (p:X0→Bool) (c:X3 w σ) (a:Sl 1 U8 σ v xs)
 (d: ∀x (w1:World) (K:Value→World→Prop),x∈xs→X3 w1 σ→x.length≤U1→(∀w',Below w1.heap.size w1 w'→K (.bool (p x)) w')→Z3 P f [S x] w1 K)
 (h: ∀w',Below w.heap.size w w'→K (.bool (xs.any p)) w'):Q1 P F.c [v,f] w K:=Jk (by
 unfold K4
 refine Q16 p c a d fun w1 b=>?_
 (try simp only[↓M1,M1,Mb,reduceIte])
 rw[Q63]
 exact h w1 b)
theorem Q45 {xs:List X0} {v:Value} {x:X0} (r:X3 w σ) (g:Sl 1 U8 σ v xs)
 (h:K (I (L6 (xs.findIdx? fun y=>decide (x=y)))) w):Q1 P F.av [v,S x] w K:=Nd (by
 unfold Qw
 ((try simp only[↓M1,M1,Mb,reduceIte]);repeat ((first | refine ld (by assumption) (by assumption) rfl ?_ | refine X7 (by assumption) (by assumption) rfl ?_ | refine Q8 (by assumption) ?_);(try simp only[↓M1,M1,Mb,reduceIte])))
 refine U2 xs.length (fun n w'=>w=w'∧(xs.take n).any (fun y=>decide (x=y))=false) ⟨rfl,rfl⟩ fun n w1 d m b=>?_
 obtain ⟨rfl,b⟩:=b
 ((try simp only[↓M1,M1,Mb,reduceIte]);repeat ((first | refine ld (by assumption) (by assumption) rfl ?_ | refine X7 (by assumption) (by assumption) rfl ?_ | refine Q8 (by assumption) ?_);(try simp only[↓M1,M1,Mb,reduceIte])))
 refine Q7 (fun c=>?_) (fun c=>?_)
 ·have a:n<xs.length:=by simpa using c
  refine N3 g a fun p cs o i k=>?_
  obtain ⟨rfl,f⟩:=k
  ((try simp only[↓M1,M1,Mb,reduceIte]);repeat ((first | refine ld (by assumption) (by assumption) rfl ?_ | refine X7 (by assumption) (by assumption) rfl ?_ | refine Q8 (by assumption) ?_);(try simp only[↓M1,M1,Mb,reduceIte])))
  refine Q7 (fun e=>?_) (fun e=>?_)
  ·have:xs.findIdx? (fun y=>decide (x=y))=some n:=by
    rw[List.findIdx?_eq_some_iff_getElem]
    refine ⟨a,e,fun j q=>?_⟩
    have:=List.any_eq_false.1 b (xs[j]) (List.mem_take_iff_getElem.2 ⟨j,by omega,rfl⟩)
    exact this
   rw[this] at h;exact h
  ·((try simp only[↓M1,M1,Mb,reduceIte]);repeat ((first | refine ld (by assumption) (by assumption) rfl ?_ | refine X7 (by assumption) (by assumption) rfl ?_ | refine Q8 (by assumption) ?_);(try simp only[↓M1,M1,Mb,reduceIte])))
   exact Y5 g.max a ⟨rfl,by rw[L2 a,b,e];rfl⟩
 ·have a: ¬n<xs.length:=by simpa using c
  rw[E5 a] at b
  have:xs.findIdx? (fun y=>decide (x=y))=none:=by
   rw[List.findIdx?_eq_none_iff];intro y l;simpa using List.any_eq_false.1 b y l
  rw[this] at h;exact h)
theorem Q22 {xs:List X0} {v:Value} {x:X0} (b:X3 w σ) (a:Sl 1 U8 σ v xs)
 (h:K (.bool (xs.any fun y=>decide (x=y))) w):Q1 P F.ah [v,S x] w K:=Vz (by
 unfold A0
 refine Q45 b a ?_
 (try simp only[↓M1,M1,Mb,reduceIte])
 rw[Q63]
 exact h)
end Go.Proofs.YtjdiakhipmggjaaGreatDoor

namespace Go.Emb
abbrev Q6.Le (σ σ':Q6):Prop:= ∀b o,σ b=some o→σ' b=some o
def B0 {α:Type} (f:α→List UInt8):List α→List α→Bool
 | _,[]=>true
 | seen,x::r=> !(seen.any fun y=>decide (f y=f x))&&B0 f (seen++[x]) r
theorem Wg {α:Type} (p:α→Bool) (xs:List α):(!xs.any fun x=> !p x)=xs.all p:=by
 rw[List.all_eq_not_any_not]
end Go.Emb
namespace Go.Proofs.YtjdiakhipmggjaaGreatDoor
open Go.Emb Go.RowKit Go.Kd Go.Hm
variable {w : World} {K : Value → World → Prop} {σ : Q6}
theorem Q0i {xs:List Hm.Met} {v:Value} {fn:Fn} {m d:Array Value} (p:Hm.Met→Bool) (u:X3 w σ) (t:Sl 7 H0 σ v xs)
 (A: ∀(σ1:Q6) x cs (w1:World) (K:Value→World→Prop),σ.Le σ1→x∈xs→X3 w1 σ1→H0 σ1 x cs→cs.length=7→(∀w',Below w1.heap.size w1 w'→K (.bool (p x)) w')→Z3 P (.func fn m d) [.agg cs.toArray] w1 K)
 (h: ∀w',Below w.heap.size w w'→K (.bool (xs.all p)) w'):Q1 P F.ap [v, .func fn m d] w K:=Rv (by
 unfold Up
 refine E8 u fun a w1 σ1 f n=>?_
 simp only[Value.cells] at n
 ((try simp only[↓M1,M1,Mb,reduceIte]);repeat ((first | refine ld (by assumption) (by assumption) rfl ?_ | refine X7 (by assumption) (by assumption) rfl ?_ | refine Q8 (by assumption) ?_);(try simp only[↓M1,M1,Mb,reduceIte])))
 refine F6 (fun x=> !p x) f.sat (t.up f) (fun x cs l K y g q k B=>?_) fun l z=>?_
 ·refine Z7 (Hn ?_)
  unfold Zg
  refine E8 g fun b s C c i=>?_
  refine X7 c.sat (n.up c) rfl ?_
  refine Y2 c.sat i k ?_
  refine A C x _ s _ (fun b o e=>c.le b o (f.le b o e)) y c.sat (Rep.up c.le q) k fun r j=>?_
  (try simp only[↓M1,M1,Mb,reduceIte])
  exact B r (bt c.bel j)
 ·(try simp only[↓M1,M1,Mb,reduceIte])
  rw[Wg]
  exact h l (bt f.bel z))
theorem Q1Z {xs:List Fld} {v:Value} {fn:Fn} {m d:Array Value} (p:Fld→Bool) (u:X3 w σ) (t:Sl 3 S2 σ v xs)
 (A: ∀(σ1:Q6) x cs (w1:World) (K:Value→World→Prop),σ.Le σ1→x∈xs→X3 w1 σ1→S2 σ1 x cs→cs.length=3→(∀w',Below w1.heap.size w1 w'→K (.bool (p x)) w')→Z3 P (.func fn m d) [.agg cs.toArray] w1 K)
 (h: ∀w',Below w.heap.size w w'→K (.bool (xs.all p)) w'):Q1 P F.au [v, .func fn m d] w K:=Co (by
 unfold Vg
 refine E8 u fun a w1 σ1 f n=>?_
 simp only[Value.cells] at n
 ((try simp only[↓M1,M1,Mb,reduceIte]);repeat ((first | refine ld (by assumption) (by assumption) rfl ?_ | refine X7 (by assumption) (by assumption) rfl ?_ | refine Q8 (by assumption) ?_);(try simp only[↓M1,M1,Mb,reduceIte])))
 refine Jn (fun x=> !p x) f.sat (t.up f) (fun x cs l K y g q k B=>?_) fun l z=>?_
 ·refine Z7 (Rf ?_)
  unfold Jg
  refine E8 g fun b s C c i=>?_
  refine X7 c.sat (n.up c) rfl ?_
  refine Y2 c.sat i k ?_
  refine A C x _ s _ (fun b o e=>c.le b o (f.le b o e)) y c.sat (Rep.up c.le q) k fun r j=>?_
  (try simp only[↓M1,M1,Mb,reduceIte])
  exact B r (bt c.bel j)
 ·(try simp only[↓M1,M1,Mb,reduceIte])
  rw[Wg]
  exact h l (bt f.bel z))
theorem Q23 {xs:List Ins} {v:Value} {fn:Fn} {m d:Array Value} (p:Ins→Bool) (u:X3 w σ) (t:Sl 3 Qr σ v xs)
 (A: ∀(σ1:Q6) x cs (w1:World) (K:Value→World→Prop),σ.Le σ1→x∈xs→X3 w1 σ1→Qr σ1 x cs→cs.length=3→(∀w',Below w1.heap.size w1 w'→K (.bool (p x)) w')→Z3 P (.func fn m d) [.agg cs.toArray] w1 K)
 (h: ∀w',Below w.heap.size w w'→K (.bool (xs.all p)) w'):Q1 P F.aw [v, .func fn m d] w K:=Cv (by
 unfold Vc
 refine E8 u fun a w1 σ1 f n=>?_
 simp only[Value.cells] at n
 ((try simp only[↓M1,M1,Mb,reduceIte]);repeat ((first | refine ld (by assumption) (by assumption) rfl ?_ | refine X7 (by assumption) (by assumption) rfl ?_ | refine Q8 (by assumption) ?_);(try simp only[↓M1,M1,Mb,reduceIte])))
 refine Sp (fun x=> !p x) f.sat (t.up f) (fun x cs l K y g q k B=>?_) fun l z=>?_
 ·refine Z7 (Rk ?_)
  unfold Jh
  refine E8 g fun b s C c i=>?_
  refine X7 c.sat (n.up c) rfl ?_
  refine Y2 c.sat i k ?_
  refine A C x _ s _ (fun b o e=>c.le b o (f.le b o e)) y c.sat (Rep.up c.le q) k fun r j=>?_
  (try simp only[↓M1,M1,Mb,reduceIte])
  exact B r (bt c.bel j)
 ·(try simp only[↓M1,M1,Mb,reduceIte])
  rw[Wg]
  exact h l (bt f.bel z))
theorem Q1V {xs:List Cat} {v:Value} {fn:Fn} {m d:Array Value} (p:Cat→Bool) (u:X3 w σ) (t:Sl 4 Ur σ v xs)
 (A: ∀(σ1:Q6) x cs (w1:World) (K:Value→World→Prop),σ.Le σ1→x∈xs→X3 w1 σ1→Ur σ1 x cs→cs.length=4→(∀w',Below w1.heap.size w1 w'→K (.bool (p x)) w')→Z3 P (.func fn m d) [.agg cs.toArray] w1 K)
 (h: ∀w',Below w.heap.size w w'→K (.bool (xs.all p)) w'):Q1 P F.ax [v, .func fn m d] w K:=Ck (by
 unfold Vi
 refine E8 u fun a w1 σ1 f n=>?_
 simp only[Value.cells] at n
 ((try simp only[↓M1,M1,Mb,reduceIte]);repeat ((first | refine ld (by assumption) (by assumption) rfl ?_ | refine X7 (by assumption) (by assumption) rfl ?_ | refine Q8 (by assumption) ?_);(try simp only[↓M1,M1,Mb,reduceIte])))
 refine Cd (fun x=> !p x) f.sat (t.up f) (fun x cs l K y g q k B=>?_) fun l z=>?_
 ·refine Z7 (Re ?_)
  unfold Jd
  refine E8 g fun b s C c i=>?_
  refine X7 c.sat (n.up c) rfl ?_
  refine Y2 c.sat i k ?_
  refine A C x _ s _ (fun b o e=>c.le b o (f.le b o e)) y c.sat (Rep.up c.le q) k fun r j=>?_
  (try simp only[↓M1,M1,Mb,reduceIte])
  exact B r (bt c.bel j)
 ·(try simp only[↓M1,M1,Mb,reduceIte])
  rw[Wg]
  exact h l (bt f.bel z))
theorem Fs {xs:List X0} {v:Value} {fn:Fn} {g c:Array Value} (p:X0→Bool) (m:X3 w σ) (l:Sl 1 U8 σ v xs)
 (q: ∀(σ1:Q6) x (w1:World) (K:Value→World→Prop),σ.Le σ1→x∈xs→X3 w1 σ1→x.length≤U1→(∀w',Below w1.heap.size w1 w'→K (.bool (p x)) w')→Z3 P (.func fn g c) [S x] w1 K)
 (h: ∀w',Below w.heap.size w w'→K (.bool (xs.all p)) w'):Q1 P F.aa [v, .func fn g c] w K:=Pm (by
 unfold Mg
 refine E8 m fun a w1 σ1 d i=>?_
 simp only[Value.cells] at i
 ((try simp only[↓M1,M1,Mb,reduceIte]);repeat ((first | refine ld (by assumption) (by assumption) rfl ?_ | refine X7 (by assumption) (by assumption) rfl ?_ | refine Q8 (by assumption) ?_);(try simp only[↓M1,M1,Mb,reduceIte])))
 refine P8 (fun x=> !p x) d.sat (l.up d) (fun x e K n b j r=>?_) fun e o=>?_
 ·refine Z7 (Bs ?_)
  unfold Vr
  refine X7 b i rfl ?_
  refine q σ1 x e _ d.le n b j fun k f=>?_
  (try simp only[↓M1,M1,Mb,reduceIte])
  exact r k f
 ·(try simp only[↓M1,M1,Mb,reduceIte])
  rw[Wg]
  exact h e (bt d.bel o))
theorem Q1Y {xs:List Hm.Met} {v:Value} {fn:Fn} {E l:Array Value} (f:Hm.Met→X0) (hs:X3 w σ) (B:Sl 7 H0 σ v xs)
 (Z: ∀(σ1:Q6) x cs (w1:World) (K:Value→World→Prop),σ.Le σ1→X3 w1 σ1→H0 σ1 x cs→cs.length=7→(∀w',Below w1.heap.size w1 w'→K (S (f x)) w')→Z3 P (.func fn E l) [.agg cs.toArray] w1 K)
 (h: ∀w',Below w.heap.size w w'→K (.bool (B0 f [] xs)) w'):Q1 P F.ar [v, .func fn E l] w K:=Cr (by
 unfold Vd
 refine E8 hs fun a w1 σ1 C ha=>?_
 simp only[Value.cells] at ha
 have R:=C.sat
 replace B:=B.up C
 ((try simp only[↓M1,M1,Mb,reduceIte]);repeat ((first | refine ld (by assumption) (by assumption) rfl ?_ | refine X7 (by assumption) (by assumption) rfl ?_ | refine Q8 (by assumption) ?_);(try simp only[↓M1,M1,Mb,reduceIte])))
 refine U2 xs.length (fun n w'=>Below w1.heap.size w1 w'∧B0 f [] xs=B0 f (xs.take n) (xs.drop n)) ⟨Below.refl _ _,rfl⟩ fun n w2 d hn hi=>?_
 obtain ⟨i,s⟩:=hi
 have A:=R.below i
 ((try simp only[↓M1,M1,Mb,reduceIte]);repeat ((first | refine ld (by assumption) (by assumption) rfl ?_ | refine X7 (by assumption) (by assumption) rfl ?_ | refine Q8 (by assumption) ?_);(try simp only[↓M1,M1,Mb,reduceIte])))
 refine Q7 (fun J=>?_) (fun J=>?_)
 ·have k:n<xs.length:=by simpa using J
  rw[List.drop_eq_getElem_cons k] at s
  simp only[B0] at s
  refine N3 B k fun p cs hl g X=>?_
  refine Y2 A hl g ?_
  refine Y7 A (by rfl) g (Rep.one X) fun q w3 σ3 j hq=>?_
  refine Ex (B.up j) none (some (I n)) 0 n (.inl ⟨rfl,rfl⟩) (.inr rfl) (by omega) (by omega) fun v' U=>?_
  ((try simp only[↓M1,M1,Mb,reduceIte]);repeat ((first | refine ld (by assumption) (by assumption) rfl ?_ | refine X7 (by assumption) (by assumption) rfl ?_ | refine Q8 (by assumption) ?_);(try simp only[↓M1,M1,Mb,reduceIte])))
  refine F6 (fun y=>decide (f y=f xs[n])) j.sat U (fun y ys Y K hy Q O u hK=>?_) fun Y W=>?_
  ·refine Z7 (Rh ?_)
   unfold Jf
   refine E8 Q fun b w5 N c L=>?_
   have z:=(ha.up j).up c
   have H:=hq.up c
   have m:σ.Le N:=fun b o e=>c.le b o (j.le b o (C.le b o e))
   refine Dq (Below.refl _ _) ?_
   refine X4 (.func fn E l) (fun w i=>X7 (c.sat.below i) z rfl (X6 rfl)) ?_
   refine X4 (.agg ys.toArray) (fun w i=>Y2 (c.sat.below i) L u (X6 rfl)) ?_
   refine X4 (S (f y)) (fun t t' w i e e'=>by rw[e,e'];exact Z N y ys w _ m (c.sat.below i) (Rep.up c.le O) u fun w' V=>Q38 V rfl) ?_
   refine X4 (.func fn E l) (fun w i=>X7 (c.sat.below i) z rfl (X6 rfl)) ?_
   refine X4 (.agg cs.toArray) (fun w i=>Y2 (c.sat.below i) H g (X6 rfl)) ?_
   rintro _ _ _ _ _ w6 D rfl rfl rfl rfl rfl
   refine Z N xs[n] cs w6 _ m (c.sat.below D) (Rep.up (fun b o e=>c.le b o (j.le b o e)) X) g fun w7 M=>?_
   (try simp only[↓M1,M1,Mb,reduceIte])
   exact hK w7 (bt (bt c.bel D) M)
  ·have r:=bt i (bt j.bel W)
   simp only[List.drop_zero,Nat.sub_zero] at*
   refine Q7 (fun hh=>?_) (fun hh=>?_)
   ·rw[hh] at s
    have:=h Y (bt C.bel r)
    rw[s] at this;exact this
   ·rw[hh] at s
    ((try simp only[↓M1,M1,Mb,reduceIte]);repeat ((first | refine ld (by assumption) (by assumption) rfl ?_ | refine X7 (by assumption) (by assumption) rfl ?_ | refine Q8 (by assumption) ?_);(try simp only[↓M1,M1,Mb,reduceIte])))
    refine Y5 B.max k ⟨r,?_⟩
    rw[s,List.take_add_one,List.getElem?_eq_getElem k];rfl
 ·have k: ¬n<xs.length:=by simpa using J
  rw[List.drop_eq_nil_of_le (by omega)] at s
  have:=h w2 (bt C.bel i)
  rw[s] at this;exact this)
theorem Q2H {xs:List Fld} {v:Value} {fn:Fn} {E l:Array Value} (f:Fld→X0) (hs:X3 w σ) (B:Sl 3 S2 σ v xs)
 (Z: ∀(σ1:Q6) x cs (w1:World) (K:Value→World→Prop),σ.Le σ1→X3 w1 σ1→S2 σ1 x cs→cs.length=3→(∀w',Below w1.heap.size w1 w'→K (S (f x)) w')→Z3 P (.func fn E l) [.agg cs.toArray] w1 K)
 (h: ∀w',Below w.heap.size w w'→K (.bool (B0 f [] xs)) w'):Q1 P F.aF [v, .func fn E l] w K:=Bu (by
 unfold Wb
 refine E8 hs fun a w1 σ1 C ha=>?_
 simp only[Value.cells] at ha
 have R:=C.sat
 replace B:=B.up C
 ((try simp only[↓M1,M1,Mb,reduceIte]);repeat ((first | refine ld (by assumption) (by assumption) rfl ?_ | refine X7 (by assumption) (by assumption) rfl ?_ | refine Q8 (by assumption) ?_);(try simp only[↓M1,M1,Mb,reduceIte])))
 refine U2 xs.length (fun n w'=>Below w1.heap.size w1 w'∧B0 f [] xs=B0 f (xs.take n) (xs.drop n)) ⟨Below.refl _ _,rfl⟩ fun n w2 d hn hi=>?_
 obtain ⟨i,s⟩:=hi
 have A:=R.below i
 ((try simp only[↓M1,M1,Mb,reduceIte]);repeat ((first | refine ld (by assumption) (by assumption) rfl ?_ | refine X7 (by assumption) (by assumption) rfl ?_ | refine Q8 (by assumption) ?_);(try simp only[↓M1,M1,Mb,reduceIte])))
 refine Q7 (fun J=>?_) (fun J=>?_)
 ·have k:n<xs.length:=by simpa using J
  rw[List.drop_eq_getElem_cons k] at s
  simp only[B0] at s
  refine N3 B k fun p cs hl g X=>?_
  refine Y2 A hl g ?_
  refine Y7 A (by rfl) g (Rep.one X) fun q w3 σ3 j hq=>?_
  refine Ex (B.up j) none (some (I n)) 0 n (.inl ⟨rfl,rfl⟩) (.inr rfl) (by omega) (by omega) fun v' U=>?_
  ((try simp only[↓M1,M1,Mb,reduceIte]);repeat ((first | refine ld (by assumption) (by assumption) rfl ?_ | refine X7 (by assumption) (by assumption) rfl ?_ | refine Q8 (by assumption) ?_);(try simp only[↓M1,M1,Mb,reduceIte])))
  refine Jn (fun y=>decide (f y=f xs[n])) j.sat U (fun y ys Y K hy Q O u hK=>?_) fun Y W=>?_
  ·refine Z7 (So ?_)
   unfold Ju
   refine E8 Q fun b w5 N c L=>?_
   have z:=(ha.up j).up c
   have H:=hq.up c
   have m:σ.Le N:=fun b o e=>c.le b o (j.le b o (C.le b o e))
   refine Dq (Below.refl _ _) ?_
   refine X4 (.func fn E l) (fun w i=>X7 (c.sat.below i) z rfl (X6 rfl)) ?_
   refine X4 (.agg ys.toArray) (fun w i=>Y2 (c.sat.below i) L u (X6 rfl)) ?_
   refine X4 (S (f y)) (fun t t' w i e e'=>by rw[e,e'];exact Z N y ys w _ m (c.sat.below i) (Rep.up c.le O) u fun w' V=>Q38 V rfl) ?_
   refine X4 (.func fn E l) (fun w i=>X7 (c.sat.below i) z rfl (X6 rfl)) ?_
   refine X4 (.agg cs.toArray) (fun w i=>Y2 (c.sat.below i) H g (X6 rfl)) ?_
   rintro _ _ _ _ _ w6 D rfl rfl rfl rfl rfl
   refine Z N xs[n] cs w6 _ m (c.sat.below D) (Rep.up (fun b o e=>c.le b o (j.le b o e)) X) g fun w7 M=>?_
   (try simp only[↓M1,M1,Mb,reduceIte])
   exact hK w7 (bt (bt c.bel D) M)
  ·have r:=bt i (bt j.bel W)
   simp only[List.drop_zero,Nat.sub_zero] at*
   refine Q7 (fun hh=>?_) (fun hh=>?_)
   ·rw[hh] at s
    have:=h Y (bt C.bel r)
    rw[s] at this;exact this
   ·rw[hh] at s
    ((try simp only[↓M1,M1,Mb,reduceIte]);repeat ((first | refine ld (by assumption) (by assumption) rfl ?_ | refine X7 (by assumption) (by assumption) rfl ?_ | refine Q8 (by assumption) ?_);(try simp only[↓M1,M1,Mb,reduceIte])))
    refine Y5 B.max k ⟨r,?_⟩
    rw[s,List.take_add_one,List.getElem?_eq_getElem k];rfl
 ·have k: ¬n<xs.length:=by simpa using J
  rw[List.drop_eq_nil_of_le (by omega)] at s
  have:=h w2 (bt C.bel i)
  rw[s] at this;exact this)
theorem Q4R {xs:List X0} {v:Value} {fn:Fn} {D k:Array Value} (f:X0→X0) (hs:X3 w σ) (A:Sl 1 U8 σ v xs)
 (V: ∀(σ1:Q6) x (w1:World) (K:Value→World→Prop),σ.Le σ1→X3 w1 σ1→x.length≤U1→(∀w',Below w1.heap.size w1 w'→K (S (f x)) w')→Z3 P (.func fn D k) [S x] w1 K)
 (h: ∀w',Below w.heap.size w w'→K (.bool (B0 f [] xs)) w'):Q1 P F.aU [v, .func fn D k] w K:=Ag (by
 unfold Dh
 refine E8 hs fun a w1 σ1 B W=>?_
 simp only[Value.cells] at W
 have M:=B.sat
 replace A:=A.up B
 ((try simp only[↓M1,M1,Mb,reduceIte]);repeat ((first | refine ld (by assumption) (by assumption) rfl ?_ | refine X7 (by assumption) (by assumption) rfl ?_ | refine Q8 (by assumption) ?_);(try simp only[↓M1,M1,Mb,reduceIte])))
 refine U2 xs.length (fun n w'=>Below w1.heap.size w1 w'∧B0 f [] xs=B0 f (xs.take n) (xs.drop n)) ⟨Below.refl _ _,rfl⟩ fun n Z d hn hi=>?_
 obtain ⟨c,r⟩:=hi
 have u:=M.below c
 ((try simp only[↓M1,M1,Mb,reduceIte]);repeat ((first | refine ld (by assumption) (by assumption) rfl ?_ | refine X7 (by assumption) (by assumption) rfl ?_ | refine Q8 (by assumption) ?_);(try simp only[↓M1,M1,Mb,reduceIte])))
 refine Q7 (fun E=>?_) (fun E=>?_)
 ·have i:n<xs.length:=by simpa using E
  rw[List.drop_eq_getElem_cons i] at r
  simp only[B0] at r
  refine N3 A i fun p cs Y U X=>?_
  obtain ⟨rfl,z⟩:=X
  refine X7 u Y rfl ?_
  refine U7 u (by rfl) rfl rfl fun q w3 H j hq=>?_
  refine Ex (A.up j) none (some (I n)) 0 n (.inl ⟨rfl,rfl⟩) (.inr rfl) (by omega) (by omega) fun v' N=>?_
  ((try simp only[↓M1,M1,Mb,reduceIte]);repeat ((first | refine ld (by assumption) (by assumption) rfl ?_ | refine X7 (by assumption) (by assumption) rfl ?_ | refine Q8 (by assumption) ?_);(try simp only[↓M1,M1,Mb,reduceIte])))
  refine P8 (fun y=>decide (f y=f xs[n])) j.sat N (fun y R K hy g L hK=>?_) fun R Q=>?_
  ·refine Z7 (Gi ?_)
   unfold Lf
   have s:=W.up j
   have l:σ.Le H:=fun b o e=>j.le b o (B.le b o e)
   refine Dq (Below.refl _ _) ?_
   refine X4 (.func fn D k) (fun w c=>X7 (g.below c) s rfl (X6 rfl)) ?_
   refine X4 (S (f y)) (fun t w c e=>by rw[e];exact V H y w _ l (g.below c) L fun w' O=>Q38 O rfl) ?_
   refine X4 (.func fn D k) (fun w c=>X7 (g.below c) s rfl (X6 rfl)) ?_
   refine X4 (S xs[n]) (fun w c=>X7 (g.below c) hq rfl (X6 rfl)) ?_
   rintro _ _ _ _ w6 C rfl rfl rfl rfl
   refine V H xs[n] w6 _ l (g.below C) z fun w7 J=>?_
   (try simp only[↓M1,M1,Mb,reduceIte])
   exact hK w7 (bt C J)
  ·have m:=bt c (bt j.bel Q)
   simp only[List.drop_zero,Nat.sub_zero] at*
   refine Q7 (fun hh=>?_) (fun hh=>?_)
   ·rw[hh] at r
    have:=h R (bt B.bel m)
    rw[r] at this;exact this
   ·rw[hh] at r
    ((try simp only[↓M1,M1,Mb,reduceIte]);repeat ((first | refine ld (by assumption) (by assumption) rfl ?_ | refine X7 (by assumption) (by assumption) rfl ?_ | refine Q8 (by assumption) ?_);(try simp only[↓M1,M1,Mb,reduceIte])))
    refine Y5 A.max i ⟨m,?_⟩
    rw[r,List.take_add_one,List.getElem?_eq_getElem i];rfl
 ·have i: ¬n<xs.length:=by simpa using E
  rw[List.drop_eq_nil_of_le (by omega)] at r
  have:=h Z (bt B.bel c)
  rw[r] at this;exact this)
theorem Q6L {P:Program} {w:World} (d:Nat) (t e:TypeId) (a:Option Addr) (n c:Nat) (h:P.underlying t=some (.slice e)):
 (Op.equalIn (d+1) t (.slice a n c) (.slice none 0 0)).run P w= .ok a.isNone w:=by
 cases a<;>simp[Op.equalIn,run_underlying h]
theorem Q1D {t e:TypeId} {j g:Operand} [ts:TS P t e] {a:Option Addr} {n c:Nat} {b:Bool} (f:a.isNone=b) (i:K (.bool b) w):Q3 P .eql t j g (.slice a n c) (.slice none 0 0) w K:=by
 have d:(Op.equal t (.slice a n c) (.slice none 0 0)).run P w= .ok b w:=by
  have:=Q6L (P:=P) (w:=w) 9999 t e a n c ts.h
  rw[f] at this
  exact this
 unfold Q3
 rw[X9 (v:= .bool b) (w':=w) (by simp[eqGuard,Go.binOp,d])]
 exact i
theorem Lb {xs:List X0} {v:Value} (f:X3 w σ) (e:Sl 1 U8 σ v xs) (s:xs.length≤1000000)
 (h: ∀i w' b,Stp w σ w' b→Sl 1 U8 b i xs→K i w'):Q1 P F.a8 [v] w K:=Mz (by
 unfold Ql
 have c:=e
 obtain ⟨a,o,rfl,A,t,p,u⟩:=e
 refine Q1D rfl ?_
 refine Q7 (fun g=>?_) (fun g=>?_)
 ·have:a=none:=by simpa using g
  have B:=p this
  have n:xs=[]:=List.eq_nil_of_length_eq_zero (by omega)
  subst n
  exact h _ w σ (Stp.refl f) Sl.nil
 ·refine Zf (R:=U8) (sz:=1) (Stp.refl f) [] [] rfl rfl (by simp) (by rfl) trivial fun C w1 m q _=>?_
  refine app m q c (by rfl) (by simp only[List.length_nil];omega) (by simp only[List.length_nil];omega) fun z l y j d _=>?_
  obtain ⟨b,r,k,_⟩:=d.keep j
  exact h _ l b r k)
theorem Ej {xs:List Fld} {v:Value} (f:X3 w σ) (e:Sl 3 S2 σ v xs) (s:xs.length≤1000000)
 (h: ∀i w' b,Stp w σ w' b→Sl 3 S2 b i xs→K i w'):Q1 P F.ad [v] w K:=Ud (by
 unfold K9
 have c:=e
 obtain ⟨a,o,rfl,A,t,p,u⟩:=e
 refine Q1D rfl ?_
 refine Q7 (fun g=>?_) (fun g=>?_)
 ·have:a=none:=by simpa using g
  have B:=p this
  have n:xs=[]:=List.eq_nil_of_length_eq_zero (by omega)
  subst n
  exact h _ w σ (Stp.refl f) Sl.nil
 ·refine Zf (R:=S2) (sz:=3) (Stp.refl f) [] [] rfl rfl (by simp) (by rfl) trivial fun C w1 m q _=>?_
  refine app m q c (by rfl) (by simp only[List.length_nil];omega) (by simp only[List.length_nil];omega) fun z l y j d _=>?_
  obtain ⟨b,r,k,_⟩:=d.keep j
  exact h _ l b r k)
theorem Ha {xs:List Ins} {v:Value} (f:X3 w σ) (e:Sl 3 Qr σ v xs) (s:xs.length≤1000000)
 (h: ∀i w' b,Stp w σ w' b→Sl 3 Qr b i xs→K i w'):Q1 P F.ae [v] w K:=Ue (by
 unfold P2
 have c:=e
 obtain ⟨a,o,rfl,A,t,p,u⟩:=e
 refine Q1D rfl ?_
 refine Q7 (fun g=>?_) (fun g=>?_)
 ·have:a=none:=by simpa using g
  have B:=p this
  have n:xs=[]:=List.eq_nil_of_length_eq_zero (by omega)
  subst n
  exact h _ w σ (Stp.refl f) Sl.nil
 ·refine Zf (R:=Qr) (sz:=3) (Stp.refl f) [] [] rfl rfl (by simp) (by rfl) trivial fun C w1 m q _=>?_
  refine app m q c (by rfl) (by simp only[List.length_nil];omega) (by simp only[List.length_nil];omega) fun z l y j d _=>?_
  obtain ⟨b,r,k,_⟩:=d.keep j
  exact h _ l b r k)
theorem Em {xs:List Cat} {v:Value} (f:X3 w σ) (e:Sl 4 Ur σ v xs) (s:xs.length≤1000000)
 (h: ∀i w' b,Stp w σ w' b→Sl 4 Ur b i xs→K i w'):Q1 P F.af [v] w K:=Uf (by
 unfold K8
 have c:=e
 obtain ⟨a,o,rfl,A,t,p,u⟩:=e
 refine Q1D rfl ?_
 refine Q7 (fun g=>?_) (fun g=>?_)
 ·have:a=none:=by simpa using g
  have B:=p this
  have n:xs=[]:=List.eq_nil_of_length_eq_zero (by omega)
  subst n
  exact h _ w σ (Stp.refl f) Sl.nil
 ·refine Zf (R:=Ur) (sz:=4) (Stp.refl f) [] [] rfl rfl (by simp) (by rfl) trivial fun C w1 m q _=>?_
  refine app m q c (by rfl) (by simp only[List.length_nil];omega) (by simp only[List.length_nil];omega) fun z l y j d _=>?_
  obtain ⟨b,r,k,_⟩:=d.keep j
  exact h _ l b r k)
end Go.Proofs.YtjdiakhipmggjaaGreatDoor

namespace Go.Hm
open Go.Kd
structure Opr where
  name : X0
  number : Bool
  text : Bool
deriving DecidableEq
def Jz:List Opr:=[
 ⟨[105,110,116],true,false⟩,
 ⟨[116,114,117,101],false,false⟩,
 ⟨[102,97,108,115,101],false,false⟩,
 ⟨[119,111,114,100],false,true⟩,
 ⟨[110,117,108,108],false,false⟩,
 ⟨[108,111,97,100],true,false⟩,
 ⟨[115,116,111,114,101],true,false⟩,
 ⟨[112,111,112],false,false⟩,
 ⟨[100,117,112],false,false⟩,
 ⟨[115,119,97,112],false,false⟩,
 ⟨[97,100,100],false,false⟩,
 ⟨[115,117,98],false,false⟩,
 ⟨[109,117,108],false,false⟩,
 ⟨[100,105,118],false,false⟩,
 ⟨[114,101,109],false,false⟩,
 ⟨[110,101,103],false,false⟩,
 ⟨[108,101,115,115],false,false⟩,
 ⟨[115,97,109,101],false,false⟩,
 ⟨[110,111,116],false,false⟩,
 ⟨[98,111,116,104],false,false⟩,
 ⟨[106,111,105,110],false,false⟩,
 ⟨[115,105,122,101],false,false⟩,
 ⟨[106,117,109,112],true,false⟩,
 ⟨[98,114,97,110,99,104],true,false⟩,
 ⟨[110,101,119],false,true⟩,
 ⟨[103,101,116],false,true⟩,
 ⟨[112,117,116],false,true⟩,
 ⟨[99,97,108,108],false,true⟩,
 ⟨[97,114,114,97,121],false,true⟩,
 ⟨[97,116],false,false⟩,
 ⟨[115,101,116],false,false⟩,
 ⟨[105,115],false,true⟩,
 ⟨[99,97,115,116],false,true⟩,
 ⟨[114,101,116,117,114,110],false,false⟩,
 ⟨[116,104,114,111,119],false,false⟩,
 ⟨[111,117,116],false,false⟩,
 ⟨[101,113,117,97,108],false,false⟩,
 ⟨[97,110,100],false,false⟩,
 ⟨[111,114],false,false⟩,
 ⟨[120,111,114],false,false⟩,
 ⟨[115,104,108],false,false⟩,
 ⟨[115,104,114],false,false⟩]
end Go.Hm
namespace Go.Emb
open Go.Hm
def ROp (_:Q6) (o:Opr) (cs:List Value):Prop:=cs=[S o.name, .bool o.number, .bool o.text]
def cOp (o:Opr):List Value:=[S o.name, .bool o.number, .bool o.text]
instance:Rep ROp:=⟨fun _ h=>h,fun h u hu=>by rw[h] at hu;simp at hu;rcases hu with rfl | rfl | rfl<;>rfl⟩
end Go.Emb
namespace Go.Proofs.YtjdiakhipmggjaaGreatDoor
open Go.Emb Go.RowKit Go.Kd Go.Hm
variable {w : World} {K : Value → World → Prop} {σ : Q6}
theorem Q6e {a:X0} (m:a.length≤U1) (h: ∀w',Below w.heap.size w w'→K (.bool (E2 a)) w'):Q1 P F.bU [S a] w K:=Q3W (by
 unfold Ge
 have b:a.length≤140737488355328:=by simp only[U1] at m;omega
 refine Q5n a b fun w1 e=>?_
 cases d:name a
 ·(try simp only[↓M1,M1,Mb,reduceIte])
  have:=h w1 e
  rwa [show E2 a=false by cases a with | nil=>rfl | cons c r=>simp[E2,d]] at this
 ·(try simp only[↓M1,M1,Mb,reduceIte])
  refine Rn a b fun k l=>?_
  (try simp only[↓M1,M1,Mb,reduceIte])
  have:=h k (bt e l)
  rwa [show E2 a= !M9 a by
   cases a with
   | nil=>simp[name] at d
   | cons c r=>
    obtain ⟨i,j⟩:=Tb d
    simp only[M9,E2,d,Bool.true_and]
    simp only[C2,j,Bool.or_false] at i
    cases g:Xl c.toNat<;>cases f:Qc c.toNat
    ·simp[g,f] at i
    ·rfl
    ·rfl
    ·exfalso
     simp only[Xl,Qc,Bool.and_eq_true,decide_eq_true_eq] at g f
     omega] at this)
theorem X2k {t e:TypeId} {n sz b:Nat} {z:Value} [ta:TA P t n e] [tz:TZ P e sz b z] {a:Addr} (c:K (.slice (some a) n n) w):S1 P t (.pointer (some a)) none none none w K:=by
 unfold S1
 have:(Instr.sliceAt t (.pointer (some a)) none none none).run P w= .ok (.slice (some (if n=0 then a else a.add (0*sz))) (n-0) (n-0)) w:=by
  simp[Instr.sliceAt,run_underlying ta.h,Instr.sureAddr,Instr.sliceBounds,L4 tz]
 rw[X9 this]
 have d:(if n=0 then a else a.add (0*sz))=a:=by
  by_cases h:n=0
  ·rw[if_pos h]
  ·rw[if_neg h,Nat.zero_mul,add_zero]
 rw[d];exact c
def Q2v (σ:Q6):Prop:=Z4 σ ⟨G.a,0,none⟩ (Jz.flatMap cOp)
theorem Q7s (i:Nat) (o:Opr) (h:Jz[i]? =some o):((Jz.flatMap cOp).drop (i*3)).take 3=cOp o:=by
 have c:i<42:=(List.getElem?_eq_some_iff.1 h).1
 have key: ∀l:List Opr,∀i o,l[i]? =some o→((l.flatMap cOp).drop (i*3)).take 3=cOp o:=by
  intro l
  induction l with
  | nil=>intro i o h;simp at h
  | cons a r b=>
   intro i o h
   cases i with
   | zero=>simp at h;subst h;rfl
   | succ i=>
    have:=b i o (by simpa using h)
    rw[List.flatMap_cons,show (i+1)*3=(cOp a).length+i*3 by simp[cOp];omega,List.drop_append]
    simpa [List.drop_eq_nil_of_le] using this
 exact key _ i o h
theorem Q3y {σ:Q6} {a:Addr} {cs:List Value} (h:Z4 σ a cs) (i n:Nat):Z4 σ (a.add i) ((cs.drop i).take n):=by
 obtain ⟨c,arr,e,f,g,d⟩:=h
 refine ⟨K3 c _,arr,e,f,by rw[C1];exact g,fun j v b=>?_⟩
 rw[List.getElem?_take] at b
 split at b
 ·rw[List.getElem?_drop] at b
  rw[Qg,Nat.add_assoc];exact d _ _ b
 ·cases b
theorem X3j (h:Q2v σ):Sl 3 ROp σ (.slice (some ⟨G.a,0,none⟩) 42 42) Jz:=by
 refine ⟨_,42,rfl,by decide,by decide,by simp,?_⟩
 rintro _ ⟨⟩
 refine ⟨fun _=>rfl,fun i x a=>⟨cOp x,?_,rfl,rfl⟩⟩
 rw[←Q7s i x a]
 exact Q3y h (i*3) 3
theorem As {β:Type} {xs:List Opr} {v f:Value} (b:β→Opr→Bool×β) (i:β) (a:β→World→Prop) (D:Nat→Prop) (m: ∀s w,a s w→X3 w σ) (B:a i w) (t:Sl 3 ROp σ v xs)
 (C: ∀s x cs (w1:World) (K:Value→World→Prop),x∈xs→Kpt D w w1→a s w1→ROp σ x cs→cs.length=3→(∀w',Kpt D w w'→a (b s x).2 w'→K (.bool (b s x).1) w')→Z3 P f [.agg cs.toArray] w1 K)
 (h: ∀w',Kpt D w w'→a (J5 b i xs 0).2 w'→K (I (L6 (J5 b i xs 0).1)) w'):Q1 P F.t [v,f] w K:=Um (by
 unfold P0
 ((try simp only[↓M1,M1,Mb,reduceIte]);repeat ((first | refine ld (by assumption) (by assumption) rfl ?_ | refine X7 (by assumption) (by assumption) rfl ?_ | refine Q8 (by assumption) ?_);(try simp only[↓M1,M1,Mb,reduceIte])))
 refine U2 xs.length (fun n w'=>Kpt D w w'∧ ∃s,a s w'∧J5 b i xs 0=J5 b s (xs.drop n) n) ⟨Kpt.refl,i,B,rfl⟩ fun n w1 d E k=>?_
 obtain ⟨u,s,k,g⟩:=k
 have r:=m s w1 k
 ((try simp only[↓M1,M1,Mb,reduceIte]);repeat ((first | refine ld (by assumption) (by assumption) rfl ?_ | refine X7 (by assumption) (by assumption) rfl ?_ | refine Q8 (by assumption) ?_);(try simp only[↓M1,M1,Mb,reduceIte])))
 refine Q7 (fun o=>?_) (fun o=>?_)
 ·have c:n<xs.length:=by simpa using o
  refine N3 t c fun p cs z e y=>?_
  refine Y2 r z e ?_
  refine C s xs[n] cs w1 _ (List.getElem_mem c) u k y e fun A j l=>?_
  rw[List.drop_eq_getElem_cons c] at g
  simp only[J5] at g
  refine Q7 (fun q=>?_) (fun q=>?_)
  ·rw[q] at g
   have:=h A j
   rw[g] at this
   exact this l
  ·rw[q] at g
   ((try simp only[↓M1,M1,Mb,reduceIte]);repeat ((first | refine ld (by assumption) (by assumption) rfl ?_ | refine X7 (by assumption) (by assumption) rfl ?_ | refine Q8 (by assumption) ?_);(try simp only[↓M1,M1,Mb,reduceIte])))
   exact Y5 t.max c ⟨j,_,l,by simpa using g⟩
 ·have c: ¬n<xs.length:=by simpa using o
  rw[List.drop_eq_nil_of_le (by omega)] at g
  have:=h w1 u
  rw[g] at this
  exact this k)
theorem Tt {xs:List Opr} {v f:Value} (p:Opr→Bool) (hs:X3 w σ) (hv:Sl 3 ROp σ v xs)
 (hf: ∀x cs (w1:World) (K:Value→World→Prop),x∈xs→X3 w1 σ→ROp σ x cs→cs.length=3→(∀w',Below w1.heap.size w1 w'→K (.bool (p x)) w')→Z3 P f [.agg cs.toArray] w1 K)
 (h: ∀w',Below w.heap.size w w'→K (I (L6 (xs.findIdx? p))) w'):Q1 P F.t [v,f] w K:=by
 refine As (fun (_:Unit) x=>(p x,())) () (fun _ w'=>Below w.heap.size w w') (fun _=>False) (fun _ w' hb=>hs.below hb) (Below.refl _ _) hv (fun s x cs w1 K hx hk hi hr hl hK=>hf x cs w1 K hx (hs.below hi) hr hl fun w' hb=>hK w' (.of_below (bt hi hb)) (bt hi hb)) fun w' hk hi=>?_
 rw[P3]
 simpa using h w' hi
theorem Q2v.le {σ a:Q6} (h:Q2v σ) (c: ∀b o,σ b=some o→a b=some o):Q2v a:=Z4.le h c
def Qu (n:X0):Option Nat:=Jz.findIdx? fun o=>decide (o.name=n)
theorem X39 {a:X0} (k:X3 w σ) (l:Q2v σ) (h: ∀w',Below w.heap.size w w'→K (I (L6 (Qu a))) w'):Q1 P F.cM [S a] w K:=Q6H (by
 unfold Q29
 refine E8 k fun p w1 σ1 e g=>?_
 simp only[Value.cells] at g
 refine X2k ?_
 ((try simp only[↓M1,M1,Mb,reduceIte]);repeat ((first | refine ld (by assumption) (by assumption) rfl ?_ | refine X7 (by assumption) (by assumption) rfl ?_ | refine Q8 (by assumption) ?_);(try simp only[↓M1,M1,Mb,reduceIte])))
 refine Tt (fun o=>decide (o.name=a)) e.sat (X3j (l.le e.le)) (fun x cs f K v c i u s=>?_) fun f r=>?_
 ·refine Z7 (Q4S ?_)
  unfold Tk
  refine E8 c fun q j y b n=>?_
  have d:cs=[S x.name, .bool x.number, .bool x.text]:=i
  subst d
  have t:=b.sat
  have m:=g.up b
  simp only[Value.cells] at n
  ((try simp only[↓M1,M1,Mb,reduceIte]);repeat ((first | refine ld (by assumption) (by assumption) rfl ?_ | refine X7 (by assumption) (by assumption) rfl ?_ | refine Q8 (by assumption) ?_);(try simp only[↓M1,M1,Mb,reduceIte])))
  exact s j b.bel
 ·(try simp only[↓M1,M1,Mb,reduceIte])
  exact h f (bt e.bel r))
def takes (n:X0):Bool×Bool×Bool:=match Qu n with
 | none=>(false,false,false)
 | some i=>((Jz.getD i ⟨[],false,false⟩).number,(Jz.getD i ⟨[],false,false⟩).text,true)
theorem X23 {a:X0} (j:X3 w σ) (k:Q2v σ) (h: ∀w',Below w.heap.size w w'→K (.tuple #[.bool (takes a).1, .bool (takes a).2.1, .bool (takes a).2.2]) w'):Q1 P F.cm [S a] w K:=Q5b (by
 unfold Q0w
 refine X39 j k fun w1 b=>?_
 have c:=j.below b
 unfold takes at h
 cases g:Qu a with
 | none=>
  rw[g] at h
  simp only[L6]
  (try simp only[↓M1,M1,Mb,reduceIte])
  simp only[show decide ((-1:Int)<0)=true from rfl,↓M1,M1,Mb,reduceIte]
  exact h w1 b
 | some i=>
  rw[g] at h
  simp only at h
  have p:i<42:=(List.findIdx?_eq_some_iff_getElem.1 g).1
  have l:Jz[i]? =some (Jz.getD i ⟨[],false,false⟩):=by
   rw[List.getD,List.getElem?_eq_getElem (by exact p)];rfl
  generalize Jz.getD i ⟨[],false,false⟩=o at h l
  have d:=Q3y k (i*3) 3
  rw[Q7s i o l] at d
  simp only[L6]
  have n:decide ((i:Int)<0)=false:=by simp
  simp only[n,↓M1,M1,Mb,reduceIte]
  have A: ∀{w:World} {K:Value→World→Prop},K (.pointer (some ((⟨G.a,0,none⟩:Addr).add (i*3)))) w→indexAddr P T.af (.pointer (some ⟨G.a,0,none⟩)) (I i) w K:=by
   intro w K h
   rw[Q93 (by omega) (by omega)]
   simpa using h
  refine Dq (Below.refl _ _) ?_
  refine X4 (.pointer (some ((⟨G.a,0,none⟩:Addr).add (i*3)))) (fun w b=>A (X6 rfl)) ?_
  refine X4 (.pointer (some (((⟨G.a,0,none⟩:Addr).add (i*3)).add 1))) (fun t w b e=>by rw[e,fa];exact X6 rfl) ?_
  refine X4 (.pointer (some ((⟨G.a,0,none⟩:Addr).add (i*3)))) (fun w b=>A (X6 rfl)) ?_
  refine X4 (.pointer (some (((⟨G.a,0,none⟩:Addr).add (i*3)).add 2))) (fun t w b e=>by rw[e,fa];exact X6 rfl) ?_
  refine X4 (.bool o.number) (fun t w b e=>by rw[e];exact ld (c.below b) d rfl (X6 rfl)) ?_
  refine X4 (.bool o.text) (fun t w b e=>by rw[e];exact ld (c.below b) d rfl (X6 rfl)) ?_
  rintro _ _ _ _ _ _ m f rfl rfl rfl rfl rfl rfl
  exact h m (bt b f))
end Go.Proofs.YtjdiakhipmggjaaGreatDoor

namespace Go.Emb
open Go.RowKit Go.Hm
variable {P : Program} {w w0 w1 w' w'' : World} {K : Value → World → Prop} {σ σ0 σ1 σ' : Q6}
structure SLe (σ σ' : Q6) : Prop where
  le : ∀ b o, σ b = some o → σ' b = some o
theorem SLe.refl (σ:Q6):SLe σ σ:=⟨fun _ _ h=>h⟩
theorem SLe.step {w w':World} (h:SLe σ0 σ) (k:Stp w σ w' σ'):SLe σ0 σ':=⟨fun b o e=>k.le b o (h.le b o e)⟩
theorem SLe.more (h:SLe σ0 σ) (k:SLe σ σ'):SLe σ0 σ':=⟨fun b o e=>k.le b o (h.le b o e)⟩
structure Hst (w : World) (σ : Q6) (w' : World) (σ' : Q6) : Prop where
  stp : Stp w σ w' σ'
theorem Hst.sat (h:Hst w σ w' σ'):X3 w' σ':=h.stp.sat
section lifts
variable {α : Type} {R : Q6 → α → List Value → Prop} {sz : Nat} {v : Value} {xs : List α} {a : Addr} {cs : List Value}
theorem Sl.lift [Rep R] (h:Sl sz R σ0 v xs) (k:SLe σ0 σ):Sl sz R σ v xs:=h.le k.le
theorem Z4.lift (h:Z4 σ0 a cs) (k:SLe σ0 σ):Z4 σ a cs:=h.le k.le
theorem Xm.lift {r:Nat} {m:List (List UInt8×Value)} (h:Xm σ0 r m) (k:SLe σ0 σ):Xm σ r m:=h.le k.le
theorem RMe_lift {x:Hm.Met} (h:H0 σ0 x cs) (k:SLe σ0 σ):H0 σ x cs:=Rep.up k.le h
theorem RCl_lift {x:Cla} (h:V0 σ0 x cs) (k:SLe σ0 σ):V0 σ x cs:=Rep.up k.le h
theorem RFd_any {x:Fld} (h:S2 σ0 x cs):S2 σ x cs:=h
theorem RIn_any {x:Ins} (h:Qr σ0 x cs):Qr σ x cs:=h
theorem RCa_any {x:Cat} (h:Ur σ0 x cs):Ur σ x cs:=h
theorem Y3.step {b:Nat} (h:Y3 σ w b cs) (k:Stp w σ w' σ'):Y3 σ' w' b cs:=h.up k
theorem V6.step [Rep R] {B:Nat} {e:TypeId} (h:V6 B e sz R σ w v xs) (k:Stp w σ w' σ'):V6 B e sz R σ' w' v xs:=h.up k
end lifts
theorem L1 {Q:World→Prop} (d:X3 w σ) (h: ∀w' σ',Stp w σ w' σ'→Q w'): ∀w',Below w.heap.size w w'→Q w':=fun w' c=>h w' σ (Stp.of_below d c)
section plain
variable {k : IntKind} {t : TypeId} {ox oy : Operand} {a b : Int} {x y : Bool} {s u : List UInt8}
theorem O5 (h:K (.int k (k.wrap (a+b))) w):Q3 P .add t ox oy (.int k a) (.int k b) w K:=by rw[Gs];exact h
theorem Xz (c: -9223372036854775808≤a+b∧a+b≤9223372036854775807) (h:K (I (a+b)) w):Q3 P .add t ox oy (I a) (I b) w K:=by rw[Gs,G8 c.1 c.2];exact h
theorem Zm (c: -9223372036854775808≤a-b∧a-b≤9223372036854775807) (h:K (I (a-b)) w):Q3 P .sub t ox oy (I a) (I b) w K:=by rw[Q3O,G8 c.1 c.2];exact h
theorem Z1 (h:K (.bool (decide (a<b))) w):Q3 P .lss t ox oy (.int k a) (.int k b) w K:=by rw[Q3V];exact h
theorem Q52 (h:K (.bool (decide (a≤b))) w):Q3 P .leq t ox oy (.int k a) (.int k b) w K:=by rw[Q3P];exact h
theorem Q1C (h:K (.bool (decide (b<a))) w):Q3 P .gtr t ox oy (.int k a) (.int k b) w K:=by rw[Rp];exact h
theorem P4 (h:K (.bool (decide (b≤a))) w):Q3 P .geq t ox oy (.int k a) (.int k b) w K:=by rw[Q1B];exact h
theorem I2 (h:K (.bool (decide (a=b))) w):Q3 P .eql t ox oy (.int k a) (.int k b) w K:=by rw[Q1F];exact h
theorem Zb (h:K (.bool (!decide (a=b))) w):Q3 P .neq t ox oy (.int k a) (.int k b) w K:=by rw[Q3U];exact h
theorem Wn (h:K (.bool (!x)) w):J8 P .not (.bool x) w K:=by rw[Q3T];exact h
theorem P7 (h:K (.bool (decide (s=u))) w):Q3 P .eql t ox oy (S s) (S u) w K:=by rw[Bz];exact h
theorem Zz (h:K (.bool (!decide (s=u))) w):Q3 P .neq t ox oy (S s) (S u) w K:=by rw[Bt];exact h
theorem Rc (c:s.length+u.length≤9223372036854775807) (h:K (S (s++u)) w):Q3 P .add t ox oy (S s) (S u) w K:=by rw[Q26 c];exact h
theorem Gh {cs:List Bool} {r:TypeId} (c:P.underlying t=some .string) (h:K (I s.length) w):X2 P .len [t] r cs [S s] w K:=by rw[R9 c];exact h
theorem X1S {v u:Value} (h:K v w):pick P (.bool true) v u w K:=by rw[M8];exact h
theorem X2e {v u:Value} (h:K u w):pick P (.bool false) v u w K:=by rw[W9];exact h
theorem L8 {v u:Value} (h:K (if x=true then v else u) w):pick P (.bool x) v u w K:=by rw[Er];exact h
theorem J0 {vs:List Value} {i:Nat} {v:Value} (c:vs[i]? =some v) (h:K v w):ext P (.tuple vs.toArray) i w K:=by rw[Jp c];exact h
theorem J6 {t e:Prop} (h:t):X1 (.bool true) t e:=by rw[H8];exact h
theorem Z6 {t e:Prop} (h:e):X1 (.bool false) t e:=by rw[M7];exact h
theorem X3q {c:World→(Value→World→Prop)→Prop} (h:c w K):Q0 (.bool true) true w c K:=by rw[W5];exact h
theorem X3l {c:World→(Value→World→Prop)→Prop} (h:c w K):Q0 (.bool false) false w c K:=by rw[W7];exact h
theorem X2B {c:World→(Value→World→Prop)→Prop} (h:K undef w):Q0 (.bool true) false w c K:=by rw[S4];exact h
theorem X1V {c:World→(Value→World→Prop)→Prop} (h:K undef w):Q0 (.bool false) true w c K:=by rw[E4];exact h
end plain
section mem
variable {α : Type} {R : Q6 → α → List Value → Prop} {sz : Nat} {v : Value} {xs : List α} {a : Addr} {cs : List Value}
theorem Z0 {t:TypeId} (d:X3 w σ) (h: ∀a w' σ',Stp w σ w' σ'→Z4 σ' a cs→K (.pointer (some a)) w'):box P t (.agg cs.toArray) w K:=
 E8 d fun a w' σ' f c=>h a w' σ' f (by simpa [Value.cells] using c)
theorem U5 {t:TypeId} (d:X3 w σ) (f:v.cells= #[v]) (h: ∀a w' σ',Stp w σ w' σ'→Z4 σ' a [v]→K (.pointer (some a)) w'):box P t v w K:=
 E8 d fun a w' σ' g c=>h a w' σ' g (by rw[f] at c;exact c)
theorem Wv (h:Sl sz R σ v xs):v.cells= #[v]:=by
 obtain ⟨a,c,rfl,_⟩:=h;rfl
theorem V7 {t:TypeId} {k c:Nat} {d:TypeId} {sz by_:Nat} {z:Value} [tf:TF P t k c d] [tz:TZ P d sz by_ z] [nz:NZ sz] (h:K (.pointer (some (a.add c))) w):fieldAddr P t (.pointer (some a)) k w K:=by
 rw[fa];exact h
theorem Z9 {t:TypeId} {k c:Nat} {d:TypeId} [tf:TF P t k c d] [tg:TG P d false] {cs:List Value} {v:Value} (f:cs[c]? =some v) (h:K v w):F2 P t (.agg cs.toArray) k w K:=by
 rw[X1K (v:=v) (by simpa using f)];exact h
end mem
theorem J9 {A:(World→World→Prop)→(World→Prop)→Prop} (d:X3 w σ) (h:A (fun w w'=>Below w.heap.size w w') (fun w'=>Hst w σ w' σ)):dr w A:=
 Pv _ _ ⟨Stp.of_below d (Below.refl _ _).drew⟩ (fun _ _ c f=>⟨c.stp.trans (Stp.of_below c.sat f)⟩) h
theorem O4 {α:Type} {R:Q6→α→List Value→Prop} {sz:Nat} {v:Value} {xs:List α} {t:TypeId} (d:X3 w σ) (c:Sl sz R σ v xs) (h: ∀a w' σ',Stp w σ w' σ'→Z4 σ' a [v]→K (.pointer (some a)) w'):box P t v w K:=
 U5 d (Wv c) h
section elems
variable {v : Value} {t e : TypeId} {by_ : Nat} {z : Value} {n : Nat}
theorem Q6l {xs:List Kd.X0} [TS P t e] [TZ P e 1 by_ z] (h:Sl 1 U8 σ v xs) (g:n<xs.length) (i: ∀a,Z4 σ a [S xs[n]]→xs[n].length≤U1→K (.pointer (some a)) w):indexAddr P t v (I n) w K:=
 N3 h g fun a cs c j d=>by obtain ⟨rfl,f⟩:=d;exact i a c f
theorem Q9k {xs:List Fld} [TS P t e] [TZ P e 3 by_ z] (h:Sl 3 S2 σ v xs) (g:n<xs.length) (i: ∀a,Z4 σ a [S xs[n].name,S xs[n].kind, .bool xs[n].tr]→S2 σ xs[n] [S xs[n].name,S xs[n].kind, .bool xs[n].tr]→K (.pointer (some a)) w):indexAddr P t v (I n) w K:=
 N3 h g fun a cs c j d=>by obtain ⟨rfl,f⟩:=d;exact i a c ⟨rfl,f⟩
end elems
end Go.Emb

namespace Go.Hm
open Go.Kd
abbrev La:=X0→Option Cla
def Z2 (l:List Cla) (n:X0):Option Nat:=l.findIdx? fun c=>decide (c.name=n)
def lk (l:List Cla):La:=fun n=>(Z2 l n).bind (l[·]?)
def U3 (c:Cla):List X0:=c.super::c.like
def U0:X0:=[79,98,106,101,99,116]
def L5:X0:=[70,97,117,108,116]
def R0:X0:=[110,117,108,108]
def D7:X0:=[116,101,120,116]
def Qm:X0:=[119,104,97,116]
def U4:List X0:=[[78,117,108,108,70,97,117,108,116],[73,110,100,101,120,70,97,117,108,116],[67,97,115,116,70,97,117,108,116],[90,101,114,111,70,97,117,108,116],[82,111,111,109,70,97,117,108,116],[67,97,108,108,70,97,117,108,116]]
def I3:List Cla:=[⟨U0,[],[],false,false,false,[],[]⟩,⟨L5,U0,[],false,false,false,[⟨Qm,D7,false⟩],[]⟩]++U4.map fun n=>⟨n,L5,[],false,false,true,[],[]⟩
def Vb (L:La):Nat→List X0→List X0→List X0
 | 0,_,a=>a
 | _,[],a=>a
 | f+1,n::b,a=>match L n with
  | none=>Vb L f b a
  | some c=>if n∈a then Vb L f b a else Vb L f (b++U3 c) (a++[n])
def weigh (l:List Cla) (a:List X0):Nat:=(l.map fun c=>if c.name∈a then 0 else (U3 c).length).sum
def I1 (l:List Cla) (n:X0):List X0:=Vb (lk l) (1+weigh l []) [n] []
def Q11 (l:List Cla) (n:X0):Bool:=(Z2 l n).isSome
def O3 (l:List Cla) (s:X0):Bool:=decide (s=R0)||(right s&&(plain (base s).1||Q11 l (base s).1))
def Xo (l:List Cla) (a b:X0):Bool:=
 if !O3 l a|| !O3 l b then false else if a=b then true else if plain a||plain b then false else if a=R0 then true
 else if elem a≠[] then decide (b=U0) else (I1 l a).contains b
def I5 (L:La):Nat→X0→List Cla
 | 0,_=>[]
 | f+1,n=>match L n with
  | none=>[]
  | some c=>c::I5 L f c.super
def chain (l:List Cla) (n:X0):List Cla:=I5 (lk l) (l.length+1) n
def Y6 (l:List Cla) (n:X0):List Fld:=(chain l n).reverse.flatMap (·.fields)
def Jx (l:List Cla) (n f:X0):Option Nat:=(Y6 l n).findIdx? fun x=>decide (x.name=f)
def F7 (c:Cla) (n:X0):Option Hm.Met:=c.methods.find? fun m=>decide (m.name=n)
def Sm (L:La):Nat→Cla→X0→Option (X0×Hm.Met)
 | 0,_,_=>none
 | f+1,c,n=>c.like.findSome? fun u=>match L u with
  | none=>none
  | some d=>match F7 d n with
   | some m=>some (u,m)
   | none=>Sm L f d n
def V2 (l:List Cla) (k n:X0):Option (X0×Hm.Met):=
 match (chain l k).findSome? fun c=>(F7 c n).map (c.name,·) with
 | some r=>some r
 | none=>(chain l k).findSome? fun c=>Sm (lk l) (l.length+1) c n
def Qb (l:List Cla) (n:X0):Bool:=match lk l n with
 | some c=> !c.abs
 | none=>false
def H9:List X0→X0
 | []=>[]
 | [a]=>a
 | a::b::r=>a++[44]++H9 (b::r)
def Qz (m:Hm.Met):X0:=[40]++H9 m.params++[41]++m.result
def O8 (l:List Cla) (s:X0):Bool:= !decide (s=R0)&&O3 l s
def Yl (l:List Cla) (c:Cla):Bool:=c.fields.any fun f=>(Jx l c.super f.name).isSome
def F3 (l:List Cla) (c:Cla):Bool:=c.fields.any (fun f=> !O8 l f.kind)||c.methods.any fun m=>(!O8 l m.result&& !decide (m.result=[]))||m.params.any fun s=> !O8 l s
def Lr (l:List Cla) (n:X0):List Hm.Met:=(I1 l n).flatMap fun u=>((lk l u).map (·.methods)).getD []
def Nq (a:List Hm.Met):Bool:=a.any fun x=>a.any fun y=>decide (x.name=y.name)&& !decide (Qz x=Qz y)
def Zk (l:List Cla) (c:Cla):Bool:=Nq (Lr l c.name)
def Ze (l:List Cla) (k n:X0):Bool:=match V2 l k n with
 | none=>true
 | some r=>r.2.abs
def Dz (l:List Cla) (c:Cla):Bool:= !c.abs&&(Lr l c.name).any fun m=>Ze l c.name m.name
def V9 (l:List Cla) (c:Cla):Nat:=if Yl l c then 64 else if F3 l c then 65 else if Zk l c then 66 else if Dz l c then 67 else 0
def Xa (l:List Cla) (n:X0):Bool:=match lk l n with
 | none=>true
 | some d=>d.iface||d.fin
def R7 (l:List Cla) (n:X0):Bool:=match lk l n with
 | none=>true
 | some d=> !d.iface
def D9 (l:List Cla) (c:Cla):Nat:=if Xa l c.super then 61 else if c.like.any (R7 l) then 62 else 0
def T1 (l:List Cla) (c:Cla):Bool:=(U3 c).any fun n=>(I1 l n).contains c.name
def A7 (l:List Cla) (frm:Nat):Nat→List Nat→Nat→List Nat
 | 0,a,_=>a
 | f+1,a,i=>if i<frm then a else if i∈a then a else ((U3 (l.getD i Cla.zero)).foldl (fun a n=>A7 l frm f a ((Z2 l n).getD 0)) a)++[i]
def W2 (l:List Cla) (frm:Nat):List Nat:=((List.range l.length).drop frm).foldl (fun a i=>A7 l frm (l.length+1) a i) []
end Go.Hm

namespace Go.Emb
open Go.RowKit Go.Hm
variable {P : Program} {w w0 w1 w' w'' : World} {K : Value → World → Prop} {σ σ0 σ1 σ' : Q6}
def J7 {α:Type} (B:Nat) (e:TypeId) (sz:Nat) (R:Q6→α→List Value→Prop) (σ:Q6) (w:World) (v:Value) (xs:List α):Prop:=
 ∃a c,v= .slice a xs.length c∧xs.length≤c∧c≤maxLen∧(∀b,a=some b→b.spot=none∧B≤b.block∧b.block<w.heap.size∧σ b.block=none)∧(0<c→ ∃g d f,a=some ⟨g,d,none⟩∧B≤g∧σ g=none∧w.heap[g]? =some (.cells f e (0,0))∧d+c*sz≤f.size∧ ∀i x,xs[i]? =some x→R σ x ((f.toList.drop (d+i*sz)).take sz))
section
variable {α : Type} {R : Q6 → α → List Value → Prop} {B sz : Nat} {e : TypeId} {v u : Value} {xs ys : List α}
theorem J7.of_acc (h:V6 B e sz R σ w v xs):J7 B e sz R σ w v xs:=by
 obtain ⟨cells,o,l,p⟩:=h
 rcases o.2 with ⟨rfl,q⟩ | ⟨g,d,b,rfl,m,j,c,a,n,f⟩
 ·exact ⟨none,0,by rw[q],by omega,by simp,by simp,fun h=>by omega⟩
 ·refine ⟨_,d,rfl,c,a,by rintro _ ⟨⟩;exact ⟨rfl,m,(Array.getElem?_eq_some_iff.1 j).1,l g rfl⟩,fun _=>⟨g,0,b,rfl,m,l g rfl,j,by omega,fun i x k=>?_⟩⟩
  have r:i<xs.length:=(List.getElem?_eq_some_iff.1 k).1
  have hh:i*sz+sz≤xs.length*sz:=by rw[←Nat.succ_mul];exact Nat.mul_le_mul_right _ r
  have:=p i x k
  rw[←f,List.drop_take,List.take_take] at this
  rw[Nat.zero_add]
  rwa [show min sz (xs.length*sz-i*sz)=sz by omega] at this
theorem J7.mem (h:J7 B e sz R σ w v xs) {k:Nat} (c:v.ownBlock=some k):B≤k∧k<w.heap.size∧σ k=none:=by
 obtain ⟨a,d,rfl,f,i,b,g⟩:=h
 cases a with
 | none=>cases c
 | some a=>cases c;exact (b a rfl).2
theorem J7.up [hr:Rep R] (h:J7 B e sz R σ w v xs) (d:Stp w σ w' σ'):J7 B e sz R σ' w' v xs:=by
 obtain ⟨a,k,rfl,p,t,c,q⟩:=h
 refine ⟨a,k,rfl,p,t,fun b f=>⟨(c b f).1,(c b f).2.1,Nat.lt_of_lt_of_le (c b f).2.2.1 d.bel.size,(d.old _ (c b f).2.2.1).trans (c b f).2.2.2⟩,fun r=>?_⟩
 obtain ⟨g,l,j,rfl,A,o,n,y,z⟩:=q r
 have m:=(Array.getElem?_eq_some_iff.1 n).1
 exact ⟨g,l,j,rfl,A,(d.old g m).trans o,(d.bel.block g m).trans n,y,fun i x s=>hr.up d.le (z i x s)⟩
theorem J7.step [hr:Rep R] (h:J7 B e sz R σ w v xs) (a:Stp w σ w' σ'):J7 B e sz R σ' w' v xs:=h.up a
theorem J7.kp {D:Nat→Prop} (h:J7 B e sz R σ w v xs) (m:Kpt D w w') (j: ∀k,v.ownBlock=some k→ ¬D k):J7 B e sz R σ w' v xs:=by
 obtain ⟨a,i,rfl,q,t,c,r⟩:=h
 refine ⟨a,i,rfl,q,t,fun b d=>⟨(c b d).1,(c b d).2.1,Nat.lt_of_lt_of_le (c b d).2.2.1 m.size,(c b d).2.2.2⟩,fun s=>?_⟩
 obtain ⟨g,l,f,rfl,A,o,n,y,z⟩:=r s
 have p:=(Array.getElem?_eq_some_iff.1 n).1
 exact ⟨g,l,f,rfl,A,o,(m.block g p (j g rfl)).trans n,y,z⟩
theorem Q1x {b t:TypeId} {cs:List Bool} [ts:TS P b e] (h:J7 B e sz R σ w v xs) (d:K (I xs.length) w):X2 P .len [b] t cs [v] w K:=by
 obtain ⟨a,c,rfl,_⟩:=h
 rw[Q1y];exact d
theorem Q6f {t:TypeId} {c:Nat} {z:Value} [TS P t e] [TZ P e sz c z] (h:J7 B e sz R σ w v xs) {n:Nat} (k:n<xs.length)
 (o: ∀a cs,(∀j u,cs[j]? =some u→w.cell? (a.add j)=some u)→cs.length=sz→R σ xs[n] cs→K (.pointer (some a)) w):indexAddr P t v (I n) w K:=by
 obtain ⟨a,f,rfl,s,y,l,m⟩:=h
 obtain ⟨g,i,d,rfl,C,r,p,A,q⟩:=m (by omega)
 rw[Cj (by omega) (by omega)]
 have hh:n*sz+sz≤f*sz:=by rw[←Nat.succ_mul];exact Nat.mul_le_mul_right _ (by omega)
 refine o _ ((d.toList.drop (i+n*sz)).take sz) ?_ ?_ (q n _ (by simp[k]))
 ·intro j u b
  rw[List.getElem?_take] at b
  split at b
  ·rw[List.getElem?_drop] at b
   unfold World.cell?
   rw[C1,C1,Qg,Qg,K3 (K3 rfl _)]
   simp only[p]
   simpa using b
  ·cases b
 ·rw[List.length_take,List.length_drop,Array.length_toList];omega
theorem X45 {t:TypeId} {m:Nat} {z:Value} [ts:TS P t e] [tz:TZ P e sz m z] (h:J7 B e sz R σ w v xs) (l:Nat) (J:l≤xs.length)
 (y: ∀k,J7 B e sz R σ w k (xs.drop l)→(k.ownBlock=v.ownBlock∨k.ownBlock=none)→K k w):S1 P t v (some (I l)) none none w K:=by
 obtain ⟨a,c,rfl,s,M,d,p⟩:=h
 have hh: ∀w:World,(Instr.sliceBounds true xs.length c (some (I l)) none none).run P w= .ok (l,xs.length,c) w:=by
  intro w
  have D:(l:Int)≤xs.length:=by omega
  simp[Instr.sliceBounds,Instr.sliceBound,asIntOf,s,D]
  intros;omega
 unfold S1
 have:(Instr.sliceAt t (.slice a xs.length c) (some (I l)) none none).run P w= .ok (.slice (if c=l then a else a.map (·.add (l*sz))) (xs.length-l) (c-l)) w:=by
  simp[Instr.sliceAt,run_underlying ts.h,Instr.slice,hh,L4 tz]
 rw[X9 this]
 refine y _ ⟨_,c-l,by rw[List.length_drop],by rw[List.length_drop];omega,by omega,?_,fun L=>?_⟩ ?_
 ·intro b j
  split at j
  ·exact d b j
  ·cases a with
   | none=>cases j
   | some a=>cases j;exact ⟨K3 (d a rfl).1 _,by rw[C1];exact (d a rfl).2⟩
 ·have A:=p (by omega)
  clear p
  obtain ⟨g,o,n,rfl,H,r,C,N,E⟩:=A
  refine ⟨g,o+l*sz,n,?_,H,r,C,?_,fun i x q=>?_⟩
  ·rw[if_neg (by omega)];simp only[Option.map_some];congr 1;unfold Addr.add;split<;>simp_all
  ·have:l*sz+(c-l)*sz=c*sz:=by rw[←Nat.add_mul];congr 1;omega
   omega
  ·rw[List.getElem?_drop] at q
   have:=E _ _ q
   rwa [Nat.add_mul,←Nat.add_assoc] at this
 ·left
  by_cases f:c=l
  ·rw[if_pos f];cases a<;>rfl
  ·rw[if_neg f]
   cases a with
   | none=>rfl
   | some a=>simp only[Option.map_some,Value.ownBlock,C1]
theorem Q8D {t W:TypeId} {V:Nat} {z:Value} {cs:List Bool} [ts:TS P t e] [tz:TZ P e sz V z] [hr:Rep R] (hs:X3 w σ) (hB:B≤w.heap.size) (ha:J7 B e sz R σ w v xs) (H:Sl sz R σ u ys) (hz:(z.cells.size==sz&&decide (0<sz))=true)
 (U:(xs.length+ys.length)*V≤140737488355328) (hm:xs.length+ys.length≤1000000000000)
 (h: ∀s w',Kpt (fun k=>v.ownBlock=some k∧B≤k∧σ k=none) w w'→X3 w' σ→J7 B e sz R σ w' s (xs++ys)→((∃a m,v= .slice a xs.length m∧s= .slice a (xs.length+ys.length) m)∨(Below w.heap.size w w'∧ ∀k,s.ownBlock=some k→w.heap.size≤k))→K s w'):X2 P .append [t,t] W cs [v,u] w K:=by
 obtain ⟨y,c,rfl,c1,c2,D,c3⟩:=ha
 obtain ⟨a,m,d,rfl,n1,n2,n3,n4,n5⟩:=H.cells hs
 obtain ⟨i,hi,E,ay,O⟩:=tz.info
 simp only[Bool.and_eq_true,beq_iff_eq,decide_eq_true_eq] at hz
 obtain ⟨av,bj⟩:=hz
 have L: ∀s w',(Builtin.append_ #[t,t] W #[.slice y xs.length c, .slice a ys.length m]).run P w= .ok s w'→Kpt (fun k=>(Value.slice y xs.length c).ownBlock=some k∧B≤k∧σ k=none) w w'→J7 B e sz R σ w' s (xs++ys)→((∃a m,(Value.slice y xs.length c)= .slice a xs.length m∧s= .slice a (xs.length+ys.length) m)∨(Below w.heap.size w w'∧ ∀k,s.ownBlock=some k→w.heap.size≤k))→X2 P .append [t,t] W cs [.slice y xs.length c, .slice a ys.length m] w K:=by
  intro s w' A hk hq ar
  have J:(builtin .append #[t,t] W cs.toArray #[.slice y xs.length c, .slice a ys.length m]).run P w= .ok (.value s) w':=by
   simp[builtin,A]
  unfold X2
  rw[T9];unfold P5
  rw[J]
  exact h s w' hk (fun k o ho=>by rw[hk.block k (hs.lt ho) fun e=>by rw[e.2.2] at ho;cases ho];exact hs k o ho) hq ar
 have q:Src P i.size t (.slice a ys.length m) ys.length d w:=by
  cases a with
  | some b=>exact Src.ofSlice w ts.h b ys.length m d (by rw[E];exact n2) (n3 b rfl) n4
  | none=>
   have hy:ys.length=0:=by
    obtain ⟨a',a5,e',q1,_,q3,_⟩:=H;injection e' with e1 e2 e3;have:=n1 rfl;omega
   have hn:d=[]:=List.eq_nil_of_length_eq_zero (by rw[n2,hy];simp)
   subst hn
   rw[hy];exact Src.ofNil w ts.h m
 by_cases r:xs.length+ys.length≤c
 ·by_cases M:c=0
  ·-- nothing at all
   subst M
   have p:xs=[]:=List.eq_nil_of_length_eq_zero (by omega)
   have hy:ys=[]:=List.eq_nil_of_length_eq_zero (by omega)
   subst p hy
   have hn:d=[]:=List.eq_nil_of_length_eq_zero (by simpa using n2)
   subst hn
   refine L (.slice y 0 0) w ?_ Kpt.refl ⟨y,0,rfl,by simp,by simp,D,fun h=>by omega⟩ (.inl ⟨_,_,rfl,rfl⟩)
   have hl:=q.len w
   have C:=q.cells
   simp only[List.length_nil] at hl C⊢
   cases y<;>simp[Builtin.append_,run_underlying ts.h,sizeOf,typeInfo,hi,hl,C,storeCells]
  ·obtain ⟨g,l,f,rfl,q1,q2,q3,q4,q5⟩:=c3 (by omega)
   have e1:(xs.length+ys.length)*sz≤c*sz:=Nat.mul_le_mul_right _ r
   rw[Nat.add_mul] at e1
   have X:=run_storeCells_at P g (l+xs.length*sz) e d 0 f w q3 (by omega) n4
   simp only[Nat.add_zero] at X
   obtain ⟨Y,al⟩:=Va (cs:=(f.toList.take (l+xs.length*sz)++d++f.toList.drop (l+xs.length*sz+d.length)).toArray) q3
   refine L (.slice (some ⟨g,l,none⟩) (xs.length+ys.length) c) _ ?_ (Kpt.of_upd Y ⟨rfl,q1,q2⟩) ?_ (.inl ⟨_,_,rfl,rfl⟩)
   ·have hl:=q.len w
    have C:=q.cells
    rw[E] at C
    simp[Builtin.append_,run_underlying ts.h,sizeOf,typeInfo,hi,hl,C,E,r,Addr.add_lit,X]
   ·refine ⟨_,c,by rw[List.length_append],by rw[List.length_append];exact r,c2,fun b U=>⟨(D b U).1,(D b U).2.1,by rw[Y.size];exact (D b U).2.2.1,(D b U).2.2.2⟩,fun _=>⟨g,l,_,rfl,q1,q2,al,?_,fun j x p=>?_⟩⟩
    ·simp;omega
    ·by_cases Q:j<xs.length
     ·rw[List.getElem?_append_left Q] at p
      have:=q5 j x p
      have hh:j*sz+sz≤xs.length*sz:=by rw[←Nat.succ_mul];exact Nat.mul_le_mul_right _ Q
      have e2:((f.toList.take (l+xs.length*sz)++d++f.toList.drop (l+xs.length*sz+d.length)).toArray.toList.drop (l+j*sz)).take sz=(f.toList.drop (l+j*sz)).take sz:=by
       rw[List.toList_toArray,List.append_assoc]
       rw[List.drop_append_of_le_length (by rw[List.length_take,Array.length_toList (xs:=f)];omega),List.take_append_of_le_length (by rw[List.length_drop,List.length_take,Array.length_toList (xs:=f)];omega),List.drop_take,List.take_take]
       congr 1;omega
      rw[e2];exact this
     ·rw[List.getElem?_append_right (by omega)] at p
      have:=n5 _ _ p
      have ao:j-xs.length<ys.length:=(List.getElem?_eq_some_iff.1 p).1
      have hh:(j-xs.length)*sz+sz≤ys.length*sz:=by rw[←Nat.succ_mul];exact Nat.mul_le_mul_right _ ao
      have bb:j*sz=xs.length*sz+(j-xs.length)*sz:=by rw[←Nat.add_mul];congr 1;omega
      have e2:((f.toList.take (l+xs.length*sz)++d++f.toList.drop (l+xs.length*sz+d.length)).toArray.toList.drop (l+j*sz)).take sz=(d.drop ((j-xs.length)*sz)).take sz:=by
       rw[List.toList_toArray,List.append_assoc]
       rw[List.drop_append,List.drop_eq_nil_of_le (by rw[List.length_take,Array.length_toList (xs:=f)];omega),List.nil_append,List.length_take,Array.length_toList (xs:=f),
        show l+j*sz-min (l+xs.length*sz) f.size=(j-xs.length)*sz by omega,
        List.drop_append_of_le_length (by omega),List.take_append_of_le_length (by rw[List.length_drop];omega)]
      rw[e2];exact this
 ·-- a new row
  have N: ∃n:List Value,n.length=xs.length*sz∧(Builtin.firstCells i.size xs.length (.slice y xs.length c)).run P w.drew= .ok n.toArray w.drew∧ ∀j x,xs[j]? =some x→R σ x ((n.drop (j*sz)).take sz):=by
   by_cases M:c=0
   ·subst M
    have p:xs=[]:=List.eq_nil_of_length_eq_zero (by omega)
    subst p
    refine ⟨[],by simp,?_,by simp⟩
    cases y with
    | none=>exact run_firstCells_none w.drew i.size 0 0 0
    | some a'=>exact run_firstCells_some w.drew i.size 0 a' 0 0 [] (by simp) (by intro _ _ h';simp at h')
   ·obtain ⟨g,l,f,rfl,q1,q2,q3,q4,q5⟩:=c3 (by omega)
    have e1:xs.length*sz≤c*sz:=Nat.mul_le_mul_right _ c1
    refine ⟨(f.toList.drop l).take (xs.length*sz),by rw[List.length_take,List.length_drop,Array.length_toList (xs:=f)];omega,?_,fun j x p=>?_⟩
    ·refine run_firstCells_some w.drew i.size xs.length ⟨g,l,none⟩ xs.length c _ (by rw[List.length_take,List.length_drop,Array.length_toList (xs:=f),E];omega) (fun j u H=>?_)
     rw[List.getElem?_take] at H
     split at H
     ·rw[List.getElem?_drop] at H
      have an:w.drew.heap[g]? =some (.cells f e (0,0)):=q3
      unfold World.cell?
      rw[C1,Qg,K3 rfl]
      simp only[an]
      simpa using H
     ·cases H
    ·have Q:j<xs.length:=(List.getElem?_eq_some_iff.1 p).1
     have hh:j*sz+sz≤xs.length*sz:=by rw[←Nat.succ_mul];exact Nat.mul_le_mul_right _ Q
     have:=q5 j x p
     rw[List.drop_take,List.take_take,List.drop_drop,show min sz (xs.length*sz-j*sz)=sz by omega]
     exact this
  obtain ⟨n,o1,o2,o3⟩:=N
  have hg:c<xs.length+ys.length:=by omega
  have A:=run_append_grow_src (P:=P) w t t W e i z ts.h hi O y xs.length c n o2 (.slice a ys.length m) ys.length d q hg (by omega) (growslice_fits hg (by rw[ay];exact U))
  have ap:=grownCap_le_maxLen w (xs.length+ys.length) c e (by simp only[maxLen];omega)
  have ax:=grownCap_ge w (xs.length+ys.length) c e
  have hL:(n++d).length=(xs.length+ys.length)*sz:=by rw[List.length_append,o1,n2,Nat.add_mul]
  refine L _ _ A ?_ ?_ (.inr ⟨(Below.refl _ _).drew.alloc (Nat.le_refl _) _,by intro k hk;cases hk;exact Nat.le_refl _⟩)
  ·exact Kpt.of_below ((Below.refl _ _).drew.alloc (Nat.le_refl _) _)
  ·refine ⟨_,_,by rw[List.length_append],by rw[List.length_append];exact ax,ap,by rintro _ ⟨⟩;exact ⟨rfl,hB,(Array.getElem?_eq_some_iff.1 (heap_alloc_new w.drew _)).1,hs.none (Nat.le_refl _)⟩,fun _=>⟨w.heap.size,0,_,rfl,hB,hs.none (Nat.le_refl _),heap_alloc_new w.drew _,?_,fun j x p=>?_⟩⟩
   ·rw[Array.size_append,List.size_toArray,hL,size_zeroCells,av,←Nat.add_mul]
    rw[Nat.zero_add];exact Nat.mul_le_mul_right _ (by omega)
   ·rw[Nat.zero_add,Array.toList_append]
    have Q:j<xs.length+ys.length:=by have:=(List.getElem?_eq_some_iff.1 p).1;rwa [List.length_append] at this
    have hh:j*sz+sz≤(xs.length+ys.length)*sz:=by rw[←Nat.succ_mul];exact Nat.mul_le_mul_right _ Q
    rw[List.drop_append_of_le_length (by simp only[List.toList_toArray];omega),List.take_append_of_le_length (by rw[List.length_drop];simp only[List.toList_toArray];omega)]
    simp only[List.toList_toArray]
    by_cases Z:j<xs.length
    ·rw[List.getElem?_append_left Z] at p
     rw[Wy n d xs.length j o1 Z]
     exact o3 j x p
    ·rw[List.getElem?_append_right (by omega)] at p
     have:=n5 _ _ p
     rw[show j*sz=n.length+(j-xs.length)*sz by rw[o1,←Nat.add_mul];congr 1;omega,List.drop_append]
     simpa [List.drop_eq_nil_of_le] using this
end
theorem N2 {b:Nat} (h:w1.heap.size≤b) (k:Stp w σ w1 σ1):w.heap.size≤b:=Nat.le_trans k.bel.size h
theorem N1 {t:TypeId} {sz a:Nat} {z:Value} [tz:TZ P t sz a z] (d:X3 w σ) (h: ∀b w' σ',w.heap.size≤b→Stp w σ w' σ'→Y3 σ' w' b z.cells.toList→K (.pointer (some ⟨b,0,none⟩)) w'):W0 P t w K:=
 Iv d fun b w' c f g=>h b w' σ c f g
theorem En {t:TypeId} {cs:List Value} (c:X3 w σ) (h: ∀b w' σ',w.heap.size≤b→Stp w σ w' σ'→Y3 σ' w' b cs→K (.pointer (some ⟨b,0,none⟩)) w'):box P t (.agg cs.toArray) w K:=
 Q5i c fun b w' a d f=>h b w' σ a d (by simpa [Value.cells] using f)
theorem G1 {t:TypeId} {sz a:Nat} {z:Value} [tz:TZ P t sz a z] {b:Nat} {cs ds:List Value} (d:Y3 σ w b cs) (j:Stp w0 σ0 w σ) (i:w0.heap.size≤b) (f:cs.length=sz) (k:ds.length=sz) (g: ∀u∈ds,u.oneCell'=true)
 (h: ∀w',Hst w0 σ0 w' σ→Y3 σ w' b ds→K undef w'):Y0 P t (.pointer (some ⟨b,0,none⟩)) (.agg ds.toArray) w K:=
 Ob d f k (by rw[List.all_toArray];exact List.all_eq_true.2 g) fun w' l c=>h w' ⟨l.stp j i d.1⟩ c
structure Nxt (D : Nat → Prop) (w : World) (σ : Q6) (w' : World) (σ' : Q6) : Prop where
  kp : Kpt D w w'
  le : SLe σ σ'
  old : ∀ k, k < w.heap.size → σ' k = σ k
  sat : X3 w' σ'
theorem Nxt.of_stp {D:Nat→Prop} (h:Stp w σ w' σ'):Nxt D w σ w' σ':=⟨Kpt.of_below h.bel,⟨h.le⟩,h.old,h.sat⟩
theorem Nxt.mono {D D':Nat→Prop} (h:Nxt D w σ w' σ') (a: ∀k,k<w.heap.size→D k→D' k):Nxt D' w σ w' σ':=⟨h.kp.mono a,h.le,h.old,h.sat⟩
theorem Nxt.trans {D:Nat→Prop} (h:Nxt D w σ w' σ') (k:Nxt D w' σ' w'' σ1):Nxt D w σ w'' σ1:=
 ⟨h.kp.trans k.kp,h.le.more k.le,fun i a=>(k.old i (Nat.lt_of_lt_of_le a h.kp.size)).trans (h.old i a),k.sat⟩
theorem Y3.nx {D:Nat→Prop} {b:Nat} {cs:List Value} (h:Y3 σ w b cs) (k:Nxt D w σ w' σ') (f: ¬D b):Y3 σ' w' b cs:=by
 have a:=h.lt
 obtain ⟨c,e,d⟩:=h
 exact ⟨(k.old b a).trans c,e,(k.kp.block b a f).trans d⟩
theorem C6.nx {D:Nat→Prop} {r:Nat} {m:List (List UInt8×Value)} (h:C6 σ w r m) (k:Nxt D w σ w' σ') (a: ¬D r):C6 σ' w' r m:=
 ⟨(k.old r h.lt).trans h.1,(k.kp.block r h.lt a).symm▸h.2⟩
section
variable {α : Type} {R : Q6 → α → List Value → Prop} {B sz : Nat} {e : TypeId} {v u : Value} {xs : List α} {x : α}
theorem V6.nx [hr:Rep R] {D:Nat→Prop} (h:V6 B e sz R σ w v xs) (k:Nxt D w σ w' σ') (j: ∀k,v.ownBlock=some k→ ¬D k):V6 B e sz R σ' w' v xs:=by
 have b:=h.kp k.kp j
 obtain ⟨cells,c,g,d⟩:=b
 refine ⟨cells,c,fun i a=>(k.old i (h.mem i a).2.1).trans (g i a),fun i x f=>hr.up k.le.le (d i x f)⟩
theorem J7.nx [hr:Rep R] {D:Nat→Prop} (h:J7 B e sz R σ w v xs) (k:Nxt D w σ w' σ') (z: ∀k,v.ownBlock=some k→ ¬D k):J7 B e sz R σ' w' v xs:=by
 obtain ⟨a,j,rfl,p,t,c,q⟩:=h
 refine ⟨a,j,rfl,p,t,fun b d=>⟨(c b d).1,(c b d).2.1,Nat.lt_of_lt_of_le (c b d).2.2.1 k.kp.size,(k.old _ (c b d).2.2.1).trans (c b d).2.2.2⟩,fun r=>?_⟩
 obtain ⟨g,l,f,rfl,C,o,n,y,A⟩:=q r
 have m:=(Array.getElem?_eq_some_iff.1 n).1
 exact ⟨g,l,f,rfl,C,(k.old g m).trans o,(k.kp.block g m (z g rfl)).trans n,y,fun i x s=>hr.up k.le.le (A i x s)⟩
theorem Un {t q:TypeId} {c:Nat} {z:Value} {cs:List Bool} {A:Value→Value→World→Prop} [ts:TS P t e] [tz:TZ P e sz c z] [hr:Rep R] (m:Stp w0 σ0 w σ) (E:V6 w0.heap.size e sz R σ w v xs) (p:R σ x u.cells.toList) (r:u.cells.size=sz) (o:(z.cells.size==sz&&decide (0<sz))=true) (l:(decide (0<sz)&&decide ([u].length*sz≤16777216))=true)
 (D:(xs.length+1)*c≤140737488355328) (C:xs.length+1≤9223372036854775807)
 (h: ∀s b w' σ',Nxt (fun k=>v.ownBlock=some k) w σ w' σ'→Stp w0 σ0 w' σ'→V6 w0.heap.size e sz R σ' w' b (xs++[x])→(b.ownBlock=v.ownBlock∨ ∀k,b.ownBlock=some k→w.heap.size≤k)→A s b w'):
 buildSlice P t 1 [(0,u)] w (fun s w=>X2 P .append [t,t] q cs [v,s] w (fun b w=>A s b w)):=by
 refine T4 m.sat [u] [x] rfl rfl (by simpa using r) l ⟨p,trivial⟩ fun s w1 σ1 a g=>?_
 refine app (m.trans a) (E.up a) g o (by simpa using D) (by simpa using C) fun b n y d j hat=>?_
 have i:Kpt (fun k=>v.ownBlock=some k) w n:=(Kpt.of_below a.bel).trans (Kpt.of_grown y fun k a=>a)
 refine h s b n σ1 ⟨i,⟨a.le⟩,a.old,d.sat⟩ d j ?_
 rcases hat with hat | hat
 ·exact .inl hat
 ·exact .inr fun k f=>Nat.le_trans a.bel.size (hat k f)
theorem Wl {t l:TypeId} {b:Nat} {z:Value} {cs:List Bool} {ys:List α} [ts:TS P t e] [tz:TZ P e sz b z] [hr:Rep R] (g:Stp w0 σ0 w σ) (r:V6 w0.heap.size e sz R σ w v xs) (j:Sl sz R σ u ys) (i:(z.cells.size==sz&&decide (0<sz))=true)
 (q:(xs.length+ys.length)*b≤140737488355328) (p:xs.length+ys.length≤9223372036854775807)
 (h: ∀a w',Nxt (fun k=>v.ownBlock=some k) w σ w' σ→Stp w0 σ0 w' σ→V6 w0.heap.size e sz R σ w' a (xs++ys)→(a.ownBlock=v.ownBlock∨ ∀k,a.ownBlock=some k→w.heap.size≤k)→K a w'):X2 P .append [t,t] l cs [v,u] w K:=
 app g r j i q p fun a m n c f d=>h a m ⟨Kpt.of_grown n fun k o=>o,SLe.refl _,fun _ _=>rfl,c.sat⟩ c f d
end
section
variable {α : Type} {R : Q6 → α → List Value → Prop} {B sz : Nat} {e : TypeId} {v u : Value} {xs : List α} {x : α}
theorem J7.mono {B':Nat} (h:J7 B e sz R σ w v xs) (k:B'≤B):J7 B' e sz R σ w v xs:=by
 obtain ⟨a,i,rfl,l,o,c,m⟩:=h
 refine ⟨a,i,rfl,l,o,fun b d=>⟨(c b d).1,Nat.le_trans k (c b d).2.1,(c b d).2.2⟩,fun n=>?_⟩
 obtain ⟨g,f,j,rfl,p,q⟩:=m n
 exact ⟨g,f,j,rfl,Nat.le_trans k p,q⟩
theorem J7.own (h:J7 B e sz R σ w v xs) {k:Nat} (a:v.ownBlock=some k):B≤k:=(h.mem a).1
theorem J7.keep [hr:Rep R] (h:J7 w0.heap.size e sz R σ w v xs) (n:Stp w0 σ0 w σ): ∃σ',Stp w0 σ0 w σ'∧Sl sz R σ' v xs∧SLe σ σ'∧(∀k,some k≠v.ownBlock→σ' k=σ k):=by
 obtain ⟨a,f,rfl,r,z,o,s⟩:=h
 by_cases t:f=0
 ·have m:xs=[]:=List.eq_nil_of_length_eq_zero (by omega)
  subst t m
  exact ⟨σ,n,⟨a,0,rfl,by simp,by simp,fun _=>rfl,fun b A=>⟨fun _=>(o b A).1,by simp⟩⟩,SLe.refl _,fun _ _=>rfl⟩
 ·obtain ⟨g,p,c,rfl,E,q,C,J,D⟩:=s (by omega)
  have d:=Q6.put_le n.sat q (.cells c e (0,0))
  refine ⟨σ.put g (.cells c e (0,0)),n.put q E C,⟨_,f,rfl,r,z,by simp,?_⟩,⟨d⟩,?_⟩
  ·rintro _ ⟨⟩
   refine ⟨fun _=>rfl,fun i x m=>⟨(c.toList.drop (p+i*sz)).take sz,⟨K3 rfl _,c,e,(0,0),by rw[C1];simp[Q6.put],?_⟩,?_,hr.up d (D i x m)⟩⟩
   ·intro j u l
    rw[Qg]
    rw[List.getElem?_take] at l
    split at l
    ·rw[List.getElem?_drop] at l;simpa using l
    ·cases l
   ·have H:i<xs.length:=(List.getElem?_eq_some_iff.1 m).1
    have h:i*sz+sz≤f*sz:=by rw[←Nat.succ_mul];exact Nat.mul_le_mul_right _ (by omega)
    rw[List.length_take,List.length_drop,Array.length_toList (xs:=c)];omega
  ·intro k y
   have:k≠g:=by intro e;subst e;exact y rfl
   simp only[Q6.put,if_neg this]
theorem Q1n {t M:TypeId} {C:Nat} {z:Value} {A:Value→Value→World→Prop} {ds:List Value} [ts:TS P t e] [tz:TZ P e sz C z] {D:Nat} {Y:Value} [tz':TZ P M sz D Y] (V:Stp w0 σ0 w σ) (ha:J7 w0.heap.size e sz R σ w v xs) {n:Nat} (hn:n<xs.length) (H:ds.length=sz) (hx:R σ x ds) (Z: ∀u∈ds,u.oneCell'=true)
 (h: ∀p u w',Kpt (fun k=>v.ownBlock=some k) w w'→Hst w0 σ0 w' σ→J7 w0.heap.size e sz R σ w' v (xs.set n x)→A p u w'):
 indexAddr P t v (I n) w (fun p w=>Y0 P M p (.agg ds.toArray) w (fun u w=>A p u w)):=by
 obtain ⟨a,i,rfl,c1,W,f,c3⟩:=ha
 obtain ⟨g,c,d,rfl,Q,N,U,q4,q5⟩:=c3 (by omega)
 rw[Cj (by omega) (by omega)]
 have hh:n*sz+sz≤i*sz:=by rw[←Nat.succ_mul];exact Nat.mul_le_mul_right _ (by omega)
 have m:(⟨g,c,none⟩:Addr).add ((n:Int).toNat*sz)=⟨g,c+n*sz,none⟩:=by unfold Addr.add;split<;>simp_all
 rw[m]
 have o:=run_storeCells_at P g (c+n*sz) e ds 0 d w U (by omega) Z
 simp only[Nat.add_zero] at o
 obtain ⟨l,E⟩:=Va (cs:=(d.toList.take (c+n*sz)++ds++d.toList.drop (c+n*sz+ds.length)).toArray) U
 unfold Y0
 rw[Lm (w':=w.setRow g (d.toList.take (c+n*sz)++ds++d.toList.drop (c+n*sz+ds.length)).toArray) (by
  simp[Instr.storeAt,Instr.sureAddr,storeVar,L4 tz',Value.cells,H]
  simpa [H] using o)]
 have hk:Kpt (fun k=>(Value.slice (some ⟨g,c,none⟩) xs.length i).ownBlock=some k) w (w.setRow g (d.toList.take (c+n*sz)++ds++d.toList.drop (c+n*sz+ds.length)).toArray):=Kpt.of_upd l rfl
 refine h _ _ _ hk ⟨l.stp V Q N⟩ ⟨_,i,by rw[List.length_set],by rw[List.length_set];exact c1,W,fun b r=>⟨(f b r).1,(f b r).2.1,by rw[l.size];exact (f b r).2.2.1,(f b r).2.2.2⟩,fun _=>⟨g,c,_,rfl,Q,N,E,?_,fun j y q=>?_⟩⟩
 ·simp;omega
 ·rw[List.toList_toArray]
  have X:=Array.length_toList (xs:=d)
  have L:j<xs.length:=by have:=(List.getElem?_eq_some_iff.1 q).1;simpa using this
  have aa:j*sz+sz≤i*sz:=by rw[←Nat.succ_mul];exact Nat.mul_le_mul_right _ (by omega)
  by_cases O:j=n
  ·subst O
   rw[List.getElem?_set_self L] at q
   cases q
   rw[List.append_assoc,List.drop_append,List.drop_eq_nil_of_le (by rw[List.length_take];omega),List.nil_append,List.length_take,show c+j*sz-min (c+j*sz) d.toList.length=0 by omega,List.drop_zero,List.take_append_of_le_length (by omega),List.take_of_length_le (by omega)]
   exact hx
  ·rw[List.getElem?_set_ne (by omega)] at q
   have:=q5 j y q
   rcases Nat.lt_or_gt_of_ne O with J | hgt
   ·have s:j*sz+sz≤n*sz:=by rw[←Nat.succ_mul];exact Nat.mul_le_mul_right _ J
    rw[List.append_assoc,List.drop_append_of_le_length (by rw[List.length_take];omega),List.take_append_of_le_length (by rw[List.length_drop,List.length_take];omega),List.drop_take,List.take_take]
    rwa [show min sz (c+n*sz-(c+j*sz))=sz by omega]
   ·have s:n*sz+sz≤j*sz:=by rw[←Nat.succ_mul];exact Nat.mul_le_mul_right _ hgt
    rw[List.drop_append,List.drop_eq_nil_of_le (by rw[List.length_append,List.length_take];omega),List.nil_append,List.length_append,List.length_take,List.drop_drop,H]
    rwa [show c+n*sz+sz+(c+j*sz-(min (c+n*sz) d.toList.length+sz))=c+j*sz by omega]
end
theorem Q6c (p:Nat→Prop): ∀n,p n→ ∃m,p m∧ ∀k,p k→m≤k:=by
 intro n
 induction n using Nat.strongRecOn with
 | _ n d=>
  intro h
  by_cases b: ∃k,k<n∧p k
  ·obtain ⟨k,c,f⟩:=b;exact d k c f
  ·exact ⟨n,h,fun k g=>Nat.le_of_not_lt fun a=>b ⟨k,a,g⟩⟩
noncomputable def Q1z (p:Nat→Prop):Nat:=open Classical in if h: ∃m,p m∧ ∀k,p k→m≤k then Classical.choose h else 0
theorem Q0A {p:Nat→Prop} {n:Nat} (h:p n):p (Q1z p)∧Q1z p≤n:=by
 have a:=Q6c p n h
 unfold Q1z
 rw[dif_pos a]
 exact ⟨(Classical.choose_spec a).1,(Classical.choose_spec a).2 n h⟩
theorem Kv {α:Type} {x0:α} {A:(α→World→Prop)→α→(Nat→Value)→World→Prop} (I:Nat→α→World→Prop) (n:Nat) (k:I n x0 w)
 (h: ∀a n x d w,I n x w→(∀b c w',b<n→I b c w'→a c w')→A a x d w):lp x0 w A:=by
 refine Wk (fun x w=> ∃n,I n x w) (fun x w=>Q1z fun n=>I n x w) ⟨n,k⟩ ?_
 rintro x d w ⟨n,i⟩
 obtain ⟨j,l⟩:=Q0A (p:=fun n=>I n x w) i
 refine h _ _ x d w j fun b c w' f g=>⟨⟨b,g⟩,?_⟩
 exact Nat.lt_of_le_of_lt (Q0A (p:=fun n=>I n c w') g).2 f
section
variable {α : Type} {R : Q6 → α → List Value → Prop} {B sz : Nat} {e : TypeId} {v u : Value} {xs ys : List α} {x : α}
theorem J7.below (h:J7 B e sz R σ w v xs) (a:Below w.heap.size w w'):J7 B e sz R σ w' v xs:=h.kp (D:=fun _=>False) (.of_below a) fun _ _=>id
theorem J7.pre {a:Option Addr} {n m b:Nat} (h:J7 B e sz R σ w (.slice a m b) (xs++ys)) (l:n=xs.length):J7 B e sz R σ w (.slice a n b) xs:=by
 obtain ⟨J,k,E,q,y,d,r⟩:=h
 injection E with z e2 p
 subst z p l
 rw[List.length_append] at q
 refine ⟨a,b,rfl,by omega,y,d,fun t=>?_⟩
 obtain ⟨g,f,c,s,H,o,A,C,D⟩:=r t
 exact ⟨g,f,c,s,H,o,A,C,fun i x j=>D i x (by rw[List.getElem?_append_left (List.getElem?_eq_some_iff.1 j).1];exact j)⟩
def Gm (B:Nat) (e:TypeId) (sz:Nat) (R:Q6→α→List Value→Prop) (σ:Q6) (v:Value) (xs:List α) (x:α) (w1 c:World):Prop:=
 Kpt (fun k=>v.ownBlock=some k) w1 c∧(J7 B e sz R σ w1 v xs→J7 B e sz R σ c v xs)∧
  ∀a b,v= .slice a xs.length b→J7 B e sz R σ w1 (.slice a (xs.length+1) b) (xs++[x])→J7 B e sz R σ c (.slice a (xs.length+1) b) (xs++[x])
theorem Gm.below (a:Below w.heap.size w w'):Gm B e sz R σ v xs x w w':=⟨.of_below a,fun h=>h.below a,fun _ _ _ h=>h.below a⟩
theorem Gm.refl:Gm B e sz R σ v xs x w w:=Gm.below (Below.refl _ _)
def VQa (N B:Nat) (e:TypeId) (sz:Nat) (R:Q6→α→List Value→Prop) (σ:Q6) (v:Value) (xs:List α) (x:α) (c:Value) (w:World):Prop:=
 J7 B e sz R σ w c (xs++[x])∧((∃a b,v= .slice a xs.length b∧c= .slice a (xs.length+1) b)∨((∀k,c.ownBlock=some k→N≤k)∧ ∀k,v.ownBlock=some k→k<N))
theorem VQa.stable {N:Nat} {i:Value} (h:VQa N B e sz R σ v xs x i w) (j:Gm B e sz R σ v xs x w w'):VQa N B e sz R σ v xs x i w':=by
 obtain ⟨g,b⟩:=h
 refine ⟨?_,b⟩
 rcases b with ⟨a,c,d,rfl⟩ | ⟨b,d⟩
 ·exact j.2.2 a c d g
 ·exact g.kp j.1 fun k l f=>by have:=b k l;have:=d k f;omega
theorem Kpt.more {D E:Nat→Prop} (h:Kpt D w w') (k:Kpt E w' w'') (hE: ∀j,E j→w.heap.size≤j):Kpt D w w'':=
 ⟨k.os.trans h.os,k.tape.trans h.tape,k.output.trans h.output,Nat.le_trans h.size k.size,fun i a b=>(k.block i (Nat.lt_of_lt_of_le a h.size) fun e=>by have:=hE i e;omega).trans (h.block i a b)⟩
end
end Go.Emb

namespace Go.Hm
open Go.Kd
theorem V3 {l:List Cla} {n:X0} {c:Cla} (h:lk l n=some c):c.name=n∧c∈l∧ ∃i,Z2 l n=some i∧l[i]? =some c:=by
 unfold lk at h
 cases b:Z2 l n with
 | none=>rw[b] at h;cases h
 | some i=>
  rw[b] at h
  obtain ⟨a,e,_⟩:=List.findIdx?_eq_some_iff_getElem.1 b
  have d:l[i]? =some c:=h
  rw[List.getElem?_eq_getElem a] at d
  cases d
  exact ⟨by simpa using e,List.getElem_mem a,i,rfl,List.getElem?_eq_getElem a⟩
theorem Zr {l:List Cla} {n:X0} {i:Nat} (h:Z2 l n=some i): ∃c,lk l n=some c∧l[i]? =some c∧c.name=n:=by
 obtain ⟨a,b,_⟩:=List.findIdx?_eq_some_iff_getElem.1 h
 refine ⟨l[i],?_,List.getElem?_eq_getElem a,by simpa using b⟩
 unfold lk;rw[h];simp[a]
theorem Q1E {l:List Cla} {n:X0}:Q11 l n=(lk l n).isSome:=by
 unfold Q11
 cases a:Z2 l n with
 | none=>simp[lk,a]
 | some i=>obtain ⟨c,h,_⟩:=Zr a;simp[h]
theorem Q9p {l:List Cla} {c:Cla} (h:c∈l): ∃d,lk l c.name=some d:=by
 cases a:Z2 l c.name with
 | none=>
  have:=List.findIdx?_eq_none_iff.1 a c h
  simp at this
 | some i=>obtain ⟨d,h,_⟩:=Zr a;exact ⟨d,h⟩
inductive Reach (L : La) : X0 → X0 → Prop
  | refl {a : X0} {c : Cla} : L a = some c → Reach L a a
  | step {a u b : X0} {c : Cla} : L a = some c → u ∈ U3 c → Reach L u b → Reach L a b
theorem Reach.trans {L:La} {a b d:X0} (h:Reach L a b) (k:Reach L b d):Reach L a d:=by
 induction h with
 | refl _=>exact k
 | step c f _ e=>exact .step c f (e k)
theorem Reach.right {L:La} {a b:X0} (h:Reach L a b): ∃c,L b=some c:=by
 induction h with
 | refl h=>exact ⟨_,h⟩
 | step _ _ _ d=>exact d
theorem Reach.left {L:La} {a b:X0} (h:Reach L a b): ∃c,L a=some c:=by
 cases h with
 | refl h=>exact ⟨_,h⟩
 | step h _ _=>exact ⟨_,h⟩
theorem Q1H (L:La): ∀(f:Nat) (a b:List X0),∃r,Vb L f a b=b++r:=by
 intro f
 induction f with
 | zero=>intro a b;exact ⟨[],by simp[Vb]⟩
 | succ f c=>
  intro a b
  cases a with
  | nil=>exact ⟨[],by simp[Vb]⟩
  | cons n a=>
   simp only[Vb]
   split
   ·exact c _ _
   ·split
    ·exact c _ _
    ·obtain ⟨r,d⟩:=c (a++U3 ‹_›) (b++[n])
     exact ⟨n::r,by rw[d];simp⟩
theorem Q9e (L:La): ∀(f:Nat) (a b:List X0) (x:X0),x∈Vb L f a b→x∈b∨ ∃t∈a,Reach L t x:=by
 intro f
 induction f with
 | zero=>intro a b x h;exact .inl h
 | succ f d=>
  intro a b x h
  cases a with
  | nil=>exact .inl h
  | cons n a=>
   simp only[Vb] at h
   split at h
   ·rcases d _ _ _ h with h | ⟨t,ht,h⟩
    ·exact .inl h
    ·exact .inr ⟨t,by simp[ht],h⟩
   ·rename_i c e
    split at h
    ·rcases d _ _ _ h with h | ⟨t,ht,h⟩
     ·exact .inl h
     ·exact .inr ⟨t,by simp[ht],h⟩
    ·rcases d _ _ _ h with h | ⟨t,ht,h⟩
     ·rcases List.mem_append.1 h with h | h
      ·exact .inl h
      ·simp at h;subst h;exact .inr ⟨x,by simp, .refl e⟩
     ·rcases List.mem_append.1 ht with ht | ht
      ·exact .inr ⟨t,by simp[ht],h⟩
      ·exact .inr ⟨n,by simp, .step e ht h⟩
theorem X0R (l:List Cla) (b a:List X0) (h: ∀x∈b,x∈a):weigh l a≤weigh l b:=by
 unfold weigh
 induction l with
 | nil=>simp
 | cons c r e=>
  simp only[List.map_cons,List.sum_cons]
  by_cases d:c.name∈b
  ·rw[if_pos d,if_pos (h _ d)];omega
  ·rw[if_neg d];split<;>omega
theorem Ku (l:List Cla) (a:List X0) (c:Cla) (hc:c∈l) (h:c.name∉a):weigh l (a++[c.name])+(U3 c).length≤weigh l a:=by
 unfold weigh
 induction l with
 | nil=>simp at hc
 | cons d r f=>
  simp only[List.map_cons,List.sum_cons]
  have e:weigh r (a++[c.name])≤weigh r a:=X0R _ _ _ (by simp;intro x g;exact .inl g)
  unfold weigh at e
  rcases List.mem_cons.1 hc with rfl | hc
  ·rw[if_pos (by simp),if_neg h];omega
  ·have:=f hc
   by_cases b:d.name∈a
   ·rw[if_pos (by simp[b]),if_pos b];omega
   ·rw[if_neg b];split<;>omega
theorem X0E (l:List Cla): ∀(f:Nat) (a b:List X0),a.length+weigh l b≤f→
 (∀x∈b,∀c,lk l x=some c→ ∀u∈U3 c,∀d,lk l u=some d→u∈b∨u∈a)→
 (∀t∈a,∀d,lk l t=some d→t∈Vb (lk l) f a b)∧ ∀x∈Vb (lk l) f a b,∀c,lk l x=some c→ ∀u∈U3 c,∀d,lk l u=some d→u∈Vb (lk l) f a b:=by
 intro f
 induction f with
 | zero=>
  intro a b y o
  have:a=[]:=List.eq_nil_of_length_eq_zero (by omega)
  subst this
  refine ⟨by simp,fun x hx c j u i d g=>?_⟩
  rcases o x hx c j u i d g with h | h
  ·exact h
  ·simp at h
 | succ f v=>
  intro a b y o
  cases a with
  | nil=>
   refine ⟨by simp,fun x hx c j u i d g=>?_⟩
   rcases o x hx c j u i d g with h | h
   ·exact h
   ·simp at h
  | cons n a=>
   simp only[List.length_cons] at y
   simp only[Vb]
   split
   ·rename_i w
    obtain ⟨p,q⟩:=v a b (by omega) (fun x hx c j u i d g=>by
     rcases o x hx c j u i d g with h | h
     ·exact .inl h
     ·rcases List.mem_cons.1 h with rfl | h
      ·rw[w] at g;cases g
      ·exact .inr h)
    refine ⟨fun t ht d g=>?_,q⟩
    rcases List.mem_cons.1 ht with rfl | ht
    ·rw[w] at g;cases g
    ·exact p t ht d g
   ·rename_i c j
    split
    ·rename_i k
     obtain ⟨r,s⟩:=Q1H (lk l) f a b
     obtain ⟨p,q⟩:=v a b (by omega) (fun x hx c j u i d g=>by
      rcases o x hx c j u i d g with h | h
      ·exact .inl h
      ·rcases List.mem_cons.1 h with rfl | h
       ·exact .inl k
       ·exact .inr h)
     refine ⟨fun t ht d g=>?_,q⟩
     rcases List.mem_cons.1 ht with rfl | ht
     ·rw[s];simp[k]
     ·exact p t ht d g
    ·rename_i k
     obtain ⟨e,B,_⟩:=V3 j
     have A:=Ku l b c B (by rw[e];exact k)
     rw[e] at A
     obtain ⟨p,q⟩:=v (a++U3 c) (b++[n]) (by rw[List.length_append];omega) (fun x hx z m u i d g=>by
      rcases List.mem_append.1 hx with hx | hx
      ·rcases o x hx z m u i d g with h | h
       ·exact .inl (by simp[h])
       ·rcases List.mem_cons.1 h with rfl | h
        ·exact .inl (by simp)
        ·exact .inr (by simp[h])
      ·simp at hx;subst hx
       rw[j] at m;cases m
       exact .inr (by simp[i]))
     refine ⟨fun t ht d g=>?_,q⟩
     rcases List.mem_cons.1 ht with rfl | ht
     ·obtain ⟨r,s⟩:=Q1H (lk l) f (a++U3 c) (b++[t])
      rw[s];simp
     ·exact p t (by simp[ht]) d g
theorem Uz {l:List Cla} {a b:X0}:b∈I1 l a↔Reach (lk l) a b:=by
 obtain ⟨j,o⟩:=X0E l (1+weigh l []) [a] [] (by simp) (by simp)
 constructor
 ·intro h
  rcases Q9e _ _ _ _ _ h with h | ⟨t,e,i⟩
  ·simp at h
  ·simp at e;subst e;exact i
 ·intro h
  have key: ∀{x y:X0},Reach (lk l) x y→x∈I1 l a→y∈I1 l a:=by
   intro x y h
   induction h with
   | refl _=>exact id
   | step k g f m=>
    intro n
    obtain ⟨d,c⟩:=f.left
    exact m (o _ n _ k _ g _ c)
  obtain ⟨d,c⟩:=h.left
  exact key h (j a (by simp) d c)
theorem X0q (l:List Cla): ∀(f:Nat) (a b:List X0),a.length+weigh l b≤f→ ∀k,Vb (lk l) (f+k) a b=Vb (lk l) f a b:=by
 intro f
 induction f with
 | zero=>
  intro a b h k
  have:a=[]:=List.eq_nil_of_length_eq_zero (by omega)
  subst this
  cases k<;>rfl
 | succ f d=>
  intro a b h k
  cases a with
  | nil=>rw[Nat.succ_add];rfl
  | cons n a=>
   simp only[List.length_cons] at h
   rw[Nat.succ_add]
   simp only[Vb]
   split
   ·exact d _ _ (by omega) k
   ·rename_i c i
    split
    ·exact d _ _ (by omega) k
    ·rename_i g
     obtain ⟨e,j,_⟩:=V3 i
     have m:=Ku l b c j (by rw[e];exact g)
     rw[e] at m
     exact d _ _ (by rw[List.length_append];omega) k
end Go.Hm

namespace Go.Hm
open Go.Kd
def Wr (L:La) (a b:X0):Prop:= ∃c,L a=some c∧ ∃u∈U3 c,Reach L u b
def Ji (l:List Cla):Prop:= ∀a,¬Wr (lk l) a a
theorem Wr.reach {L:La} {a b:X0} (h:Wr L a b):Reach L a b:=by
 obtain ⟨c,e,u,f,d⟩:=h;exact .step e f d
theorem Wr.trans {L:La} {a b d:X0} (h:Wr L a b) (k:Reach L b d):Wr L a d:=by
 obtain ⟨c,f,u,g,e⟩:=h;exact ⟨c,f,u,g,e.trans k⟩
theorem Q0C {L:La} {a b:X0}:Reach L a b↔(a=b∧(∃c,L a=some c))∨Wr L a b:=by
 constructor
 ·intro h
  cases h with
  | refl h=>exact .inl ⟨rfl,_,h⟩
  | step d f e=>exact .inr ⟨_,d,_,f,e⟩
 ·rintro (⟨rfl,c,h⟩ | h)
  ·exact .refl h
  ·exact h.reach
def Xn (l:List Cla) (a b:X0):Bool:=match lk l a with
 | none=>false
 | some c=>(U3 c).any fun u=>(I1 l u).contains b
theorem Uq {l:List Cla} {a b:X0}:Xn l a b=true↔Wr (lk l) a b:=by
 unfold Xn Wr
 cases h:lk l a with
 | none=>simp
 | some c=>
  simp only[List.any_eq_true,List.contains_iff_mem,Uz]
  constructor
  ·rintro ⟨u,e,d⟩;exact ⟨c,rfl,u,e,d⟩
  ·rintro ⟨_,⟨⟩,u,e,d⟩;exact ⟨u,e,d⟩
def P1 (l:List Cla) (n:X0):Nat:=l.countP fun m=>Xn l n m.name
theorem Q1v (l:List Cla) (n:X0):P1 l n≤l.length:=List.countP_le_length
theorem Q46 {α:Type} {p q:α→Bool}: ∀{l:List α},(∀x∈l,p x=true→q x=true)→(∃x∈l,q x=true∧p x=false)→l.countP p<l.countP q:=by
 intro l
 induction l with
 | nil=>rintro _ ⟨x,hx,_⟩;simp at hx
 | cons a r f=>
  rintro h ⟨x,hx,c,d⟩
  have e:r.countP p≤r.countP q:=List.countP_mono_left fun x hx=>h x (by simp[hx])
  rw[List.countP_cons,List.countP_cons]
  rcases List.mem_cons.1 hx with rfl | hx
  ·rw[c,d];simp;omega
  ·have:=f (fun x hx=>h x (by simp[hx])) ⟨x,hx,c,d⟩
   have g:=h a (by simp)
   cases b:p a
   ·simp;split<;>omega
   ·rw[g b];simp;omega
theorem X2q {l:List Cla} (j:Ji l) {a b:X0} (h:Wr (lk l) a b):P1 l b<P1 l a:=by
 unfold P1
 refine Q46 (fun x _ f=>?_) ?_
 ·rw[Uq] at*
  exact h.trans f.reach
 ·obtain ⟨d,i⟩:=(Reach.right (h.reach))
  obtain ⟨e,g,_⟩:=V3 i
  refine ⟨d,g,?_,?_⟩
  ·rw[Uq,e];exact h
  ·cases c:Xn l b d.name with
   | false=>rfl
   | true=>rw[Uq,e] at c;exact absurd c (j b)
theorem Xw {l:List Cla} (g:Ji l) {a u:X0} {c d:Cla} (b:lk l a=some c) (f:u∈U3 c) (e:lk l u=some d):P1 l u<P1 l a:=
 X2q g ⟨c,b,u,f, .refl e⟩
theorem Q6Q {l:List Cla} (i:Ji l): ∀(f g:Nat) (n:X0),P1 l n<f→P1 l n<g→I5 (lk l) f n=I5 (lk l) g n:=by
 intro f
 induction f with
 | zero=>intro g n h;omega
 | succ f e=>
  intro g n k j
  obtain ⟨g,rfl⟩: ∃m,g=m+1:=⟨g-1,by omega⟩
  simp only[I5]
  cases b:lk l n with
  | none=>rfl
  | some c=>
   simp only
   congr 1
   cases a:lk l c.super with
   | none=>cases f<;>cases g<;>simp[I5,a]
   | some d=>
    have:=Xw i b (by simp[U3]) a
    exact e g c.super (by omega) (by omega)
theorem A8 {l:List Cla} (b:Ji l) (n:X0):chain l n=match lk l n with | none=>[] | some c=>c::chain l c.super:=by
 have:=Q1v l n
 unfold chain
 rw[I5]
 cases e:lk l n with
 | none=>rfl
 | some c=>
  simp only
  congr 1
  cases a:lk l c.super with
  | none=>cases l.length<;>simp[I5,a]
  | some d=>
   have:=Xw b e (by simp[U3]) a
   exact Q6Q b _ _ _ (by omega) (by omega)
theorem Yq {l:List Cla} {n:X0} (h:lk l n=none):chain l n=[]:=by simp[chain,I5,h]
theorem Du {α β:Type} {f g:α→Option β}: ∀{l:List α},(∀x∈l,f x=g x)→l.findSome? f=l.findSome? g
 | [],_=>rfl
 | a::r,h=>by
  rw[List.findSome?_cons,List.findSome?_cons,h a (by simp),Du fun x b=>h x (by simp[b])]
theorem Q73 {l:List Cla} (k:Ji l) (n:X0): ∀(f g:Nat) (c:Cla),lk l c.name=some c→P1 l c.name<f→P1 l c.name<g→Sm (lk l) f c n=Sm (lk l) g c n:=by
 intro f
 induction f with
 | zero=>intro g c _ h;omega
 | succ f j=>
  intro g c i p o
  obtain ⟨g,rfl⟩: ∃m,g=m+1:=⟨g-1,by omega⟩
  simp only[Sm]
  refine Du fun u b=>?_
  cases a:lk l u with
  | none=>rfl
  | some d=>
   simp only
   cases F7 d n with
   | some m=>rfl
   | none=>
    simp only
    have:=Xw k i (by simp[U3,b]) a
    have e:=(V3 a).1
    exact j g d (by rw[e];exact a) (by rw[e];omega) (by rw[e];omega)
def V4 (l:List Cla) (c:Cla) (n:X0):Option (X0×Hm.Met):=Sm (lk l) (l.length+1) c n
theorem Q4b {l:List Cla} (b:Ji l) {c:Cla} (f:lk l c.name=some c) (n:X0):V4 l c n=c.like.findSome? fun u=>match lk l u with
 | none=>none
 | some d=>match F7 d n with
  | some m=>some (u,m)
  | none=>V4 l d n:=by
 have:=Q1v l c.name
 unfold V4
 rw[Sm]
 refine Du fun u g=>?_
 cases a:lk l u with
 | none=>rfl
 | some d=>
  simp only
  cases F7 d n with
  | some m=>rfl
  | none=>
   have:=Xw b f (by simp[U3,g]) a
   have e:=(V3 a).1
   exact Q73 b n _ _ d (by rw[e];exact a) (by rw[e];omega) (by rw[e];omega)
def A4 (l:List Cla):Prop:=(l.map (·.name)).Nodup
theorem A4.lk {l:List Cla} (h:A4 l) {c:Cla} (f:c∈l):Go.Hm.lk l c.name=some c:=by
 obtain ⟨d,g⟩:=Q9p f
 obtain ⟨e,p,i,o,a⟩:=V3 g
 obtain ⟨j,n,rfl⟩:=List.getElem_of_mem f
 obtain ⟨b,k⟩:=List.getElem?_eq_some_iff.1 a
 have:i=j:=by
  have m:(l.map (·.name))[i]'(by simpa using b)=(l.map (·.name))[j]'(by simpa using n):=by simp[k,e]
  exact (List.getElem_inj h).1 m
 subst this
 rw[g,←k]
theorem A4.find {l:List Cla} (h:A4 l) {i:Nat} {c:Cla} (g:l[i]? =some c):Z2 l c.name=some i:=by
 obtain ⟨b,rfl⟩:=List.getElem?_eq_some_iff.1 g
 have:=h.lk (List.getElem_mem b)
 obtain ⟨e,n,j,f,k⟩:=V3 this
 obtain ⟨a,m⟩:=List.getElem?_eq_some_iff.1 k
 have:j=i:=by
  have d:(l.map (·.name))[j]'(by simpa using a)=(l.map (·.name))[i]'(by simpa using b):=by simp[m]
  exact (List.getElem_inj h).1 d
 rw[f,this]
end Go.Hm

namespace Go.Emb
open Go.RowKit Go.Hm
variable {P : Program} {w w0 w1 w' w'' : World} {K : Value → World → Prop} {σ σ0 σ1 σ2 σ' : Q6}
theorem Stp.join (c:Stp w σ w' σ1) (d:Stp w σ w' σ2): ∃f,Stp w σ w' f∧SLe σ1 f∧SLe σ2 f:=by
 have h: ∀b o,σ1 b=some o→(fun b=>(σ1 b).or (σ2 b)) b=some o:=fun b o e=>by simp[e]
 have j: ∀b o,σ2 b=some o→(fun b=>(σ1 b).or (σ2 b)) b=some o:=by
  intro b o e
  cases a:σ1 b with
  | none=>simp[a,e]
  | some p=>
   have i:=c.sat b p a
   have g:=d.sat b o e
   rw[i] at g;cases g;simp only[a,Option.some_or]
 refine ⟨fun b=>(σ1 b).or (σ2 b),⟨c.bel,?_,fun b o e=>h b o (c.le b o e),?_⟩,⟨h⟩,⟨j⟩⟩
 ·intro b o e
  cases a:σ1 b with
  | none=>simp only[a,Option.none_or] at e;exact d.sat b o e
  | some p=>simp only[a,Option.some_or] at e;cases e;exact c.sat b _ a
 ·intro b a
  simp only[c.old b a,d.old b a];cases σ b<;>rfl
theorem Wi {Φ:Q6→Value→Prop} {A a:(Value→World→Prop)→Prop} (h:A (fun v w'=> ∃σ',Stp w σ w' σ'∧Φ σ' v)) (c:a (fun v w'=> ∃σ',Stp w σ w' σ'∧Φ σ' v)):Q4 (fun w w'=>Below w.heap.size w w') A a:=
 H2 _ (fun _ _ _ ⟨σ',b,e⟩ d=>⟨σ',b.trans (Stp.of_below b.sat d),e⟩) h c
theorem Cc {Φ:Q6→Value→Prop} {v:Value} (b:Hst w σ w1 σ) (h:Stp w1 σ w' σ') (a:Φ σ' v):dk (fun w w'=>Below w.heap.size w w') (fun v w'=> ∃σ',Stp w σ w' σ'∧Φ σ' v) w1 v w':=
 ⟨h.bel,σ',b.stp.trans h,a⟩
theorem H0.mk {m:Hm.Met} {pv b a:Value} (c:Sl 1 U8 σ pv m.params) (g:Sl 3 Qr σ b m.code) (d:Sl 4 Ur σ a m.catches) (e:m.name.length≤U1) (f:m.result.length≤U1) (h:Yw m.locals):H0 σ m [S m.name,pv,S m.result, .bool m.abs,I m.locals,b,a]:=
 ⟨pv,b,a,rfl,c,g,d,e,f,h⟩
theorem V0.mk {c:Cla} {b a mv:Value} (d:Sl 1 U8 σ b c.like) (h:Sl 3 S2 σ a c.fields) (e:Sl 7 H0 σ mv c.methods) (f:c.name.length≤U1) (g:c.super.length≤U1):V0 σ c [S c.name,S c.super,b, .bool c.iface, .bool c.abs, .bool c.fin,a,mv]:=
 ⟨b,a,mv,rfl,d,h,e,f,g⟩
end Go.Emb
namespace Go.Hm
def SmM (m:Hm.Met):Prop:=m.params.length≤1000000∧m.code.length≤1000000∧m.catches.length≤1000000
def Qo (c:Cla):Prop:=c.like.length≤1000000∧c.fields.length≤1000000∧c.methods.length≤1000000∧ ∀m∈c.methods,SmM m
end Go.Hm
namespace Go.Proofs.YtjdiakhipmggjaaGreatDoor
open Go.Emb Go.RowKit Go.Kd Go.Hm
variable {w : World} {K : Value → World → Prop} {σ : Q6}
theorem Q4p {m:Hm.Met} {cs:List Value} (hs:X3 w σ) (hm:H0 σ m cs) (C:SmM m)
 (h: ∀pv o f w' σ',Stp w σ w' σ'→H0 σ' m [S m.name,pv,S m.result, .bool m.abs,I m.locals,o,f]→K (.agg [S m.name,pv,S m.result, .bool m.abs,I m.locals,o,f].toArray) w'):Q1 P F.c7 [.agg cs.toArray] w K:=Q4O (by
 obtain ⟨pv,o,f,rfl,B,y,N,g4,g5,X⟩:=hm
 obtain ⟨s1,Z,Y⟩:=C
 unfold Tn
 refine En hs fun b w1 σ1 d g a=>?_
 refine N1 g.sat fun b2 w2 σ2 A j c=>?_
 have aj:=a.lt
 replace a:=a.step j
 have H:=j.sat
 have B:=(B.up g).up j
 have y:=(y.up g).up j
 have N:=(N.up g).up j
 have L: ∀{w':World} (i:Nat) (v:Value),[S m.name,pv,S m.result, .bool m.abs,I m.locals,o,f][i]? =some v→Hst w2 σ2 w' σ2→w'.cell? ((⟨b,0,none⟩:Addr).add i)=some v:=fun i v f hh=>(a.step hh.stp).cell f
 refine J9 H ?_
 refine X4 (.pointer (some ((⟨b,0,none⟩:Addr).add 1))) (fun w d=>by rw[fa];exact X6 rfl) ?_
 refine X4 (.pointer (some ((⟨b,0,none⟩:Addr).add 5))) (fun w d=>by rw[fa];exact X6 rfl) ?_
 refine X4 (.pointer (some ((⟨b,0,none⟩:Addr).add 6))) (fun w d=>by rw[fa];exact X6 rfl) ?_
 refine X4 pv (fun t w d e=>by rw[e];exact Qi (L 1 pv rfl d) (X6 rfl)) ?_
 refine Wi (Φ:=fun σ' v=>Sl 1 U8 σ' v m.params) (fun t w d e=>by rw[e];exact Lb d.sat B s1 fun W w' σ' r f=>Cc d r f) ?_
 refine X4 o (fun t w d e=>by rw[e];exact Qi (L 5 o rfl d) (X6 rfl)) ?_
 refine Wi (Φ:=fun σ' v=>Sl 3 Qr σ' v m.code) (fun t w d e=>by rw[e];exact Ha d.sat y Z fun W w' σ' r f=>Cc d r f) ?_
 refine X4 f (fun t w d e=>by rw[e];exact Qi (L 6 f rfl d) (X6 rfl)) ?_
 refine X4 (.pointer (some ((⟨b,0,none⟩:Addr).add 1))) (fun w d=>by rw[fa];exact X6 rfl) ?_
 refine Wi (Φ:=fun σ' v=>Sl 4 Ur σ' v m.catches) (fun t w d e=>by rw[e];exact Em d.sat N Y fun W w' σ' r f=>Cc d r f) ?_
 rintro t1 t2 t3 t4 t5 t6 t8 t9 ar E w3 aw e1 e2 e3 e4 ⟨σ5,k5,p⟩ e6 ⟨σ8,k8,s⟩ e9 M ⟨ah,u,k⟩
 subst M
 obtain ⟨σa,ka,J,z⟩:=k5.join k8
 obtain ⟨σ3,D,Q,l2⟩:=ka.join u
 have p:=(p.lift J).lift Q
 have s:=(s.lift z).lift Q
 have k:=k.lift l2
 have a:=a.step D
 have c:=c.step D
 have n:b2≠b:=by omega
 have l:=(g.trans j).trans D
 refine Jy a (by simp) (Wv p) (Qa p) fun w4 V a=>?_
 rw[fa]
 have l:=V.stp l d a.1
 have c:=c.upd V n
 refine Jy a (by simp) (Wv s) (Qa s) fun w5 R a=>?_
 rw[fa]
 have l:=R.stp l d a.1
 have c:=c.upd R n
 refine Jy a (by simp) (Wv k) (Qa k) fun w6 U a=>?_
 have l:=U.stp l d a.1
 have c:=c.upd U n
 refine Sz a rfl ?_
 have O:=H0.mk p s k g4 g5 X
 have q:=N2 A g
 refine Ob c rfl rfl (by rw[List.all_toArray];exact List.all_eq_true.2 (Rep.one O)) fun w7 u7 c=>?_
 have l:=u7.stp l q c.1
 refine V1 c rfl ?_
 exact h t5 t8 E w7 σ3 l O)
theorem X0l {c:Cla} {cs:List Value} (hs:X3 w σ) (hc:V0 σ c cs) (am:Qo c)
 (h: ∀U X mv w' σ',Stp w σ w' σ'→V0 σ' c [S c.name,S c.super,U, .bool c.iface, .bool c.abs, .bool c.fin,X,mv]→K (.agg [S c.name,S c.super,U, .bool c.iface, .bool c.abs, .bool c.fin,X,mv].toArray) w'):Q1 P F.cz [.agg cs.toArray] w K:=Q4T (by
 obtain ⟨U,X,mv,rfl,g1,g2,W,g4,g5⟩:=hc
 obtain ⟨s1,s2,s3,s4⟩:=am
 unfold Tl
 refine En hs fun b w1 σ1 l m f=>?_
 refine N1 m.sat fun V w2 σ2 aj o g=>?_
 have bh:=f.lt
 replace f:=f.step o
 have ar:=o.sat
 have g1:=(g1.up m).up o
 have g2:=(g2.up m).up o
 have W:=(W.up m).up o
 have L: ∀{w':World} (i:Nat) (v:Value),[S c.name,S c.super,U, .bool c.iface, .bool c.abs, .bool c.fin,X,mv][i]? =some v→Hst w2 σ2 w' σ2→w'.cell? ((⟨b,0,none⟩:Addr).add i)=some v:=fun i v R hh=>(f.step hh.stp).cell R
 refine J9 ar ?_
 refine X4 (.pointer (some ((⟨b,0,none⟩:Addr).add 2))) (fun w l=>by rw[fa];exact X6 rfl) ?_
 refine X4 (.pointer (some ((⟨b,0,none⟩:Addr).add 6))) (fun w l=>by rw[fa];exact X6 rfl) ?_
 refine X4 U (fun t w l e=>by rw[e];exact Qi (L 2 U rfl l) (X6 rfl)) ?_
 refine Wi (Φ:=fun σ' v=>Sl 1 U8 σ' v c.like) (fun t w l e=>by rw[e];exact Lb l.sat g1 s1 fun v' w' σ' H R=>Cc l H R) ?_
 refine X4 X (fun t w l e=>by rw[e];exact Qi (L 6 X rfl l) (X6 rfl)) ?_
 refine X4 (.pointer (some ((⟨b,0,none⟩:Addr).add 2))) (fun w l=>by rw[fa];exact X6 rfl) ?_
 refine Wi (Φ:=fun σ' v=>Sl 3 S2 σ' v c.fields) (fun t w l e=>by rw[e];exact Ej l.sat g2 s2 fun v' w' σ' H R=>Cc l H R) ?_
 rintro t6 t9 t7 t8 bm bv aa w3 bq e6 e9 e7 ⟨σ8,k8,f8⟩ bs ao ⟨bg,ah,A⟩
 subst ao
 obtain ⟨σ3,k3,l1,l2⟩:=k8.join ah
 have f8:=f8.lift l1
 have A:=A.lift l2
 have W:=W.up k3
 have f:=f.step k3
 have g:=g.step k3
 have Q:V≠b:=by omega
 have hS:=(m.trans o).trans k3
 refine Jy f (by simp) (Wv f8) (Qa f8) fun w4 u4 f=>?_
 rw[fa]
 have hS:=u4.stp hS l f.1
 have g:=g.upd u4 Q
 refine Jy f (by simp) (Wv A) (Qa A) fun w5 u5 f=>?_
 rw[fa]
 have hS:=u5.stp hS l f.1
 have g:=g.upd u5 Q
 refine Yj f rfl ?_
 refine Q8 W ?_
 refine E7 c.methods.length (fun n a w'=> ∃σ',Stp w σ w' σ'∧SLe σ3 σ'∧V6 w.heap.size T.e 7 H0 σ' w' a (c.methods.take n)∧Y3 σ' w' b [S c.name,S c.super,t8, .bool c.iface, .bool c.abs, .bool c.fin,aa,mv]∧Y3 σ' w' V [S [],S [], .slice none 0 0, .bool false, .bool false, .bool false, .slice none 0 0, .slice none 0 0]∧ ∀k,a.ownBlock=some k→k≠b∧k≠V)
  ⟨σ3,hS,SLe.refl _,V6.nil,f,g,fun k H=>by cases H⟩ fun n a w6 d hn hi=>?_
 obtain ⟨σ6,C,B,ha,f,g,j⟩:=hi
 refine Z1 ?_
 refine Q7 (fun hh=>?_) (fun hh=>?_)
 ·have y:n<c.methods.length:=by simpa using hh
  have Z:c.methods.length≤9223372036854775807:=by omega
  refine N3 (W.lift B) y fun p cs hl u Y=>?_
  refine Y2 C.sat hl u ?_
  refine Y7 C.sat (by rfl) u (Rep.one Y) fun q w7 σ7 r hq=>?_
  refine Y2 r.sat hq u ?_
  refine Q4p r.sat (Rep.up r.le Y) (s4 _ (List.getElem_mem y)) fun pv cv R w8 σ8 J av=>?_
  have M:=(Nxt.of_stp (D:=fun k=>a.ownBlock=some k) r).trans (Nxt.of_stp J)
  have aq:=(ha.up r).up J
  have az:=(f.nx M fun e=>(j _ e).1 rfl).lt
  have ax:=(g.nx M fun e=>(j _ e).2 rfl).lt
  refine Un ((C.trans r).trans J) aq av rfl rfl rfl (by rw[List.length_take];omega) (by rw[List.length_take];omega) fun s v' w9 σ9 z al aw hat=>?_
  refine O5 ?_
  have z:=M.trans z
  refine J4 Z y ⟨σ9,al,B.more z.le,?_,f.nx z fun e=>(j _ e).1 rfl,g.nx z fun e=>(j _ e).2 rfl,?_⟩
  ·rw[List.take_add_one,List.getElem?_eq_getElem y];exact aw
  ·intro k H
   rcases hat with hat | hat
   ·exact j k (hat▸H)
   ·have:=hat k H
    constructor<;>omega
 ·have y: ¬n<c.methods.length:=by simpa using hh
  rw[List.take_of_length_le (by omega)] at ha
  obtain ⟨σ7,N,O,ae,E⟩:=ha.keep C
  have f:Y3 σ7 w6 b _:=⟨(E b fun e=>(j b e.symm).1 rfl).trans f.1,f.2⟩
  have g:Y3 σ7 w6 V _:=⟨(E V fun e=>(j V e.symm).2 rfl).trans g.1,g.2⟩
  rw[fa]
  refine Jy f (by simp) (Wv O) (Qa O) fun w7 u7 f=>?_
  have N:=u7.stp N l f.1
  have g:=g.upd u7 Q
  refine Sz f rfl ?_
  have Y:=V0.mk (f8.lift (B.more ⟨ae⟩)) (A.lift (B.more ⟨ae⟩)) O g4 g5
  have ab:=N2 aj m
  refine Ob g rfl rfl (by rw[List.all_toArray];exact List.all_eq_true.2 (Rep.one Y)) fun w8 u8 g=>?_
  have an:=u8.stp N ab g.1
  refine V1 g rfl ?_
  exact h t8 aa a w8 σ7 an Y)
end Go.Proofs.YtjdiakhipmggjaaGreatDoor

namespace Go.Hm
open Go.Kd
def C7 {α:Type}:Nat→List α→List α
 | 0,xs=>xs
 | i+1,xs=>match (C7 i xs)[i]?,(C7 i xs)[xs.length-1-i]? with
  | some a,some b=>((C7 i xs).set i b).set (xs.length-1-i) a
  | _,_=>C7 i xs
theorem Q0m {α:Type} (xs:List α): ∀i,2*i≤xs.length→(C7 i xs).length=xs.length∧ ∀k,k<xs.length→(C7 i xs)[k]? =if k<i∨xs.length-1-k<i then xs[xs.length-1-k]? else xs[k]?
 | 0,_=>⟨rfl,fun k m=>by simp[C7]⟩
 | i+1,h=>by
  obtain ⟨g,b⟩:=Q0m xs i (by omega)
  have a:=b i (by omega)
  have d:=b (xs.length-1-i) (by omega)
  rw[if_neg (by omega)] at a d
  have n:i<xs.length:=by omega
  have f:xs.length-1-i<xs.length:=by omega
  rw[List.getElem?_eq_getElem (l:=xs) n] at a
  rw[List.getElem?_eq_getElem (l:=xs) f] at d
  simp only[C7,a,d]
  refine ⟨by simp[g],fun k m=>?_⟩
  by_cases e:k=xs.length-1-i
  ·subst e
   rw[List.getElem?_set_self (by simp[g];omega),if_pos (by omega)]
   rw[show xs.length-1-(xs.length-1-i)=i by omega,List.getElem?_eq_getElem (by omega)]
  ·rw[List.getElem?_set_ne (by omega)]
   by_cases c:k=i
   ·subst c
    rw[List.getElem?_set_self (by omega),if_pos (by omega),List.getElem?_eq_getElem (by omega)]
   ·rw[List.getElem?_set_ne (by omega),b k m]
    by_cases j:k<i∨xs.length-1-k<i
    ·rw[if_pos j,if_pos (by omega)]
    ·rw[if_neg j,if_neg (by omega)]
theorem Q99 {α:Type} (xs:List α) (i:Nat) (c:2*i≤xs.length) (f:xs.length≤2*i+1):C7 i xs=xs.reverse:=by
 obtain ⟨e,d⟩:=Q0m xs i c
 apply List.ext_getElem?
 intro k
 by_cases b:k<xs.length
 ·rw[d k b,List.getElem?_reverse b]
  by_cases a:k<i∨xs.length-1-k<i
  ·rw[if_pos a]
  ·rw[if_neg a];congr 1;omega
 ·rw[List.getElem?_eq_none (by omega),List.getElem?_eq_none (by simp;omega)]
theorem Pg (L:La): ∀(f:Nat) (n:X0),(I5 L f n).length≤f
 | 0,_=>by simp[I5]
 | f+1,n=>by
  simp only[I5]
  split
  ·simp
  ·have:=Pg L f (by rename_i c _;exact c.super)
   simp only[List.length_cons];rename_i c _;have:=Pg L f c.super;omega
theorem Bb (l:List Cla) (n:X0):(chain l n).length≤l.length+1:=Pg _ _ _
theorem Bc {l:List Cla} {n:X0} {c:Cla} (h:c∈chain l n):c∈l:=by
 have key: ∀(f:Nat) (n:X0),c∈I5 (lk l) f n→c∈l:=by
  intro f
  induction f with
  | zero=>intro n h;simp[I5] at h
  | succ f a=>
   intro n h
   simp only[I5] at h
   split at h
   ·simp at h
   ·rename_i d b
    rcases List.mem_cons.1 h with rfl | h
    ·exact (V3 b).2.1
    ·exact a _ h
 exact key _ _ h
theorem Vu {α β:Type} (f:α→List β) (k:Nat): ∀(xs:List α),(∀x∈xs,(f x).length≤k)→(xs.flatMap f).length≤xs.length*k
 | [],_=>by simp
 | x::r,h=>by
  have b:=h x (by simp)
  have c:=Vu f k r fun y a=>h y (by simp[a])
  simp only[List.flatMap_cons,List.length_append,List.length_cons,Nat.add_mul];omega
end Go.Hm

namespace Go.Hm
open Go.Kd
def Y4 (l:List Cla) (i:Nat):X0:=(l.getD i Cla.zero).name
theorem Yh {l:List Cla} (b:A4 l) {i:Nat} (a:i<l.length):lk l (Y4 l i)=some (l.getD i Cla.zero):=by
 have e:l.getD i Cla.zero=l[i]:=by rw[List.getD_eq_getElem?_getD,List.getElem?_eq_getElem a];rfl
 unfold Y4
 rw[e];exact b.lk (List.getElem_mem a)
theorem S8 {l:List Cla} {u:X0} {j:Nat} (h:Z2 l u=some j):j<l.length∧Y4 l j=u:=by
 obtain ⟨a,b,_⟩:=List.findIdx?_eq_some_iff_getElem.1 h
 refine ⟨a,?_⟩
 unfold Y4
 rw[List.getD_eq_getElem?_getD,List.getElem?_eq_getElem a]
 simpa using b
theorem Q1s {l:List Cla} (f:Ji l) (g:A4 l) {i j:Nat} (b:i<l.length) {u:X0} (e:u∈U3 (l.getD i Cla.zero)) (a:Z2 l u=some j):P1 l (Y4 l j)<P1 l (Y4 l i):=by
 obtain ⟨c,d,_⟩:=Zr a
 rw[(S8 a).2]
 exact Xw f (Yh g b) e d
theorem Ff {α β:Type} {f g:β→α→β}: ∀(xs:List α) (b:β),(∀b x,x∈xs→f b x=g b x)→xs.foldl f b=xs.foldl g b
 | [],_,_=>rfl
 | x::r,b,h=>by
  rw[List.foldl_cons,List.foldl_cons,h b x (by simp)]
  exact Ff r _ fun b y a=>h b y (by simp[a])
theorem Yn {l:List Cla} {frm:Nat} (f:Nat) (a:List Nat) {i:Nat} (h:i<frm):A7 l frm f a i=a:=by
 cases f<;>simp[A7,h]
theorem Q9L {l:List Cla} (p:Ji l) (o:A4 l) {frm:Nat} (d:0<frm): ∀(f g:Nat) (a:List Nat) (i:Nat),i<l.length→P1 l (Y4 l i)<f→P1 l (Y4 l i)<g→A7 l frm f a i=A7 l frm g a i:=by
 intro f
 induction f with
 | zero=>intro g a i _ h;omega
 | succ f k=>
  intro g a i n q r
  obtain ⟨g,rfl⟩: ∃m,g=m+1:=⟨g-1,by omega⟩
  simp only[A7]
  split
  ·rfl
  ·split
   ·rfl
   ·congr 1
    refine Ff _ _ fun b u e=>?_
    cases c:Z2 l u with
    | none=>simp only[Option.getD_none];rw[Yn f b d,Yn g b d]
    | some j=>
     simp only[Option.getD_some]
     have:=Q1s p o n e c
     exact k g b j (S8 c).1 (by omega) (by omega)
def Xt (l:List Cla) (frm:Nat) (a:List Nat) (i:Nat):List Nat:=A7 l frm (l.length+1) a i
theorem Q7K {l:List Cla} (e:Ji l) (f:A4 l) {frm:Nat} (c:0<frm) (a:List Nat) {i:Nat} (g:i<l.length):Xt l frm a i=if i<frm then a else if i∈a then a else
 ((U3 (l.getD i Cla.zero)).foldl (fun a n=>Xt l frm a ((Z2 l n).getD 0)) a)++[i]:=by
 have k:=Q1v l (Y4 l i)
 unfold Xt
 rw[A7]
 split
 ·rfl
 ·split
  ·rfl
  ·congr 1
   refine Ff _ _ fun b u h=>?_
   cases d:Z2 l u with
   | none=>simp only[Option.getD_none];rw[Yn _ b c,Yn _ b c]
   | some j=>
    simp only[Option.getD_some]
    have:=Q1s e f g h d
    exact Q9L e f c _ _ b j (S8 d).1 (by omega) (by omega)
theorem Lw {α:Type} {p:Nat→Prop} {f:List Nat→α→List Nat}: ∀(xs:List α) (b:List Nat),(∀b x,x∈xs→ ∀y∈f b x,y∈b∨p y)→ ∀y∈xs.foldl f b,y∈b∨p y
 | [],b,_=>fun y a=> .inl a
 | x::r,b,h=>fun y a=>by
  rw[List.foldl_cons] at a
  rcases Lw r _ (fun b z c=>h b z (by simp[c])) y a with h1 | h1
  ·exact h b x (by simp) y h1
  ·exact .inr h1
theorem Q5l {l:List Cla} (o:A4 l) {frm:Nat} (s:0<frm): ∀(f:Nat) (a:List Nat) (i:Nat),i<l.length→ ∀y∈A7 l frm f a i,y∈a∨(y<l.length∧(y=i∨Wr (lk l) (Y4 l i) (Y4 l y))):=by
 intro f
 induction f with
 | zero=>intro a i _ y hy;exact .inl hy
 | succ f r=>
  intro a i g y hy
  simp only[A7] at hy
  split at hy
  ·exact .inl hy
  ·split at hy
   ·exact .inl hy
   ·rcases List.mem_append.1 hy with hy | hy
    ·refine Lw (p:=fun y=>y<l.length∧(y=i∨Wr (lk l) (Y4 l i) (Y4 l y))) _ _ (fun b u m y hy=>?_) y hy
     cases e:Z2 l u with
     | none=>
      rw[e] at hy
      simp only[Option.getD_none] at hy
      rw[Yn f b s] at hy
      exact .inl hy
     | some j=>
      rw[e] at hy
      simp only[Option.getD_some] at hy
      obtain ⟨k,d⟩:=S8 e
      obtain ⟨c,q,_⟩:=Zr e
      rcases r b j k y hy with h | ⟨n,rfl | h2⟩
      ·exact .inl h
      ·exact .inr ⟨n, .inr ⟨_,Yh o g,u,m,by rw[d];exact .refl q⟩⟩
      ·exact .inr ⟨n, .inr ⟨_,Yh o g,u,m,by rw[←d];exact h2.reach⟩⟩
    ·simp at hy;subst hy;exact .inr ⟨g, .inl rfl⟩
theorem Q3u {α:Type} {q:List Nat→Prop} {f:List Nat→α→List Nat}: ∀(xs:List α) (b:List Nat),(∀b x,x∈xs→q b→q (f b x))→q b→q (xs.foldl f b)
 | [],b,_,h=>h
 | x::r,b,a,h=>by
  rw[List.foldl_cons]
  exact Q3u r _ (fun b z c=>a b z (by simp[c])) (a b x (by simp) h)
def Few (l:List Cla) (a:List Nat):Prop:=a.Nodup∧ ∀y∈a,y<l.length
theorem Few.len {l:List Cla} {b:List Nat} (h:Few l b):b.length≤l.length:=by
 have key: ∀(n:Nat) (b:List Nat),b.Nodup→(∀y∈b,y<n)→b.length≤n:=by
  intro n
  induction n with
  | zero=>
   intro b _ h
   cases b with
   | nil=>simp
   | cons a r=>have:=h a (by simp);omega
  | succ n j=>
   intro b f h
   have i:=j (b.filter (fun y=> !decide (y=n))) (f.sublist List.filter_sublist) (fun y d=>by
    have:=List.mem_filter.1 d
    have k:=h y this.1
    have o:y≠n:=by simpa using this.2
    omega)
   have k:b.length≤(b.filter (fun y=> !decide (y=n))).length+1:=by
    clear i h
    induction b with
    | nil=>simp
    | cons a r c=>
     obtain ⟨m,g⟩:=List.nodup_cons.1 f
     by_cases e:a=n
     ·subst e
      have:r.filter (fun y=> !decide (y=a))=r:=List.filter_eq_self.2 fun y d=>by simp;rintro rfl;exact m d
      simp[this]
     ·have:=c g
      simp[e];exact this
   omega
 exact key _ _ h.1 h.2
theorem Is {l:List Cla} (v:Ji l) (s:A4 l) {frm:Nat} (r:0<frm): ∀(f:Nat) (d:List Nat) (i:Nat),i<l.length→Few l d→Few l (A7 l frm f d i):=by
 intro f
 induction f with
 | zero=>intro d i _ h;exact h
 | succ f C=>
  intro d i A h
  simp only[A7]
  split
  ·exact h
  ·split
   ·exact h
   ·rename_i w
    have z:Few l ((U3 (l.getD i Cla.zero)).foldl (fun d n=>A7 l frm f d ((Z2 l n).getD 0)) d):=by
     refine Q3u _ _ (fun b u o m=>?_) h
     cases e:Z2 l u with
     | none=>simp only[Option.getD_none];rw[Yn f b r];exact m
     | some j=>exact C b j (S8 e).1 m
    have q:i∉(U3 (l.getD i Cla.zero)).foldl (fun d n=>A7 l frm f d ((Z2 l n).getD 0)) d:=by
     intro g
     rcases Lw (p:=fun y=>Wr (lk l) (Y4 l i) (Y4 l y)) _ _ (fun b u o y hy=>by
      cases e:Z2 l u with
      | none=>
       rw[e] at hy
       simp only[Option.getD_none] at hy
       rw[Yn f b r] at hy
       exact .inl hy
      | some j=>
       rw[e] at hy
       simp only[Option.getD_some] at hy
       obtain ⟨t,k⟩:=S8 e
       obtain ⟨c,B,_⟩:=Zr e
       rcases Q5l s r f b j t y hy with h | ⟨h1,rfl | h2⟩
       ·exact .inl h
       ·exact .inr ⟨_,Yh s A,u,o,by rw[k];exact .refl B⟩
       ·exact .inr ⟨_,Yh s A,u,o,by rw[←k];exact h2.reach⟩) i g with h1 | h1
     ·exact w h1
     ·exact v _ h1
    refine ⟨?_,fun y hy=>?_⟩
    ·rw[List.nodup_append]
     exact ⟨z.1,by simp,by rintro a v b m rfl;simp at m;subst m;exact q v⟩
    ·rcases List.mem_append.1 hy with hy | hy
     ·exact z.2 y hy
     ·simp at hy;omega
end Go.Hm

namespace Go.Emb
open Go.RowKit Go.Hm
variable {P : Program} {w w0 w1 w' w'' : World} {K : Value → World → Prop} {σ σ0 σ1 σ' : Q6}
def Vw (sz:Nat) (v:Value) (i:Nat):Addr:=match v with
 | .slice (some b) _ _=>b.add (i*sz)
 | _=>⟨0,0,none⟩
section
variable {α : Type} {R : Q6 → α → List Value → Prop} {sz : Nat} {v : Value} {xs : List α}
theorem Sl.el (h:Sl sz R σ v xs) {i:Nat} (d:i<xs.length): ∃cs,Z4 σ (Vw sz v i) cs∧cs.length=sz∧R σ xs[i] cs:=by
 obtain ⟨a,c,rfl,m,l,e,f⟩:=h
 cases a with
 | none=>have:=e rfl;omega
 | some b=>
  obtain ⟨cs,k,g,j⟩:=(f b rfl).2 i xs[i] (by simp[d])
  exact ⟨cs,k,g,j⟩
theorem Y1 {t e:TypeId} {c:Nat} {z:Value} [TS P t e] [TZ P e sz c z] (h:Sl sz R σ v xs) {i:Nat} (k:i<xs.length) (g:K (.pointer (some (Vw sz v i))) w):indexAddr P t v (I i) w K:=by
 obtain ⟨a,d,rfl,m,j,f,l⟩:=h
 cases a with
 | none=>have:=f rfl;omega
 | some b=>
  rw[Cj (by omega) (by omega)]
  simpa [Vw] using g
theorem Sl.elS {xs:List Kd.X0} (h:Sl 1 U8 σ v xs) {i:Nat} (b:i<xs.length):Z4 σ (Vw 1 v i) [S xs[i]]∧xs[i].length≤U1:=by
 obtain ⟨cs,a,d,rfl,c⟩:=h.el b;exact ⟨a,c⟩
theorem Sl.elF {xs:List Fld} (h:Sl 3 S2 σ v xs) {i:Nat} (b:i<xs.length):Z4 σ (Vw 3 v i) [S xs[i].name,S xs[i].kind, .bool xs[i].tr]∧S2 σ xs[i] [S xs[i].name,S xs[i].kind, .bool xs[i].tr]:=by
 obtain ⟨cs,a,d,rfl,c⟩:=h.el b;exact ⟨a,rfl,c⟩
theorem Sl.elI {xs:List Ins} (h:Sl 3 Qr σ v xs) {i:Nat} (b:i<xs.length):Z4 σ (Vw 3 v i) [S xs[i].op,I xs[i].n,S xs[i].s]∧Qr σ xs[i] [S xs[i].op,I xs[i].n,S xs[i].s]:=by
 obtain ⟨cs,a,d,rfl,c⟩:=h.el b;exact ⟨a,rfl,c⟩
theorem Sl.elK {xs:List Cat} (h:Sl 4 Ur σ v xs) {i:Nat} (b:i<xs.length):Z4 σ (Vw 4 v i) [I xs[i].frm,I xs[i].to,I xs[i].at_,S xs[i].cls]∧Ur σ xs[i] [I xs[i].frm,I xs[i].to,I xs[i].at_,S xs[i].cls]:=by
 obtain ⟨cs,a,d,rfl,c⟩:=h.el b;exact ⟨a,rfl,c⟩
theorem Sl.conv {α β:Type} {R:Q6→α→List Value→Prop} {R':Q6→β→List Value→Prop} {sz:Nat} {v:Value} {xs:List α} {ys:List β} (h:Sl sz R σ v xs) (e:ys.length=xs.length) (m: ∀i (g:i<xs.length) (s:i<ys.length) cs,R σ xs[i] cs→R' σ ys[i] cs):Sl sz R' σ v ys:=by
 obtain ⟨a,d,rfl,o,l,q,f⟩:=h
 refine ⟨a,d,by rw[e],by rw[e];exact o,l,q,fun b j=>⟨fun t=>(f b j).1 (by omega),fun i x n=>?_⟩⟩
 obtain ⟨g,rfl⟩:=List.getElem?_eq_some_iff.1 n
 have c:i<xs.length:=by omega
 obtain ⟨cs,p,k,r⟩:=(f b j).2 i xs[i] (List.getElem?_eq_getElem c)
 exact ⟨cs,p,k,m i c g cs r⟩
theorem Sl.elM {xs:List Hm.Met} (h:Sl 7 H0 σ v xs) {i:Nat} (e:i<xs.length): ∃pv b a,Z4 σ (Vw 7 v i) [S xs[i].name,pv,S xs[i].result, .bool xs[i].abs,I xs[i].locals,b,a]∧H0 σ xs[i] [S xs[i].name,pv,S xs[i].result, .bool xs[i].abs,I xs[i].locals,b,a]:=by
 obtain ⟨cs,c,f,pv,b,a,rfl,d⟩:=h.el e;exact ⟨pv,b,a,c,pv,b,a,rfl,d⟩
theorem Sl.elC {xs:List Cla} (h:Sl 8 V0 σ v xs) {i:Nat} (d:i<xs.length): ∃b a mv,Z4 σ (Vw 8 v i) [S xs[i].name,S xs[i].super,b, .bool xs[i].iface, .bool xs[i].abs, .bool xs[i].fin,a,mv]∧V0 σ xs[i] [S xs[i].name,S xs[i].super,b, .bool xs[i].iface, .bool xs[i].abs, .bool xs[i].fin,a,mv]:=by
 obtain ⟨cs,c,f,b,a,mv,rfl,e⟩:=h.el d;exact ⟨b,a,mv,c,b,a,mv,rfl,e⟩
end
theorem J3 {c:World→World→Prop} {A a:(Value→World→Prop)→Prop} {V:Value} (h:A (fun v _=>V=v)) (b:a (fun v _=>V=v)):Q4 c A a:=H2 _ (fun _ _ _ h _=>h) h b
theorem M5 {v V:Value} (h:V=v):dk (fun w w'=>Below w.heap.size w w') (fun v _=>V=v) w v w:=⟨Below.refl _ _,h⟩
theorem R8 {v V:Value} (a:Below w.heap.size w w') (h:V=v):dk (fun w w'=>Below w.heap.size w w') (fun v _=>V=v) w v w':=⟨a,h⟩
theorem F4 {c b:Bool} {V:Value} {a:World→(Value→World→Prop)→Prop} (h:c=b→a w (dk (fun w w'=>Below w.heap.size w w') (fun v _=>V=v) w)):Q0 (.bool c) b w a (dk (fun w w'=>Below w.heap.size w w') (fun v _=>(if c=b then V else undef)=v) w):=by
 by_cases e:c=b
 ·simp only[e,if_true]
  subst e
  have:=h rfl
  cases c
  ·rw[W7];exact this
  ·rw[W5];exact this
 ·have d:c= !b:=by cases c<;>cases b<;>simp_all
  rw[if_neg e];subst d
  cases b
  ·rw[Bool.not_false,S4];exact ⟨Below.refl _ _,rfl⟩
  ·rw[Bool.not_true,E4];exact ⟨Below.refl _ _,rfl⟩
theorem Qe {p:Prop} (hq:p:=by intros;(repeat (rename_i hx;subst hx));(repeat' (first | (with_reducible exact M5 rfl) | (with_reducible exact R8 (Stp.bel (by (repeat (first | exact Stp.refl (by (first | assumption | exact Stp.sat (by assumption) | exact Hst.sat (by assumption))) | assumption | refine Stp.trans ?_ (by first | assumption | exact Hst.stp (by assumption)))))) rfl) | (with_reducible intro _) | (simp only[↓M2,M2,Mb,reduceIte]) | (with_reducible show Q2 _ _ _ _ _;first | refine X7 aS aL aR ?_ | refine Y2 aS aL aR ?_ | refine ld aS aL aR ?_) | (with_reducible show indexAddr _ _ _ _ _ _;refine Y1 aL au ?_) | (with_reducible show X2 _ _ _ _ _ _ _ _;refine Q8 aL ?_) | (with_reducible show F2 _ _ _ _ _ _;refine Z9 aR ?_) | (with_reducible show pick _ _ _ _ _ _;refine L8 ?_) | (apply F4;intro hh;(try simp only[hh,reduceIte,↓M2,M2,Mb,reduceIte]))));done):p:=hq
end Go.Emb

namespace Go.Emb
open Go.RowKit Go.Hm
variable {P : Program} {w w0 w1 w' w'' : World} {K : Value → World → Prop} {σ σ0 σ1 σ' : Q6}
section
variable {α : Type} {R : Q6 → α → List Value → Prop} {B sz : Nat} {e : TypeId} {v u : Value} {xs ys : List α}
def Emp (v:Value):Prop:= ∃a,v= .slice a 0 0
theorem Q7A {t r:TypeId} {q:Nat} {z:Value} {cs:List Bool} [ts:TS P t e] [tz:TZ P e sz q z] [hr:Rep R] (U:Stp w0 σ0 w σ) (ha:V6 w0.heap.size e sz R σ w v []) (hv:Emp v) (N:X3 w σ') (X:Sl sz R σ' u ys) (hR: ∀x cs,R σ' x cs→R σ x cs) (W:(z.cells.size==sz&&decide (0<sz))=true)
 (hb:ys.length*q≤140737488355328) (hm:ys.length≤1000000000000)
 (h: ∀l w',Stp w σ w' σ→V6 w0.heap.size e sz R σ w' l ys→K l w'):X2 P .append [t,t] r cs [v,u] w K:=by
 obtain ⟨j,rfl⟩:=hv
 have J:=U.sat
 obtain ⟨a,d,c,rfl,n1,s,n3,n4,n5⟩:=X.cells N
 obtain ⟨i,hi,H,Q,o⟩:=tz.info
 simp only[Bool.and_eq_true,beq_iff_eq,decide_eq_true_eq] at W
 obtain ⟨L,ap⟩:=W
 have g:Src P i.size t (.slice a ys.length d) ys.length c w:=by
  cases a with
  | some b=>exact Src.ofSlice w ts.h b ys.length d c (by rw[H];exact s) (n3 b rfl) n4
  | none=>
   have C:ys.length=0:=by
    obtain ⟨V,ab,e',q1,_,q3,_⟩:=X;injection e' with e1 e2 e3;have:=n1 rfl;omega
   have E:c=[]:=List.eq_nil_of_length_eq_zero (by rw[s,C];simp)
   subst E
   rw[C];exact Src.ofNil w ts.h d
 have y: ∀l w',(Builtin.append_ #[t,t] r #[.slice j 0 0, .slice a ys.length d]).run P w= .ok l w'→Stp w σ w' σ→V6 w0.heap.size e sz R σ w' l ys→X2 P .append [t,t] r cs [.slice j 0 0, .slice a ys.length d] w K:=by
  intro l w' f M hq
  have n:(builtin .append #[t,t] r cs.toArray #[.slice j 0 0, .slice a ys.length d]).run P w= .ok (.value l) w':=by
   simp[builtin,f]
  unfold X2
  rw[T9];unfold P5
  rw[n]
  exact h l w' M hq
 by_cases C:ys=[]
 ·subst C
  have E:c=[]:=List.eq_nil_of_length_eq_zero (by simpa using s)
  subst E
  refine y (.slice j 0 0) w ?_ (Stp.refl J) ha
  have Y:=g.len w
  have p:=g.cells
  simp only[List.length_nil] at Y p⊢
  cases j<;>simp[Builtin.append_,run_underlying ts.h,sizeOf,typeInfo,hi,Y,p,storeCells]
 ·have ae:0<ys.length:=List.length_pos_iff.2 C
  have m:(Builtin.firstCells i.size 0 (.slice j 0 0)).run P w.drew= .ok (#[]:Array Value) w.drew:=by
   cases j with
   | none=>exact run_firstCells_none w.drew i.size 0 0 0
   | some V=>exact run_firstCells_some w.drew i.size 0 V 0 0 [] (by simp) (by intro _ _ h';simp at h')
  have Z:0<0+ys.length:=by omega
  have f:=run_append_grow_src (P:=P) w t t r e i z ts.h hi o j 0 0 [] m (.slice a ys.length d) ys.length c g Z (by omega) (growslice_fits Z (by rw[Q,Nat.zero_add];exact hb))
  simp only[Nat.zero_add] at f
  have D:=grownCap_le_maxLen w ys.length 0 e (by simp only[maxLen];omega)
  have O:=grownCap_ge w ys.length 0 e
  refine y _ _ f (Stp.of_below J ((Below.refl _ _).drew.alloc (Nat.le_refl _) _)) ⟨c,⟨s, .inr ⟨w.heap.size,_,_,rfl,U.bel.size,heap_alloc_new w.drew _,O,D,?_,?_⟩⟩,?_,fun i x hx=>hR _ _ (n5 i x hx)⟩
  ·simp only[List.nil_append]
   rw[Array.size_append,List.size_toArray,s,size_zeroCells,L,←Nat.add_mul]
   congr 1;omega
  ·simp only[List.nil_append]
   rw[Array.toList_append]
   rw[List.take_append_of_le_length (by simp only[List.toList_toArray];omega),List.take_of_length_le (by simp only[List.toList_toArray];omega)]
  ·intro k M;cases M;exact J.none (Nat.le_refl _)
theorem X3e {t l:TypeId} {a:Nat} {z:Value} {cs:List Bool} [ts:TS P t e] [tz:TZ P e sz a z] [hr:Rep R] (b:Stp w0 σ0 w σ) (k:V6 w0.heap.size e sz R σ w v []) (d:Emp v) (j:Sl sz R σ u ys) (g:(z.cells.size==sz&&decide (0<sz))=true)
 (f:ys.length*a≤140737488355328) (i:ys.length≤1000000000000)
 (h: ∀c w',Stp w σ w' σ→V6 w0.heap.size e sz R σ w' c ys→K c w'):X2 P .append [t,t] l cs [v,u] w K:=
 Q7A b k d b.sat j (fun _ _ h=>h) g f i h
end
def X0N {α:Type} (w0:World) (σ:Q6) (e:TypeId) (sz:Nat) (R:Q6→α→List Value→Prop) (xs:List α) (v:Value) (w':World):Prop:=Stp w0 σ w' σ∧V6 w0.heap.size e sz R σ w' v xs
def Q8Q {α:Type} (w0:World) (σ:Q6) (e:TypeId) (sz:Nat) (R:Q6→α→List Value→Prop) (v:Value) (w':World):Prop:=Stp w0 σ w' σ∧V6 w0.heap.size e sz R σ w' v ([]:List α)∧Emp v
section
variable {α : Type} {R : Q6 → α → List Value → Prop} {sz : Nat} {e : TypeId} {v u : Value} {xs ys : List α} {A rest : (Value → World → Prop) → Prop}
theorem Q1A [Rep R] (xs:List α) (h:A (X0N w σ e sz R xs)) (c:rest (X0N w σ e sz R xs)):Q4 (fun w w'=>Below w.heap.size w w') A rest:=
 H2 _ (fun _ _ _ ⟨a,d⟩ b=>⟨a.trans (Stp.of_below a.sat b),d.up (Stp.of_below a.sat b)⟩) h c
theorem X2r [Rep R] (h:A (Q8Q w σ e sz R)) (c:rest (Q8Q w σ e sz R)):Q4 (fun w w'=>Below w.heap.size w w') A rest:=
 H2 _ (fun _ _ _ ⟨a,f,d⟩ b=>⟨a.trans (Stp.of_below a.sat b),f.up (Stp.of_below a.sat b),d⟩) h c
theorem Q3i (b:Hst w σ w1 σ) (h:Stp w1 σ w' σ) (a:V6 w.heap.size e sz R σ w' v xs):dk (fun w w'=>Below w.heap.size w w') (X0N w σ e sz R xs) w1 v w':=⟨h.bel,b.stp.trans h,a⟩
theorem X2C (c:Hst w σ w1 σ) (h:Stp w1 σ w' σ) (b:V6 w.heap.size e sz R σ w' v ([]:List α)) (a:Emp v):dk (fun w w'=>Below w.heap.size w w') (Q8Q w σ e sz R) w1 v w':=⟨h.bel,c.stp.trans h,b,a⟩
theorem Hb {t:TypeId} {c:Nat} {z:Value} [ts:TS P t e] [tz:TZ P e sz c z] (R:Q6→α→List Value→Prop) (b:Stp w0 σ0 w σ) (i:0<sz)
 (h: ∀v w',Stp w σ w' σ→V6 w0.heap.size e sz R σ w' v ([]:List α)→Emp v→K v w'):buildSlice P t 0 [] w K:=by
 obtain ⟨cells,d,g⟩:=Hy (P:=P) (t:=t) (sz:=sz) (e:=e) [] (by simp) (by simp) w
 unfold buildSlice
 have a:(Instr.buildSlice t 0 ([]:List (Nat×Value)).toArray).run P w=_:=d
 rw[X9 a]
 refine h _ _ (Stp.own b.sat _) ⟨[],⟨by simp, .inr ⟨_,_,cells,rfl,b.bel.size,heap_alloc_new w _,by simp,by simp[maxLen],?_,by simp⟩⟩,?_,by simp⟩ ⟨_,rfl⟩
 ·have:cells.size=0:=by rw[←Array.length_toList,g];rfl
  simp[this]
 ·intro k f;cases f;exact b.sat.none (Nat.le_refl _)
theorem Q2Q [Rep R] {t:TypeId} {a:Nat} {z:Value} [ts:TS P t e] [tz:TZ P e sz a z] (b:(decide (0<sz))=true) (d:rest (Q8Q w σ e sz R)):
 Q4 (fun w w'=>Below w.heap.size w w') (fun φ=> ∀w1:World,Hst w σ w1 σ→buildSlice P t 0 [] w1 (dk (fun w w'=>Below w.heap.size w w') φ w1)) rest:=
 X2r (fun w1 c=>Hb R c.stp (by simpa using b) fun v w' f g h=>X2C c f g h) d
end
theorem V0.parts {c:Cla} {a b j d e f g mv:Value} (h:V0 σ c [a,b,j,d,e,f,g,mv]):Sl 1 U8 σ j c.like∧Sl 3 S2 σ g c.fields∧Sl 7 H0 σ mv c.methods∧c.name.length≤U1∧c.super.length≤U1:=by
 obtain ⟨_,_,_,i,k⟩:=h
 simp only[List.cons.injEq,and_true] at i
 obtain ⟨_,_,rfl,_,_,_,rfl,rfl⟩:=i
 exact k
theorem H0.parts {m:Hm.Met} {a pv b d e f c:Value} (h:H0 σ m [a,pv,b,d,e,f,c]):Sl 1 U8 σ pv m.params∧Sl 3 Qr σ f m.code∧Sl 4 Ur σ c m.catches∧m.name.length≤U1∧m.result.length≤U1∧Yw m.locals:=by
 obtain ⟨_,_,_,g,i⟩:=h
 simp only[List.cons.injEq,and_true] at g
 obtain ⟨_,rfl,_,_,_,rfl,rfl⟩:=g
 exact i
end Go.Emb

namespace Go.Emb
open Go.RowKit
variable {P : Program} {w : World} {K : Value → World → Prop}
theorem X2f {d:Nat} {xs ys:Array Value}:(Op.eqFields d xs ys []).run P w= .ok true w:=by simp[Op.eqFields]
theorem Pn {d:Nat} {xs ys:Array Value} {f:Field} {a:List Field} {u v:Value} {b c:Bool} (h:f.name≠ "_") [tg:TG P f.type false] (j:xs[f.offset]? =some u) (g:ys[f.offset]? =some v)
 (e:(Op.equalIn d f.type u v).run P w= .ok b w) (i:(Op.eqFields d xs ys a).run P w= .ok c w):(Op.eqFields d xs ys (f::a)).run P w= .ok (b&&c) w:=by
 simp only[Op.eqFields,if_pos h]
 simp[part,Yd tg,j,g,e]
 cases b
 ·simp
 ·simp[i]
theorem X2n {d:Nat} {t:TypeId} (c:P.underlying t=some .string) (a b:List UInt8):(Op.equalIn (d+1) t (S a) (S b)).run P w= .ok (decide (a=b)) w:=by
 simp[Op.equalIn,run_underlying c,Hc]
theorem Q44 {d:Nat} {t:TypeId} {k c:IntKind} (f:P.underlying t=some (.int k)) (a b:Int):(Op.equalIn (d+1) t (.int c a) (.int c b)).run P w= .ok (decide (a=b)) w:=by
 simp[Op.equalIn,run_underlying f]
 by_cases e:a=b<;>simp[e]
theorem X1C {t:TypeId} {c a:Operand} {xs ys:List Value} {b:Bool} (f:P.underlying t=some (.struct (P.fieldsOf t))) (i:P.stoodInHeld t=false) (d:P.eqGuardType P.depth t=false)
 (g:(Op.eqFields 9999 xs.toArray ys.toArray (P.fieldsOf t).toList).run P w= .ok b w) (h:K (.bool (!b)) w):Q3 P .neq t c a (.agg xs.toArray) (.agg ys.toArray) w K:=by
 have e:Q3 P .neq t c a (.agg xs.toArray) (.agg ys.toArray) w K=K (.bool (!b)) w:=X9 (by
  simp only[Sem.run_bind,run_eqGuard_agg w .neq t c a xs.toArray ys.toArray d,Result.andThen_ok]
  rw[run_neq_struct,run_equalIn_struct w 9999 t _ _ f i,g];rfl)
 rw[e];exact h
theorem X2h {t:TypeId} {c a:Operand} {xs ys:List Value} {b:Bool} (f:P.underlying t=some (.struct (P.fieldsOf t))) (i:P.stoodInHeld t=false) (d:P.eqGuardType P.depth t=false)
 (g:(Op.eqFields 9999 xs.toArray ys.toArray (P.fieldsOf t).toList).run P w= .ok b w) (h:K (.bool b) w):Q3 P .eql t c a (.agg xs.toArray) (.agg ys.toArray) w K:=by
 have e:Q3 P .eql t c a (.agg xs.toArray) (.agg ys.toArray) w K=K (.bool b) w:=X9 (by
  simp only[Sem.run_bind,run_eqGuard_agg w .eql t c a xs.toArray ys.toArray d,Result.andThen_ok]
  rw[run_eql_struct,run_equalIn_struct w 9999 t _ _ f i,g];rfl)
 rw[e];exact h
end Go.Emb
namespace Go.Proofs.YtjdiakhipmggjaaGreatDoor
open Go.Emb Go.RowKit Go.Kd Go.Hm
variable {w : World} {K : Value → World → Prop} {σ : Q6}
end Go.Proofs.YtjdiakhipmggjaaGreatDoor

namespace Go.Proofs.YtjdiakhipmggjaaGreatDoor
open Go.Emb Go.RowKit Go.Kd
variable {w : World} {K : Value → World → Prop}
end Go.Proofs.YtjdiakhipmggjaaGreatDoor
