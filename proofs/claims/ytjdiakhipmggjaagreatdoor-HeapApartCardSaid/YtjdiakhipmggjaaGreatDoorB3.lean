/- Parts of a proof about the given program: its functions as texts of their own, what each computes, plain laws of that. The conditions of each stand in its statement. -/
import Derived.Test.YtjdiakhipmggjaaGreatDoorB2
import Derived.Test.YtjdiakhipmggjaaGreatDoorB1
import Derived.ChangeArms
import Derived.DataReads
import Derived.SizedLaws
import Derived.Deep.AppendSrc
import Derived.Laws.StructEq
set_option linter.unnecessarySimpa false
set_option linter.defProp false
set_option linter.unusedSectionVars false
set_option linter.unusedVariables false
set_option linter.unusedSimpArgs false
namespace Go.Proofs.YtjdiakhipmggjaaGreatDoor
open Go.Emb
instance z_x:TZ P T.x 1 0 (.tuple #[]):=⟨by kernel_rfl⟩
instance g_x:TG P T.x false:=⟨by kernel_rfl⟩
instance z_int64:TZ P T.a1 1 8 (.int .i64 0):=⟨by kernel_rfl⟩
instance g_int64:TG P T.a1 false:=⟨by kernel_rfl⟩
instance z_int:TZ P T.e 1 8 (.int .i64 0):=⟨by kernel_rfl⟩
instance g_int:TG P T.e false:=⟨by kernel_rfl⟩
instance z_bool:TZ P T.u 1 1 (.bool false):=⟨by kernel_rfl⟩
instance g_bool:TG P T.u false:=⟨by kernel_rfl⟩
instance z_uint8:TZ P T.a3 1 1 (.int .u8 0):=⟨by kernel_rfl⟩
instance g_uint8:TG P T.a3 false:=⟨by kernel_rfl⟩
instance z_string:TZ P T.c 1 16 (.string ⟨#[]⟩):=⟨by kernel_rfl⟩
instance g_string:TG P T.c false:=⟨by kernel_rfl⟩
instance z_uintptr:TZ P T.av 1 8 (.int .u64 0):=⟨by kernel_rfl⟩
instance g_uintptr:TG P T.av false:=⟨by kernel_rfl⟩
instance z_int32:TZ P T.an 1 4 (.int .i32 0):=⟨by kernel_rfl⟩
instance g_int32:TG P T.an false:=⟨by kernel_rfl⟩
instance z_P_hier_Table:TZ P T.r 1 8 (.pointer none):=⟨by kernel_rfl⟩
instance g_P_hier_Table:TG P T.r false:=⟨by kernel_rfl⟩
instance z_api_Errno:TZ P T.y 1 8 (.int .i64 0):=⟨by kernel_rfl⟩
instance g_api_Errno:TG P T.y false:=⟨by kernel_rfl⟩
instance z_S_api_Class:TZ P T.i 1 24 (.slice none 0 0):=⟨by kernel_rfl⟩
instance g_S_api_Class:TG P T.i false:=⟨by kernel_rfl⟩
instance s_S_api_Class:TS P T.i 85:=⟨by kernel_rfl⟩
instance z_P_heap_Heap:TZ P T.a5 1 8 (.pointer none):=⟨by kernel_rfl⟩
instance g_P_heap_Heap:TG P T.a5 false:=⟨by kernel_rfl⟩
instance z_api_Value:TZ P T.g 4 40 (.agg #[.int .i64 0, .int .i64 0, .string ⟨#[]⟩, .int .i64 0]):=⟨by kernel_rfl⟩
instance g_api_Value:TG P T.g true:=⟨by kernel_rfl⟩
instance f_api_Value_0:TF P T.g 0 0 3:=⟨by kernel_rfl⟩
instance f_api_Value_1:TF P T.g 1 1 2:=⟨by kernel_rfl⟩
instance f_api_Value_2:TF P T.g 2 2 9:=⟨by kernel_rfl⟩
instance f_api_Value_3:TF P T.g 3 3 3:=⟨by kernel_rfl⟩
instance z_S_api_Cell:TZ P T.f 1 24 (.slice none 0 0):=⟨by kernel_rfl⟩
instance g_S_api_Cell:TG P T.f false:=⟨by kernel_rfl⟩
instance s_S_api_Cell:TS P T.f 78:=⟨by kernel_rfl⟩
instance z_uint16:TZ P T.aq 1 2 (.int .u16 0):=⟨by kernel_rfl⟩
instance g_uint16:TG P T.aq false:=⟨by kernel_rfl⟩
instance z_S_squinchref09_Act:TZ P T.z 1 24 (.slice none 0 0):=⟨by kernel_rfl⟩
instance g_S_squinchref09_Act:TG P T.z false:=⟨by kernel_rfl⟩
instance s_S_squinchref09_Act:TS P T.z 51:=⟨by kernel_rfl⟩
instance z_squinchref09_Heap:TZ P T.a 3 56 (.agg #[.slice none 0 0, .int .i64 0, .slice none 0 0]):=⟨by kernel_rfl⟩
instance g_squinchref09_Heap:TG P T.a true:=⟨by kernel_rfl⟩
instance f_squinchref09_Heap_0:TF P T.a 0 0 26:=⟨by kernel_rfl⟩
instance f_squinchref09_Heap_1:TF P T.a 1 1 3:=⟨by kernel_rfl⟩
instance f_squinchref09_Heap_2:TF P T.a 2 2 37:=⟨by kernel_rfl⟩
instance z_squinchref09_Act:TZ P T.n 8 80 (.agg #[.int .i64 0, .string ⟨#[]⟩, .int .i64 0, .int .i64 0, .int .i64 0, .int .i64 0, .string ⟨#[]⟩, .int .i64 0]):=⟨by kernel_rfl⟩
instance g_squinchref09_Act:TG P T.n true:=⟨by kernel_rfl⟩
instance f_squinchref09_Act_0:TF P T.n 0 0 3:=⟨by kernel_rfl⟩
instance f_squinchref09_Act_1:TF P T.n 1 1 9:=⟨by kernel_rfl⟩
instance f_squinchref09_Act_2:TF P T.n 2 2 2:=⟨by kernel_rfl⟩
instance f_squinchref09_Act_3:TF P T.n 3 3 3:=⟨by kernel_rfl⟩
instance f_squinchref09_Act_4:TF P T.n 4 4 33:=⟨by kernel_rfl⟩
instance z_S_string:TZ P T.h 1 24 (.slice none 0 0):=⟨by kernel_rfl⟩
instance g_S_string:TG P T.h false:=⟨by kernel_rfl⟩
instance s_S_string:TS P T.h 9:=⟨by kernel_rfl⟩
instance z_S_api_Field:TZ P T.k 1 24 (.slice none 0 0):=⟨by kernel_rfl⟩
instance g_S_api_Field:TG P T.k false:=⟨by kernel_rfl⟩
instance s_S_api_Field:TS P T.k 69:=⟨by kernel_rfl⟩
instance z_api_Field:TZ P T.o 3 40 (.agg #[.string ⟨#[]⟩, .string ⟨#[]⟩, .bool false]):=⟨by kernel_rfl⟩
instance g_api_Field:TG P T.o true:=⟨by kernel_rfl⟩
instance f_api_Field_0:TF P T.o 0 0 9:=⟨by kernel_rfl⟩
instance f_api_Field_1:TF P T.o 1 1 9:=⟨by kernel_rfl⟩
instance f_api_Field_2:TF P T.o 2 2 4:=⟨by kernel_rfl⟩
instance z_func_int_2:TZ P T.ak 1 8 .nilFunc:=⟨by kernel_rfl⟩
instance g_func_int_2:TG P T.ak false:=⟨by kernel_rfl⟩
instance z_S_api_Value:TZ P T.l 1 24 (.slice none 0 0):=⟨by kernel_rfl⟩
instance g_S_api_Value:TG P T.l false:=⟨by kernel_rfl⟩
instance s_S_api_Value:TS P T.l 33:=⟨by kernel_rfl⟩
instance z_api_Cell:TZ P T.m 2 40 (.agg #[.string ⟨#[]⟩, .slice none 0 0]):=⟨by kernel_rfl⟩
instance g_api_Cell:TG P T.m true:=⟨by kernel_rfl⟩
instance f_api_Cell_0:TF P T.m 0 0 9:=⟨by kernel_rfl⟩
instance f_api_Cell_1:TF P T.m 1 1 76:=⟨by kernel_rfl⟩
instance z_M_string_int:TZ P T.a2 1 8 (.map none):=⟨by kernel_rfl⟩
instance g_M_string_int:TG P T.a2 false:=⟨by kernel_rfl⟩
instance m_M_string_int:TM P T.a2 9 3:=⟨by kernel_rfl⟩
instance z_hier_Table:TZ P T.a0 2 32 (.agg #[.slice none 0 0, .map none]):=⟨by kernel_rfl⟩
instance g_hier_Table:TG P T.a0 true:=⟨by kernel_rfl⟩
instance f_hier_Table_0:TF P T.a0 0 0 26:=⟨by kernel_rfl⟩
instance f_hier_Table_1:TF P T.a0 1 1 80:=⟨by kernel_rfl⟩
instance z_S_api_Method:TZ P T.j 1 24 (.slice none 0 0):=⟨by kernel_rfl⟩
instance g_S_api_Method:TG P T.j false:=⟨by kernel_rfl⟩
instance s_S_api_Method:TS P T.j 98:=⟨by kernel_rfl⟩
instance z_api_Class:TZ P T.b 8 112 (.agg #[.string ⟨#[]⟩, .string ⟨#[]⟩, .slice none 0 0, .bool false, .bool false, .bool false, .slice none 0 0, .slice none 0 0]):=⟨by kernel_rfl⟩
instance g_api_Class:TG P T.b true:=⟨by kernel_rfl⟩
instance f_api_Class_0:TF P T.b 0 0 9:=⟨by kernel_rfl⟩
instance f_api_Class_1:TF P T.b 1 1 9:=⟨by kernel_rfl⟩
instance f_api_Class_2:TF P T.b 2 2 54:=⟨by kernel_rfl⟩
instance f_api_Class_3:TF P T.b 3 3 4:=⟨by kernel_rfl⟩
instance f_api_Class_4:TF P T.b 4 4 4:=⟨by kernel_rfl⟩
instance f_api_Class_5:TF P T.b 5 5 4:=⟨by kernel_rfl⟩
instance f_api_Class_6:TF P T.b 6 6 65:=⟨by kernel_rfl⟩
instance f_api_Class_7:TF P T.b 7 7 83:=⟨by kernel_rfl⟩
instance z_func_string_bool:TZ P T.a4 1 8 .nilFunc:=⟨by kernel_rfl⟩
instance g_func_string_bool:TG P T.a4 false:=⟨by kernel_rfl⟩
instance z_S_int:TZ P T.a7 1 24 (.slice none 0 0):=⟨by kernel_rfl⟩
instance g_S_int:TG P T.a7 false:=⟨by kernel_rfl⟩
instance s_S_int:TS P T.a7 3:=⟨by kernel_rfl⟩
instance z_api_Instr:TZ P T.v 3 40 (.agg #[.string ⟨#[]⟩, .int .i64 0, .string ⟨#[]⟩]):=⟨by kernel_rfl⟩
instance g_api_Instr:TG P T.v true:=⟨by kernel_rfl⟩
instance f_api_Instr_0:TF P T.v 0 0 9:=⟨by kernel_rfl⟩
instance f_api_Instr_1:TF P T.v 1 1 2:=⟨by kernel_rfl⟩
instance f_api_Instr_2:TF P T.v 2 2 9:=⟨by kernel_rfl⟩
instance z_S_api_Instr:TZ P T.q 1 24 (.slice none 0 0):=⟨by kernel_rfl⟩
instance g_S_api_Instr:TG P T.q false:=⟨by kernel_rfl⟩
instance s_S_api_Instr:TS P T.q 94:=⟨by kernel_rfl⟩
instance z_S_api_Catch:TZ P T.s 1 24 (.slice none 0 0):=⟨by kernel_rfl⟩
instance g_S_api_Catch:TG P T.s false:=⟨by kernel_rfl⟩
instance s_S_api_Catch:TS P T.s 172:=⟨by kernel_rfl⟩
instance z_api_Method:TZ P T.d 7 120 (.agg #[.string ⟨#[]⟩, .slice none 0 0, .string ⟨#[]⟩, .bool false, .int .i64 0, .slice none 0 0, .slice none 0 0]):=⟨by kernel_rfl⟩
instance g_api_Method:TG P T.d true:=⟨by kernel_rfl⟩
instance f_api_Method_0:TF P T.d 0 0 9:=⟨by kernel_rfl⟩
instance f_api_Method_1:TF P T.d 1 1 54:=⟨by kernel_rfl⟩
instance f_api_Method_2:TF P T.d 2 2 9:=⟨by kernel_rfl⟩
instance f_api_Method_3:TF P T.d 3 3 4:=⟨by kernel_rfl⟩
instance f_api_Method_4:TF P T.d 4 4 3:=⟨by kernel_rfl⟩
instance f_api_Method_5:TF P T.d 5 5 95:=⟨by kernel_rfl⟩
instance f_api_Method_6:TF P T.d 6 6 96:=⟨by kernel_rfl⟩
instance z_heap_Heap:TZ P T.p 4 48 (.agg #[.pointer none, .int .i64 0, .int .i64 0, .slice none 0 0]):=⟨by kernel_rfl⟩
instance g_heap_Heap:TG P T.p true:=⟨by kernel_rfl⟩
instance f_heap_Heap_0:TF P T.p 0 0 22:=⟨by kernel_rfl⟩
instance f_heap_Heap_1:TF P T.p 1 1 3:=⟨by kernel_rfl⟩
instance f_heap_Heap_2:TF P T.p 2 2 3:=⟨by kernel_rfl⟩
instance f_heap_Heap_3:TF P T.p 3 3 37:=⟨by kernel_rfl⟩
instance z_func_string_string:TZ P T.ac 1 8 .nilFunc:=⟨by kernel_rfl⟩
instance g_func_string_string:TG P T.ac false:=⟨by kernel_rfl⟩
instance z_A6_string:TZ P T.ao 6 96 (.agg #[.string ⟨#[]⟩, .string ⟨#[]⟩, .string ⟨#[]⟩, .string ⟨#[]⟩, .string ⟨#[]⟩, .string ⟨#[]⟩]):=⟨by kernel_rfl⟩
instance g_A6_string:TG P T.ao true:=⟨by kernel_rfl⟩
instance a_A6_string:TA P T.ao 6 9:=⟨by kernel_rfl⟩
instance z_M_string_string:TZ P T.w 1 8 (.map none):=⟨by kernel_rfl⟩
instance g_M_string_string:TG P T.w false:=⟨by kernel_rfl⟩
instance m_M_string_string:TM P T.w 9 9:=⟨by kernel_rfl⟩
instance z_func_api_Method_string:TZ P T.a9 1 8 .nilFunc:=⟨by kernel_rfl⟩
instance g_func_api_Method_string:TG P T.a9 false:=⟨by kernel_rfl⟩
instance z_func_api_Method_bool:TZ P T.ae 1 8 .nilFunc:=⟨by kernel_rfl⟩
instance g_func_api_Method_bool:TG P T.ae false:=⟨by kernel_rfl⟩
instance z_S_S_bool:TZ P T.a8 1 24 (.slice none 0 0):=⟨by kernel_rfl⟩
instance g_S_S_bool:TG P T.a8 false:=⟨by kernel_rfl⟩
instance s_S_S_bool:TS P T.a8 148:=⟨by kernel_rfl⟩
instance z_S_bool:TZ P T.a6 1 24 (.slice none 0 0):=⟨by kernel_rfl⟩
instance g_S_bool:TG P T.a6 false:=⟨by kernel_rfl⟩
instance s_S_bool:TS P T.a6 4:=⟨by kernel_rfl⟩
instance g_A256_uint8:TG P T.au true:=⟨by kernel_rfl⟩
instance a_A256_uint8:TA P T.au 256 5:=⟨by kernel_rfl⟩
instance z_utf8_acceptRange:TZ P T.aj 2 2 (.agg #[.int .u8 0, .int .u8 0]):=⟨by kernel_rfl⟩
instance g_utf8_acceptRange:TG P T.aj true:=⟨by kernel_rfl⟩
instance f_utf8_acceptRange_0:TF P T.aj 0 0 5:=⟨by kernel_rfl⟩
instance f_utf8_acceptRange_1:TF P T.aj 1 1 5:=⟨by kernel_rfl⟩
instance z_A16_utf8_acceptRange:TZ P T.al 32 32 (.agg #[.int .u8 0, .int .u8 0, .int .u8 0, .int .u8 0, .int .u8 0, .int .u8 0, .int .u8 0, .int .u8 0, .int .u8 0, .int .u8 0, .int .u8 0, .int .u8 0, .int .u8 0, .int .u8 0, .int .u8 0, .int .u8 0, .int .u8 0, .int .u8 0, .int .u8 0, .int .u8 0, .int .u8 0, .int .u8 0, .int .u8 0, .int .u8 0, .int .u8 0, .int .u8 0, .int .u8 0, .int .u8 0, .int .u8 0, .int .u8 0, .int .u8 0, .int .u8 0]):=⟨by kernel_rfl⟩
instance g_A16_utf8_acceptRange:TG P T.al true:=⟨by kernel_rfl⟩
instance a_A16_utf8_acceptRange:TA P T.al 16 156:=⟨by kernel_rfl⟩
instance z_func_api_Field_string:TZ P T.aa 1 8 .nilFunc:=⟨by kernel_rfl⟩
instance g_func_api_Field_string:TG P T.aa false:=⟨by kernel_rfl⟩
instance z_func_api_Field_bool:TZ P T.ag 1 8 .nilFunc:=⟨by kernel_rfl⟩
instance g_func_api_Field_bool:TG P T.ag false:=⟨by kernel_rfl⟩
instance z_api_Catch:TZ P T.t 4 40 (.agg #[.int .i64 0, .int .i64 0, .int .i64 0, .string ⟨#[]⟩]):=⟨by kernel_rfl⟩
instance g_api_Catch:TG P T.t true:=⟨by kernel_rfl⟩
instance f_api_Catch_0:TF P T.t 0 0 3:=⟨by kernel_rfl⟩
instance f_api_Catch_1:TF P T.t 1 1 3:=⟨by kernel_rfl⟩
instance f_api_Catch_2:TF P T.t 2 2 3:=⟨by kernel_rfl⟩
instance f_api_Catch_3:TF P T.t 3 3 9:=⟨by kernel_rfl⟩
instance z_uint64:TZ P T.ax 1 8 (.int .u64 0):=⟨by kernel_rfl⟩
instance g_uint64:TG P T.ax false:=⟨by kernel_rfl⟩
instance g_strings_asciiSet:TG P T.ab true:=⟨by kernel_rfl⟩
instance a_strings_asciiSet:TA P T.ab 256 4:=⟨by kernel_rfl⟩
instance z_func_api_Catch_bool:TZ P T.ah 1 8 .nilFunc:=⟨by kernel_rfl⟩
instance g_func_api_Catch_bool:TG P T.ah false:=⟨by kernel_rfl⟩
instance z_func_api_Instr_bool:TZ P T.ai 1 8 .nilFunc:=⟨by kernel_rfl⟩
instance g_func_api_Instr_bool:TG P T.ai false:=⟨by kernel_rfl⟩
instance z_S_uint8:TZ P T.ar 1 24 (.slice none 0 0):=⟨by kernel_rfl⟩
instance g_S_uint8:TG P T.ar false:=⟨by kernel_rfl⟩
instance s_S_uint8:TS P T.ar 5:=⟨by kernel_rfl⟩
instance z_strings_Builder:TZ P T.am 2 32 (.agg #[.pointer none, .slice none 0 0]):=⟨by kernel_rfl⟩
instance g_strings_Builder:TG P T.am true:=⟨by kernel_rfl⟩
instance f_strings_Builder_0:TF P T.am 0 0 202:=⟨by kernel_rfl⟩
instance f_strings_Builder_1:TF P T.am 1 1 203:=⟨by kernel_rfl⟩
instance z_P_uint8:TZ P T.aw 1 8 (.pointer none):=⟨by kernel_rfl⟩
instance g_P_uint8:TG P T.aw false:=⟨by kernel_rfl⟩
instance z_code_op:TZ P T.ad 3 24 (.agg #[.string ⟨#[]⟩, .bool false, .bool false]):=⟨by kernel_rfl⟩
instance g_code_op:TG P T.ad true:=⟨by kernel_rfl⟩
instance f_code_op_0:TF P T.ad 0 0 9:=⟨by kernel_rfl⟩
instance f_code_op_1:TF P T.ad 1 1 4:=⟨by kernel_rfl⟩
instance f_code_op_2:TF P T.ad 2 2 4:=⟨by kernel_rfl⟩
instance g_A42_code_op:TG P T.af true:=⟨by kernel_rfl⟩
instance a_A42_code_op:TA P T.af 42 225:=⟨by kernel_rfl⟩
instance z_S_code_op:TZ P T.ap 1 24 (.slice none 0 0):=⟨by kernel_rfl⟩
instance g_S_code_op:TG P T.ap false:=⟨by kernel_rfl⟩
instance s_S_code_op:TS P T.ap 225:=⟨by kernel_rfl⟩
instance z_uint32:TZ P T.ay 1 4 (.int .u32 0):=⟨by kernel_rfl⟩
instance g_uint32:TG P T.ay false:=⟨by kernel_rfl⟩
end Go.Proofs.YtjdiakhipmggjaaGreatDoor

namespace Go.Emb
theorem aS {p:Prop} (h:p:=by (first | assumption | exact Stp.sat (by assumption) | exact Hst.sat (by assumption))):p:=h
theorem aL {p:Prop} (h:p:=by (first | assumption | exact Sl.lift (by assumption) (by (repeat (first | exact SLe.refl _ | refine SLe.more ?_ (by assumption) | refine SLe.more ?_ (Nxt.le (by assumption)) | refine SLe.step ?_ (by assumption)))) | exact Z4.lift (by assumption) (by (repeat (first | exact SLe.refl _ | refine SLe.more ?_ (by assumption) | refine SLe.more ?_ (Nxt.le (by assumption)) | refine SLe.step ?_ (by assumption)))) | exact Xi.lift (by assumption) (by (repeat (first | exact SLe.refl _ | refine SLe.more ?_ (by assumption) | refine SLe.more ?_ (Nxt.le (by assumption)) | refine SLe.step ?_ (by assumption)))) | exact RCl_lift (by assumption) (by (repeat (first | exact SLe.refl _ | refine SLe.more ?_ (by assumption) | refine SLe.more ?_ (Nxt.le (by assumption)) | refine SLe.step ?_ (by assumption)))) | exact RMe_lift (by assumption) (by (repeat (first | exact SLe.refl _ | refine SLe.more ?_ (by assumption) | refine SLe.more ?_ (Nxt.le (by assumption)) | refine SLe.step ?_ (by assumption)))) | exact Glb.lift (by assumption) (by (repeat (first | exact SLe.refl _ | refine SLe.more ?_ (by assumption) | refine SLe.more ?_ (Nxt.le (by assumption)) | refine SLe.step ?_ (by assumption)))) | exact Tab.lift (by assumption) (by (repeat (first | exact SLe.refl _ | refine SLe.more ?_ (by assumption) | refine SLe.more ?_ (Nxt.le (by assumption)) | refine SLe.step ?_ (by assumption)))) | exact RIn_any (by assumption) | exact RFd_any (by assumption) | exact RCa_any (by assumption))):p:=h
theorem aR {p:Prop} (h:p:=by with_unfolding_all rfl):p:=h
theorem aF {p:Prop} (a:p:=by (refine Eq.subst (motive:=fun b=>K b _) ?_ (h _ _ (by (repeat (first | exact Stp.refl (by (first | assumption | exact Stp.sat (by assumption) | exact Hst.sat (by assumption))) | assumption | refine Stp.trans ?_ (by first | assumption | exact Hst.stp (by assumption))))));clear h;(try clear hA);(try clear hB);(try clear hC);first | rfl | ((try simp only[Bool.not_eq_true',Bool.not_eq_false',Bool.not_true,Bool.not_false,Bool.not_eq_true] at*);simp only[*,Mb,reduceIte];done) | (simp[*];done) | simp_all)):p:=a
theorem au {p:Prop} (h:p:=by (first | assumption | (first | assumption | exact Stp.sat (by assumption) | exact Hst.sat (by assumption)) | (first | assumption | exact Sl.lift (by assumption) (by (repeat (first | exact SLe.refl _ | refine SLe.more ?_ (by assumption) | refine SLe.more ?_ (Nxt.le (by assumption)) | refine SLe.step ?_ (by assumption)))) | exact Z4.lift (by assumption) (by (repeat (first | exact SLe.refl _ | refine SLe.more ?_ (by assumption) | refine SLe.more ?_ (Nxt.le (by assumption)) | refine SLe.step ?_ (by assumption)))) | exact Xi.lift (by assumption) (by (repeat (first | exact SLe.refl _ | refine SLe.more ?_ (by assumption) | refine SLe.more ?_ (Nxt.le (by assumption)) | refine SLe.step ?_ (by assumption)))) | exact RCl_lift (by assumption) (by (repeat (first | exact SLe.refl _ | refine SLe.more ?_ (by assumption) | refine SLe.more ?_ (Nxt.le (by assumption)) | refine SLe.step ?_ (by assumption)))) | exact RMe_lift (by assumption) (by (repeat (first | exact SLe.refl _ | refine SLe.more ?_ (by assumption) | refine SLe.more ?_ (Nxt.le (by assumption)) | refine SLe.step ?_ (by assumption)))) | exact Glb.lift (by assumption) (by (repeat (first | exact SLe.refl _ | refine SLe.more ?_ (by assumption) | refine SLe.more ?_ (Nxt.le (by assumption)) | refine SLe.step ?_ (by assumption)))) | exact Tab.lift (by assumption) (by (repeat (first | exact SLe.refl _ | refine SLe.more ?_ (by assumption) | refine SLe.more ?_ (Nxt.le (by assumption)) | refine SLe.step ?_ (by assumption)))) | exact RIn_any (by assumption) | exact RFd_any (by assumption) | exact RCa_any (by assumption)) | exact Nat.le_trans (by assumption) (by decide) | omega)):p:=h
end Go.Emb
namespace Go.Proofs.YtjdiakhipmggjaaGreatDoor
open Go.Emb
theorem X3W {a:List UInt8} {cs:List Bool} {r:TypeId} {w:World} {K:Value→World→Prop}:X2 P .len [T.c] r cs [S a] w K=K (I a.length) w:=R2 X8
theorem X3G {c d:Operand} {a b:Bool} {w:World} {K:Value→World→Prop}:Q3 P .eql T.u c d (.bool a) (.bool b) w K=K (.bool (a==b)) w:=Q5S Q2N
theorem X43 {c d:Operand} {a b:Bool} {w:World} {K:Value→World→Prop}:Q3 P .neq T.u c d (.bool a) (.bool b) w K=K (.bool (!(a==b))) w:=Q5n Q2N
def Mm:=And.intro @fa <| And.intro @L7 <| And.intro @Qe <| And.intro @X3W <| And.intro @X3G @X43
def M1:=And.intro Mm Mr
def M2:=And.intro Mm Mp
end Go.Proofs.YtjdiakhipmggjaaGreatDoor

namespace Go.Proofs.YtjdiakhipmggjaaGreatDoor
open Go.Emb Go.RowKit Go.Kd Go.Hm
variable {w : World} {K : Value → World → Prop} {σ : Q6}
def Wi (m:Hm.Met):Bool:=decide (32<m.params.length)||decide (32<m.catches.length)||decide (200<m.code.length)||decide (64<m.locals)
def Zp (c:Cla):Bool:=c.methods.any Wi||decide (32<c.like.length)||decide (32<c.fields.length)||decide (32<c.methods.length)
theorem X3a {c : Cla} {cs : List Value} (hs : X3 w σ) (hc : V0 σ c cs) (h : ∀ w', Below w.heap.size w w' → K (.bool (Zp c)) w') : Q1 P F.cG [.agg cs.toArray] w K := Q52 (by
  obtain ⟨lv, fv, mv, rfl, hl, hf, hm, hn, hsu⟩ := hc
  unfold Q19
  refine E7 hs fun a w1 σ1 hk ha => ?_
  have hs := hk.sat
  replace hl := hl.up hk
  replace hf := hf.up hk
  replace hm := hm.up hk
  simp only [Value.cells] at ha
  ((try simp only [↓M1, M1, Mb, reduceIte]); repeat ((first | refine ld (by assumption) (by assumption) rfl ?_ | refine X7 (by assumption) (by assumption) rfl ?_ | refine Q8 (by assumption) ?_); (try simp only [↓M1, M1, Mb, reduceIte])))
  refine U0 c.methods.length (fun n w' => Below w1.heap.size w1 w' ∧ ((c.methods.take n).any Wi) = false) ⟨Below.refl _ _, by simp⟩ fun n w2 d hn hi => ?_
  obtain ⟨hb, hp⟩ := hi
  have hs2 := hs.below hb
  ((try simp only [↓M1, M1, Mb, reduceIte]); repeat ((first | refine ld (by assumption) (by assumption) rfl ?_ | refine X7 (by assumption) (by assumption) rfl ?_ | refine Q8 (by assumption) ?_); (try simp only [↓M1, M1, Mb, reduceIte])))
  refine Q7 (fun hc => ?_) (fun hc => ?_)
  · have hn' : n < c.methods.length := by simpa using hc
    refine M9 hm hn' fun p cs hl1 hlen hr => ?_
    refine Y4 hs2 hl1 hlen ?_
    refine Y9 hs2 (by rfl) hlen (Rep.one hr) fun q w3 σ3 hk3 hq => ?_
    obtain ⟨pv, cv, hv, rfl, g1, g2, g3, g4⟩ := hr
    have hs3 := hk3.sat
    replace g1 := g1.up hk3
    replace g2 := g2.up hk3
    replace g3 := g3.up hk3
    ((try simp only [↓M1, M1, Mb, reduceIte]); repeat ((first | refine ld (by assumption) (by assumption) rfl ?_ | refine X7 (by assumption) (by assumption) rfl ?_ | refine Q8 (by assumption) ?_); (try simp only [↓M1, M1, Mb, reduceIte])))
    (repeat' ((first | refine Z8 (fun hh => ?_) (fun hh => ?_) | refine Q7 (fun hh => ?_) (fun hh => ?_)) <;> (try simp only [hh, Bool.not_true, Bool.not_false, ↓M1, M1, Mb, reduceIte]) <;> ((try simp only [↓M1, M1, Mb, reduceIte]); repeat ((first | refine ld (by assumption) (by assumption) rfl ?_ | refine X7 (by assumption) (by assumption) rfl ?_ | refine Q8 (by assumption) ?_); (try simp only [↓M1, M1, Mb, reduceIte])))))
    all_goals first
      | refine Y5 hm.max hn' ⟨bt hb hk3.bel, ?_⟩
        rw [L3 hn', hp]; simp only [Wi]; (first | (simp only [decide_eq_true_eq, decide_eq_false_iff_not, Bool.not_true, Bool.not_false, Bool.not_eq_true', Bool.not_eq_false', Bool.or_eq_true, Bool.and_eq_true, Bool.or_eq_false_iff, Bool.and_eq_false_iff, Bool.false_or, Bool.true_and, Bool.or_false, Bool.and_true] at *; first | omega | (and_intros <;> omega)) | (rw [Bool.eq_iff_iff]; (simp only [decide_eq_true_eq, decide_eq_false_iff_not, Bool.not_true, Bool.not_false, Bool.not_eq_true', Bool.not_eq_false', Bool.or_eq_true, Bool.and_eq_true, Bool.or_eq_false_iff, Bool.and_eq_false_iff, Bool.false_or, Bool.true_and, Bool.or_false, Bool.and_true] at *; first | omega | (and_intros <;> omega))))
      | have e : Zp c = true := by
          have : Wi c.methods[n] = true := by simp only [Wi]; (first | (simp only [decide_eq_true_eq, decide_eq_false_iff_not, Bool.not_true, Bool.not_false, Bool.not_eq_true', Bool.not_eq_false', Bool.or_eq_true, Bool.and_eq_true, Bool.or_eq_false_iff, Bool.and_eq_false_iff, Bool.false_or, Bool.true_and, Bool.or_false, Bool.and_true] at *; first | omega | (and_intros <;> omega)) | (rw [Bool.eq_iff_iff]; (simp only [decide_eq_true_eq, decide_eq_false_iff_not, Bool.not_true, Bool.not_false, Bool.not_eq_true', Bool.not_eq_false', Bool.or_eq_true, Bool.and_eq_true, Bool.or_eq_false_iff, Bool.and_eq_false_iff, Bool.false_or, Bool.true_and, Bool.or_false, Bool.and_true] at *; first | omega | (and_intros <;> omega))))
          simp [Zp, S6 hn' this]
        rw [← e]; exact h _ (bt hk.bel (bt hb hk3.bel))
  · have hn' : ¬ n < c.methods.length := by simpa using hc
    rw [E0 hn'] at hp
    have h := h w2 (bt hk.bel hb)
    ((try simp only [↓M1, M1, Mb, reduceIte]); repeat ((first | refine ld (by assumption) (by assumption) rfl ?_ | refine X7 (by assumption) (by assumption) rfl ?_ | refine Q8 (by assumption) ?_); (try simp only [↓M1, M1, Mb, reduceIte])))
    (repeat' ((first | refine Z8 (fun hh => ?_) (fun hh => ?_) | refine Q7 (fun hh => ?_) (fun hh => ?_)) <;> (try simp only [hh, Bool.not_true, Bool.not_false, ↓M1, M1, Mb, reduceIte]) <;> ((try simp only [↓M1, M1, Mb, reduceIte]); repeat ((first | refine ld (by assumption) (by assumption) rfl ?_ | refine X7 (by assumption) (by assumption) rfl ?_ | refine Q8 (by assumption) ?_); (try simp only [↓M1, M1, Mb, reduceIte])))))
    all_goals
      refine Eq.subst (motive := fun b => K (.bool b) w2) ?_ h
      simp only [Zp, hp]
      (first | (simp only [decide_eq_true_eq, decide_eq_false_iff_not, Bool.not_true, Bool.not_false, Bool.not_eq_true', Bool.not_eq_false', Bool.or_eq_true, Bool.and_eq_true, Bool.or_eq_false_iff, Bool.and_eq_false_iff, Bool.false_or, Bool.true_and, Bool.or_false, Bool.and_true] at *; first | omega | (and_intros <;> omega)) | (rw [Bool.eq_iff_iff]; (simp only [decide_eq_true_eq, decide_eq_false_iff_not, Bool.not_true, Bool.not_false, Bool.not_eq_true', Bool.not_eq_false', Bool.or_eq_true, Bool.and_eq_true, Bool.or_eq_false_iff, Bool.and_eq_false_iff, Bool.false_or, Bool.true_and, Bool.or_false, Bool.and_true] at *; first | omega | (and_intros <;> omega)))))
end Go.Proofs.YtjdiakhipmggjaaGreatDoor

namespace Go.Emb
open Go.RowKit Go.Hm
variable {H : Type} {enc : TypeId × Value → H} {P : Program} {W : World} {t : TypeId} {cs : List Value} {fuel : Nat} {x : DataW H × List MemPlace}
def Wl (W:World):Q6:=fun b=>W.heap[b]?
theorem Q9g:X3 W (Wl W):=fun b o h=>h
def Wt (P:Program) (t:TypeId) (d:DataW H):Prop:= ∀n∈d.weights P t,n≤reachBytes
theorem X2m {a:Addr} {n:Nat} (h:W.cells? 0 a n=some cs) (z:0<n):cs.length=n∧Z4 (Wl W) a cs:=by
 obtain ⟨_,m,s⟩:=World.cells?_some h
 refine ⟨m,?_⟩
 have key: ∀i v,cs[i]? =some v→ ∃arr e f,W.heap[a.block]? =some (.cells arr e f)∧(a.add i).spot=none∧arr[a.off+i]? =some v:=by
  intro i v g
  have A:i<cs.length:=(List.getElem?_eq_some_iff.1 g).1
  have b:=s i (by omega)
  rw[g] at b
  unfold World.cell? at b
  rw[S9,Qg] at b
  cases l:W.heap[a.block]? with
  | none=>rw[l] at b;cases b
  | some o=>
   rw[l] at b
   cases o with
   | cells arr e f=>
    simp only at b
    split at b
    ·cases b
    ·rename_i q
     exact ⟨arr,e,f,rfl,by simpa using q,b⟩
   | _=>cases b
 cases j:cs with
 | nil=>subst j;simp at m;omega
 | cons c r=>
  obtain ⟨arr,e,f,p,u,C⟩:=key 0 c (by rw[j];rfl)
  refine ⟨by simpa [Addr.add] using u,arr,e,f,p,fun i v g=>?_⟩
  obtain ⟨k,B,y,d,D,w⟩:=key i v (by rw[j];exact g)
  rw[p] at d
  injection d with d
  injection d with d
  subst d
  exact w
theorem Q9b (b:P.underlying t=some .string) (h:DataW.trod enc P W 0 (fun _=>true) true fuel t cs=some x) (a:Wt P t x.1): ∃s:Kd.X0,cs=[S s]∧s.length≤U1:=by
 obtain ⟨⟨⟨s⟩⟩,rfl,rfl,_⟩:=DataW.trod_string b h
 refine ⟨s,rfl,?_⟩
 have:=a s.length (by simp[DataW.weights])
 exact this
theorem Gg (b:P.underlying t=some (.int .i64)) (h:DataW.trod enc P W 0 (fun _=>true) true fuel t cs=some x): ∃n,cs=[I n]∧Yy n:=by
 obtain ⟨n,c,_,a⟩:=DataW.trod_int b h
 refine ⟨n,c,?_⟩
 simp only[Lit.wf,Bool.and_eq_true,decide_eq_true_eq] at a
 exact ⟨a.1,a.2⟩
theorem X1R {α:Type} {Q:Nat→α→Prop}: ∀(n:Nat),(∀i,i<n→ ∃y,Q i y)→ ∃xs:List α,xs.length=n∧ ∀i y,xs[i]? =some y→Q i y:=by
 intro n
 induction n with
 | zero=>intro _;exact ⟨[],rfl,by simp⟩
 | succ n c=>
  intro h
  obtain ⟨xs,e,f⟩:=c fun i b=>h i (by omega)
  obtain ⟨y,d⟩:=h n (by omega)
  refine ⟨xs++[y],by simp[e],fun i z a=>?_⟩
  by_cases b:i<xs.length
  ·rw[List.getElem?_append_left b] at a;exact f i z a
  ·rw[List.getElem?_append_right (by omega)] at a
   have:i-xs.length=0:=by
    have:=(List.getElem?_eq_some_iff.1 a).1
    simp at this;omega
   rw[this] at a
   simp at a
   subst a
   rw[show i=n by omega];exact d
theorem X2N {e:TypeId} {d:DataW H}: ∀{l:List (DataW H)},d∈l→ ∀n∈d.weights P e,n∈DataW.weightsAll P e l:=by
 intro l
 induction l with
 | nil=>intro h;simp at h
 | cons a r c=>
  intro h n b
  simp only[DataW.weightsAll,List.mem_append]
  rcases List.mem_cons.1 h with rfl | h
  ·exact .inl b
  ·exact .inr (c h n b)
theorem X3S {α:Type} {R:Q6→α→List Value→Prop} {e:TypeId} {sz:Nat} (w:P.underlying t=some (.slice e)) (M:P.cellsOf e=sz) (L:0<sz)
 (r: ∀fuel cs (x:DataW H×List MemPlace),DataW.trod enc P W 0 (fun _=>true) true fuel e cs=some x→Wt P e x.1→ ∃y,R (Wl W) y cs)
 (h:DataW.trod enc P W 0 (fun _=>true) true fuel t cs=some x) (Q:Wt P t x.1): ∃v xs,cs=[v]∧Sl sz R (Wl W) v xs:=by
 rcases DataW.trod_slice w h with ⟨rfl,rfl⟩ | ⟨a,g,q,d,u,n,_,rfl,rfl,_,C,s,A,o,_⟩
 ·exact ⟨_,[],rfl,Sl.nil⟩
 subst M
 have step: ∀i,i<g→ ∃y,∃c,Z4 (Wl W) (a.add (i*P.cellsOf e)) c∧c.length=P.cellsOf e∧R (Wl W) y c:=by
  intro i O
  have z:=o i O
  have f:i<d.length:=by omega
  rw[List.getElem?_eq_getElem f] at z
  obtain ⟨c,D,E⟩:=Option.bind_eq_some_iff.1 z
  obtain ⟨B,p⟩:=X2m D L
  obtain ⟨y,k⟩:=r n c _ E (fun m s=>Q m (by
   simp only[DataW.weights,w,List.mem_cons,List.mem_append]
   exact .inr (.inl (X2N (List.mem_map.2 ⟨_,List.getElem_mem f,rfl⟩) m s))))
  exact ⟨y,c,p,B,k⟩
 obtain ⟨xs,l,j⟩:=X1R g step
 refine ⟨_,xs,rfl,some a,q,by rw[l],by rw[l];exact C,s,by simp,fun b N=>?_⟩
 cases N
 refine ⟨fun J=>?_,fun i y k=>j i y k⟩
 obtain ⟨y,k⟩: ∃y,xs[0]? =some y:=⟨xs[0],List.getElem?_eq_getElem J⟩
 obtain ⟨c,p,_,_⟩:=j 0 y k
 have:=p.1
 simpa [Addr.add] using this
theorem Q7s: ∀{a:List TypeId} {l:List (DataW H)} {i:Nat} {u:TypeId} {d:DataW H},a[i]? =some u→l[i]? =some d→ ∀n∈d.weights P u,n∈DataW.weightsEach P a l:=
 fun c e n b=>DataW.weights_mem_each c e n b
theorem Wy {g:Array Field} (e:P.underlying t=some (.struct g)) (h:DataW.trod enc P W 0 (fun _=>true) true fuel t cs=some x) (s:Wt P t x.1) (i:Nat) {o:Nat} {b:TypeId}
 (j:(g[i]?).map (fun f=>(f.type,f.offset))=some (b,o)) (p:P.cellsOf b=1): ∃n y,DataW.trod enc P W 0 (fun _=>true) true n b ((cs.drop o).take 1)=some y∧Wt P b y.1:=by
 obtain ⟨xs,n,_,rfl,v,k,l⟩:=DataW.trod_struct e h
 obtain ⟨f,a,q⟩:=Option.map_eq_some_iff.1 j
 cases q
 have c:=l i f a
 have d:i<xs.length:=by rw[k];exact (Array.getElem?_eq_some_iff.1 a).1
 rw[List.getElem?_eq_getElem d,p] at c
 refine ⟨n,_,c,fun m r=>s m ?_⟩
 simp only[DataW.weights,e]
 exact Q7s (i:=i) (u:=f.type) (by rw[List.getElem?_map,Array.getElem?_toList,a];rfl) (by rw[List.getElem?_map,List.getElem?_eq_getElem d];rfl) m r
theorem Q8W {d:Array Field} {k:Nat} (b:P.underlying t=some (.struct d)) (a:P.cellsOf t=k) (h:DataW.trod enc P W 0 (fun _=>true) true fuel t cs=some x):cs.length=k:=by
 obtain ⟨_,_,_,_,c,_,_⟩:=DataW.trod_struct b h
 rw[c,a]
theorem X12 {α:Type} {l:List α} (h:l.length=3): ∃a b c,l=[a,b,c]:=by
 match l,h with
 | [a,b,c],_=>exact ⟨a,b,c,rfl⟩
theorem X44 {α:Type} {l:List α} (h:l.length=4): ∃a b c d,l=[a,b,c,d]:=by
 match l,h with
 | [a,b,c,d],_=>exact ⟨a,b,c,d,rfl⟩
theorem X3T {α:Type} {l:List α} (h:l.length=8): ∃a b c d e f g i,l=[a,b,c,d,e,f,g,i]:=by
 match l,h with
 | [a,b,c,d,e,f,g,i],_=>exact ⟨a,b,c,d,e,f,g,i,rfl⟩
end Go.Emb
namespace Go.Proofs.YtjdiakhipmggjaaGreatDoor
open Go.Emb Go.RowKit Go.Kd Go.Hm
variable {H : Type} {enc : TypeId × Value → H} {W : World} {cs : List Value} {fuel : Nat} {x : DataW H × List MemPlace}
theorem Pw:P.cellsOf T.c=1:=by kernel_rfl
theorem X2T:P.cellsOf T.u=1:=by kernel_rfl
theorem Q4U:P.cellsOf T.e=1:=by kernel_rfl
end Go.Proofs.YtjdiakhipmggjaaGreatDoor

namespace Go.Emb
def J4 {α β:Type} (a:β→α→Bool×β):β→List α→Nat→Option Nat×β
 | s,[],_=>(none,s)
 | s,x::xs,i=>if (a s x).1 then (some i,(a s x).2) else J4 a (a s x).2 xs (i+1)
def L5 (o:Option Nat):Int:=match o with | some i=>i | none=> -1
theorem K5 {α:Type} (p:α→Bool): ∀(xs:List α) (i:Nat),(J4 (fun (_:Unit) x=>(p x,())) () xs i).1=(xs.findIdx? p).map (· +i):=by
 intro xs
 induction xs with
 | nil=>intro i;rfl
 | cons x r ih=>
  intro i
  rw[List.findIdx?_cons]
  simp only[J4]
  cases p x with
  | true=>simp
  | false=>
   simp only[Bool.false_eq_true,if_false]
   rw[ih (i+1),Option.map_map]
   congr 1;funext n;simp only[Function.comp];omega
theorem Dq {α β:Type} (a:β→α→Bool×β) (s:β) (xs:List α) (i:Nat):decide ((0:Int)≤L5 (J4 a s xs i).1)=(J4 a s xs i).1.isSome:=by
 cases (J4 a s xs i).1<;>simp[L5]
end Go.Emb
namespace Go.Proofs.YtjdiakhipmggjaaGreatDoor
open Go.Emb Go.RowKit Go.Kd Go.Hm
variable {w : World} {K : Value → World → Prop} {σ : Q6}
theorem Wd {β:Type} {xs:List Hm.Met} {v f:Value} (b:β→Hm.Met→Bool×β) (j:β) (a:β→World→Prop) (D:Nat→Prop) (m: ∀s w,a s w→X3 w σ) (B:a j w) (t:Sl 7 E8 σ v xs)
 (y: ∀s x cs (w1:World) (K:Value→World→Prop),x∈xs→Kpt D w w1→a s w1→E8 σ x cs→cs.length=7→(∀w',Kpt D w w'→a (b s x).2 w'→K (.bool (b s x).1) w')→Z3 P f [.agg cs.toArray] w1 K)
 (h: ∀w',Kpt D w w'→a (J4 b j xs 0).2 w'→K (I (L5 (J4 b j xs 0).1)) w'):Q1 P F.g [v,f] w K:=Xk (by
 unfold B6
 ((try simp only[↓M1,M1,Mb,reduceIte]);repeat ((first | refine ld (by assumption) (by assumption) rfl ?_ | refine X7 (by assumption) (by assumption) rfl ?_ | refine Q8 (by assumption) ?_);(try simp only[↓M1,M1,Mb,reduceIte])))
 refine U0 xs.length (fun n w'=>Kpt D w w'∧ ∃s,a s w'∧J4 b j xs 0=J4 b s (xs.drop n) n) ⟨Kpt.refl,j,B,rfl⟩ fun n w1 d E k=>?_
 obtain ⟨u,s,k,e⟩:=k
 have q:=m s w1 k
 ((try simp only[↓M1,M1,Mb,reduceIte]);repeat ((first | refine ld (by assumption) (by assumption) rfl ?_ | refine X7 (by assumption) (by assumption) rfl ?_ | refine Q8 (by assumption) ?_);(try simp only[↓M1,M1,Mb,reduceIte])))
 refine Q7 (fun o=>?_) (fun o=>?_)
 ·have c:n<xs.length:=by simpa using o
  refine M9 t c fun p cs z g C=>?_
  refine Y4 q z g ?_
  refine y s xs[n] cs w1 _ (List.getElem_mem c) u k C g fun A l i=>?_
  rw[List.drop_eq_getElem_cons c] at e
  simp only[J4] at e
  refine Q7 (fun r=>?_) (fun r=>?_)
  ·rw[r] at e
   have:=h A l
   rw[e] at this
   exact this i
  ·rw[r] at e
   ((try simp only[↓M1,M1,Mb,reduceIte]);repeat ((first | refine ld (by assumption) (by assumption) rfl ?_ | refine X7 (by assumption) (by assumption) rfl ?_ | refine Q8 (by assumption) ?_);(try simp only[↓M1,M1,Mb,reduceIte])))
   exact Y5 t.max c ⟨l,_,i,by simpa using e⟩
 ·have c: ¬n<xs.length:=by simpa using o
  rw[List.drop_eq_nil_of_le (by omega)] at e
  have:=h w1 u
  rw[e] at this
  exact this k)
theorem Jb {β:Type} {xs:List Hm.Met} {v f:Value} (b:β→Hm.Met→Bool×β) (d:β) (a:β→World→Prop) (D:Nat→Prop) (c: ∀s w,a s w→X3 w σ) (i:a d w) (g:Sl 7 E8 σ v xs)
 (e: ∀s x cs (w1:World) (K:Value→World→Prop),x∈xs→Kpt D w w1→a s w1→E8 σ x cs→cs.length=7→(∀w',Kpt D w w'→a (b s x).2 w'→K (.bool (b s x).1) w')→Z3 P f [.agg cs.toArray] w1 K)
 (h: ∀w',Kpt D w w'→a (J4 b d xs 0).2 w'→K (.bool (J4 b d xs 0).1.isSome) w'):Q1 P F.a [v,f] w K:=Qr (by
 unfold S7
 refine Wd b d a D c i g e fun w1 k j=>?_
 (try simp only[↓M1,M1,Mb,reduceIte])
 rw[Dq]
 exact h w1 k j)
theorem Fg {xs:List Hm.Met} {v f:Value} (p:Hm.Met→Bool) (hs:X3 w σ) (hv:Sl 7 E8 σ v xs)
 (hf: ∀x cs (w1:World) (K:Value→World→Prop),x∈xs→X3 w1 σ→E8 σ x cs→cs.length=7→(∀w',Below w1.heap.size w1 w'→K (.bool (p x)) w')→Z3 P f [.agg cs.toArray] w1 K)
 (h: ∀w',Below w.heap.size w w'→K (I (L5 (xs.findIdx? p))) w'):Q1 P F.g [v,f] w K:=by
 refine Wd (fun (_:Unit) x=>(p x,())) () (fun _ w'=>Below w.heap.size w w') (fun _=>False) (fun _ w' hb=>hs.below hb) (Below.refl _ _) hv (fun s x cs w1 K hx hk hi hr hl hK=>hf x cs w1 K hx (hs.below hi) hr hl fun w' hb=>hK w' (.of_below (bt hi hb)) (bt hi hb)) fun w' hk hi=>?_
 rw[K5]
 simpa using h w' hi
theorem B8 {xs:List Hm.Met} {v f:Value} (p:Hm.Met→Bool) (hs:X3 w σ) (hv:Sl 7 E8 σ v xs)
 (hf: ∀x cs (w1:World) (K:Value→World→Prop),x∈xs→X3 w1 σ→E8 σ x cs→cs.length=7→(∀w',Below w1.heap.size w1 w'→K (.bool (p x)) w')→Z3 P f [.agg cs.toArray] w1 K)
 (h: ∀w',Below w.heap.size w w'→K (.bool (xs.any p)) w'):Q1 P F.a [v,f] w K:=by
 refine Jb (fun (_:Unit) x=>(p x,())) () (fun _ w'=>Below w.heap.size w w') (fun _=>False) (fun _ w' hb=>hs.below hb) (Below.refl _ _) hv (fun s x cs w1 K hx hk hi hr hl hK=>hf x cs w1 K hx (hs.below hi) hr hl fun w' hb=>hK w' (.of_below (bt hi hb)) (bt hi hb)) fun w' hk hi=>?_
 rw[K5]
 simpa using h w' hi
theorem Li {β:Type} {xs:List Fld} {v f:Value} (b:β→Fld→Bool×β) (j:β) (a:β→World→Prop) (D:Nat→Prop) (m: ∀s w,a s w→X3 w σ) (B:a j w) (t:Sl 3 R7 σ v xs)
 (y: ∀s x cs (w1:World) (K:Value→World→Prop),x∈xs→Kpt D w w1→a s w1→R7 σ x cs→cs.length=3→(∀w',Kpt D w w'→a (b s x).2 w'→K (.bool (b s x).1) w')→Z3 P f [.agg cs.toArray] w1 K)
 (h: ∀w',Kpt D w w'→a (J4 b j xs 0).2 w'→K (I (L5 (J4 b j xs 0).1)) w'):Q1 P F.i [v,f] w K:=Yo (by
 unfold G1
 ((try simp only[↓M1,M1,Mb,reduceIte]);repeat ((first | refine ld (by assumption) (by assumption) rfl ?_ | refine X7 (by assumption) (by assumption) rfl ?_ | refine Q8 (by assumption) ?_);(try simp only[↓M1,M1,Mb,reduceIte])))
 refine U0 xs.length (fun n w'=>Kpt D w w'∧ ∃s,a s w'∧J4 b j xs 0=J4 b s (xs.drop n) n) ⟨Kpt.refl,j,B,rfl⟩ fun n w1 d E k=>?_
 obtain ⟨u,s,k,e⟩:=k
 have q:=m s w1 k
 ((try simp only[↓M1,M1,Mb,reduceIte]);repeat ((first | refine ld (by assumption) (by assumption) rfl ?_ | refine X7 (by assumption) (by assumption) rfl ?_ | refine Q8 (by assumption) ?_);(try simp only[↓M1,M1,Mb,reduceIte])))
 refine Q7 (fun o=>?_) (fun o=>?_)
 ·have c:n<xs.length:=by simpa using o
  refine M9 t c fun p cs z g C=>?_
  refine Y4 q z g ?_
  refine y s xs[n] cs w1 _ (List.getElem_mem c) u k C g fun A l i=>?_
  rw[List.drop_eq_getElem_cons c] at e
  simp only[J4] at e
  refine Q7 (fun r=>?_) (fun r=>?_)
  ·rw[r] at e
   have:=h A l
   rw[e] at this
   exact this i
  ·rw[r] at e
   ((try simp only[↓M1,M1,Mb,reduceIte]);repeat ((first | refine ld (by assumption) (by assumption) rfl ?_ | refine X7 (by assumption) (by assumption) rfl ?_ | refine Q8 (by assumption) ?_);(try simp only[↓M1,M1,Mb,reduceIte])))
   exact Y5 t.max c ⟨l,_,i,by simpa using e⟩
 ·have c: ¬n<xs.length:=by simpa using o
  rw[List.drop_eq_nil_of_le (by omega)] at e
  have:=h w1 u
  rw[e] at this
  exact this k)
theorem Rq {β:Type} {xs:List Fld} {v f:Value} (b:β→Fld→Bool×β) (d:β) (a:β→World→Prop) (D:Nat→Prop) (c: ∀s w,a s w→X3 w σ) (i:a d w) (g:Sl 3 R7 σ v xs)
 (e: ∀s x cs (w1:World) (K:Value→World→Prop),x∈xs→Kpt D w w1→a s w1→R7 σ x cs→cs.length=3→(∀w',Kpt D w w'→a (b s x).2 w'→K (.bool (b s x).1) w')→Z3 P f [.agg cs.toArray] w1 K)
 (h: ∀w',Kpt D w w'→a (J4 b d xs 0).2 w'→K (.bool (J4 b d xs 0).1.isSome) w'):Q1 P F.f [v,f] w K:=Xe (by
 unfold C9
 refine Li b d a D c i g e fun w1 k j=>?_
 (try simp only[↓M1,M1,Mb,reduceIte])
 rw[Dq]
 exact h w1 k j)
theorem Gl {xs:List Fld} {v f:Value} (p:Fld→Bool) (hs:X3 w σ) (hv:Sl 3 R7 σ v xs)
 (hf: ∀x cs (w1:World) (K:Value→World→Prop),x∈xs→X3 w1 σ→R7 σ x cs→cs.length=3→(∀w',Below w1.heap.size w1 w'→K (.bool (p x)) w')→Z3 P f [.agg cs.toArray] w1 K)
 (h: ∀w',Below w.heap.size w w'→K (I (L5 (xs.findIdx? p))) w'):Q1 P F.i [v,f] w K:=by
 refine Li (fun (_:Unit) x=>(p x,())) () (fun _ w'=>Below w.heap.size w w') (fun _=>False) (fun _ w' hb=>hs.below hb) (Below.refl _ _) hv (fun s x cs w1 K hx hk hi hr hl hK=>hf x cs w1 K hx (hs.below hi) hr hl fun w' hb=>hK w' (.of_below (bt hi hb)) (bt hi hb)) fun w' hk hi=>?_
 rw[K5]
 simpa using h w' hi
theorem Jr {xs:List Fld} {v f:Value} (p:Fld→Bool) (hs:X3 w σ) (hv:Sl 3 R7 σ v xs)
 (hf: ∀x cs (w1:World) (K:Value→World→Prop),x∈xs→X3 w1 σ→R7 σ x cs→cs.length=3→(∀w',Below w1.heap.size w1 w'→K (.bool (p x)) w')→Z3 P f [.agg cs.toArray] w1 K)
 (h: ∀w',Below w.heap.size w w'→K (.bool (xs.any p)) w'):Q1 P F.f [v,f] w K:=by
 refine Rq (fun (_:Unit) x=>(p x,())) () (fun _ w'=>Below w.heap.size w w') (fun _=>False) (fun _ w' hb=>hs.below hb) (Below.refl _ _) hv (fun s x cs w1 K hx hk hi hr hl hK=>hf x cs w1 K hx (hs.below hi) hr hl fun w' hb=>hK w' (.of_below (bt hi hb)) (bt hi hb)) fun w' hk hi=>?_
 rw[K5]
 simpa using h w' hi
theorem Ge {β:Type} {xs:List Ins} {v f:Value} (b:β→Ins→Bool×β) (j:β) (a:β→World→Prop) (D:Nat→Prop) (m: ∀s w,a s w→X3 w σ) (B:a j w) (t:Sl 3 Qt σ v xs)
 (y: ∀s x cs (w1:World) (K:Value→World→Prop),x∈xs→Kpt D w w1→a s w1→Qt σ x cs→cs.length=3→(∀w',Kpt D w w'→a (b s x).2 w'→K (.bool (b s x).1) w')→Z3 P f [.agg cs.toArray] w1 K)
 (h: ∀w',Kpt D w w'→a (J4 b j xs 0).2 w'→K (I (L5 (J4 b j xs 0).1)) w'):Q1 P F.a5 [v,f] w K:=Yl (by
 unfold F5
 ((try simp only[↓M1,M1,Mb,reduceIte]);repeat ((first | refine ld (by assumption) (by assumption) rfl ?_ | refine X7 (by assumption) (by assumption) rfl ?_ | refine Q8 (by assumption) ?_);(try simp only[↓M1,M1,Mb,reduceIte])))
 refine U0 xs.length (fun n w'=>Kpt D w w'∧ ∃s,a s w'∧J4 b j xs 0=J4 b s (xs.drop n) n) ⟨Kpt.refl,j,B,rfl⟩ fun n w1 d E k=>?_
 obtain ⟨u,s,k,e⟩:=k
 have q:=m s w1 k
 ((try simp only[↓M1,M1,Mb,reduceIte]);repeat ((first | refine ld (by assumption) (by assumption) rfl ?_ | refine X7 (by assumption) (by assumption) rfl ?_ | refine Q8 (by assumption) ?_);(try simp only[↓M1,M1,Mb,reduceIte])))
 refine Q7 (fun o=>?_) (fun o=>?_)
 ·have c:n<xs.length:=by simpa using o
  refine M9 t c fun p cs z g C=>?_
  refine Y4 q z g ?_
  refine y s xs[n] cs w1 _ (List.getElem_mem c) u k C g fun A l i=>?_
  rw[List.drop_eq_getElem_cons c] at e
  simp only[J4] at e
  refine Q7 (fun r=>?_) (fun r=>?_)
  ·rw[r] at e
   have:=h A l
   rw[e] at this
   exact this i
  ·rw[r] at e
   ((try simp only[↓M1,M1,Mb,reduceIte]);repeat ((first | refine ld (by assumption) (by assumption) rfl ?_ | refine X7 (by assumption) (by assumption) rfl ?_ | refine Q8 (by assumption) ?_);(try simp only[↓M1,M1,Mb,reduceIte])))
   exact Y5 t.max c ⟨l,_,i,by simpa using e⟩
 ·have c: ¬n<xs.length:=by simpa using o
  rw[List.drop_eq_nil_of_le (by omega)] at e
  have:=h w1 u
  rw[e] at this
  exact this k)
theorem Cd {β:Type} {xs:List Ins} {v f:Value} (b:β→Ins→Bool×β) (d:β) (a:β→World→Prop) (D:Nat→Prop) (c: ∀s w,a s w→X3 w σ) (i:a d w) (g:Sl 3 Qt σ v xs)
 (e: ∀s x cs (w1:World) (K:Value→World→Prop),x∈xs→Kpt D w w1→a s w1→Qt σ x cs→cs.length=3→(∀w',Kpt D w w'→a (b s x).2 w'→K (.bool (b s x).1) w')→Z3 P f [.agg cs.toArray] w1 K)
 (h: ∀w',Kpt D w w'→a (J4 b d xs 0).2 w'→K (.bool (J4 b d xs 0).1.isSome) w'):Q1 P F.l [v,f] w K:=Xd (by
 unfold C8
 refine Ge b d a D c i g e fun w1 k j=>?_
 (try simp only[↓M1,M1,Mb,reduceIte])
 rw[Dq]
 exact h w1 k j)
theorem Sf {xs:List Ins} {v f:Value} (p:Ins→Bool) (hs:X3 w σ) (hv:Sl 3 Qt σ v xs)
 (hf: ∀x cs (w1:World) (K:Value→World→Prop),x∈xs→X3 w1 σ→Qt σ x cs→cs.length=3→(∀w',Below w1.heap.size w1 w'→K (.bool (p x)) w')→Z3 P f [.agg cs.toArray] w1 K)
 (h: ∀w',Below w.heap.size w w'→K (.bool (xs.any p)) w'):Q1 P F.l [v,f] w K:=by
 refine Cd (fun (_:Unit) x=>(p x,())) () (fun _ w'=>Below w.heap.size w w') (fun _=>False) (fun _ w' hb=>hs.below hb) (Below.refl _ _) hv (fun s x cs w1 K hx hk hi hr hl hK=>hf x cs w1 K hx (hs.below hi) hr hl fun w' hb=>hK w' (.of_below (bt hi hb)) (bt hi hb)) fun w' hk hi=>?_
 rw[K5]
 simpa using h w' hi
theorem Fx {β:Type} {xs:List Cat} {v f:Value} (b:β→Cat→Bool×β) (j:β) (a:β→World→Prop) (D:Nat→Prop) (m: ∀s w,a s w→X3 w σ) (B:a j w) (t:Sl 4 Jk σ v xs)
 (y: ∀s x cs (w1:World) (K:Value→World→Prop),x∈xs→Kpt D w w1→a s w1→Jk σ x cs→cs.length=4→(∀w',Kpt D w w'→a (b s x).2 w'→K (.bool (b s x).1) w')→Z3 P f [.agg cs.toArray] w1 K)
 (h: ∀w',Kpt D w w'→a (J4 b j xs 0).2 w'→K (I (L5 (J4 b j xs 0).1)) w'):Q1 P F.a6 [v,f] w K:=Ys (by
 unfold G3
 ((try simp only[↓M1,M1,Mb,reduceIte]);repeat ((first | refine ld (by assumption) (by assumption) rfl ?_ | refine X7 (by assumption) (by assumption) rfl ?_ | refine Q8 (by assumption) ?_);(try simp only[↓M1,M1,Mb,reduceIte])))
 refine U0 xs.length (fun n w'=>Kpt D w w'∧ ∃s,a s w'∧J4 b j xs 0=J4 b s (xs.drop n) n) ⟨Kpt.refl,j,B,rfl⟩ fun n w1 d E k=>?_
 obtain ⟨u,s,k,e⟩:=k
 have q:=m s w1 k
 ((try simp only[↓M1,M1,Mb,reduceIte]);repeat ((first | refine ld (by assumption) (by assumption) rfl ?_ | refine X7 (by assumption) (by assumption) rfl ?_ | refine Q8 (by assumption) ?_);(try simp only[↓M1,M1,Mb,reduceIte])))
 refine Q7 (fun o=>?_) (fun o=>?_)
 ·have c:n<xs.length:=by simpa using o
  refine M9 t c fun p cs z g C=>?_
  refine Y4 q z g ?_
  refine y s xs[n] cs w1 _ (List.getElem_mem c) u k C g fun A l i=>?_
  rw[List.drop_eq_getElem_cons c] at e
  simp only[J4] at e
  refine Q7 (fun r=>?_) (fun r=>?_)
  ·rw[r] at e
   have:=h A l
   rw[e] at this
   exact this i
  ·rw[r] at e
   ((try simp only[↓M1,M1,Mb,reduceIte]);repeat ((first | refine ld (by assumption) (by assumption) rfl ?_ | refine X7 (by assumption) (by assumption) rfl ?_ | refine Q8 (by assumption) ?_);(try simp only[↓M1,M1,Mb,reduceIte])))
   exact Y5 t.max c ⟨l,_,i,by simpa using e⟩
 ·have c: ¬n<xs.length:=by simpa using o
  rw[List.drop_eq_nil_of_le (by omega)] at e
  have:=h w1 u
  rw[e] at this
  exact this k)
theorem Cf {β:Type} {xs:List Cat} {v f:Value} (b:β→Cat→Bool×β) (d:β) (a:β→World→Prop) (D:Nat→Prop) (c: ∀s w,a s w→X3 w σ) (i:a d w) (g:Sl 4 Jk σ v xs)
 (e: ∀s x cs (w1:World) (K:Value→World→Prop),x∈xs→Kpt D w w1→a s w1→Jk σ x cs→cs.length=4→(∀w',Kpt D w w'→a (b s x).2 w'→K (.bool (b s x).1) w')→Z3 P f [.agg cs.toArray] w1 K)
 (h: ∀w',Kpt D w w'→a (J4 b d xs 0).2 w'→K (.bool (J4 b d xs 0).1.isSome) w'):Q1 P F.m [v,f] w K:=Xb (by
 unfold B1
 refine Fx b d a D c i g e fun w1 k j=>?_
 (try simp only[↓M1,M1,Mb,reduceIte])
 rw[Dq]
 exact h w1 k j)
theorem Rz {xs:List Cat} {v f:Value} (p:Cat→Bool) (hs:X3 w σ) (hv:Sl 4 Jk σ v xs)
 (hf: ∀x cs (w1:World) (K:Value→World→Prop),x∈xs→X3 w1 σ→Jk σ x cs→cs.length=4→(∀w',Below w1.heap.size w1 w'→K (.bool (p x)) w')→Z3 P f [.agg cs.toArray] w1 K)
 (h: ∀w',Below w.heap.size w w'→K (.bool (xs.any p)) w'):Q1 P F.m [v,f] w K:=by
 refine Cf (fun (_:Unit) x=>(p x,())) () (fun _ w'=>Below w.heap.size w w') (fun _=>False) (fun _ w' hb=>hs.below hb) (Below.refl _ _) hv (fun s x cs w1 K hx hk hi hr hl hK=>hf x cs w1 K hx (hs.below hi) hr hl fun w' hb=>hK w' (.of_below (bt hi hb)) (bt hi hb)) fun w' hk hi=>?_
 rw[K5]
 simpa using h w' hi
theorem Gf {β:Type} {xs:List Cla} {v f:Value} (b:β→Cla→Bool×β) (j:β) (a:β→World→Prop) (D:Nat→Prop) (m: ∀s w,a s w→X3 w σ) (B:a j w) (t:Sl 8 V0 σ v xs)
 (y: ∀s x cs (w1:World) (K:Value→World→Prop),x∈xs→Kpt D w w1→a s w1→V0 σ x cs→cs.length=8→(∀w',Kpt D w w'→a (b s x).2 w'→K (.bool (b s x).1) w')→Z3 P f [.agg cs.toArray] w1 K)
 (h: ∀w',Kpt D w w'→a (J4 b j xs 0).2 w'→K (I (L5 (J4 b j xs 0).1)) w'):Q1 P F.o [v,f] w K:=Yh (by
 unfold G7
 ((try simp only[↓M1,M1,Mb,reduceIte]);repeat ((first | refine ld (by assumption) (by assumption) rfl ?_ | refine X7 (by assumption) (by assumption) rfl ?_ | refine Q8 (by assumption) ?_);(try simp only[↓M1,M1,Mb,reduceIte])))
 refine U0 xs.length (fun n w'=>Kpt D w w'∧ ∃s,a s w'∧J4 b j xs 0=J4 b s (xs.drop n) n) ⟨Kpt.refl,j,B,rfl⟩ fun n w1 d E k=>?_
 obtain ⟨u,s,k,e⟩:=k
 have q:=m s w1 k
 ((try simp only[↓M1,M1,Mb,reduceIte]);repeat ((first | refine ld (by assumption) (by assumption) rfl ?_ | refine X7 (by assumption) (by assumption) rfl ?_ | refine Q8 (by assumption) ?_);(try simp only[↓M1,M1,Mb,reduceIte])))
 refine Q7 (fun o=>?_) (fun o=>?_)
 ·have c:n<xs.length:=by simpa using o
  refine M9 t c fun p cs z g C=>?_
  refine Y4 q z g ?_
  refine y s xs[n] cs w1 _ (List.getElem_mem c) u k C g fun A l i=>?_
  rw[List.drop_eq_getElem_cons c] at e
  simp only[J4] at e
  refine Q7 (fun r=>?_) (fun r=>?_)
  ·rw[r] at e
   have:=h A l
   rw[e] at this
   exact this i
  ·rw[r] at e
   ((try simp only[↓M1,M1,Mb,reduceIte]);repeat ((first | refine ld (by assumption) (by assumption) rfl ?_ | refine X7 (by assumption) (by assumption) rfl ?_ | refine Q8 (by assumption) ?_);(try simp only[↓M1,M1,Mb,reduceIte])))
   exact Y5 t.max c ⟨l,_,i,by simpa using e⟩
 ·have c: ¬n<xs.length:=by simpa using o
  rw[List.drop_eq_nil_of_le (by omega)] at e
  have:=h w1 u
  rw[e] at this
  exact this k)
theorem Gs {xs:List Cla} {v f:Value} (p:Cla→Bool) (hs:X3 w σ) (hv:Sl 8 V0 σ v xs)
 (hf: ∀x cs (w1:World) (K:Value→World→Prop),x∈xs→X3 w1 σ→V0 σ x cs→cs.length=8→(∀w',Below w1.heap.size w1 w'→K (.bool (p x)) w')→Z3 P f [.agg cs.toArray] w1 K)
 (h: ∀w',Below w.heap.size w w'→K (I (L5 (xs.findIdx? p))) w'):Q1 P F.o [v,f] w K:=by
 refine Gf (fun (_:Unit) x=>(p x,())) () (fun _ w'=>Below w.heap.size w w') (fun _=>False) (fun _ w' hb=>hs.below hb) (Below.refl _ _) hv (fun s x cs w1 K hx hk hi hr hl hK=>hf x cs w1 K hx (hs.below hi) hr hl fun w' hb=>hK w' (.of_below (bt hi hb)) (bt hi hb)) fun w' hk hi=>?_
 rw[K5]
 simpa using h w' hi
theorem Q0y {β:Type} {xs:List X0} {v f:Value} (b:β→X0→Bool×β) (j:β) (a:β→World→Prop) (D:Nat→Prop) (m: ∀s w,a s w→X3 w σ) (C:a j w) (t:Sl 1 U8 σ v xs)
 (z: ∀s x (w1:World) (K:Value→World→Prop),x∈xs→Kpt D w w1→a s w1→x.length≤U1→(∀w',Kpt D w w'→a (b s x).2 w'→K (.bool (b s x).1) w')→Z3 P f [S x] w1 K)
 (h: ∀w',Kpt D w w'→a (J4 b j xs 0).2 w'→K (I (L5 (J4 b j xs 0).1)) w'):Q1 P F.v [v,f] w K:=Vj (by
 unfold T0
 ((try simp only[↓M1,M1,Mb,reduceIte]);repeat ((first | refine ld (by assumption) (by assumption) rfl ?_ | refine X7 (by assumption) (by assumption) rfl ?_ | refine Q8 (by assumption) ?_);(try simp only[↓M1,M1,Mb,reduceIte])))
 refine U0 xs.length (fun n w'=>Kpt D w w'∧ ∃s,a s w'∧J4 b j xs 0=J4 b s (xs.drop n) n) ⟨Kpt.refl,j,C,rfl⟩ fun n w1 d H k=>?_
 obtain ⟨y,s,k,e⟩:=k
 have q:=m s w1 k
 ((try simp only[↓M1,M1,Mb,reduceIte]);repeat ((first | refine ld (by assumption) (by assumption) rfl ?_ | refine X7 (by assumption) (by assumption) rfl ?_ | refine Q8 (by assumption) ?_);(try simp only[↓M1,M1,Mb,reduceIte])))
 refine Q7 (fun o=>?_) (fun o=>?_)
 ·have c:n<xs.length:=by simpa using o
  refine M9 t c fun p cs A u E=>?_
  obtain ⟨rfl,i⟩:=E
  refine X7 q A rfl ?_
  refine z s xs[n] w1 _ (List.getElem_mem c) y k i fun B l g=>?_
  rw[List.drop_eq_getElem_cons c] at e
  simp only[J4] at e
  refine Q7 (fun r=>?_) (fun r=>?_)
  ·rw[r] at e
   have:=h B l
   rw[e] at this
   exact this g
  ·rw[r] at e
   ((try simp only[↓M1,M1,Mb,reduceIte]);repeat ((first | refine ld (by assumption) (by assumption) rfl ?_ | refine X7 (by assumption) (by assumption) rfl ?_ | refine Q8 (by assumption) ?_);(try simp only[↓M1,M1,Mb,reduceIte])))
   exact Y5 t.max c ⟨l,_,g,by simpa using e⟩
 ·have c: ¬n<xs.length:=by simpa using o
  rw[List.drop_eq_nil_of_le (by omega)] at e
  have:=h w1 y
  rw[e] at this
  exact this k)
theorem Q0K {xs:List X0} {v f:Value} (p:X0→Bool) (hs:X3 w σ) (hv:Sl 1 U8 σ v xs)
 (hf: ∀x (w1:World) (K:Value→World→Prop),x∈xs→X3 w1 σ→x.length≤U1→(∀w',Below w1.heap.size w1 w'→K (.bool (p x)) w')→Z3 P f [S x] w1 K)
 (h: ∀w',Below w.heap.size w w'→K (I (L5 (xs.findIdx? p))) w'):Q1 P F.v [v,f] w K:=by
 refine Q0y (fun (_:Unit) x=>(p x,())) () (fun _ w'=>Below w.heap.size w w') (fun _=>False) (fun _ w' hb=>hs.below hb) (Below.refl _ _) hv (fun s x w1 K hx hk hi hr hK=>hf x w1 K hx (hs.below hi) hr fun w' hb=>hK w' (.of_below (bt hi hb)) (bt hi hb)) fun w' hk hi=>?_
 rw[K5]
 simpa using h w' hi
theorem Q5L {α:Type} (p:α→Bool) (xs:List α):decide ((0:Int)≤L5 (xs.findIdx? p))=xs.any p:=by
 rw[Bool.eq_iff_iff,List.any_eq_true]
 simp only[decide_eq_true_eq]
 cases h:xs.findIdx? p with
 | none=>
  simp only[L5]
  constructor
  ·intro h;omega
  ·rintro ⟨x,c,a⟩;have:=List.findIdx?_eq_none_iff.1 h x c;rw[a] at this;cases this
 | some i=>
  simp only[L5]
  obtain ⟨b,a,_⟩:=List.findIdx?_eq_some_iff_getElem.1 h
  exact ⟨fun _=>⟨xs[i],List.getElem_mem b,a⟩,fun _=>by omega⟩
theorem P3 {xs:List X0} {v f:Value} (p:X0→Bool) (d:X3 w σ) (b:Sl 1 U8 σ v xs)
 (c: ∀x (w1:World) (K:Value→World→Prop),x∈xs→X3 w1 σ→x.length≤U1→(∀w',Below w1.heap.size w1 w'→K (.bool (p x)) w')→Z3 P f [S x] w1 K)
 (h: ∀w',Below w.heap.size w w'→K (.bool (xs.any p)) w'):Q1 P F.c [v,f] w K:=Jh (by
 unfold K0
 refine Q0K p d b c fun w1 a=>?_
 (try simp only[↓M1,M1,Mb,reduceIte])
 rw[Q5L]
 exact h w1 a)
theorem Q3K {xs:List X0} {v:Value} {x:X0} (q:X3 w σ) (g:Sl 1 U8 σ v xs)
 (h:K (I (L5 (xs.findIdx? fun y=>decide (x=y)))) w):Q1 P F.ar [v,S x] w K:=Np (by
 unfold Qh
 ((try simp only[↓M1,M1,Mb,reduceIte]);repeat ((first | refine ld (by assumption) (by assumption) rfl ?_ | refine X7 (by assumption) (by assumption) rfl ?_ | refine Q8 (by assumption) ?_);(try simp only[↓M1,M1,Mb,reduceIte])))
 refine U0 xs.length (fun n w'=>w=w'∧(xs.take n).any (fun y=>decide (x=y))=false) ⟨rfl,rfl⟩ fun n w1 d m b=>?_
 obtain ⟨rfl,b⟩:=b
 ((try simp only[↓M1,M1,Mb,reduceIte]);repeat ((first | refine ld (by assumption) (by assumption) rfl ?_ | refine X7 (by assumption) (by assumption) rfl ?_ | refine Q8 (by assumption) ?_);(try simp only[↓M1,M1,Mb,reduceIte])))
 refine Q7 (fun c=>?_) (fun c=>?_)
 ·have a:n<xs.length:=by simpa using c
  refine M9 g a fun p cs o i l=>?_
  obtain ⟨rfl,f⟩:=l
  ((try simp only[↓M1,M1,Mb,reduceIte]);repeat ((first | refine ld (by assumption) (by assumption) rfl ?_ | refine X7 (by assumption) (by assumption) rfl ?_ | refine Q8 (by assumption) ?_);(try simp only[↓M1,M1,Mb,reduceIte])))
  refine Q7 (fun e=>?_) (fun e=>?_)
  ·have:xs.findIdx? (fun y=>decide (x=y))=some n:=by
    rw[List.findIdx?_eq_some_iff_getElem]
    refine ⟨a,e,fun j r=>?_⟩
    have:=List.any_eq_false.1 b (xs[j]) (List.mem_take_iff_getElem.2 ⟨j,by omega,rfl⟩)
    exact this
   rw[this] at h;exact h
  ·((try simp only[↓M1,M1,Mb,reduceIte]);repeat ((first | refine ld (by assumption) (by assumption) rfl ?_ | refine X7 (by assumption) (by assumption) rfl ?_ | refine Q8 (by assumption) ?_);(try simp only[↓M1,M1,Mb,reduceIte])))
   exact Y5 g.max a ⟨rfl,by rw[L3 a,b,e];rfl⟩
 ·have a: ¬n<xs.length:=by simpa using c
  rw[E0 a] at b
  have:xs.findIdx? (fun y=>decide (x=y))=none:=by
   rw[List.findIdx?_eq_none_iff];intro y k;simpa using List.any_eq_false.1 b y k
  rw[this] at h;exact h)
theorem Q1O {xs:List X0} {v:Value} {x:X0} (b:X3 w σ) (a:Sl 1 U8 σ v xs)
 (h:K (.bool (xs.any fun y=>decide (x=y))) w):Q1 P F.ag [v,S x] w K:=Vr (by
 unfold T7
 refine Q3K b a ?_
 (try simp only[↓M1,M1,Mb,reduceIte])
 rw[Q5L]
 exact h)
end Go.Proofs.YtjdiakhipmggjaaGreatDoor

namespace Go.Emb
abbrev Q6.Le (σ σ':Q6):Prop:= ∀b o,σ b=some o→σ' b=some o
def C6 {α:Type} (f:α→List UInt8):List α→List α→Bool
 | _,[]=>true
 | seen,x::r=> !(seen.any fun y=>decide (f y=f x))&&C6 f (seen++[x]) r
theorem Vv {α:Type} (p:α→Bool) (xs:List α):(!xs.any fun x=> !p x)=xs.all p:=by
 rw[List.all_eq_not_any_not]
end Go.Emb
namespace Go.Proofs.YtjdiakhipmggjaaGreatDoor
open Go.Emb Go.RowKit Go.Kd Go.Hm
variable {w : World} {K : Value → World → Prop} {σ : Q6}
theorem Q0x {xs:List Hm.Met} {v:Value} {fn:Fn} {n d:Array Value} (p:Hm.Met→Bool) (t:X3 w σ) (u:Sl 7 E8 σ v xs)
 (q: ∀(σ1:Q6) x cs (w1:World) (K:Value→World→Prop),σ.Le σ1→x∈xs→X3 w1 σ1→E8 σ1 x cs→cs.length=7→(∀w',Below w1.heap.size w1 w'→K (.bool (p x)) w')→Z3 P (.func fn n d) [.agg cs.toArray] w1 K)
 (h: ∀w',Below w.heap.size w w'→K (.bool (xs.all p)) w'):Q1 P F.an [v, .func fn n d] w K:=Rs (by
 unfold Ud
 refine E7 t fun a w1 σ1 f m=>?_
 simp only[Value.cells] at m
 ((try simp only[↓M1,M1,Mb,reduceIte]);repeat ((first | refine ld (by assumption) (by assumption) rfl ?_ | refine X7 (by assumption) (by assumption) rfl ?_ | refine Q8 (by assumption) ?_);(try simp only[↓M1,M1,Mb,reduceIte])))
 refine B8 (fun x=> !p x) f.sat (u.up f) (fun x cs l K s g z k B=>?_) fun l y=>?_
 ·refine Z6 (Hh ?_)
  unfold Za
  refine E7 g fun b A r c j=>?_
  refine X7 c.sat (m.up c) rfl ?_
  refine Y4 c.sat j k ?_
  refine q r x _ A _ (fun b o e=>c.le b o (f.le b o e)) s c.sat (Rep.up c.le z) k fun C i=>?_
  (try simp only[↓M1,M1,Mb,reduceIte])
  exact B C (bt c.bel i)
 ·(try simp only[↓M1,M1,Mb,reduceIte])
  rw[Vv]
  exact h l (bt f.bel y))
theorem Q1R {xs:List Fld} {v:Value} {fn:Fn} {n d:Array Value} (p:Fld→Bool) (t:X3 w σ) (u:Sl 3 R7 σ v xs)
 (q: ∀(σ1:Q6) x cs (w1:World) (K:Value→World→Prop),σ.Le σ1→x∈xs→X3 w1 σ1→R7 σ1 x cs→cs.length=3→(∀w',Below w1.heap.size w1 w'→K (.bool (p x)) w')→Z3 P (.func fn n d) [.agg cs.toArray] w1 K)
 (h: ∀w',Below w.heap.size w w'→K (.bool (xs.all p)) w'):Q1 P F.aq [v, .func fn n d] w K:=Cs (by
 unfold Vg
 refine E7 t fun a w1 σ1 f m=>?_
 simp only[Value.cells] at m
 ((try simp only[↓M1,M1,Mb,reduceIte]);repeat ((first | refine ld (by assumption) (by assumption) rfl ?_ | refine X7 (by assumption) (by assumption) rfl ?_ | refine Q8 (by assumption) ?_);(try simp only[↓M1,M1,Mb,reduceIte])))
 refine Jr (fun x=> !p x) f.sat (u.up f) (fun x cs l K s g z k B=>?_) fun l y=>?_
 ·refine Z6 (Ra ?_)
  unfold Je
  refine E7 g fun b A r c j=>?_
  refine X7 c.sat (m.up c) rfl ?_
  refine Y4 c.sat j k ?_
  refine q r x _ A _ (fun b o e=>c.le b o (f.le b o e)) s c.sat (Rep.up c.le z) k fun C i=>?_
  (try simp only[↓M1,M1,Mb,reduceIte])
  exact B C (bt c.bel i)
 ·(try simp only[↓M1,M1,Mb,reduceIte])
  rw[Vv]
  exact h l (bt f.bel y))
theorem Q1P {xs:List Ins} {v:Value} {fn:Fn} {n d:Array Value} (p:Ins→Bool) (t:X3 w σ) (u:Sl 3 Qt σ v xs)
 (q: ∀(σ1:Q6) x cs (w1:World) (K:Value→World→Prop),σ.Le σ1→x∈xs→X3 w1 σ1→Qt σ1 x cs→cs.length=3→(∀w',Below w1.heap.size w1 w'→K (.bool (p x)) w')→Z3 P (.func fn n d) [.agg cs.toArray] w1 K)
 (h: ∀w',Below w.heap.size w w'→K (.bool (xs.all p)) w'):Q1 P F.au [v, .func fn n d] w K:=Cq (by
 unfold Vd
 refine E7 t fun a w1 σ1 f m=>?_
 simp only[Value.cells] at m
 ((try simp only[↓M1,M1,Mb,reduceIte]);repeat ((first | refine ld (by assumption) (by assumption) rfl ?_ | refine X7 (by assumption) (by assumption) rfl ?_ | refine Q8 (by assumption) ?_);(try simp only[↓M1,M1,Mb,reduceIte])))
 refine Sf (fun x=> !p x) f.sat (u.up f) (fun x cs l K s g z k B=>?_) fun l y=>?_
 ·refine Z6 (Hw ?_)
  unfold Zw
  refine E7 g fun b A r c j=>?_
  refine X7 c.sat (m.up c) rfl ?_
  refine Y4 c.sat j k ?_
  refine q r x _ A _ (fun b o e=>c.le b o (f.le b o e)) s c.sat (Rep.up c.le z) k fun C i=>?_
  (try simp only[↓M1,M1,Mb,reduceIte])
  exact B C (bt c.bel i)
 ·(try simp only[↓M1,M1,Mb,reduceIte])
  rw[Vv]
  exact h l (bt f.bel y))
theorem Q1Z {xs:List Cat} {v:Value} {fn:Fn} {n d:Array Value} (p:Cat→Bool) (t:X3 w σ) (u:Sl 4 Jk σ v xs)
 (q: ∀(σ1:Q6) x cs (w1:World) (K:Value→World→Prop),σ.Le σ1→x∈xs→X3 w1 σ1→Jk σ1 x cs→cs.length=4→(∀w',Below w1.heap.size w1 w'→K (.bool (p x)) w')→Z3 P (.func fn n d) [.agg cs.toArray] w1 K)
 (h: ∀w',Below w.heap.size w w'→K (.bool (xs.all p)) w'):Q1 P F.av [v, .func fn n d] w K:=Cr (by
 unfold Va
 refine E7 t fun a w1 σ1 f m=>?_
 simp only[Value.cells] at m
 ((try simp only[↓M1,M1,Mb,reduceIte]);repeat ((first | refine ld (by assumption) (by assumption) rfl ?_ | refine X7 (by assumption) (by assumption) rfl ?_ | refine Q8 (by assumption) ?_);(try simp only[↓M1,M1,Mb,reduceIte])))
 refine Rz (fun x=> !p x) f.sat (u.up f) (fun x cs l K s g z k B=>?_) fun l y=>?_
 ·refine Z6 (Rb ?_)
  unfold Jg
  refine E7 g fun b A r c j=>?_
  refine X7 c.sat (m.up c) rfl ?_
  refine Y4 c.sat j k ?_
  refine q r x _ A _ (fun b o e=>c.le b o (f.le b o e)) s c.sat (Rep.up c.le z) k fun C i=>?_
  (try simp only[↓M1,M1,Mb,reduceIte])
  exact B C (bt c.bel i)
 ·(try simp only[↓M1,M1,Mb,reduceIte])
  rw[Vv]
  exact h l (bt f.bel y))
theorem Gc {xs:List X0} {v:Value} {fn:Fn} {i c:Array Value} (p:X0→Bool) (l:X3 w σ) (m:Sl 1 U8 σ v xs)
 (j: ∀(σ1:Q6) x (w1:World) (K:Value→World→Prop),σ.Le σ1→x∈xs→X3 w1 σ1→x.length≤U1→(∀w',Below w1.heap.size w1 w'→K (.bool (p x)) w')→Z3 P (.func fn i c) [S x] w1 K)
 (h: ∀w',Below w.heap.size w w'→K (.bool (xs.all p)) w'):Q1 P F.a9 [v, .func fn i c] w K:=Pr (by
 unfold Ny
 refine E7 l fun a w1 σ1 d g=>?_
 simp only[Value.cells] at g
 ((try simp only[↓M1,M1,Mb,reduceIte]);repeat ((first | refine ld (by assumption) (by assumption) rfl ?_ | refine X7 (by assumption) (by assumption) rfl ?_ | refine Q8 (by assumption) ?_);(try simp only[↓M1,M1,Mb,reduceIte])))
 refine P3 (fun x=> !p x) d.sat (m.up d) (fun x e K k b o q=>?_) fun e n=>?_
 ·refine Z6 (By ?_)
  unfold Vx
  refine X7 b g rfl ?_
  refine j σ1 x e _ d.le k b o fun r f=>?_
  (try simp only[↓M1,M1,Mb,reduceIte])
  exact q r f
 ·(try simp only[↓M1,M1,Mb,reduceIte])
  rw[Vv]
  exact h e (bt d.bel n))
theorem Q1V {xs:List Hm.Met} {v:Value} {fn:Fn} {E l:Array Value} (f:Hm.Met→X0) (hs:X3 w σ) (A:Sl 7 E8 σ v xs)
 (Y: ∀(σ1:Q6) x cs (w1:World) (K:Value→World→Prop),σ.Le σ1→X3 w1 σ1→E8 σ1 x cs→cs.length=7→(∀w',Below w1.heap.size w1 w'→K (S (f x)) w')→Z3 P (.func fn E l) [.agg cs.toArray] w1 K)
 (h: ∀w',Below w.heap.size w w'→K (.bool (C6 f [] xs)) w'):Q1 P F.ap [v, .func fn E l] w K:=Cn (by
 unfold Vc
 refine E7 hs fun a w1 σ1 C X=>?_
 simp only[Value.cells] at X
 have M:=C.sat
 replace A:=A.up C
 ((try simp only[↓M1,M1,Mb,reduceIte]);repeat ((first | refine ld (by assumption) (by assumption) rfl ?_ | refine X7 (by assumption) (by assumption) rfl ?_ | refine Q8 (by assumption) ?_);(try simp only[↓M1,M1,Mb,reduceIte])))
 refine U0 xs.length (fun n w'=>Below w1.heap.size w1 w'∧C6 f [] xs=C6 f (xs.take n) (xs.drop n)) ⟨Below.refl _ _,rfl⟩ fun n w2 d hn hi=>?_
 obtain ⟨j,s⟩:=hi
 have z:=M.below j
 ((try simp only[↓M1,M1,Mb,reduceIte]);repeat ((first | refine ld (by assumption) (by assumption) rfl ?_ | refine X7 (by assumption) (by assumption) rfl ?_ | refine Q8 (by assumption) ?_);(try simp only[↓M1,M1,Mb,reduceIte])))
 refine Q7 (fun L=>?_) (fun L=>?_)
 ·have k:n<xs.length:=by simpa using L
  rw[List.drop_eq_getElem_cons k] at s
  simp only[C6] at s
  refine M9 A k fun p cs hl g Z=>?_
  refine Y4 z hl g ?_
  refine Y9 z (by rfl) g (Rep.one Z) fun q w3 σ3 i hq=>?_
  refine Ee (A.up i) none (some (I n)) 0 n (.inl ⟨rfl,rfl⟩) (.inr rfl) (by omega) (by omega) fun v' V=>?_
  ((try simp only[↓M1,M1,Mb,reduceIte]);repeat ((first | refine ld (by assumption) (by assumption) rfl ?_ | refine X7 (by assumption) (by assumption) rfl ?_ | refine Q8 (by assumption) ?_);(try simp only[↓M1,M1,Mb,reduceIte])))
  refine B8 (fun y=>decide (f y=f xs[n])) i.sat V (fun y ys w4 K hy N H B hK=>?_) fun w4 R=>?_
  ·refine Z6 (Ri ?_)
   unfold Ja
   refine E7 N fun b w5 O c U=>?_
   have u:=(X.up i).up c
   have W:=hq.up c
   have r:σ.Le O:=fun b o e=>c.le b o (i.le b o (C.le b o e))
   refine Dn (Below.refl _ _) ?_
   refine X4 (.func fn E l) (fun w j=>X7 (c.sat.below j) u rfl (X6 rfl)) ?_
   refine X4 (.agg ys.toArray) (fun w j=>Y4 (c.sat.below j) U B (X6 rfl)) ?_
   refine X4 (S (f y)) (fun t t' w j e e'=>by rw[e,e'];exact Y O y ys w _ r (c.sat.below j) (Rep.up c.le H) B fun w' Q=>Q2O Q rfl) ?_
   refine X4 (.func fn E l) (fun w j=>X7 (c.sat.below j) u rfl (X6 rfl)) ?_
   refine X4 (.agg cs.toArray) (fun w j=>Y4 (c.sat.below j) W g (X6 rfl)) ?_
   rintro _ _ _ _ _ w6 D rfl rfl rfl rfl rfl
   refine Y O xs[n] cs w6 _ r (c.sat.below D) (Rep.up (fun b o e=>c.le b o (i.le b o e)) Z) g fun w7 J=>?_
   (try simp only[↓M1,M1,Mb,reduceIte])
   exact hK w7 (bt (bt c.bel D) J)
  ·have m:=bt j (bt i.bel R)
   simp only[List.drop_zero,Nat.sub_zero] at*
   refine Q7 (fun hh=>?_) (fun hh=>?_)
   ·rw[hh] at s
    have:=h w4 (bt C.bel m)
    rw[s] at this;exact this
   ·rw[hh] at s
    ((try simp only[↓M1,M1,Mb,reduceIte]);repeat ((first | refine ld (by assumption) (by assumption) rfl ?_ | refine X7 (by assumption) (by assumption) rfl ?_ | refine Q8 (by assumption) ?_);(try simp only[↓M1,M1,Mb,reduceIte])))
    refine Y5 A.max k ⟨m,?_⟩
    rw[s,List.take_add_one,List.getElem?_eq_getElem k];rfl
 ·have k: ¬n<xs.length:=by simpa using L
  rw[List.drop_eq_nil_of_le (by omega)] at s
  have:=h w2 (bt C.bel j)
  rw[s] at this;exact this)
theorem Q2v {xs:List Fld} {v:Value} {fn:Fn} {E l:Array Value} (f:Fld→X0) (hs:X3 w σ) (A:Sl 3 R7 σ v xs)
 (Y: ∀(σ1:Q6) x cs (w1:World) (K:Value→World→Prop),σ.Le σ1→X3 w1 σ1→R7 σ1 x cs→cs.length=3→(∀w',Below w1.heap.size w1 w'→K (S (f x)) w')→Z3 P (.func fn E l) [.agg cs.toArray] w1 K)
 (h: ∀w',Below w.heap.size w w'→K (.bool (C6 f [] xs)) w'):Q1 P F.aE [v, .func fn E l] w K:=Bn (by
 unfold Vp
 refine E7 hs fun a w1 σ1 C X=>?_
 simp only[Value.cells] at X
 have M:=C.sat
 replace A:=A.up C
 ((try simp only[↓M1,M1,Mb,reduceIte]);repeat ((first | refine ld (by assumption) (by assumption) rfl ?_ | refine X7 (by assumption) (by assumption) rfl ?_ | refine Q8 (by assumption) ?_);(try simp only[↓M1,M1,Mb,reduceIte])))
 refine U0 xs.length (fun n w'=>Below w1.heap.size w1 w'∧C6 f [] xs=C6 f (xs.take n) (xs.drop n)) ⟨Below.refl _ _,rfl⟩ fun n w2 d hn hi=>?_
 obtain ⟨j,s⟩:=hi
 have z:=M.below j
 ((try simp only[↓M1,M1,Mb,reduceIte]);repeat ((first | refine ld (by assumption) (by assumption) rfl ?_ | refine X7 (by assumption) (by assumption) rfl ?_ | refine Q8 (by assumption) ?_);(try simp only[↓M1,M1,Mb,reduceIte])))
 refine Q7 (fun L=>?_) (fun L=>?_)
 ·have k:n<xs.length:=by simpa using L
  rw[List.drop_eq_getElem_cons k] at s
  simp only[C6] at s
  refine M9 A k fun p cs hl g Z=>?_
  refine Y4 z hl g ?_
  refine Y9 z (by rfl) g (Rep.one Z) fun q w3 σ3 i hq=>?_
  refine Ee (A.up i) none (some (I n)) 0 n (.inl ⟨rfl,rfl⟩) (.inr rfl) (by omega) (by omega) fun v' V=>?_
  ((try simp only[↓M1,M1,Mb,reduceIte]);repeat ((first | refine ld (by assumption) (by assumption) rfl ?_ | refine X7 (by assumption) (by assumption) rfl ?_ | refine Q8 (by assumption) ?_);(try simp only[↓M1,M1,Mb,reduceIte])))
  refine Jr (fun y=>decide (f y=f xs[n])) i.sat V (fun y ys w4 K hy N H B hK=>?_) fun w4 R=>?_
  ·refine Z6 (Sb ?_)
   unfold Ub
   refine E7 N fun b w5 O c U=>?_
   have u:=(X.up i).up c
   have W:=hq.up c
   have r:σ.Le O:=fun b o e=>c.le b o (i.le b o (C.le b o e))
   refine Dn (Below.refl _ _) ?_
   refine X4 (.func fn E l) (fun w j=>X7 (c.sat.below j) u rfl (X6 rfl)) ?_
   refine X4 (.agg ys.toArray) (fun w j=>Y4 (c.sat.below j) U B (X6 rfl)) ?_
   refine X4 (S (f y)) (fun t t' w j e e'=>by rw[e,e'];exact Y O y ys w _ r (c.sat.below j) (Rep.up c.le H) B fun w' Q=>Q2O Q rfl) ?_
   refine X4 (.func fn E l) (fun w j=>X7 (c.sat.below j) u rfl (X6 rfl)) ?_
   refine X4 (.agg cs.toArray) (fun w j=>Y4 (c.sat.below j) W g (X6 rfl)) ?_
   rintro _ _ _ _ _ w6 D rfl rfl rfl rfl rfl
   refine Y O xs[n] cs w6 _ r (c.sat.below D) (Rep.up (fun b o e=>c.le b o (i.le b o e)) Z) g fun w7 J=>?_
   (try simp only[↓M1,M1,Mb,reduceIte])
   exact hK w7 (bt (bt c.bel D) J)
  ·have m:=bt j (bt i.bel R)
   simp only[List.drop_zero,Nat.sub_zero] at*
   refine Q7 (fun hh=>?_) (fun hh=>?_)
   ·rw[hh] at s
    have:=h w4 (bt C.bel m)
    rw[s] at this;exact this
   ·rw[hh] at s
    ((try simp only[↓M1,M1,Mb,reduceIte]);repeat ((first | refine ld (by assumption) (by assumption) rfl ?_ | refine X7 (by assumption) (by assumption) rfl ?_ | refine Q8 (by assumption) ?_);(try simp only[↓M1,M1,Mb,reduceIte])))
    refine Y5 A.max k ⟨m,?_⟩
    rw[s,List.take_add_one,List.getElem?_eq_getElem k];rfl
 ·have k: ¬n<xs.length:=by simpa using L
  rw[List.drop_eq_nil_of_le (by omega)] at s
  have:=h w2 (bt C.bel j)
  rw[s] at this;exact this)
theorem Q4P {xs:List X0} {v:Value} {fn:Fn} {D k:Array Value} (f:X0→X0) (Y:X3 w σ) (A:Sl 1 U8 σ v xs)
 (U: ∀(σ1:Q6) x (w1:World) (K:Value→World→Prop),σ.Le σ1→X3 w1 σ1→x.length≤U1→(∀w',Below w1.heap.size w1 w'→K (S (f x)) w')→Z3 P (.func fn D k) [S x] w1 K)
 (h: ∀w',Below w.heap.size w w'→K (.bool (C6 f [] xs)) w'):Q1 P F.aT [v, .func fn D k] w K:=Aa (by
 unfold Dh
 refine E7 Y fun a w1 σ1 B R=>?_
 simp only[Value.cells] at R
 have M:=B.sat
 replace A:=A.up B
 ((try simp only[↓M1,M1,Mb,reduceIte]);repeat ((first | refine ld (by assumption) (by assumption) rfl ?_ | refine X7 (by assumption) (by assumption) rfl ?_ | refine Q8 (by assumption) ?_);(try simp only[↓M1,M1,Mb,reduceIte])))
 refine U0 xs.length (fun n w'=>Below w1.heap.size w1 w'∧C6 f [] xs=C6 f (xs.take n) (xs.drop n)) ⟨Below.refl _ _,rfl⟩ fun n Z d hn hi=>?_
 obtain ⟨i,r⟩:=hi
 have u:=M.below i
 ((try simp only[↓M1,M1,Mb,reduceIte]);repeat ((first | refine ld (by assumption) (by assumption) rfl ?_ | refine X7 (by assumption) (by assumption) rfl ?_ | refine Q8 (by assumption) ?_);(try simp only[↓M1,M1,Mb,reduceIte])))
 refine Q7 (fun L=>?_) (fun L=>?_)
 ·have j:n<xs.length:=by simpa using L
  rw[List.drop_eq_getElem_cons j] at r
  simp only[C6] at r
  refine M9 A j fun p cs X V hr=>?_
  obtain ⟨rfl,s⟩:=hr
  refine X7 u X rfl ?_
  refine U7 u (by rfl) rfl rfl fun q w3 E c hq=>?_
  refine Ee (A.up c) none (some (I n)) 0 n (.inl ⟨rfl,rfl⟩) (.inr rfl) (by omega) (by omega) fun v' Q=>?_
  ((try simp only[↓M1,M1,Mb,reduceIte]);repeat ((first | refine ld (by assumption) (by assumption) rfl ?_ | refine X7 (by assumption) (by assumption) rfl ?_ | refine Q8 (by assumption) ?_);(try simp only[↓M1,M1,Mb,reduceIte])))
  refine P3 (fun y=>decide (f y=f xs[n])) c.sat Q (fun y W K hy g H hK=>?_) fun W O=>?_
  ·refine Z6 (Fy ?_)
   unfold Lc
   have z:=R.up c
   have m:σ.Le E:=fun b o e=>c.le b o (B.le b o e)
   refine Dn (Below.refl _ _) ?_
   refine X4 (.func fn D k) (fun w i=>X7 (g.below i) z rfl (X6 rfl)) ?_
   refine X4 (S (f y)) (fun t w i e=>by rw[e];exact U E y w _ m (g.below i) H fun w' N=>Q2O N rfl) ?_
   refine X4 (.func fn D k) (fun w i=>X7 (g.below i) z rfl (X6 rfl)) ?_
   refine X4 (S xs[n]) (fun w i=>X7 (g.below i) hq rfl (X6 rfl)) ?_
   rintro _ _ _ _ w6 C rfl rfl rfl rfl
   refine U E xs[n] w6 _ m (g.below C) s fun w7 J=>?_
   (try simp only[↓M1,M1,Mb,reduceIte])
   exact hK w7 (bt C J)
  ·have l:=bt i (bt c.bel O)
   simp only[List.drop_zero,Nat.sub_zero] at*
   refine Q7 (fun hh=>?_) (fun hh=>?_)
   ·rw[hh] at r
    have:=h W (bt B.bel l)
    rw[r] at this;exact this
   ·rw[hh] at r
    ((try simp only[↓M1,M1,Mb,reduceIte]);repeat ((first | refine ld (by assumption) (by assumption) rfl ?_ | refine X7 (by assumption) (by assumption) rfl ?_ | refine Q8 (by assumption) ?_);(try simp only[↓M1,M1,Mb,reduceIte])))
    refine Y5 A.max j ⟨l,?_⟩
    rw[r,List.take_add_one,List.getElem?_eq_getElem j];rfl
 ·have j: ¬n<xs.length:=by simpa using L
  rw[List.drop_eq_nil_of_le (by omega)] at r
  have:=h Z (bt B.bel i)
  rw[r] at this;exact this)
theorem Q6w {P:Program} {w:World} (d:Nat) (t e:TypeId) (a:Option Addr) (n c:Nat) (h:P.underlying t=some (.slice e)):
 (Op.equalIn (d+1) t (.slice a n c) (.slice none 0 0)).run P w= .ok a.isNone w:=by
 cases a<;>simp[Op.equalIn,run_underlying h]
theorem Q1z {t e:TypeId} {f i:Operand} [ts:TS P t e] {a:Option Addr} {n c:Nat} {b:Bool} (d:a.isNone=b) (g:K (.bool b) w):Q3 P .eql t f i (.slice a n c) (.slice none 0 0) w K:=by
 have j:(Op.equal t (.slice a n c) (.slice none 0 0)).run P w= .ok b w:=by
  have:=Q6w (P:=P) (w:=w) 9999 t e a n c ts.h
  rw[d] at this
  exact this
 unfold Q3
 rw[Y0 (v:= .bool b) (w':=w) (by simp[eqGuard,Go.binOp,j])]
 exact g
theorem Lo {xs:List X0} {v:Value} (e:X3 w σ) (f:Sl 1 U8 σ v xs) (s:xs.length≤1000000)
 (h: ∀i w' b,Stp w σ w' b→Sl 1 U8 b i xs→K i w'):Q1 P F.a7 [v] w K:=Mq (by
 unfold Qi
 have c:=f
 obtain ⟨a,o,rfl,u,y,j,t⟩:=f
 refine Q1z rfl ?_
 refine Q7 (fun g=>?_) (fun g=>?_)
 ·have:a=none:=by simpa using g
  have z:=j this
  have k:xs=[]:=List.eq_nil_of_length_eq_zero (by omega)
  subst k
  exact h _ w σ (Stp.refl e) Sl.nil
 ·refine Zc (R:=U8) (sz:=1) (Stp.refl e) [] [] rfl rfl (by simp) (by rfl) trivial fun B w1 r n _=>?_
  refine app r n c (by rfl) (by simp only[List.length_nil];omega) (by simp only[List.length_nil];omega) fun C l A q d _=>?_
  obtain ⟨b,m,p,_⟩:=d.keep q
  exact h _ l b m p)
theorem Eo {xs:List Fld} {v:Value} (e:X3 w σ) (f:Sl 3 R7 σ v xs) (s:xs.length≤1000000)
 (h: ∀i w' b,Stp w σ w' b→Sl 3 R7 b i xs→K i w'):Q1 P F.ac [v] w K:=Jj (by
 unfold K9
 have c:=f
 obtain ⟨a,o,rfl,u,y,j,t⟩:=f
 refine Q1z rfl ?_
 refine Q7 (fun g=>?_) (fun g=>?_)
 ·have:a=none:=by simpa using g
  have z:=j this
  have k:xs=[]:=List.eq_nil_of_length_eq_zero (by omega)
  subst k
  exact h _ w σ (Stp.refl e) Sl.nil
 ·refine Zc (R:=R7) (sz:=3) (Stp.refl e) [] [] rfl rfl (by simp) (by rfl) trivial fun B w1 r n _=>?_
  refine app r n c (by rfl) (by simp only[List.length_nil];omega) (by simp only[List.length_nil];omega) fun C l A q d _=>?_
  obtain ⟨b,m,p,_⟩:=d.keep q
  exact h _ l b m p)
theorem Ez {xs:List Ins} {v:Value} (e:X3 w σ) (f:Sl 3 Qt σ v xs) (s:xs.length≤1000000)
 (h: ∀i w' b,Stp w σ w' b→Sl 3 Qt b i xs→K i w'):Q1 P F.ad [v] w K:=Jn (by
 unfold K8
 have c:=f
 obtain ⟨a,o,rfl,u,y,j,t⟩:=f
 refine Q1z rfl ?_
 refine Q7 (fun g=>?_) (fun g=>?_)
 ·have:a=none:=by simpa using g
  have z:=j this
  have k:xs=[]:=List.eq_nil_of_length_eq_zero (by omega)
  subst k
  exact h _ w σ (Stp.refl e) Sl.nil
 ·refine Zc (R:=Qt) (sz:=3) (Stp.refl e) [] [] rfl rfl (by simp) (by rfl) trivial fun B w1 r n _=>?_
  refine app r n c (by rfl) (by simp only[List.length_nil];omega) (by simp only[List.length_nil];omega) fun C l A q d _=>?_
  obtain ⟨b,m,p,_⟩:=d.keep q
  exact h _ l b m p)
theorem Hb {xs:List Cat} {v:Value} (e:X3 w σ) (f:Sl 4 Jk σ v xs) (s:xs.length≤1000000)
 (h: ∀i w' b,Stp w σ w' b→Sl 4 Jk b i xs→K i w'):Q1 P F.ae [v] w K:=Jv (by
 unfold K7
 have c:=f
 obtain ⟨a,o,rfl,u,y,j,t⟩:=f
 refine Q1z rfl ?_
 refine Q7 (fun g=>?_) (fun g=>?_)
 ·have:a=none:=by simpa using g
  have z:=j this
  have k:xs=[]:=List.eq_nil_of_length_eq_zero (by omega)
  subst k
  exact h _ w σ (Stp.refl e) Sl.nil
 ·refine Zc (R:=Jk) (sz:=4) (Stp.refl e) [] [] rfl rfl (by simp) (by rfl) trivial fun B w1 r n _=>?_
  refine app r n c (by rfl) (by simp only[List.length_nil];omega) (by simp only[List.length_nil];omega) fun C l A q d _=>?_
  obtain ⟨b,m,p,_⟩:=d.keep q
  exact h _ l b m p)
end Go.Proofs.YtjdiakhipmggjaaGreatDoor

namespace Go.Hm
open Go.Kd
structure Opr where
  name : X0
  number : Bool
  text : Bool
deriving DecidableEq
def Um:List Opr:=[
 ⟨[105,110,116],true,false⟩,
 ⟨[116,114,117,101],false,false⟩,
 ⟨[102,97,108,115,101],false,false⟩,
 ⟨[119,111,114,100],false,true⟩,
 ⟨[110,117,108,108],false,false⟩,
 ⟨[108,111,97,100],true,false⟩,
 ⟨[115,116,111,114,101],true,false⟩,
 ⟨[112,111,112],false,false⟩,
 ⟨[100,117,112],false,false⟩,
 ⟨[115,119,97,112],false,false⟩,
 ⟨[97,100,100],false,false⟩,
 ⟨[115,117,98],false,false⟩,
 ⟨[109,117,108],false,false⟩,
 ⟨[100,105,118],false,false⟩,
 ⟨[114,101,109],false,false⟩,
 ⟨[110,101,103],false,false⟩,
 ⟨[108,101,115,115],false,false⟩,
 ⟨[115,97,109,101],false,false⟩,
 ⟨[110,111,116],false,false⟩,
 ⟨[98,111,116,104],false,false⟩,
 ⟨[106,111,105,110],false,false⟩,
 ⟨[115,105,122,101],false,false⟩,
 ⟨[106,117,109,112],true,false⟩,
 ⟨[98,114,97,110,99,104],true,false⟩,
 ⟨[110,101,119],false,true⟩,
 ⟨[103,101,116],false,true⟩,
 ⟨[112,117,116],false,true⟩,
 ⟨[99,97,108,108],false,true⟩,
 ⟨[97,114,114,97,121],false,true⟩,
 ⟨[97,116],false,false⟩,
 ⟨[115,101,116],false,false⟩,
 ⟨[105,115],false,true⟩,
 ⟨[99,97,115,116],false,true⟩,
 ⟨[114,101,116,117,114,110],false,false⟩,
 ⟨[116,104,114,111,119],false,false⟩,
 ⟨[111,117,116],false,false⟩,
 ⟨[101,113,117,97,108],false,false⟩,
 ⟨[97,110,100],false,false⟩,
 ⟨[111,114],false,false⟩,
 ⟨[120,111,114],false,false⟩,
 ⟨[115,104,108],false,false⟩,
 ⟨[115,104,114],false,false⟩]
end Go.Hm
namespace Go.Emb
open Go.Hm
def ROp (_:Q6) (o:Opr) (cs:List Value):Prop:=cs=[S o.name, .bool o.number, .bool o.text]
def cOp (o:Opr):List Value:=[S o.name, .bool o.number, .bool o.text]
instance:Rep ROp:=⟨fun _ h=>h,fun h u hu=>by rw[h] at hu;simp at hu;rcases hu with rfl | rfl | rfl<;>rfl⟩
end Go.Emb
namespace Go.Proofs.YtjdiakhipmggjaaGreatDoor
open Go.Emb Go.RowKit Go.Kd Go.Hm
variable {w : World} {K : Value → World → Prop} {σ : Q6}
theorem Q6a {a:X0} (l:a.length≤U1) (h: ∀w',Below w.heap.size w w'→K (.bool (D6 a)) w'):Q1 P F.bT [S a] w K:=Q3M (by
 unfold Gh
 have b:a.length≤140737488355328:=by simp only[U1] at l;omega
 refine Q62 a b fun w1 i=>?_
 cases d:name a
 ·(try simp only[↓M1,M1,Mb,reduceIte])
  have:=h w1 i
  rwa [show D6 a=false by cases a with | nil=>rfl | cons c r=>simp[D6,d]] at this
 ·(try simp only[↓M1,M1,Mb,reduceIte])
  refine Rl a b fun k j=>?_
  (try simp only[↓M1,M1,Mb,reduceIte])
  have:=h k (bt i j)
  rwa [show D6 a= !M6 a by
   cases a with
   | nil=>simp[name] at d
   | cons c r=>
    obtain ⟨g,m⟩:=Pt d
    simp only[M6,D6,d,Bool.true_and]
    simp only[S8,m,Bool.or_false] at g
    cases f:Xh c.toNat<;>cases e:Qa c.toNat
    ·simp[f,e] at g
    ·rfl
    ·rfl
    ·exfalso
     simp only[Xh,Qa,Bool.and_eq_true,decide_eq_true_eq] at f e
     omega] at this)
theorem X2b {t e:TypeId} {n sz b:Nat} {z:Value} [ta:TA P t n e] [tz:TZ P e sz b z] {a:Addr} (c:K (.slice (some a) n n) w):R6 P t (.pointer (some a)) none none none w K:=by
 unfold R6
 have:(Instr.sliceAt t (.pointer (some a)) none none none).run P w= .ok (.slice (some (if n=0 then a else a.add (0*sz))) (n-0) (n-0)) w:=by
  simp[Instr.sliceAt,run_underlying ta.h,Instr.sureAddr,Instr.sliceBounds,W5 tz]
 rw[Y0 this]
 have d:(if n=0 then a else a.add (0*sz))=a:=by
  by_cases h:n=0
  ·rw[if_pos h]
  ·rw[if_neg h,Nat.zero_mul,add_zero]
 rw[d];exact c
def Q2u (σ:Q6):Prop:=Z4 σ ⟨G.a,0,none⟩ (Um.flatMap cOp)
theorem Q75 (i:Nat) (o:Opr) (h:Um[i]? =some o):((Um.flatMap cOp).drop (i*3)).take 3=cOp o:=by
 have c:i<42:=(List.getElem?_eq_some_iff.1 h).1
 have key: ∀l:List Opr,∀i o,l[i]? =some o→((l.flatMap cOp).drop (i*3)).take 3=cOp o:=by
  intro l
  induction l with
  | nil=>intro i o h;simp at h
  | cons a r b=>
   intro i o h
   cases i with
   | zero=>simp at h;subst h;rfl
   | succ i=>
    have:=b i o (by simpa using h)
    rw[List.flatMap_cons,show (i+1)*3=(cOp a).length+i*3 by simp[cOp];omega,List.drop_append]
    simpa [List.drop_eq_nil_of_le] using this
 exact key _ i o h
theorem Q3e {σ:Q6} {a:Addr} {cs:List Value} (h:Z4 σ a cs) (i n:Nat):Z4 σ (a.add i) ((cs.drop i).take n):=by
 obtain ⟨d,arr,e,c,f,g⟩:=h
 refine ⟨I6 d _,arr,e,c,by rw[S9];exact f,fun j v b=>?_⟩
 rw[List.getElem?_take] at b
 split at b
 ·rw[List.getElem?_drop] at b
  rw[Qg,Nat.add_assoc];exact g _ _ b
 ·cases b
theorem X2x (h:Q2u σ):Sl 3 ROp σ (.slice (some ⟨G.a,0,none⟩) 42 42) Um:=by
 refine ⟨_,42,rfl,by decide,by decide,by simp,?_⟩
 rintro _ ⟨⟩
 refine ⟨fun _=>rfl,fun i x a=>⟨cOp x,?_,rfl,rfl⟩⟩
 rw[←Q75 i x a]
 exact Q3e h (i*3) 3
theorem Tp {β:Type} {xs:List Opr} {v f:Value} (b:β→Opr→Bool×β) (j:β) (a:β→World→Prop) (D:Nat→Prop) (m: ∀s w,a s w→X3 w σ) (B:a j w) (t:Sl 3 ROp σ v xs)
 (y: ∀s x cs (w1:World) (K:Value→World→Prop),x∈xs→Kpt D w w1→a s w1→ROp σ x cs→cs.length=3→(∀w',Kpt D w w'→a (b s x).2 w'→K (.bool (b s x).1) w')→Z3 P f [.agg cs.toArray] w1 K)
 (h: ∀w',Kpt D w w'→a (J4 b j xs 0).2 w'→K (I (L5 (J4 b j xs 0).1)) w'):Q1 P F.t [v,f] w K:=Ui (by
 unfold P0
 ((try simp only[↓M1,M1,Mb,reduceIte]);repeat ((first | refine ld (by assumption) (by assumption) rfl ?_ | refine X7 (by assumption) (by assumption) rfl ?_ | refine Q8 (by assumption) ?_);(try simp only[↓M1,M1,Mb,reduceIte])))
 refine U0 xs.length (fun n w'=>Kpt D w w'∧ ∃s,a s w'∧J4 b j xs 0=J4 b s (xs.drop n) n) ⟨Kpt.refl,j,B,rfl⟩ fun n w1 d E k=>?_
 obtain ⟨u,s,k,e⟩:=k
 have q:=m s w1 k
 ((try simp only[↓M1,M1,Mb,reduceIte]);repeat ((first | refine ld (by assumption) (by assumption) rfl ?_ | refine X7 (by assumption) (by assumption) rfl ?_ | refine Q8 (by assumption) ?_);(try simp only[↓M1,M1,Mb,reduceIte])))
 refine Q7 (fun o=>?_) (fun o=>?_)
 ·have c:n<xs.length:=by simpa using o
  refine M9 t c fun p cs z g C=>?_
  refine Y4 q z g ?_
  refine y s xs[n] cs w1 _ (List.getElem_mem c) u k C g fun A l i=>?_
  rw[List.drop_eq_getElem_cons c] at e
  simp only[J4] at e
  refine Q7 (fun r=>?_) (fun r=>?_)
  ·rw[r] at e
   have:=h A l
   rw[e] at this
   exact this i
  ·rw[r] at e
   ((try simp only[↓M1,M1,Mb,reduceIte]);repeat ((first | refine ld (by assumption) (by assumption) rfl ?_ | refine X7 (by assumption) (by assumption) rfl ?_ | refine Q8 (by assumption) ?_);(try simp only[↓M1,M1,Mb,reduceIte])))
   exact Y5 t.max c ⟨l,_,i,by simpa using e⟩
 ·have c: ¬n<xs.length:=by simpa using o
  rw[List.drop_eq_nil_of_le (by omega)] at e
  have:=h w1 u
  rw[e] at this
  exact this k)
theorem To {xs:List Opr} {v f:Value} (p:Opr→Bool) (hs:X3 w σ) (hv:Sl 3 ROp σ v xs)
 (hf: ∀x cs (w1:World) (K:Value→World→Prop),x∈xs→X3 w1 σ→ROp σ x cs→cs.length=3→(∀w',Below w1.heap.size w1 w'→K (.bool (p x)) w')→Z3 P f [.agg cs.toArray] w1 K)
 (h: ∀w',Below w.heap.size w w'→K (I (L5 (xs.findIdx? p))) w'):Q1 P F.t [v,f] w K:=by
 refine Tp (fun (_:Unit) x=>(p x,())) () (fun _ w'=>Below w.heap.size w w') (fun _=>False) (fun _ w' hb=>hs.below hb) (Below.refl _ _) hv (fun s x cs w1 K hx hk hi hr hl hK=>hf x cs w1 K hx (hs.below hi) hr hl fun w' hb=>hK w' (.of_below (bt hi hb)) (bt hi hb)) fun w' hk hi=>?_
 rw[K5]
 simpa using h w' hi
theorem Q2u.le {σ a:Q6} (h:Q2u σ) (c: ∀b o,σ b=some o→a b=some o):Q2u a:=Z4.le h c
def Qn (n:X0):Option Nat:=Um.findIdx? fun o=>decide (o.name=n)
theorem X2A {a:X0} (k:X3 w σ) (l:Q2u σ) (h: ∀w',Below w.heap.size w w'→K (I (L5 (Qn a))) w'):Q1 P F.cM [S a] w K:=Q6o (by
 unfold Q25
 refine E7 k fun p w1 σ1 e f=>?_
 simp only[Value.cells] at f
 refine X2b ?_
 ((try simp only[↓M1,M1,Mb,reduceIte]);repeat ((first | refine ld (by assumption) (by assumption) rfl ?_ | refine X7 (by assumption) (by assumption) rfl ?_ | refine Q8 (by assumption) ?_);(try simp only[↓M1,M1,Mb,reduceIte])))
 refine To (fun o=>decide (o.name=a)) e.sat (X2x (l.le e.le)) (fun x cs g K y c r u t=>?_) fun g n=>?_
 ·refine Z6 (Q4J ?_)
  unfold Te
  refine E7 c fun q s v b m=>?_
  have d:cs=[S x.name, .bool x.number, .bool x.text]:=r
  subst d
  have j:=b.sat
  have i:=f.up b
  simp only[Value.cells] at m
  ((try simp only[↓M1,M1,Mb,reduceIte]);repeat ((first | refine ld (by assumption) (by assumption) rfl ?_ | refine X7 (by assumption) (by assumption) rfl ?_ | refine Q8 (by assumption) ?_);(try simp only[↓M1,M1,Mb,reduceIte])))
  exact t s b.bel
 ·(try simp only[↓M1,M1,Mb,reduceIte])
  exact h g (bt e.bel n))
def takes (n:X0):Bool×Bool×Bool:=match Qn n with
 | none=>(false,false,false)
 | some i=>((Um.getD i ⟨[],false,false⟩).number,(Um.getD i ⟨[],false,false⟩).text,true)
theorem X1O {a:X0} (j:X3 w σ) (k:Q2u σ) (h: ∀w',Below w.heap.size w w'→K (.tuple #[.bool (takes a).1, .bool (takes a).2.1, .bool (takes a).2.2]) w'):Q1 P F.cm [S a] w K:=Q5s (by
 unfold Q0X
 refine X2A j k fun w1 b=>?_
 have c:=j.below b
 unfold takes at h
 cases f:Qn a with
 | none=>
  rw[f] at h
  simp only[L5]
  (try simp only[↓M1,M1,Mb,reduceIte])
  simp only[show decide ((-1:Int)<0)=true from rfl,↓M1,M1,Mb,reduceIte]
  exact h w1 b
 | some i=>
  rw[f] at h
  simp only at h
  have n:i<42:=(List.findIdx?_eq_some_iff_getElem.1 f).1
  have l:Um[i]? =some (Um.getD i ⟨[],false,false⟩):=by
   rw[List.getD,List.getElem?_eq_getElem (by exact n)];rfl
  generalize Um.getD i ⟨[],false,false⟩=o at h l
  have g:=Q3e k (i*3) 3
  rw[Q75 i o l] at g
  simp only[L5]
  have p:decide ((i:Int)<0)=false:=by simp
  simp only[p,↓M1,M1,Mb,reduceIte]
  have A: ∀{w:World} {K:Value→World→Prop},K (.pointer (some ((⟨G.a,0,none⟩:Addr).add (i*3)))) w→indexAddr P T.af (.pointer (some ⟨G.a,0,none⟩)) (I i) w K:=by
   intro w K h
   rw[Q9T (by omega) (by omega)]
   simpa using h
  refine Dn (Below.refl _ _) ?_
  refine X4 (.pointer (some ((⟨G.a,0,none⟩:Addr).add (i*3)))) (fun w b=>A (X6 rfl)) ?_
  refine X4 (.pointer (some (((⟨G.a,0,none⟩:Addr).add (i*3)).add 1))) (fun t w b e=>by rw[e,fa];exact X6 rfl) ?_
  refine X4 (.pointer (some ((⟨G.a,0,none⟩:Addr).add (i*3)))) (fun w b=>A (X6 rfl)) ?_
  refine X4 (.pointer (some (((⟨G.a,0,none⟩:Addr).add (i*3)).add 2))) (fun t w b e=>by rw[e,fa];exact X6 rfl) ?_
  refine X4 (.bool o.number) (fun t w b e=>by rw[e];exact ld (c.below b) g rfl (X6 rfl)) ?_
  refine X4 (.bool o.text) (fun t w b e=>by rw[e];exact ld (c.below b) g rfl (X6 rfl)) ?_
  rintro _ _ _ _ _ _ m d rfl rfl rfl rfl rfl rfl
  exact h m (bt b d))
end Go.Proofs.YtjdiakhipmggjaaGreatDoor

namespace Go.Emb
open Go.RowKit Go.Hm
variable {P : Program} {w w0 w1 w' w'' : World} {K : Value → World → Prop} {σ σ0 σ1 σ' : Q6}
structure SLe (σ σ' : Q6) : Prop where
  le : ∀ b o, σ b = some o → σ' b = some o
theorem SLe.refl (σ:Q6):SLe σ σ:=⟨fun _ _ h=>h⟩
theorem SLe.step {w w':World} (h:SLe σ0 σ) (k:Stp w σ w' σ'):SLe σ0 σ':=⟨fun b o e=>k.le b o (h.le b o e)⟩
theorem SLe.more (h:SLe σ0 σ) (k:SLe σ σ'):SLe σ0 σ':=⟨fun b o e=>k.le b o (h.le b o e)⟩
structure Hst (w : World) (σ : Q6) (w' : World) (σ' : Q6) : Prop where
  stp : Stp w σ w' σ'
theorem Hst.sat (h:Hst w σ w' σ'):X3 w' σ':=h.stp.sat
section lifts
variable {α : Type} {R : Q6 → α → List Value → Prop} {sz : Nat} {v : Value} {xs : List α} {a : Addr} {cs : List Value}
theorem Sl.lift [Rep R] (h:Sl sz R σ0 v xs) (k:SLe σ0 σ):Sl sz R σ v xs:=h.le k.le
theorem Z4.lift (h:Z4 σ0 a cs) (k:SLe σ0 σ):Z4 σ a cs:=h.le k.le
theorem Xi.lift {r:Nat} {m:List (List UInt8×Value)} (h:Xi σ0 r m) (k:SLe σ0 σ):Xi σ r m:=h.le k.le
theorem RMe_lift {x:Hm.Met} (h:E8 σ0 x cs) (k:SLe σ0 σ):E8 σ x cs:=Rep.up k.le h
theorem RCl_lift {x:Cla} (h:V0 σ0 x cs) (k:SLe σ0 σ):V0 σ x cs:=Rep.up k.le h
theorem RFd_any {x:Fld} (h:R7 σ0 x cs):R7 σ x cs:=h
theorem RIn_any {x:Ins} (h:Qt σ0 x cs):Qt σ x cs:=h
theorem RCa_any {x:Cat} (h:Jk σ0 x cs):Jk σ x cs:=h
theorem Y2.step {b:Nat} (h:Y2 σ w b cs) (k:Stp w σ w' σ'):Y2 σ' w' b cs:=h.up k
theorem V5.step [Rep R] {B:Nat} {e:TypeId} (h:V5 B e sz R σ w v xs) (k:Stp w σ w' σ'):V5 B e sz R σ' w' v xs:=h.up k
end lifts
theorem L2 {Q:World→Prop} (d:X3 w σ) (h: ∀w' σ',Stp w σ w' σ'→Q w'): ∀w',Below w.heap.size w w'→Q w':=fun w' c=>h w' σ (Stp.of_below d c)
section plain
variable {k : IntKind} {t : TypeId} {ox oy : Operand} {a b : Int} {x y : Bool} {s u : List UInt8}
theorem N3 (h:K (.int k (k.wrap (a+b))) w):Q3 P .add t ox oy (.int k a) (.int k b) w K:=by rw[Fu];exact h
theorem Xq (c: -9223372036854775808≤a+b∧a+b≤9223372036854775807) (h:K (I (a+b)) w):Q3 P .add t ox oy (I a) (I b) w K:=by rw[Fu,F9 c.1 c.2];exact h
theorem Zi (c: -9223372036854775808≤a-b∧a-b≤9223372036854775807) (h:K (I (a-b)) w):Q3 P .sub t ox oy (I a) (I b) w K:=by rw[Q3W,F9 c.1 c.2];exact h
theorem Z0 (h:K (.bool (decide (a<b))) w):Q3 P .lss t ox oy (.int k a) (.int k b) w K:=by rw[Q3J];exact h
theorem Q4X (h:K (.bool (decide (a≤b))) w):Q3 P .leq t ox oy (.int k a) (.int k b) w K:=by rw[Q3V];exact h
theorem Q1x (h:K (.bool (decide (b<a))) w):Q3 P .gtr t ox oy (.int k a) (.int k b) w K:=by rw[Rj];exact h
theorem P6 (h:K (.bool (decide (b≤a))) w):Q3 P .geq t ox oy (.int k a) (.int k b) w K:=by rw[Q1o];exact h
theorem P1 (h:K (.bool (decide (a=b))) w):Q3 P .eql t ox oy (.int k a) (.int k b) w K:=by rw[Q1l];exact h
theorem Jf (h:K (.bool (!decide (a=b))) w):Q3 P .neq t ox oy (.int k a) (.int k b) w K:=by rw[Q3D];exact h
theorem Wh (h:K (.bool (!x)) w):J8 P .not (.bool x) w K:=by rw[Q3B];exact h
theorem P4 (h:K (.bool (decide (s=u))) w):Q3 P .eql t ox oy (S s) (S u) w K:=by rw[Bw];exact h
theorem Zy (h:K (.bool (!decide (s=u))) w):Q3 P .neq t ox oy (S s) (S u) w K:=by rw[Bx];exact h
theorem Re (c:s.length+u.length≤9223372036854775807) (h:K (S (s++u)) w):Q3 P .add t ox oy (S s) (S u) w K:=by rw[Q22 c];exact h
theorem Fq {cs:List Bool} {r:TypeId} (c:P.underlying t=some .string) (h:K (I s.length) w):X2 P .len [t] r cs [S s] w K:=by rw[R2 c];exact h
theorem X2c {v u:Value} (h:K v w):pick P (.bool true) v u w K:=by rw[M5];exact h
theorem X26 {v u:Value} (h:K u w):pick P (.bool false) v u w K:=by rw[W9];exact h
theorem M0 {v u:Value} (h:K (if x=true then v else u) w):pick P (.bool x) v u w K:=by rw[Ed];exact h
theorem J6 {vs:List Value} {i:Nat} {v:Value} (c:vs[i]? =some v) (h:K v w):ext P (.tuple vs.toArray) i w K:=by rw[Ue c];exact h
theorem J5 {t e:Prop} (h:t):X1 (.bool true) t e:=by rw[H6];exact h
theorem Z7 {t e:Prop} (h:e):X1 (.bool false) t e:=by rw[M4];exact h
theorem X33 {c:World→(Value→World→Prop)→Prop} (h:c w K):Q0 (.bool true) true w c K:=by rw[W2];exact h
theorem X3k {c:World→(Value→World→Prop)→Prop} (h:c w K):Q0 (.bool false) false w c K:=by rw[W7];exact h
theorem X1v {c:World→(Value→World→Prop)→Prop} (h:K undef w):Q0 (.bool true) false w c K:=by rw[S2];exact h
theorem X2j {c:World→(Value→World→Prop)→Prop} (h:K undef w):Q0 (.bool false) true w c K:=by rw[E1];exact h
end plain
section mem
variable {α : Type} {R : Q6 → α → List Value → Prop} {sz : Nat} {v : Value} {xs : List α} {a : Addr} {cs : List Value}
theorem Z1 {t:TypeId} (f:X3 w σ) (h: ∀a w' σ',Stp w σ w' σ'→Z4 σ' a cs→K (.pointer (some a)) w'):box P t (.agg cs.toArray) w K:=
 E7 f fun a w' σ' d c=>h a w' σ' d (by simpa [Value.cells] using c)
theorem U5 {t:TypeId} (g:X3 w σ) (f:v.cells= #[v]) (h: ∀a w' σ',Stp w σ w' σ'→Z4 σ' a [v]→K (.pointer (some a)) w'):box P t v w K:=
 E7 g fun a w' σ' d c=>h a w' σ' d (by rw[f] at c;exact c)
theorem Wu (h:Sl sz R σ v xs):v.cells= #[v]:=by
 obtain ⟨a,c,rfl,_⟩:=h;rfl
theorem W0 {t:TypeId} {k c:Nat} {d:TypeId} {sz by_:Nat} {z:Value} [tf:TF P t k c d] [tz:TZ P d sz by_ z] [nz:NZ sz] (h:K (.pointer (some (a.add c))) w):fieldAddr P t (.pointer (some a)) k w K:=by
 rw[fa];exact h
theorem Z9 {t:TypeId} {k c:Nat} {d:TypeId} [tf:TF P t k c d] [tg:TG P d false] {cs:List Value} {v:Value} (f:cs[c]? =some v) (h:K v w):F3 P t (.agg cs.toArray) k w K:=by
 rw[X1W (v:=v) (by simpa using f)];exact h
end mem
theorem U2 {A:(World→World→Prop)→(World→Prop)→Prop} (d:X3 w σ) (h:A (fun w w'=>Below w.heap.size w w') (fun w'=>Hst w σ w' σ)):dr w A:=
 Is _ _ ⟨Stp.of_below d (Below.refl _ _).drew⟩ (fun _ _ c f=>⟨c.stp.trans (Stp.of_below c.sat f)⟩) h
theorem N2 {α:Type} {R:Q6→α→List Value→Prop} {sz:Nat} {v:Value} {xs:List α} {t:TypeId} (d:X3 w σ) (c:Sl sz R σ v xs) (h: ∀a w' σ',Stp w σ w' σ'→Z4 σ' a [v]→K (.pointer (some a)) w'):box P t v w K:=
 U5 d (Wu c) h
section elems
variable {v : Value} {t e : TypeId} {by_ : Nat} {z : Value} {n : Nat}
theorem Q51 {xs:List Kd.X0} [TS P t e] [TZ P e 1 by_ z] (h:Sl 1 U8 σ v xs) (d:n<xs.length) (f: ∀a,Z4 σ a [S xs[n]]→xs[n].length≤U1→K (.pointer (some a)) w):indexAddr P t v (I n) w K:=
 M9 h d fun a cs g j i=>by obtain ⟨rfl,c⟩:=i;exact f a g c
theorem Q8Q {xs:List Fld} [TS P t e] [TZ P e 3 by_ z] (h:Sl 3 R7 σ v xs) (d:n<xs.length) (f: ∀a,Z4 σ a [S xs[n].name,S xs[n].kind, .bool xs[n].tr]→R7 σ xs[n] [S xs[n].name,S xs[n].kind, .bool xs[n].tr]→K (.pointer (some a)) w):indexAddr P t v (I n) w K:=
 M9 h d fun a cs g j i=>by obtain ⟨rfl,c⟩:=i;exact f a g ⟨rfl,c⟩
end elems
end Go.Emb

namespace Go.Hm
open Go.Kd
abbrev Wo:=X0→Option Cla
def Z2 (l:List Cla) (n:X0):Option Nat:=l.findIdx? fun c=>decide (c.name=n)
def lk (l:List Cla):Wo:=fun n=>(Z2 l n).bind (l[·]?)
def U3 (c:Cla):List X0:=c.super::c.like
def J9:X0:=[79,98,106,101,99,116]
def L6:X0:=[70,97,117,108,116]
def H7:X0:=[110,117,108,108]
def O9:X0:=[116,101,120,116]
def Ql:X0:=[119,104,97,116]
def U4:List X0:=[[78,117,108,108,70,97,117,108,116],[73,110,100,101,120,70,97,117,108,116],[67,97,115,116,70,97,117,108,116],[90,101,114,111,70,97,117,108,116],[82,111,111,109,70,97,117,108,116],[67,97,108,108,70,97,117,108,116]]
def G9:List Cla:=[⟨J9,[],[],false,false,false,[],[]⟩,⟨L6,J9,[],false,false,false,[⟨Ql,O9,false⟩],[]⟩]++U4.map fun n=>⟨n,L6,[],false,false,true,[],[]⟩
def Vf (L:Wo):Nat→List X0→List X0→List X0
 | 0,_,a=>a
 | _,[],a=>a
 | f+1,n::b,a=>match L n with
  | none=>Vf L f b a
  | some c=>if n∈a then Vf L f b a else Vf L f (b++U3 c) (a++[n])
def weigh (l:List Cla) (a:List X0):Nat:=(l.map fun c=>if c.name∈a then 0 else (U3 c).length).sum
def G4 (l:List Cla) (n:X0):List X0:=Vf (lk l) (1+weigh l []) [n] []
def Q0G (l:List Cla) (n:X0):Bool:=(Z2 l n).isSome
def N1 (l:List Cla) (s:X0):Bool:=decide (s=H7)||(right s&&(plain (base s).1||Q0G l (base s).1))
def Xv (l:List Cla) (a b:X0):Bool:=
 if !N1 l a|| !N1 l b then false else if a=b then true else if plain a||plain b then false else if a=H7 then true
 else if elem a≠[] then decide (b=J9) else (G4 l a).contains b
def I4 (L:Wo):Nat→X0→List Cla
 | 0,_=>[]
 | f+1,n=>match L n with
  | none=>[]
  | some c=>c::I4 L f c.super
def chain (l:List Cla) (n:X0):List Cla:=I4 (lk l) (l.length+1) n
def Y6 (l:List Cla) (n:X0):List Fld:=(chain l n).reverse.flatMap (·.fields)
def Ju (l:List Cla) (n f:X0):Option Nat:=(Y6 l n).findIdx? fun x=>decide (x.name=f)
def B9 (c:Cla) (n:X0):Option Hm.Met:=c.methods.find? fun m=>decide (m.name=n)
def Sy (L:Wo):Nat→Cla→X0→Option (X0×Hm.Met)
 | 0,_,_=>none
 | f+1,c,n=>c.like.findSome? fun u=>match L u with
  | none=>none
  | some d=>match B9 d n with
   | some m=>some (u,m)
   | none=>Sy L f d n
def V2 (l:List Cla) (k n:X0):Option (X0×Hm.Met):=
 match (chain l k).findSome? fun c=>(B9 c n).map (c.name,·) with
 | some r=>some r
 | none=>(chain l k).findSome? fun c=>Sy (lk l) (l.length+1) c n
def A4 (l:List Cla) (n:X0):Bool:=match lk l n with
 | some c=> !c.abs
 | none=>false
def H8:List X0→X0
 | []=>[]
 | [a]=>a
 | a::b::r=>a++[44]++H8 (b::r)
def Qu (m:Hm.Met):X0:=[40]++H8 m.params++[41]++m.result
def O6 (l:List Cla) (s:X0):Bool:= !decide (s=H7)&&N1 l s
def Yk (l:List Cla) (c:Cla):Bool:=c.fields.any fun f=>(Ju l c.super f.name).isSome
def B5 (l:List Cla) (c:Cla):Bool:=c.fields.any (fun f=> !O6 l f.kind)||c.methods.any fun m=>(!O6 l m.result&& !decide (m.result=[]))||m.params.any fun s=> !O6 l s
def Lb (l:List Cla) (n:X0):List Hm.Met:=(G4 l n).flatMap fun u=>((lk l u).map (·.methods)).getD []
def Mj (a:List Hm.Met):Bool:=a.any fun x=>a.any fun y=>decide (x.name=y.name)&& !decide (Qu x=Qu y)
def Zm (l:List Cla) (c:Cla):Bool:=Mj (Lb l c.name)
def Ze (l:List Cla) (k n:X0):Bool:=match V2 l k n with
 | none=>true
 | some r=>r.2.abs
def Dl (l:List Cla) (c:Cla):Bool:= !c.abs&&(Lb l c.name).any fun m=>Ze l c.name m.name
def V8 (l:List Cla) (c:Cla):Nat:=if Yk l c then 64 else if B5 l c then 65 else if Zm l c then 66 else if Dl l c then 67 else 0
def Qv (l:List Cla) (n:X0):Bool:=match lk l n with
 | none=>true
 | some d=>d.iface||d.fin
def R3 (l:List Cla) (n:X0):Bool:=match lk l n with
 | none=>true
 | some d=> !d.iface
def D0 (l:List Cla) (c:Cla):Nat:=if Qv l c.super then 61 else if c.like.any (R3 l) then 62 else 0
def P9 (l:List Cla) (c:Cla):Bool:=(U3 c).any fun n=>(G4 l n).contains c.name
def A9 (l:List Cla) (frm:Nat):Nat→List Nat→Nat→List Nat
 | 0,a,_=>a
 | f+1,a,i=>if i<frm then a else if i∈a then a else ((U3 (l.getD i Cla.zero)).foldl (fun a n=>A9 l frm f a ((Z2 l n).getD 0)) a)++[i]
def V9 (l:List Cla) (frm:Nat):List Nat:=((List.range l.length).drop frm).foldl (fun a i=>A9 l frm (l.length+1) a i) []
end Go.Hm

namespace Go.Emb
open Go.RowKit Go.Hm
variable {P : Program} {w w0 w1 w' w'' : World} {K : Value → World → Prop} {σ σ0 σ1 σ' : Q6}
def J7 {α:Type} (B:Nat) (e:TypeId) (sz:Nat) (R:Q6→α→List Value→Prop) (σ:Q6) (w:World) (v:Value) (xs:List α):Prop:=
 ∃a c,v= .slice a xs.length c∧xs.length≤c∧c≤maxLen∧(∀b,a=some b→b.spot=none∧B≤b.block∧b.block<w.heap.size∧σ b.block=none)∧(0<c→ ∃g f d,a=some ⟨g,f,none⟩∧B≤g∧σ g=none∧w.heap[g]? =some (.cells d e (0,0))∧f+c*sz≤d.size∧ ∀i x,xs[i]? =some x→R σ x ((d.toList.drop (f+i*sz)).take sz))
section
variable {α : Type} {R : Q6 → α → List Value → Prop} {B sz : Nat} {e : TypeId} {v u : Value} {xs ys : List α}
theorem J7.of_acc (h:V5 B e sz R σ w v xs):J7 B e sz R σ w v xs:=by
 obtain ⟨cells,r,k,n⟩:=h
 rcases r.2 with ⟨rfl,o⟩ | ⟨g,f,b,rfl,m,l,d,a,q,c⟩
 ·exact ⟨none,0,by rw[o],by omega,by simp,by simp,fun h=>by omega⟩
 ·refine ⟨_,f,rfl,d,a,by rintro _ ⟨⟩;exact ⟨rfl,m,(Array.getElem?_eq_some_iff.1 l).1,k g rfl⟩,fun _=>⟨g,0,b,rfl,m,k g rfl,l,by omega,fun i x j=>?_⟩⟩
  have p:i<xs.length:=(List.getElem?_eq_some_iff.1 j).1
  have hh:i*sz+sz≤xs.length*sz:=by rw[←Nat.succ_mul];exact Nat.mul_le_mul_right _ p
  have:=n i x j
  rw[←c,List.drop_take,List.take_take] at this
  rw[Nat.zero_add]
  rwa [show min sz (xs.length*sz-i*sz)=sz by omega] at this
theorem J7.mem (h:J7 B e sz R σ w v xs) {k:Nat} (c:v.ownBlock=some k):B≤k∧k<w.heap.size∧σ k=none:=by
 obtain ⟨a,d,rfl,f,g,b,i⟩:=h
 cases a with
 | none=>cases c
 | some a=>cases c;exact (b a rfl).2
theorem J7.up [hr:Rep R] (h:J7 B e sz R σ w v xs) (f:Stp w σ w' σ'):J7 B e sz R σ' w' v xs:=by
 obtain ⟨a,k,rfl,y,q,c,r⟩:=h
 refine ⟨a,k,rfl,y,q,fun b d=>⟨(c b d).1,(c b d).2.1,Nat.lt_of_lt_of_le (c b d).2.2.1 f.bel.size,(f.old _ (c b d).2.2.1).trans (c b d).2.2.2⟩,fun t=>?_⟩
 obtain ⟨g,l,j,rfl,s,A,n,p,z⟩:=r t
 have m:=(Array.getElem?_eq_some_iff.1 n).1
 exact ⟨g,l,j,rfl,s,(f.old g m).trans A,(f.bel.block g m).trans n,p,fun i x o=>hr.up f.le (z i x o)⟩
theorem J7.step [hr:Rep R] (h:J7 B e sz R σ w v xs) (a:Stp w σ w' σ'):J7 B e sz R σ' w' v xs:=h.up a
theorem J7.kp {D:Nat→Prop} (h:J7 B e sz R σ w v xs) (n:Kpt D w w') (f: ∀k,v.ownBlock=some k→ ¬D k):J7 B e sz R σ w' v xs:=by
 obtain ⟨a,j,rfl,y,q,c,r⟩:=h
 refine ⟨a,j,rfl,y,q,fun b d=>⟨(c b d).1,(c b d).2.1,Nat.lt_of_lt_of_le (c b d).2.2.1 n.size,(c b d).2.2.2⟩,fun t=>?_⟩
 obtain ⟨g,l,i,rfl,s,A,m,p,z⟩:=r t
 have o:=(Array.getElem?_eq_some_iff.1 m).1
 exact ⟨g,l,i,rfl,s,A,(n.block g o (f g rfl)).trans m,p,z⟩
theorem Q1G {b t:TypeId} {cs:List Bool} [ts:TS P b e] (h:J7 B e sz R σ w v xs) (d:K (I xs.length) w):X2 P .len [b] t cs [v] w K:=by
 obtain ⟨a,c,rfl,_⟩:=h
 rw[Rk];exact d
theorem Q66 {t:TypeId} {d:Nat} {z:Value} [TS P t e] [TZ P e sz d z] (h:J7 B e sz R σ w v xs) {n:Nat} (k:n<xs.length)
 (q: ∀a cs,(∀j u,cs[j]? =some u→w.cell? (a.add j)=some u)→cs.length=sz→R σ xs[n] cs→K (.pointer (some a)) w):indexAddr P t v (I n) w K:=by
 obtain ⟨a,f,rfl,A,s,o,m⟩:=h
 obtain ⟨g,i,c,rfl,y,C,l,r,p⟩:=m (by omega)
 rw[Eb (by omega) (by omega)]
 have hh:n*sz+sz≤f*sz:=by rw[←Nat.succ_mul];exact Nat.mul_le_mul_right _ (by omega)
 refine q _ ((c.toList.drop (i+n*sz)).take sz) ?_ ?_ (p n _ (by simp[k]))
 ·intro j u b
  rw[List.getElem?_take] at b
  split at b
  ·rw[List.getElem?_drop] at b
   unfold World.cell?
   rw[S9,S9,Qg,Qg,I6 (I6 rfl _)]
   simp only[l]
   simpa using b
  ·cases b
 ·rw[List.length_take,List.length_drop,Array.length_toList];omega
theorem X3O {t:TypeId} {n:Nat} {z:Value} [ts:TS P t e] [tz:TZ P e sz n z] (h:J7 B e sz R σ w v xs) (l:Nat) (J:l≤xs.length)
 (H: ∀k,J7 B e sz R σ w k (xs.drop l)→(k.ownBlock=v.ownBlock∨k.ownBlock=none)→K k w):R6 P t v (some (I l)) none none w K:=by
 obtain ⟨a,c,rfl,C,M,d,q⟩:=h
 have hh: ∀w:World,(Instr.sliceBounds true xs.length c (some (I l)) none none).run P w= .ok (l,xs.length,c) w:=by
  intro w
  have A:(l:Int)≤xs.length:=by omega
  simp[Instr.sliceBounds,Instr.sliceBound,asIntOf,C,A]
  intros;omega
 unfold R6
 have:(Instr.sliceAt t (.slice a xs.length c) (some (I l)) none none).run P w= .ok (.slice (if c=l then a else a.map (·.add (l*sz))) (xs.length-l) (c-l)) w:=by
  simp[Instr.sliceAt,run_underlying ts.h,Instr.slice,hh,W5 tz]
 rw[Y0 this]
 refine H _ ⟨_,c-l,by rw[List.length_drop],by rw[List.length_drop];omega,by omega,?_,fun N=>?_⟩ ?_
 ·intro b j
  split at j
  ·exact d b j
  ·cases a with
   | none=>cases j
   | some a=>cases j;exact ⟨I6 (d a rfl).1 _,by rw[S9];exact (d a rfl).2⟩
 ·have r:=q (by omega)
  clear q
  obtain ⟨g,o,m,rfl,y,E,s,L,D⟩:=r
  refine ⟨g,o+l*sz,m,?_,y,E,s,?_,fun i x p=>?_⟩
  ·rw[if_neg (by omega)];simp only[Option.map_some];congr 1;unfold Addr.add;split<;>simp_all
  ·have:l*sz+(c-l)*sz=c*sz:=by rw[←Nat.add_mul];congr 1;omega
   omega
  ·rw[List.getElem?_drop] at p
   have:=D _ _ p
   rwa [Nat.add_mul,←Nat.add_assoc] at this
 ·left
  by_cases f:c=l
  ·rw[if_pos f];cases a<;>rfl
  ·rw[if_neg f]
   cases a with
   | none=>rfl
   | some a=>simp only[Option.map_some,Value.ownBlock,S9]
theorem Q8E {t X:TypeId} {aa:Nat} {z:Value} {cs:List Bool} [ts:TS P t e] [tz:TZ P e sz aa z] [hr:Rep R] (Z:X3 w σ) (hB:B≤w.heap.size) (ha:J7 B e sz R σ w v xs) (H:Sl sz R σ u ys) (hz:(z.cells.size==sz&&decide (0<sz))=true)
 (U:(xs.length+ys.length)*aa≤140737488355328) (hm:xs.length+ys.length≤1000000000000)
 (h: ∀s w',Kpt (fun k=>v.ownBlock=some k∧B≤k∧σ k=none) w w'→X3 w' σ→J7 B e sz R σ w' s (xs++ys)→((∃a m,v= .slice a xs.length m∧s= .slice a (xs.length+ys.length) m)∨(Below w.heap.size w w'∧ ∀k,s.ownBlock=some k→w.heap.size≤k))→K s w'):X2 P .append [t,t] X cs [v,u] w K:=by
 obtain ⟨A,c,rfl,c1,c2,D,c3⟩:=ha
 obtain ⟨a,m,d,rfl,n1,n2,n3,n4,n5⟩:=H.cells Z
 obtain ⟨i,hi,E,an,J⟩:=tz.info
 simp only[Bool.and_eq_true,beq_iff_eq,decide_eq_true_eq] at hz
 obtain ⟨ak,bc⟩:=hz
 have O: ∀s w',(Builtin.append_ #[t,t] X #[.slice A xs.length c, .slice a ys.length m]).run P w= .ok s w'→Kpt (fun k=>(Value.slice A xs.length c).ownBlock=some k∧B≤k∧σ k=none) w w'→J7 B e sz R σ w' s (xs++ys)→((∃a m,(Value.slice A xs.length c)= .slice a xs.length m∧s= .slice a (xs.length+ys.length) m)∨(Below w.heap.size w w'∧ ∀k,s.ownBlock=some k→w.heap.size≤k))→X2 P .append [t,t] X cs [.slice A xs.length c, .slice a ys.length m] w K:=by
  intro s w' C hk hq aq
  have L:(builtin .append #[t,t] X cs.toArray #[.slice A xs.length c, .slice a ys.length m]).run P w= .ok (.value s) w':=by
   simp[builtin,C]
  unfold X2
  rw[T4];unfold P2
  rw[L]
  exact h s w' hk (fun k o ho=>by rw[hk.block k (Z.lt ho) fun e=>by rw[e.2.2] at ho;cases ho];exact Z k o ho) hq aq
 have q:Src P i.size t (.slice a ys.length m) ys.length d w:=by
  cases a with
  | some b=>exact Src.ofSlice w ts.h b ys.length m d (by rw[E];exact n2) (n3 b rfl) n4
  | none=>
   have hy:ys.length=0:=by
    obtain ⟨a',a6,e',q1,_,W,_⟩:=H;injection e' with e1 e2 e3;have:=n1 rfl;omega
   have hn:d=[]:=List.eq_nil_of_length_eq_zero (by rw[n2,hy];simp)
   subst hn
   rw[hy];exact Src.ofNil w ts.h m
 by_cases r:xs.length+ys.length≤c
 ·by_cases N:c=0
  ·-- nothing at all
   subst N
   have p:xs=[]:=List.eq_nil_of_length_eq_zero (by omega)
   have hy:ys=[]:=List.eq_nil_of_length_eq_zero (by omega)
   subst p hy
   have hn:d=[]:=List.eq_nil_of_length_eq_zero (by simpa using n2)
   subst hn
   refine O (.slice A 0 0) w ?_ Kpt.refl ⟨A,0,rfl,by simp,by simp,D,fun h=>by omega⟩ (.inl ⟨_,_,rfl,rfl⟩)
   have hl:=q.len w
   have y:=q.cells
   simp only[List.length_nil] at hl y⊢
   cases A<;>simp[Builtin.append_,run_underlying ts.h,sizeOf,typeInfo,hi,hl,y,storeCells]
  ·obtain ⟨g,l,f,rfl,q1,q2,W,q4,q5⟩:=c3 (by omega)
   have e1:(xs.length+ys.length)*sz≤c*sz:=Nat.mul_le_mul_right _ r
   rw[Nat.add_mul] at e1
   have Y:=run_storeCells_at P g (l+xs.length*sz) e d 0 f w W (by omega) n4
   simp only[Nat.add_zero] at Y
   obtain ⟨V,az⟩:=Yi (cs:=(f.toList.take (l+xs.length*sz)++d++f.toList.drop (l+xs.length*sz+d.length)).toArray) W
   refine O (.slice (some ⟨g,l,none⟩) (xs.length+ys.length) c) _ ?_ (Kpt.of_upd V ⟨rfl,q1,q2⟩) ?_ (.inl ⟨_,_,rfl,rfl⟩)
   ·have hl:=q.len w
    have y:=q.cells
    rw[E] at y
    simp[Builtin.append_,run_underlying ts.h,sizeOf,typeInfo,hi,hl,y,E,r,Addr.add_lit,Y]
   ·refine ⟨_,c,by rw[List.length_append],by rw[List.length_append];exact r,c2,fun b U=>⟨(D b U).1,(D b U).2.1,by rw[V.size];exact (D b U).2.2.1,(D b U).2.2.2⟩,fun _=>⟨g,l,_,rfl,q1,q2,az,?_,fun j x p=>?_⟩⟩
    ·simp;omega
    ·by_cases Q:j<xs.length
     ·rw[List.getElem?_append_left Q] at p
      have:=q5 j x p
      have hh:j*sz+sz≤xs.length*sz:=by rw[←Nat.succ_mul];exact Nat.mul_le_mul_right _ Q
      have e2:((f.toList.take (l+xs.length*sz)++d++f.toList.drop (l+xs.length*sz+d.length)).toArray.toList.drop (l+j*sz)).take sz=(f.toList.drop (l+j*sz)).take sz:=by
       rw[List.toList_toArray,List.append_assoc]
       rw[List.drop_append_of_le_length (by rw[List.length_take,Array.length_toList (xs:=f)];omega),List.take_append_of_le_length (by rw[List.length_drop,List.length_take,Array.length_toList (xs:=f)];omega),List.drop_take,List.take_take]
       congr 1;omega
      rw[e2];exact this
     ·rw[List.getElem?_append_right (by omega)] at p
      have:=n5 _ _ p
      have am:j-xs.length<ys.length:=(List.getElem?_eq_some_iff.1 p).1
      have hh:(j-xs.length)*sz+sz≤ys.length*sz:=by rw[←Nat.succ_mul];exact Nat.mul_le_mul_right _ am
      have bh:j*sz=xs.length*sz+(j-xs.length)*sz:=by rw[←Nat.add_mul];congr 1;omega
      have e2:((f.toList.take (l+xs.length*sz)++d++f.toList.drop (l+xs.length*sz+d.length)).toArray.toList.drop (l+j*sz)).take sz=(d.drop ((j-xs.length)*sz)).take sz:=by
       rw[List.toList_toArray,List.append_assoc]
       rw[List.drop_append,List.drop_eq_nil_of_le (by rw[List.length_take,Array.length_toList (xs:=f)];omega),List.nil_append,List.length_take,Array.length_toList (xs:=f),
        show l+j*sz-min (l+xs.length*sz) f.size=(j-xs.length)*sz by omega,
        List.drop_append_of_le_length (by omega),List.take_append_of_le_length (by rw[List.length_drop];omega)]
      rw[e2];exact this
 ·-- a new row
  have M: ∃n:List Value,n.length=xs.length*sz∧(Builtin.firstCells i.size xs.length (.slice A xs.length c)).run P w.drew= .ok n.toArray w.drew∧ ∀j x,xs[j]? =some x→R σ x ((n.drop (j*sz)).take sz):=by
   by_cases N:c=0
   ·subst N
    have p:xs=[]:=List.eq_nil_of_length_eq_zero (by omega)
    subst p
    refine ⟨[],by simp,?_,by simp⟩
    cases A with
    | none=>exact run_firstCells_none w.drew i.size 0 0 0
    | some a'=>exact run_firstCells_some w.drew i.size 0 a' 0 0 [] (by simp) (by intro _ _ h';simp at h')
   ·obtain ⟨g,l,f,rfl,q1,q2,W,q4,q5⟩:=c3 (by omega)
    have e1:xs.length*sz≤c*sz:=Nat.mul_le_mul_right _ c1
    refine ⟨(f.toList.drop l).take (xs.length*sz),by rw[List.length_take,List.length_drop,Array.length_toList (xs:=f)];omega,?_,fun j x p=>?_⟩
    ·refine run_firstCells_some w.drew i.size xs.length ⟨g,l,none⟩ xs.length c _ (by rw[List.length_take,List.length_drop,Array.length_toList (xs:=f),E];omega) (fun j u H=>?_)
     rw[List.getElem?_take] at H
     split at H
     ·rw[List.getElem?_drop] at H
      have ax:w.drew.heap[g]? =some (.cells f e (0,0)):=W
      unfold World.cell?
      rw[S9,Qg,I6 rfl]
      simp only[ax]
      simpa using H
     ·cases H
    ·have Q:j<xs.length:=(List.getElem?_eq_some_iff.1 p).1
     have hh:j*sz+sz≤xs.length*sz:=by rw[←Nat.succ_mul];exact Nat.mul_le_mul_right _ Q
     have:=q5 j x p
     rw[List.drop_take,List.take_take,List.drop_drop,show min sz (xs.length*sz-j*sz)=sz by omega]
     exact this
  obtain ⟨n,o1,o2,o3⟩:=M
  have hg:c<xs.length+ys.length:=by omega
  have C:=run_append_grow_src (P:=P) w t t X e i z ts.h hi J A xs.length c n o2 (.slice a ys.length m) ys.length d q hg (by omega) (growslice_fits hg (by rw[an];exact U))
  have av:=grownCap_le_maxLen w (xs.length+ys.length) c e (by simp only[maxLen];omega)
  have ao:=grownCap_ge w (xs.length+ys.length) c e
  have hL:(n++d).length=(xs.length+ys.length)*sz:=by rw[List.length_append,o1,n2,Nat.add_mul]
  refine O _ _ C ?_ ?_ (.inr ⟨(Below.refl _ _).drew.alloc (Nat.le_refl _) _,by intro k hk;cases hk;exact Nat.le_refl _⟩)
  ·exact Kpt.of_below ((Below.refl _ _).drew.alloc (Nat.le_refl _) _)
  ·refine ⟨_,_,by rw[List.length_append],by rw[List.length_append];exact ao,av,by rintro _ ⟨⟩;exact ⟨rfl,hB,(Array.getElem?_eq_some_iff.1 (heap_alloc_new w.drew _)).1,Z.none (Nat.le_refl _)⟩,fun _=>⟨w.heap.size,0,_,rfl,hB,Z.none (Nat.le_refl _),heap_alloc_new w.drew _,?_,fun j x p=>?_⟩⟩
   ·rw[Array.size_append,List.size_toArray,hL,size_zeroCells,ak,←Nat.add_mul]
    rw[Nat.zero_add];exact Nat.mul_le_mul_right _ (by omega)
   ·rw[Nat.zero_add,Array.toList_append]
    have Q:j<xs.length+ys.length:=by have:=(List.getElem?_eq_some_iff.1 p).1;rwa [List.length_append] at this
    have hh:j*sz+sz≤(xs.length+ys.length)*sz:=by rw[←Nat.succ_mul];exact Nat.mul_le_mul_right _ Q
    rw[List.drop_append_of_le_length (by simp only[List.toList_toArray];omega),List.take_append_of_le_length (by rw[List.length_drop];simp only[List.toList_toArray];omega)]
    simp only[List.toList_toArray]
    by_cases ab:j<xs.length
    ·rw[List.getElem?_append_left ab] at p
     rw[Wr n d xs.length j o1 ab]
     exact o3 j x p
    ·rw[List.getElem?_append_right (by omega)] at p
     have:=n5 _ _ p
     rw[show j*sz=n.length+(j-xs.length)*sz by rw[o1,←Nat.add_mul];congr 1;omega,List.drop_append]
     simpa [List.drop_eq_nil_of_le] using this
end
theorem N0 {b:Nat} (h:w1.heap.size≤b) (k:Stp w σ w1 σ1):w.heap.size≤b:=Nat.le_trans k.bel.size h
theorem M8 {t:TypeId} {sz a:Nat} {z:Value} [tz:TZ P t sz a z] (f:X3 w σ) (h: ∀b w' σ',w.heap.size≤b→Stp w σ w' σ'→Y2 σ' w' b z.cells.toList→K (.pointer (some ⟨b,0,none⟩)) w'):W1 P t w K:=
 Px f fun b w' c d g=>h b w' σ c d g
theorem Dx {t:TypeId} {cs:List Value} (d:X3 w σ) (h: ∀b w' σ',w.heap.size≤b→Stp w σ w' σ'→Y2 σ' w' b cs→K (.pointer (some ⟨b,0,none⟩)) w'):box P t (.agg cs.toArray) w K:=
 Q68 d fun b w' a c f=>h b w' σ a c (by simpa [Value.cells] using f)
theorem F6 {t:TypeId} {sz a:Nat} {z:Value} [tz:TZ P t sz a z] {b:Nat} {cs ds:List Value} (d:Y2 σ w b cs) (g:Stp w0 σ0 w σ) (f:w0.heap.size≤b) (i:cs.length=sz) (k:ds.length=sz) (l: ∀u∈ds,u.oneCell'=true)
 (h: ∀w',Hst w0 σ0 w' σ→Y2 σ w' b ds→K undef w'):X9 P t (.pointer (some ⟨b,0,none⟩)) (.agg ds.toArray) w K:=
 Mn d i k (by rw[List.all_toArray];exact List.all_eq_true.2 l) fun w' j c=>h w' ⟨j.stp g f d.1⟩ c
structure Nxt (D : Nat → Prop) (w : World) (σ : Q6) (w' : World) (σ' : Q6) : Prop where
  kp : Kpt D w w'
  le : SLe σ σ'
  old : ∀ k, k < w.heap.size → σ' k = σ k
  sat : X3 w' σ'
theorem Nxt.of_stp {D:Nat→Prop} (h:Stp w σ w' σ'):Nxt D w σ w' σ':=⟨Kpt.of_below h.bel,⟨h.le⟩,h.old,h.sat⟩
theorem Nxt.mono {D D':Nat→Prop} (h:Nxt D w σ w' σ') (a: ∀k,k<w.heap.size→D k→D' k):Nxt D' w σ w' σ':=⟨h.kp.mono a,h.le,h.old,h.sat⟩
theorem Nxt.trans {D:Nat→Prop} (h:Nxt D w σ w' σ') (k:Nxt D w' σ' w'' σ1):Nxt D w σ w'' σ1:=
 ⟨h.kp.trans k.kp,h.le.more k.le,fun i a=>(k.old i (Nat.lt_of_lt_of_le a h.kp.size)).trans (h.old i a),k.sat⟩
theorem Y2.nx {D:Nat→Prop} {b:Nat} {cs:List Value} (h:Y2 σ w b cs) (k:Nxt D w σ w' σ') (c: ¬D b):Y2 σ' w' b cs:=by
 have a:=h.lt
 obtain ⟨d,e,f⟩:=h
 exact ⟨(k.old b a).trans d,e,(k.kp.block b a c).trans f⟩
theorem C3.nx {D:Nat→Prop} {r:Nat} {m:List (List UInt8×Value)} (h:C3 σ w r m) (k:Nxt D w σ w' σ') (a: ¬D r):C3 σ' w' r m:=
 ⟨(k.old r h.lt).trans h.1,(k.kp.block r h.lt a).symm▸h.2⟩
section
variable {α : Type} {R : Q6 → α → List Value → Prop} {B sz : Nat} {e : TypeId} {v u : Value} {xs : List α} {x : α}
theorem V5.nx [hr:Rep R] {D:Nat→Prop} (h:V5 B e sz R σ w v xs) (k:Nxt D w σ w' σ') (d: ∀k,v.ownBlock=some k→ ¬D k):V5 B e sz R σ' w' v xs:=by
 have b:=h.kp k.kp d
 obtain ⟨cells,f,g,j⟩:=b
 refine ⟨cells,f,fun i a=>(k.old i (h.mem i a).2.1).trans (g i a),fun i x c=>hr.up k.le.le (j i x c)⟩
theorem J7.nx [hr:Rep R] {D:Nat→Prop} (h:J7 B e sz R σ w v xs) (k:Nxt D w σ w' σ') (t: ∀k,v.ownBlock=some k→ ¬D k):J7 B e sz R σ' w' v xs:=by
 obtain ⟨a,j,rfl,z,q,c,r⟩:=h
 refine ⟨a,j,rfl,z,q,fun b d=>⟨(c b d).1,(c b d).2.1,Nat.lt_of_lt_of_le (c b d).2.2.1 k.kp.size,(k.old _ (c b d).2.2.1).trans (c b d).2.2.2⟩,fun y=>?_⟩
 obtain ⟨g,l,f,rfl,s,C,n,p,A⟩:=r y
 have m:=(Array.getElem?_eq_some_iff.1 n).1
 exact ⟨g,l,f,rfl,s,(k.old g m).trans C,(k.kp.block g m (t g rfl)).trans n,p,fun i x o=>hr.up k.le.le (A i x o)⟩
theorem Jl {t E:TypeId} {d:Nat} {z:Value} {cs:List Bool} {A:Value→Value→World→Prop} [ts:TS P t e] [tz:TZ P e sz d z] [hr:Rep R] (n:Stp w0 σ0 w σ) (q:V5 w0.heap.size e sz R σ w v xs) (C:R σ x u.cells.toList) (r:u.cells.size=sz) (p:(z.cells.size==sz&&decide (0<sz))=true) (j:(decide (0<sz)&&decide ([u].length*sz≤16777216))=true)
 (y:(xs.length+1)*d≤140737488355328) (D:xs.length+1≤9223372036854775807)
 (h: ∀s b w' σ',Nxt (fun k=>v.ownBlock=some k) w σ w' σ'→Stp w0 σ0 w' σ'→V5 w0.heap.size e sz R σ' w' b (xs++[x])→(b.ownBlock=v.ownBlock∨ ∀k,b.ownBlock=some k→w.heap.size≤k)→A s b w'):
 buildSlice P t 1 [(0,u)] w (fun s w=>X2 P .append [t,t] E cs [v,s] w (fun b w=>A s b w)):=by
 refine T1 n.sat [u] [x] rfl rfl (by simpa using r) j ⟨C,trivial⟩ fun s w1 σ1 a i=>?_
 refine app (n.trans a) (q.up a) i p (by simpa using y) (by simpa using D) fun b m o c g hat=>?_
 have f:Kpt (fun k=>v.ownBlock=some k) w m:=(Kpt.of_below a.bel).trans (Kpt.of_grown o fun k a=>a)
 refine h s b m σ1 ⟨f,⟨a.le⟩,a.old,c.sat⟩ c g ?_
 rcases hat with hat | hat
 ·exact .inl hat
 ·exact .inr fun k l=>Nat.le_trans a.bel.size (hat k l)
theorem Wk {t p:TypeId} {c:Nat} {z:Value} {cs:List Bool} {ys:List α} [ts:TS P t e] [tz:TZ P e sz c z] [hr:Rep R] (q:Stp w0 σ0 w σ) (l:V5 w0.heap.size e sz R σ w v xs) (n:Sl sz R σ u ys) (j:(z.cells.size==sz&&decide (0<sz))=true)
 (m:(xs.length+ys.length)*c≤140737488355328) (o:xs.length+ys.length≤9223372036854775807)
 (h: ∀a w',Nxt (fun k=>v.ownBlock=some k) w σ w' σ→Stp w0 σ0 w' σ→V5 w0.heap.size e sz R σ w' a (xs++ys)→(a.ownBlock=v.ownBlock∨ ∀k,a.ownBlock=some k→w.heap.size≤k)→K a w'):X2 P .append [t,t] p cs [v,u] w K:=
 app q l n j m o fun a g i b d f=>h a g ⟨Kpt.of_grown i fun k r=>r,SLe.refl _,fun _ _=>rfl,b.sat⟩ b d f
end
section
variable {α : Type} {R : Q6 → α → List Value → Prop} {B sz : Nat} {e : TypeId} {v u : Value} {xs : List α} {x : α}
theorem J7.mono {B':Nat} (h:J7 B e sz R σ w v xs) (k:B'≤B):J7 B' e sz R σ w v xs:=by
 obtain ⟨a,f,rfl,o,m,c,p⟩:=h
 refine ⟨a,f,rfl,o,m,fun b d=>⟨(c b d).1,Nat.le_trans k (c b d).2.1,(c b d).2.2⟩,fun n=>?_⟩
 obtain ⟨g,j,i,rfl,l,q⟩:=p n
 exact ⟨g,j,i,rfl,Nat.le_trans k l,q⟩
theorem J7.own (h:J7 B e sz R σ w v xs) {k:Nat} (a:v.ownBlock=some k):B≤k:=(h.mem a).1
theorem J7.keep [hr:Rep R] (h:J7 w0.heap.size e sz R σ w v xs) (o:Stp w0 σ0 w σ): ∃σ',Stp w0 σ0 w σ'∧Sl sz R σ' v xs∧SLe σ σ'∧(∀k,some k≠v.ownBlock→σ' k=σ k):=by
 obtain ⟨a,f,rfl,C,s,n,t⟩:=h
 by_cases z:f=0
 ·have m:xs=[]:=List.eq_nil_of_length_eq_zero (by omega)
  subst z m
  exact ⟨σ,o,⟨a,0,rfl,by simp,by simp,fun _=>rfl,fun b A=>⟨fun _=>(n b A).1,by simp⟩⟩,SLe.refl _,fun _ _=>rfl⟩
 ·obtain ⟨g,p,c,rfl,y,q,r,H,D⟩:=t (by omega)
  have d:=Q6.put_le o.sat q (.cells c e (0,0))
  refine ⟨σ.put g (.cells c e (0,0)),o.put q y r,⟨_,f,rfl,C,s,by simp,?_⟩,⟨d⟩,?_⟩
  ·rintro _ ⟨⟩
   refine ⟨fun _=>rfl,fun i x m=>⟨(c.toList.drop (p+i*sz)).take sz,⟨I6 rfl _,c,e,(0,0),by rw[S9];simp[Q6.put],?_⟩,?_,hr.up d (D i x m)⟩⟩
   ·intro j u l
    rw[Qg]
    rw[List.getElem?_take] at l
    split at l
    ·rw[List.getElem?_drop] at l;simpa using l
    ·cases l
   ·have J:i<xs.length:=(List.getElem?_eq_some_iff.1 m).1
    have h:i*sz+sz≤f*sz:=by rw[←Nat.succ_mul];exact Nat.mul_le_mul_right _ (by omega)
    rw[List.length_take,List.length_drop,Array.length_toList (xs:=c)];omega
  ·intro k E
   have:k≠g:=by intro e;subst e;exact E rfl
   simp only[Q6.put,if_neg this]
theorem Q1p {t N:TypeId} {E:Nat} {z:Value} {A:Value→Value→World→Prop} {ds:List Value} [ts:TS P t e] [tz:TZ P e sz E z] {L:Nat} {Y:Value} [tz':TZ P N sz L Y] (hS:Stp w0 σ0 w σ) (Z:J7 w0.heap.size e sz R σ w v xs) {n:Nat} (hn:n<xs.length) (D:ds.length=sz) (W:R σ x ds) (h1: ∀u∈ds,u.oneCell'=true)
 (h: ∀p u w',Kpt (fun k=>v.ownBlock=some k) w w'→Hst w0 σ0 w' σ→J7 w0.heap.size e sz R σ w' v (xs.set n x)→A p u w'):
 indexAddr P t v (I n) w (fun p w=>X9 P N p (.agg ds.toArray) w (fun u w=>A p u w)):=by
 obtain ⟨a,f,rfl,c1,X,i,V⟩:=Z
 obtain ⟨g,c,d,rfl,O,Q,M,q4,q5⟩:=V (by omega)
 rw[Eb (by omega) (by omega)]
 have hh:n*sz+sz≤f*sz:=by rw[←Nat.succ_mul];exact Nat.mul_le_mul_right _ (by omega)
 have o:(⟨g,c,none⟩:Addr).add ((n:Int).toNat*sz)=⟨g,c+n*sz,none⟩:=by unfold Addr.add;split<;>simp_all
 rw[o]
 have q:=run_storeCells_at P g (c+n*sz) e ds 0 d w M (by omega) h1
 simp only[Nat.add_zero] at q
 obtain ⟨l,J⟩:=Yi (cs:=(d.toList.take (c+n*sz)++ds++d.toList.drop (c+n*sz+ds.length)).toArray) M
 unfold X9
 rw[Uw (w':=w.setRow g (d.toList.take (c+n*sz)++ds++d.toList.drop (c+n*sz+ds.length)).toArray) (by
  simp[Instr.storeAt,Instr.sureAddr,storeVar,W5 tz',Value.cells,D]
  simpa [D] using q)]
 have hk:Kpt (fun k=>(Value.slice (some ⟨g,c,none⟩) xs.length f).ownBlock=some k) w (w.setRow g (d.toList.take (c+n*sz)++ds++d.toList.drop (c+n*sz+ds.length)).toArray):=Kpt.of_upd l rfl
 refine h _ _ _ hk ⟨l.stp hS O Q⟩ ⟨_,f,by rw[List.length_set],by rw[List.length_set];exact c1,X,fun b r=>⟨(i b r).1,(i b r).2.1,by rw[l.size];exact (i b r).2.2.1,(i b r).2.2.2⟩,fun _=>⟨g,c,_,rfl,O,Q,J,?_,fun j y m=>?_⟩⟩
 ·simp;omega
 ·rw[List.toList_toArray]
  have ab:=Array.length_toList (xs:=d)
  have C:j<xs.length:=by have:=(List.getElem?_eq_some_iff.1 m).1;simpa using this
  have aa:j*sz+sz≤f*sz:=by rw[←Nat.succ_mul];exact Nat.mul_le_mul_right _ (by omega)
  by_cases U:j=n
  ·subst U
   rw[List.getElem?_set_self C] at m
   cases m
   rw[List.append_assoc,List.drop_append,List.drop_eq_nil_of_le (by rw[List.length_take];omega),List.nil_append,List.length_take,show c+j*sz-min (c+j*sz) d.toList.length=0 by omega,List.drop_zero,List.take_append_of_le_length (by omega),List.take_of_length_le (by omega)]
   exact W
  ·rw[List.getElem?_set_ne (by omega)] at m
   have:=q5 j y m
   rcases Nat.lt_or_gt_of_ne U with s | hgt
   ·have H:j*sz+sz≤n*sz:=by rw[←Nat.succ_mul];exact Nat.mul_le_mul_right _ s
    rw[List.append_assoc,List.drop_append_of_le_length (by rw[List.length_take];omega),List.take_append_of_le_length (by rw[List.length_drop,List.length_take];omega),List.drop_take,List.take_take]
    rwa [show min sz (c+n*sz-(c+j*sz))=sz by omega]
   ·have H:n*sz+sz≤j*sz:=by rw[←Nat.succ_mul];exact Nat.mul_le_mul_right _ hgt
    rw[List.drop_append,List.drop_eq_nil_of_le (by rw[List.length_append,List.length_take];omega),List.nil_append,List.length_append,List.length_take,List.drop_drop,D]
    rwa [show c+n*sz+sz+(c+j*sz-(min (c+n*sz) d.toList.length+sz))=c+j*sz by omega]
end
theorem Q6l (p:Nat→Prop): ∀n,p n→ ∃m,p m∧ ∀k,p k→m≤k:=by
 intro n
 induction n using Nat.strongRecOn with
 | _ n d=>
  intro h
  by_cases b: ∃k,k<n∧p k
  ·obtain ⟨k,f,g⟩:=b;exact d k f g
  ·exact ⟨n,h,fun k c=>Nat.le_of_not_lt fun a=>b ⟨k,a,c⟩⟩
noncomputable def Q1r (p:Nat→Prop):Nat:=open Classical in if h: ∃m,p m∧ ∀k,p k→m≤k then Classical.choose h else 0
theorem Q0U {p:Nat→Prop} {n:Nat} (h:p n):p (Q1r p)∧Q1r p≤n:=by
 have a:=Q6l p n h
 unfold Q1r
 rw[dif_pos a]
 exact ⟨(Classical.choose_spec a).1,(Classical.choose_spec a).2 n h⟩
theorem Ky {α:Type} {x0:α} {A:(α→World→Prop)→α→(Nat→Value)→World→Prop} (I:Nat→α→World→Prop) (n:Nat) (i:I n x0 w)
 (j: ∀a n x d w,I n x w→(∀b c w',b<n→I b c w'→a c w')→A a x d w):lp x0 w A:=by
 refine We (fun x w=> ∃n,I n x w) (fun x w=>Q1r fun n=>I n x w) ⟨n,i⟩ ?_
 rintro x d w ⟨n,h⟩
 obtain ⟨k,l⟩:=Q0U (p:=fun n=>I n x w) h
 refine j _ _ x d w k fun b c w' f g=>⟨⟨b,g⟩,?_⟩
 exact Nat.lt_of_le_of_lt (Q0U (p:=fun n=>I n c w') g).2 f
section
variable {α : Type} {R : Q6 → α → List Value → Prop} {B sz : Nat} {e : TypeId} {v u : Value} {xs ys : List α} {x : α}
theorem J7.below (h:J7 B e sz R σ w v xs) (a:Below w.heap.size w w'):J7 B e sz R σ w' v xs:=h.kp (D:=fun _=>False) (.of_below a) fun _ _=>id
theorem J7.pre {a:Option Addr} {n m b:Nat} (h:J7 B e sz R σ w (.slice a m b) (xs++ys)) (o:n=xs.length):J7 B e sz R σ w (.slice a n b) xs:=by
 obtain ⟨J,k,A,C,r,d,s⟩:=h
 injection A with H e2 z
 subst H z o
 rw[List.length_append] at C
 refine ⟨a,b,rfl,by omega,r,d,fun y=>?_⟩
 obtain ⟨g,f,c,l,t,E,p,q,D⟩:=s y
 exact ⟨g,f,c,l,t,E,p,q,fun i x j=>D i x (by rw[List.getElem?_append_left (List.getElem?_eq_some_iff.1 j).1];exact j)⟩
def Gq (B:Nat) (e:TypeId) (sz:Nat) (R:Q6→α→List Value→Prop) (σ:Q6) (v:Value) (xs:List α) (x:α) (w1 c:World):Prop:=
 Kpt (fun k=>v.ownBlock=some k) w1 c∧(J7 B e sz R σ w1 v xs→J7 B e sz R σ c v xs)∧
  ∀a b,v= .slice a xs.length b→J7 B e sz R σ w1 (.slice a (xs.length+1) b) (xs++[x])→J7 B e sz R σ c (.slice a (xs.length+1) b) (xs++[x])
theorem Gq.below (a:Below w.heap.size w w'):Gq B e sz R σ v xs x w w':=⟨.of_below a,fun h=>h.below a,fun _ _ _ h=>h.below a⟩
theorem Gq.refl:Gq B e sz R σ v xs x w w:=Gq.below (Below.refl _ _)
def VQa (N B:Nat) (e:TypeId) (sz:Nat) (R:Q6→α→List Value→Prop) (σ:Q6) (v:Value) (xs:List α) (x:α) (c:Value) (w:World):Prop:=
 J7 B e sz R σ w c (xs++[x])∧((∃a b,v= .slice a xs.length b∧c= .slice a (xs.length+1) b)∨((∀k,c.ownBlock=some k→N≤k)∧ ∀k,v.ownBlock=some k→k<N))
theorem VQa.stable {N:Nat} {i:Value} (h:VQa N B e sz R σ v xs x i w) (g:Gq B e sz R σ v xs x w w'):VQa N B e sz R σ v xs x i w':=by
 obtain ⟨j,b⟩:=h
 refine ⟨?_,b⟩
 rcases b with ⟨a,c,f,rfl⟩ | ⟨b,f⟩
 ·exact g.2.2 a c f j
 ·exact j.kp g.1 fun k l d=>by have:=b k l;have:=f k d;omega
theorem Kpt.more {D E:Nat→Prop} (h:Kpt D w w') (k:Kpt E w' w'') (hE: ∀j,E j→w.heap.size≤j):Kpt D w w'':=
 ⟨k.os.trans h.os,k.tape.trans h.tape,k.output.trans h.output,Nat.le_trans h.size k.size,fun i a b=>(k.block i (Nat.lt_of_lt_of_le a h.size) fun e=>by have:=hE i e;omega).trans (h.block i a b)⟩
end
end Go.Emb

namespace Go.Hm
open Go.Kd
theorem V3 {l:List Cla} {n:X0} {c:Cla} (h:lk l n=some c):c.name=n∧c∈l∧ ∃i,Z2 l n=some i∧l[i]? =some c:=by
 unfold lk at h
 cases b:Z2 l n with
 | none=>rw[b] at h;cases h
 | some i=>
  rw[b] at h
  obtain ⟨a,e,_⟩:=List.findIdx?_eq_some_iff_getElem.1 b
  have d:l[i]? =some c:=h
  rw[List.getElem?_eq_getElem a] at d
  cases d
  exact ⟨by simpa using e,List.getElem_mem a,i,rfl,List.getElem?_eq_getElem a⟩
theorem Zl {l:List Cla} {n:X0} {i:Nat} (h:Z2 l n=some i): ∃c,lk l n=some c∧l[i]? =some c∧c.name=n:=by
 obtain ⟨a,b,_⟩:=List.findIdx?_eq_some_iff_getElem.1 h
 refine ⟨l[i],?_,List.getElem?_eq_getElem a,by simpa using b⟩
 unfold lk;rw[h];simp[a]
theorem Q1v {l:List Cla} {n:X0}:Q0G l n=(lk l n).isSome:=by
 unfold Q0G
 cases a:Z2 l n with
 | none=>simp[lk,a]
 | some i=>obtain ⟨c,h,_⟩:=Zl a;simp[h]
theorem X01 {l:List Cla} {c:Cla} (h:c∈l): ∃d,lk l c.name=some d:=by
 cases a:Z2 l c.name with
 | none=>
  have:=List.findIdx?_eq_none_iff.1 a c h
  simp at this
 | some i=>obtain ⟨d,h,_⟩:=Zl a;exact ⟨d,h⟩
inductive Reach (L : Wo) : X0 → X0 → Prop
  | refl {a : X0} {c : Cla} : L a = some c → Reach L a a
  | step {a u b : X0} {c : Cla} : L a = some c → u ∈ U3 c → Reach L u b → Reach L a b
theorem Reach.trans {L:Wo} {a b d:X0} (h:Reach L a b) (k:Reach L b d):Reach L a d:=by
 induction h with
 | refl _=>exact k
 | step e f _ c=>exact .step e f (c k)
theorem Reach.right {L:Wo} {a b:X0} (h:Reach L a b): ∃c,L b=some c:=by
 induction h with
 | refl h=>exact ⟨_,h⟩
 | step _ _ _ d=>exact d
theorem Reach.left {L:Wo} {a b:X0} (h:Reach L a b): ∃c,L a=some c:=by
 cases h with
 | refl h=>exact ⟨_,h⟩
 | step h _ _=>exact ⟨_,h⟩
theorem Q1I (L:Wo): ∀(f:Nat) (a b:List X0),∃r,Vf L f a b=b++r:=by
 intro f
 induction f with
 | zero=>intro a b;exact ⟨[],by simp[Vf]⟩
 | succ f c=>
  intro a b
  cases a with
  | nil=>exact ⟨[],by simp[Vf]⟩
  | cons n a=>
   simp only[Vf]
   split
   ·exact c _ _
   ·split
    ·exact c _ _
    ·obtain ⟨r,d⟩:=c (a++U3 ‹_›) (b++[n])
     exact ⟨n::r,by rw[d];simp⟩
theorem Q9f (L:Wo): ∀(f:Nat) (a b:List X0) (x:X0),x∈Vf L f a b→x∈b∨ ∃t∈a,Reach L t x:=by
 intro f
 induction f with
 | zero=>intro a b x h;exact .inl h
 | succ f d=>
  intro a b x h
  cases a with
  | nil=>exact .inl h
  | cons n a=>
   simp only[Vf] at h
   split at h
   ·rcases d _ _ _ h with h | ⟨t,ht,h⟩
    ·exact .inl h
    ·exact .inr ⟨t,by simp[ht],h⟩
   ·rename_i c e
    split at h
    ·rcases d _ _ _ h with h | ⟨t,ht,h⟩
     ·exact .inl h
     ·exact .inr ⟨t,by simp[ht],h⟩
    ·rcases d _ _ _ h with h | ⟨t,ht,h⟩
     ·rcases List.mem_append.1 h with h | h
      ·exact .inl h
      ·simp at h;subst h;exact .inr ⟨x,by simp, .refl e⟩
     ·rcases List.mem_append.1 ht with ht | ht
      ·exact .inr ⟨t,by simp[ht],h⟩
      ·exact .inr ⟨n,by simp, .step e ht h⟩
theorem X0D (l:List Cla) (b a:List X0) (h: ∀x∈b,x∈a):weigh l a≤weigh l b:=by
 unfold weigh
 induction l with
 | nil=>simp
 | cons c r e=>
  simp only[List.map_cons,List.sum_cons]
  by_cases d:c.name∈b
  ·rw[if_pos d,if_pos (h _ d)];omega
  ·rw[if_neg d];split<;>omega
theorem Iu (l:List Cla) (a:List X0) (c:Cla) (hc:c∈l) (g:c.name∉a):weigh l (a++[c.name])+(U3 c).length≤weigh l a:=by
 unfold weigh
 induction l with
 | nil=>simp at hc
 | cons d r f=>
  simp only[List.map_cons,List.sum_cons]
  have b:weigh r (a++[c.name])≤weigh r a:=X0D _ _ _ (by simp;intro x h;exact .inl h)
  unfold weigh at b
  rcases List.mem_cons.1 hc with rfl | hc
  ·rw[if_pos (by simp),if_neg g];omega
  ·have:=f hc
   by_cases e:d.name∈a
   ·rw[if_pos (by simp[e]),if_pos e];omega
   ·rw[if_neg e];split<;>omega
theorem X0d (l:List Cla): ∀(f:Nat) (a b:List X0),a.length+weigh l b≤f→
 (∀x∈b,∀c,lk l x=some c→ ∀u∈U3 c,∀d,lk l u=some d→u∈b∨u∈a)→
 (∀t∈a,∀d,lk l t=some d→t∈Vf (lk l) f a b)∧ ∀x∈Vf (lk l) f a b,∀c,lk l x=some c→ ∀u∈U3 c,∀d,lk l u=some d→u∈Vf (lk l) f a b:=by
 intro f
 induction f with
 | zero=>
  intro a b y o
  have:a=[]:=List.eq_nil_of_length_eq_zero (by omega)
  subst this
  refine ⟨by simp,fun x hx c i u j d g=>?_⟩
  rcases o x hx c i u j d g with h | h
  ·exact h
  ·simp at h
 | succ f s=>
  intro a b y o
  cases a with
  | nil=>
   refine ⟨by simp,fun x hx c i u j d g=>?_⟩
   rcases o x hx c i u j d g with h | h
   ·exact h
   ·simp at h
  | cons n a=>
   simp only[List.length_cons] at y
   simp only[Vf]
   split
   ·rename_i w
    obtain ⟨q,p⟩:=s a b (by omega) (fun x hx c i u j d g=>by
     rcases o x hx c i u j d g with h | h
     ·exact .inl h
     ·rcases List.mem_cons.1 h with rfl | h
      ·rw[w] at g;cases g
      ·exact .inr h)
    refine ⟨fun t ht d g=>?_,p⟩
    rcases List.mem_cons.1 ht with rfl | ht
    ·rw[w] at g;cases g
    ·exact q t ht d g
   ·rename_i c i
    split
    ·rename_i k
     obtain ⟨r,v⟩:=Q1I (lk l) f a b
     obtain ⟨q,p⟩:=s a b (by omega) (fun x hx c i u j d g=>by
      rcases o x hx c i u j d g with h | h
      ·exact .inl h
      ·rcases List.mem_cons.1 h with rfl | h
       ·exact .inl k
       ·exact .inr h)
     refine ⟨fun t ht d g=>?_,p⟩
     rcases List.mem_cons.1 ht with rfl | ht
     ·rw[v];simp[k]
     ·exact q t ht d g
    ·rename_i k
     obtain ⟨e,z,_⟩:=V3 i
     have B:=Iu l b c z (by rw[e];exact k)
     rw[e] at B
     obtain ⟨q,p⟩:=s (a++U3 c) (b++[n]) (by rw[List.length_append];omega) (fun x hx A m u j d g=>by
      rcases List.mem_append.1 hx with hx | hx
      ·rcases o x hx A m u j d g with h | h
       ·exact .inl (by simp[h])
       ·rcases List.mem_cons.1 h with rfl | h
        ·exact .inl (by simp)
        ·exact .inr (by simp[h])
      ·simp at hx;subst hx
       rw[i] at m;cases m
       exact .inr (by simp[j]))
     refine ⟨fun t ht d g=>?_,p⟩
     rcases List.mem_cons.1 ht with rfl | ht
     ·obtain ⟨r,v⟩:=Q1I (lk l) f (a++U3 c) (b++[t])
      rw[v];simp
     ·exact q t (by simp[ht]) d g
theorem Uq {l:List Cla} {a b:X0}:b∈G4 l a↔Reach (lk l) a b:=by
 obtain ⟨o,i⟩:=X0d l (1+weigh l []) [a] [] (by simp) (by simp)
 constructor
 ·intro h
  rcases Q9f _ _ _ _ _ h with h | ⟨t,e,f⟩
  ·simp at h
  ·simp at e;subst e;exact f
 ·intro h
  have key: ∀{x y:X0},Reach (lk l) x y→x∈G4 l a→y∈G4 l a:=by
   intro x y h
   induction h with
   | refl _=>exact id
   | step j n m k=>
    intro g
    obtain ⟨d,c⟩:=m.left
    exact k (i _ g _ j _ n _ c)
  obtain ⟨d,c⟩:=h.left
  exact key h (o a (by simp) d c)
theorem X0w (l:List Cla): ∀(f:Nat) (a b:List X0),a.length+weigh l b≤f→ ∀k,Vf (lk l) (f+k) a b=Vf (lk l) f a b:=by
 intro f
 induction f with
 | zero=>
  intro a b h k
  have:a=[]:=List.eq_nil_of_length_eq_zero (by omega)
  subst this
  cases k<;>rfl
 | succ f d=>
  intro a b h k
  cases a with
  | nil=>rw[Nat.succ_add];rfl
  | cons n a=>
   simp only[List.length_cons] at h
   rw[Nat.succ_add]
   simp only[Vf]
   split
   ·exact d _ _ (by omega) k
   ·rename_i c m
    split
    ·exact d _ _ (by omega) k
    ·rename_i g
     obtain ⟨e,i,_⟩:=V3 m
     have j:=Iu l b c i (by rw[e];exact g)
     rw[e] at j
     exact d _ _ (by rw[List.length_append];omega) k
end Go.Hm

namespace Go.Hm
open Go.Kd
def Wn (L:Wo) (a b:X0):Prop:= ∃c,L a=some c∧ ∃u∈U3 c,Reach L u b
def Jd (l:List Cla):Prop:= ∀a,¬Wn (lk l) a a
theorem Wn.reach {L:Wo} {a b:X0} (h:Wn L a b):Reach L a b:=by
 obtain ⟨c,f,u,e,d⟩:=h;exact .step f e d
theorem Wn.trans {L:Wo} {a b d:X0} (h:Wn L a b) (k:Reach L b d):Wn L a d:=by
 obtain ⟨c,g,u,f,e⟩:=h;exact ⟨c,g,u,f,e.trans k⟩
theorem Q0Q {L:Wo} {a b:X0}:Reach L a b↔(a=b∧(∃c,L a=some c))∨Wn L a b:=by
 constructor
 ·intro h
  cases h with
  | refl h=>exact .inl ⟨rfl,_,h⟩
  | step d e f=>exact .inr ⟨_,d,_,e,f⟩
 ·rintro (⟨rfl,c,h⟩ | h)
  ·exact .refl h
  ·exact h.reach
def Xg (l:List Cla) (a b:X0):Bool:=match lk l a with
 | none=>false
 | some c=>(U3 c).any fun u=>(G4 l u).contains b
theorem Jp {l:List Cla} {a b:X0}:Xg l a b=true↔Wn (lk l) a b:=by
 unfold Xg Wn
 cases h:lk l a with
 | none=>simp
 | some c=>
  simp only[List.any_eq_true,List.contains_iff_mem,Uq]
  constructor
  ·rintro ⟨u,e,d⟩;exact ⟨c,rfl,u,e,d⟩
  ·rintro ⟨_,⟨⟩,u,e,d⟩;exact ⟨u,e,d⟩
def K6 (l:List Cla) (n:X0):Nat:=l.countP fun m=>Xg l n m.name
theorem Q1q (l:List Cla) (n:X0):K6 l n≤l.length:=List.countP_le_length
theorem Q43 {α:Type} {p q:α→Bool}: ∀{l:List α},(∀x∈l,p x=true→q x=true)→(∃x∈l,q x=true∧p x=false)→l.countP p<l.countP q:=by
 intro l
 induction l with
 | nil=>rintro _ ⟨x,hx,_⟩;simp at hx
 | cons a r e=>
  rintro h ⟨x,hx,d,c⟩
  have g:r.countP p≤r.countP q:=List.countP_mono_left fun x hx=>h x (by simp[hx])
  rw[List.countP_cons,List.countP_cons]
  rcases List.mem_cons.1 hx with rfl | hx
  ·rw[d,c];simp;omega
  ·have:=e (fun x hx=>h x (by simp[hx])) ⟨x,hx,d,c⟩
   have f:=h a (by simp)
   cases b:p a
   ·simp;split<;>omega
   ·rw[f b];simp;omega
theorem X23 {l:List Cla} (i:Jd l) {a b:X0} (h:Wn (lk l) a b):K6 l b<K6 l a:=by
 unfold K6
 refine Q43 (fun x _ f=>?_) ?_
 ·rw[Jp] at*
  exact h.trans f.reach
 ·obtain ⟨d,g⟩:=(Reach.right (h.reach))
  obtain ⟨e,j,_⟩:=V3 g
  refine ⟨d,j,?_,?_⟩
  ·rw[Jp,e];exact h
  ·cases c:Xg l b d.name with
   | false=>rfl
   | true=>rw[Jp,e] at c;exact absurd c (i b)
theorem Xy {l:List Cla} (e:Jd l) {a u:X0} {c d:Cla} (g:lk l a=some c) (b:u∈U3 c) (f:lk l u=some d):K6 l u<K6 l a:=
 X23 e ⟨c,g,u,b, .refl f⟩
theorem Q6x {l:List Cla} (e:Jd l): ∀(f g:Nat) (n:X0),K6 l n<f→K6 l n<g→I4 (lk l) f n=I4 (lk l) g n:=by
 intro f
 induction f with
 | zero=>intro g n h;omega
 | succ f b=>
  intro g n k j
  obtain ⟨g,rfl⟩: ∃m,g=m+1:=⟨g-1,by omega⟩
  simp only[I4]
  cases i:lk l n with
  | none=>rfl
  | some c=>
   simp only
   congr 1
   cases a:lk l c.super with
   | none=>cases f<;>cases g<;>simp[I4,a]
   | some d=>
    have:=Xy e i (by simp[U3]) a
    exact b g c.super (by omega) (by omega)
theorem A7 {l:List Cla} (b:Jd l) (n:X0):chain l n=match lk l n with | none=>[] | some c=>c::chain l c.super:=by
 have:=Q1q l n
 unfold chain
 rw[I4]
 cases e:lk l n with
 | none=>rfl
 | some c=>
  simp only
  congr 1
  cases a:lk l c.super with
  | none=>cases l.length<;>simp[I4,a]
  | some d=>
   have:=Xy b e (by simp[U3]) a
   exact Q6x b _ _ _ (by omega) (by omega)
theorem Ym {l:List Cla} {n:X0} (h:lk l n=none):chain l n=[]:=by simp[chain,I4,h]
theorem Dt {α β:Type} {f g:α→Option β}: ∀{l:List α},(∀x∈l,f x=g x)→l.findSome? f=l.findSome? g
 | [],_=>rfl
 | a::r,h=>by
  rw[List.findSome?_cons,List.findSome?_cons,h a (by simp),Dt fun x b=>h x (by simp[b])]
theorem Q6L {l:List Cla} (b:Jd l) (n:X0): ∀(f g:Nat) (c:Cla),lk l c.name=some c→K6 l c.name<f→K6 l c.name<g→Sy (lk l) f c n=Sy (lk l) g c n:=by
 intro f
 induction f with
 | zero=>intro g c _ h;omega
 | succ f j=>
  intro g c i o p
  obtain ⟨g,rfl⟩: ∃m,g=m+1:=⟨g-1,by omega⟩
  simp only[Sy]
  refine Dt fun u k=>?_
  cases a:lk l u with
  | none=>rfl
  | some d=>
   simp only
   cases B9 d n with
   | some m=>rfl
   | none=>
    simp only
    have:=Xy b i (by simp[U3,k]) a
    have e:=(V3 a).1
    exact j g d (by rw[e];exact a) (by rw[e];omega) (by rw[e];omega)
def V4 (l:List Cla) (c:Cla) (n:X0):Option (X0×Hm.Met):=Sy (lk l) (l.length+1) c n
theorem Q4g {l:List Cla} (b:Jd l) {c:Cla} (g:lk l c.name=some c) (n:X0):V4 l c n=c.like.findSome? fun u=>match lk l u with
 | none=>none
 | some d=>match B9 d n with
  | some m=>some (u,m)
  | none=>V4 l d n:=by
 have:=Q1q l c.name
 unfold V4
 rw[Sy]
 refine Dt fun u f=>?_
 cases a:lk l u with
 | none=>rfl
 | some d=>
  simp only
  cases B9 d n with
  | some m=>rfl
  | none=>
   have:=Xy b g (by simp[U3,f]) a
   have e:=(V3 a).1
   exact Q6L b n _ _ d (by rw[e];exact a) (by rw[e];omega) (by rw[e];omega)
def T6 (l:List Cla):Prop:=(l.map (·.name)).Nodup
theorem T6.lk {l:List Cla} (h:T6 l) {c:Cla} (g:c∈l):Go.Hm.lk l c.name=some c:=by
 obtain ⟨d,f⟩:=X01 g
 obtain ⟨e,p,i,o,a⟩:=V3 f
 obtain ⟨j,m,rfl⟩:=List.getElem_of_mem g
 obtain ⟨b,k⟩:=List.getElem?_eq_some_iff.1 a
 have:i=j:=by
  have n:(l.map (·.name))[i]'(by simpa using b)=(l.map (·.name))[j]'(by simpa using m):=by simp[k,e]
  exact (List.getElem_inj h).1 n
 subst this
 rw[f,←k]
theorem T6.find {l:List Cla} (h:T6 l) {i:Nat} {c:Cla} (k:l[i]? =some c):Z2 l c.name=some i:=by
 obtain ⟨b,rfl⟩:=List.getElem?_eq_some_iff.1 k
 have:=h.lk (List.getElem_mem b)
 obtain ⟨e,n,j,d,f⟩:=V3 this
 obtain ⟨a,g⟩:=List.getElem?_eq_some_iff.1 f
 have:j=i:=by
  have m:(l.map (·.name))[j]'(by simpa using a)=(l.map (·.name))[i]'(by simpa using b):=by simp[g]
  exact (List.getElem_inj h).1 m
 rw[d,this]
end Go.Hm

namespace Go.Emb
open Go.RowKit Go.Hm
variable {P : Program} {w w0 w1 w' w'' : World} {K : Value → World → Prop} {σ σ0 σ1 σ2 σ' : Q6}
theorem Stp.join (c:Stp w σ w' σ1) (f:Stp w σ w' σ2): ∃d,Stp w σ w' d∧SLe σ1 d∧SLe σ2 d:=by
 have g: ∀b o,σ1 b=some o→(fun b=>(σ1 b).or (σ2 b)) b=some o:=fun b o e=>by simp[e]
 have j: ∀b o,σ2 b=some o→(fun b=>(σ1 b).or (σ2 b)) b=some o:=by
  intro b o e
  cases a:σ1 b with
  | none=>simp[a,e]
  | some p=>
   have i:=c.sat b p a
   have h:=f.sat b o e
   rw[i] at h;cases h;simp only[a,Option.some_or]
 refine ⟨fun b=>(σ1 b).or (σ2 b),⟨c.bel,?_,fun b o e=>g b o (c.le b o e),?_⟩,⟨g⟩,⟨j⟩⟩
 ·intro b o e
  cases a:σ1 b with
  | none=>simp only[a,Option.none_or] at e;exact f.sat b o e
  | some p=>simp only[a,Option.some_or] at e;cases e;exact c.sat b _ a
 ·intro b a
  simp only[c.old b a,f.old b a];cases σ b<;>rfl
theorem Uu {Φ:Q6→Value→Prop} {A a:(Value→World→Prop)→Prop} (h:A (fun v w'=> ∃σ',Stp w σ w' σ'∧Φ σ' v)) (d:a (fun v w'=> ∃σ',Stp w σ w' σ'∧Φ σ' v)):Q5 (fun w w'=>Below w.heap.size w w') A a:=
 H0 _ (fun _ _ _ ⟨σ',b,e⟩ c=>⟨σ',b.trans (Stp.of_below b.sat c),e⟩) h d
theorem Hi {Φ:Q6→Value→Prop} {v:Value} (b:Hst w σ w1 σ) (h:Stp w1 σ w' σ') (a:Φ σ' v):dk (fun w w'=>Below w.heap.size w w') (fun v w'=> ∃σ',Stp w σ w' σ'∧Φ σ' v) w1 v w':=
 ⟨h.bel,σ',b.stp.trans h,a⟩
theorem E8.mk {m:Hm.Met} {pv b a:Value} (f:Sl 1 U8 σ pv m.params) (g:Sl 3 Qt σ b m.code) (h:Sl 4 Jk σ a m.catches) (c:m.name.length≤U1) (d:m.result.length≤U1) (e:Yy m.locals):E8 σ m [S m.name,pv,S m.result, .bool m.abs,I m.locals,b,a]:=
 ⟨pv,b,a,rfl,f,g,h,c,d,e⟩
theorem V0.mk {c:Cla} {b a mv:Value} (f:Sl 1 U8 σ b c.like) (g:Sl 3 R7 σ a c.fields) (h:Sl 7 E8 σ mv c.methods) (d:c.name.length≤U1) (e:c.super.length≤U1):V0 σ c [S c.name,S c.super,b, .bool c.iface, .bool c.abs, .bool c.fin,a,mv]:=
 ⟨b,a,mv,rfl,f,g,h,d,e⟩
end Go.Emb
namespace Go.Hm
def SmM (m:Hm.Met):Prop:=m.params.length≤1000000∧m.code.length≤1000000∧m.catches.length≤1000000
def Qm (c:Cla):Prop:=c.like.length≤1000000∧c.fields.length≤1000000∧c.methods.length≤1000000∧ ∀m∈c.methods,SmM m
end Go.Hm
namespace Go.Proofs.YtjdiakhipmggjaaGreatDoor
open Go.Emb Go.RowKit Go.Kd Go.Hm
variable {w : World} {K : Value → World → Prop} {σ : Q6}
theorem Q4q {m:Hm.Met} {cs:List Value} (hs:X3 w σ) (hm:E8 σ m cs) (u:SmM m)
 (h: ∀pv o f w' σ',Stp w σ w' σ'→E8 σ' m [S m.name,pv,S m.result, .bool m.abs,I m.locals,o,f]→K (.agg [S m.name,pv,S m.result, .bool m.abs,I m.locals,o,f].toArray) w'):Q1 P F.c8 [.agg cs.toArray] w K:=Q4I (by
 obtain ⟨pv,o,f,rfl,N,J,B,g4,g5,g6⟩:=hm
 obtain ⟨s1,s2,Y⟩:=u
 unfold Th
 refine Dx hs fun b w1 σ1 d g a=>?_
 refine M8 g.sat fun b2 w2 σ2 D j c=>?_
 have af:=a.lt
 replace a:=a.step j
 have y:=j.sat
 have N:=(N.up g).up j
 have J:=(J.up g).up j
 have B:=(B.up g).up j
 have L: ∀{w':World} (i:Nat) (v:Value),[S m.name,pv,S m.result, .bool m.abs,I m.locals,o,f][i]? =some v→Hst w2 σ2 w' σ2→w'.cell? ((⟨b,0,none⟩:Addr).add i)=some v:=fun i v f hh=>(a.step hh.stp).cell f
 refine U2 y ?_
 refine X4 (.pointer (some ((⟨b,0,none⟩:Addr).add 1))) (fun w d=>by rw[fa];exact X6 rfl) ?_
 refine X4 (.pointer (some ((⟨b,0,none⟩:Addr).add 5))) (fun w d=>by rw[fa];exact X6 rfl) ?_
 refine X4 (.pointer (some ((⟨b,0,none⟩:Addr).add 6))) (fun w d=>by rw[fa];exact X6 rfl) ?_
 refine X4 pv (fun t w d e=>by rw[e];exact Qf (L 1 pv rfl d) (X6 rfl)) ?_
 refine Uu (Φ:=fun σ' v=>Sl 1 U8 σ' v m.params) (fun t w d e=>by rw[e];exact Lo d.sat N s1 fun V w' σ' q f=>Hi d q f) ?_
 refine X4 o (fun t w d e=>by rw[e];exact Qf (L 5 o rfl d) (X6 rfl)) ?_
 refine Uu (Φ:=fun σ' v=>Sl 3 Qt σ' v m.code) (fun t w d e=>by rw[e];exact Ez d.sat J s2 fun V w' σ' q f=>Hi d q f) ?_
 refine X4 f (fun t w d e=>by rw[e];exact Qf (L 6 f rfl d) (X6 rfl)) ?_
 refine X4 (.pointer (some ((⟨b,0,none⟩:Addr).add 1))) (fun w d=>by rw[fa];exact X6 rfl) ?_
 refine Uu (Φ:=fun σ' v=>Sl 4 Jk σ' v m.catches) (fun t w d e=>by rw[e];exact Hb d.sat B Y fun V w' σ' q f=>Hi d q f) ?_
 rintro t1 t2 t3 t4 t5 t6 t8 t9 an H w3 ad e1 e2 e3 e4 ⟨σ5,k5,s⟩ e6 ⟨σ8,k8,p⟩ e9 E ⟨Z,C,k⟩
 subst E
 obtain ⟨σa,ka,z,M⟩:=k5.join k8
 obtain ⟨X,A,O,l2⟩:=ka.join C
 have s:=(s.lift z).lift O
 have p:=(p.lift M).lift O
 have k:=k.lift l2
 have a:=a.step A
 have c:=c.step A
 have n:b2≠b:=by omega
 have l:=(g.trans j).trans A
 refine Uf a (by simp) (Wu s) (A0 s) fun w4 U a=>?_
 rw[fa]
 have l:=U.stp l d a.1
 have c:=c.upd U n
 refine Uf a (by simp) (Wu p) (A0 p) fun w5 R a=>?_
 rw[fa]
 have l:=R.stp l d a.1
 have c:=c.upd R n
 refine Uf a (by simp) (Wu k) (A0 k) fun w6 W a=>?_
 have l:=W.stp l d a.1
 have c:=c.upd W n
 refine Rv a rfl ?_
 have Q:=E8.mk s p k g4 g5 g6
 have r:=N0 D g
 refine Mn c rfl rfl (by rw[List.all_toArray];exact List.all_eq_true.2 (Rep.one Q)) fun w7 u7 c=>?_
 have l:=u7.stp l r c.1
 refine V1 c rfl ?_
 exact h t5 t8 H w7 X l Q)
theorem X0U {c:Cla} {cs:List Value} (hs:X3 w σ) (hc:V0 σ c cs) (ah:Qm c)
 (h: ∀U R mv w' σ',Stp w σ w' σ'→V0 σ' c [S c.name,S c.super,U, .bool c.iface, .bool c.abs, .bool c.fin,R,mv]→K (.agg [S c.name,S c.super,U, .bool c.iface, .bool c.abs, .bool c.fin,R,mv].toArray) w'):Q1 P F.cz [.agg cs.toArray] w K:=Q4M (by
 obtain ⟨U,R,mv,rfl,g1,g2,V,g4,g5⟩:=hc
 obtain ⟨s1,s2,s3,s4⟩:=ah
 unfold Tf
 refine Dx hs fun b w1 σ1 l o f=>?_
 refine M8 o.sat fun X w2 σ2 ao r g=>?_
 have bg:=f.lt
 replace f:=f.step r
 have ai:=r.sat
 have g1:=(g1.up o).up r
 have g2:=(g2.up o).up r
 have V:=(V.up o).up r
 have L: ∀{w':World} (i:Nat) (v:Value),[S c.name,S c.super,U, .bool c.iface, .bool c.abs, .bool c.fin,R,mv][i]? =some v→Hst w2 σ2 w' σ2→w'.cell? ((⟨b,0,none⟩:Addr).add i)=some v:=fun i v W hh=>(f.step hh.stp).cell W
 refine U2 ai ?_
 refine X4 (.pointer (some ((⟨b,0,none⟩:Addr).add 2))) (fun w l=>by rw[fa];exact X6 rfl) ?_
 refine X4 (.pointer (some ((⟨b,0,none⟩:Addr).add 6))) (fun w l=>by rw[fa];exact X6 rfl) ?_
 refine X4 U (fun t w l e=>by rw[e];exact Qf (L 2 U rfl l) (X6 rfl)) ?_
 refine Uu (Φ:=fun σ' v=>Sl 1 U8 σ' v c.like) (fun t w l e=>by rw[e];exact Lo l.sat g1 s1 fun v' w' σ' H W=>Hi l H W) ?_
 refine X4 R (fun t w l e=>by rw[e];exact Qf (L 6 R rfl l) (X6 rfl)) ?_
 refine X4 (.pointer (some ((⟨b,0,none⟩:Addr).add 2))) (fun w l=>by rw[fa];exact X6 rfl) ?_
 refine Uu (Φ:=fun σ' v=>Sl 3 R7 σ' v c.fields) (fun t w l e=>by rw[e];exact Eo l.sat g2 s2 fun v' w' σ' H W=>Hi l H W) ?_
 rintro t6 t9 t7 t8 bn bq ad w3 bc e6 e9 e7 ⟨σ8,k8,Z⟩ be al ⟨a9,am,u⟩
 subst al
 obtain ⟨σ3,k3,l1,l2⟩:=k8.join am
 have Z:=Z.lift l1
 have u:=u.lift l2
 have V:=V.up k3
 have f:=f.step k3
 have g:=g.step k3
 have N:X≠b:=by omega
 have hS:=(o.trans r).trans k3
 refine Uf f (by simp) (Wu Z) (A0 Z) fun w4 u4 f=>?_
 rw[fa]
 have hS:=u4.stp hS l f.1
 have g:=g.upd u4 N
 refine Uf f (by simp) (Wu u) (A0 u) fun w5 u5 f=>?_
 rw[fa]
 have hS:=u5.stp hS l f.1
 have g:=g.upd u5 N
 refine Yc f rfl ?_
 refine Q8 V ?_
 refine E4 c.methods.length (fun n a w'=> ∃σ',Stp w σ w' σ'∧SLe σ3 σ'∧V5 w.heap.size T.d 7 E8 σ' w' a (c.methods.take n)∧Y2 σ' w' b [S c.name,S c.super,t8, .bool c.iface, .bool c.abs, .bool c.fin,ad,mv]∧Y2 σ' w' X [S [],S [], .slice none 0 0, .bool false, .bool false, .bool false, .slice none 0 0, .slice none 0 0]∧ ∀k,a.ownBlock=some k→k≠b∧k≠X)
  ⟨σ3,hS,SLe.refl _,V5.nil,f,g,fun k H=>by cases H⟩ fun n a w6 d hn hi=>?_
 obtain ⟨σ6,B,C,ha,f,g,j⟩:=hi
 refine Z0 ?_
 refine Q7 (fun hh=>?_) (fun hh=>?_)
 ·have y:n<c.methods.length:=by simpa using hh
  have Y:c.methods.length≤9223372036854775807:=by omega
  refine M9 (V.lift C) y fun p cs hl z hr=>?_
  refine Y4 B.sat hl z ?_
  refine Y9 B.sat (by rfl) z (Rep.one hr) fun q w7 σ7 m hq=>?_
  refine Y4 m.sat hq z ?_
  refine Q4q m.sat (Rep.up m.le hr) (s4 _ (List.getElem_mem y)) fun pv cv W w8 σ8 J ak=>?_
  have M:=(Nxt.of_stp (D:=fun k=>a.ownBlock=some k) m).trans (Nxt.of_stp J)
  have av:=(ha.up m).up J
  have az:=(f.nx M fun e=>(j _ e).1 rfl).lt
  have a0:=(g.nx M fun e=>(j _ e).2 rfl).lt
  refine Jl ((B.trans m).trans J) av ak rfl rfl rfl (by rw[List.length_take];omega) (by rw[List.length_take];omega) fun s v' w9 σ9 A an ap hat=>?_
  refine N3 ?_
  have A:=M.trans A
  refine J3 Y y ⟨σ9,an,C.more A.le,?_,f.nx A fun e=>(j _ e).1 rfl,g.nx A fun e=>(j _ e).2 rfl,?_⟩
  ·rw[List.take_add_one,List.getElem?_eq_getElem y];exact ap
  ·intro k H
   rcases hat with hat | hat
   ·exact j k (hat▸H)
   ·have:=hat k H
    constructor<;>omega
 ·have y: ¬n<c.methods.length:=by simpa using hh
  rw[List.take_of_length_le (by omega)] at ha
  obtain ⟨σ7,Q,O,ae,E⟩:=ha.keep B
  have f:Y2 σ7 w6 b _:=⟨(E b fun e=>(j b e.symm).1 rfl).trans f.1,f.2⟩
  have g:Y2 σ7 w6 X _:=⟨(E X fun e=>(j X e.symm).2 rfl).trans g.1,g.2⟩
  rw[fa]
  refine Uf f (by simp) (Wu O) (A0 O) fun w7 u7 f=>?_
  have Q:=u7.stp Q l f.1
  have g:=g.upd u7 N
  refine Rv f rfl ?_
  have hr:=V0.mk (Z.lift (C.more ⟨ae⟩)) (u.lift (C.more ⟨ae⟩)) O g4 g5
  have ac:=N0 ao o
  refine Mn g rfl rfl (by rw[List.all_toArray];exact List.all_eq_true.2 (Rep.one hr)) fun w8 u8 g=>?_
  have aj:=u8.stp Q ac g.1
  refine V1 g rfl ?_
  exact h t8 ad a w8 σ7 aj hr)
end Go.Proofs.YtjdiakhipmggjaaGreatDoor

namespace Go.Hm
open Go.Kd
def C7 {α:Type}:Nat→List α→List α
 | 0,xs=>xs
 | i+1,xs=>match (C7 i xs)[i]?,(C7 i xs)[xs.length-1-i]? with
  | some a,some b=>((C7 i xs).set i b).set (xs.length-1-i) a
  | _,_=>C7 i xs
theorem Q0e {α:Type} (xs:List α): ∀i,2*i≤xs.length→(C7 i xs).length=xs.length∧ ∀k,k<xs.length→(C7 i xs)[k]? =if k<i∨xs.length-1-k<i then xs[xs.length-1-k]? else xs[k]?
 | 0,_=>⟨rfl,fun k j=>by simp[C7]⟩
 | i+1,h=>by
  obtain ⟨g,b⟩:=Q0e xs i (by omega)
  have f:=b i (by omega)
  have e:=b (xs.length-1-i) (by omega)
  rw[if_neg (by omega)] at f e
  have n:i<xs.length:=by omega
  have a:xs.length-1-i<xs.length:=by omega
  rw[List.getElem?_eq_getElem (l:=xs) n] at f
  rw[List.getElem?_eq_getElem (l:=xs) a] at e
  simp only[C7,f,e]
  refine ⟨by simp[g],fun k j=>?_⟩
  by_cases c:k=xs.length-1-i
  ·subst c
   rw[List.getElem?_set_self (by simp[g];omega),if_pos (by omega)]
   rw[show xs.length-1-(xs.length-1-i)=i by omega,List.getElem?_eq_getElem (by omega)]
  ·rw[List.getElem?_set_ne (by omega)]
   by_cases d:k=i
   ·subst d
    rw[List.getElem?_set_self (by omega),if_pos (by omega),List.getElem?_eq_getElem (by omega)]
   ·rw[List.getElem?_set_ne (by omega),b k j]
    by_cases m:k<i∨xs.length-1-k<i
    ·rw[if_pos m,if_pos (by omega)]
    ·rw[if_neg m,if_neg (by omega)]
theorem Q8Z {α:Type} (xs:List α) (i:Nat) (d:2*i≤xs.length) (f:xs.length≤2*i+1):C7 i xs=xs.reverse:=by
 obtain ⟨e,c⟩:=Q0e xs i d
 apply List.ext_getElem?
 intro k
 by_cases a:k<xs.length
 ·rw[c k a,List.getElem?_reverse a]
  by_cases b:k<i∨xs.length-1-k<i
  ·rw[if_pos b]
  ·rw[if_neg b];congr 1;omega
 ·rw[List.getElem?_eq_none (by omega),List.getElem?_eq_none (by simp;omega)]
theorem Pn (L:Wo): ∀(f:Nat) (n:X0),(I4 L f n).length≤f
 | 0,_=>by simp[I4]
 | f+1,n=>by
  simp only[I4]
  split
  ·simp
  ·have:=Pn L f (by rename_i c _;exact c.super)
   simp only[List.length_cons];rename_i c _;have:=Pn L f c.super;omega
theorem Ct (l:List Cla) (n:X0):(chain l n).length≤l.length+1:=Pn _ _ _
theorem Bk {l:List Cla} {n:X0} {c:Cla} (h:c∈chain l n):c∈l:=by
 have key: ∀(f:Nat) (n:X0),c∈I4 (lk l) f n→c∈l:=by
  intro f
  induction f with
  | zero=>intro n h;simp[I4] at h
  | succ f a=>
   intro n h
   simp only[I4] at h
   split at h
   ·simp at h
   ·rename_i d b
    rcases List.mem_cons.1 h with rfl | h
    ·exact (V3 b).2.1
    ·exact a _ h
 exact key _ _ h
theorem Vy {α β:Type} (f:α→List β) (k:Nat): ∀(xs:List α),(∀x∈xs,(f x).length≤k)→(xs.flatMap f).length≤xs.length*k
 | [],_=>by simp
 | x::r,h=>by
  have b:=h x (by simp)
  have c:=Vy f k r fun y a=>h y (by simp[a])
  simp only[List.flatMap_cons,List.length_append,List.length_cons,Nat.add_mul];omega
end Go.Hm

namespace Go.Hm
open Go.Kd
def Y3 (l:List Cla) (i:Nat):X0:=(l.getD i Cla.zero).name
theorem Yf {l:List Cla} (b:T6 l) {i:Nat} (a:i<l.length):lk l (Y3 l i)=some (l.getD i Cla.zero):=by
 have e:l.getD i Cla.zero=l[i]:=by rw[List.getD_eq_getElem?_getD,List.getElem?_eq_getElem a];rfl
 unfold Y3
 rw[e];exact b.lk (List.getElem_mem a)
theorem S3 {l:List Cla} {u:X0} {j:Nat} (h:Z2 l u=some j):j<l.length∧Y3 l j=u:=by
 obtain ⟨a,b,_⟩:=List.findIdx?_eq_some_iff_getElem.1 h
 refine ⟨a,?_⟩
 unfold Y3
 rw[List.getD_eq_getElem?_getD,List.getElem?_eq_getElem a]
 simpa using b
theorem Q1B {l:List Cla} (e:Jd l) (g:T6 l) {i j:Nat} (b:i<l.length) {u:X0} (d:u∈U3 (l.getD i Cla.zero)) (a:Z2 l u=some j):K6 l (Y3 l j)<K6 l (Y3 l i):=by
 obtain ⟨c,f,_⟩:=Zl a
 rw[(S3 a).2]
 exact Xy e (Yf g b) d f
theorem Bm {α β:Type} {f g:β→α→β}: ∀(xs:List α) (b:β),(∀b x,x∈xs→f b x=g b x)→xs.foldl f b=xs.foldl g b
 | [],_,_=>rfl
 | x::r,b,h=>by
  rw[List.foldl_cons,List.foldl_cons,h b x (by simp)]
  exact Bm r _ fun b y a=>h b y (by simp[a])
theorem Yv {l:List Cla} {frm:Nat} (f:Nat) (a:List Nat) {i:Nat} (h:i<frm):A9 l frm f a i=a:=by
 cases f<;>simp[A9,h]
theorem Q9C {l:List Cla} (e:Jd l) (p:T6 l) {frm:Nat} (c:0<frm): ∀(f g:Nat) (a:List Nat) (i:Nat),i<l.length→K6 l (Y3 l i)<f→K6 l (Y3 l i)<g→A9 l frm f a i=A9 l frm g a i:=by
 intro f
 induction f with
 | zero=>intro g a i _ h;omega
 | succ f n=>
  intro g a i k r q
  obtain ⟨g,rfl⟩: ∃m,g=m+1:=⟨g-1,by omega⟩
  simp only[A9]
  split
  ·rfl
  ·split
   ·rfl
   ·congr 1
    refine Bm _ _ fun b u o=>?_
    cases d:Z2 l u with
    | none=>simp only[Option.getD_none];rw[Yv f b c,Yv g b c]
    | some j=>
     simp only[Option.getD_some]
     have:=Q1B e p k o d
     exact n g b j (S3 d).1 (by omega) (by omega)
def Xl (l:List Cla) (frm:Nat) (a:List Nat) (i:Nat):List Nat:=A9 l frm (l.length+1) a i
theorem Q7j {l:List Cla} (d:Jd l) (f:T6 l) {frm:Nat} (c:0<frm) (a:List Nat) {i:Nat} (g:i<l.length):Xl l frm a i=if i<frm then a else if i∈a then a else
 ((U3 (l.getD i Cla.zero)).foldl (fun a n=>Xl l frm a ((Z2 l n).getD 0)) a)++[i]:=by
 have k:=Q1q l (Y3 l i)
 unfold Xl
 rw[A9]
 split
 ·rfl
 ·split
  ·rfl
  ·congr 1
   refine Bm _ _ fun b u h=>?_
   cases e:Z2 l u with
   | none=>simp only[Option.getD_none];rw[Yv _ b c,Yv _ b c]
   | some j=>
    simp only[Option.getD_some]
    have:=Q1B d f g h e
    exact Q9C d f c _ _ b j (S3 e).1 (by omega) (by omega)
theorem Lf {α:Type} {p:Nat→Prop} {f:List Nat→α→List Nat}: ∀(xs:List α) (b:List Nat),(∀b x,x∈xs→ ∀y∈f b x,y∈b∨p y)→ ∀y∈xs.foldl f b,y∈b∨p y
 | [],b,_=>fun y a=> .inl a
 | x::r,b,h=>fun y a=>by
  rw[List.foldl_cons] at a
  rcases Lf r _ (fun b z c=>h b z (by simp[c])) y a with h1 | h1
  ·exact h b x (by simp) y h1
  ·exact .inr h1
theorem Q5p {l:List Cla} (o:T6 l) {frm:Nat} (q:0<frm): ∀(f:Nat) (a:List Nat) (i:Nat),i<l.length→ ∀y∈A9 l frm f a i,y∈a∨(y<l.length∧(y=i∨Wn (lk l) (Y3 l i) (Y3 l y))):=by
 intro f
 induction f with
 | zero=>intro a i _ y hy;exact .inl hy
 | succ f s=>
  intro a i k y hy
  simp only[A9] at hy
  split at hy
  ·exact .inl hy
  ·split at hy
   ·exact .inl hy
   ·rcases List.mem_append.1 hy with hy | hy
    ·refine Lf (p:=fun y=>y<l.length∧(y=i∨Wn (lk l) (Y3 l i) (Y3 l y))) _ _ (fun b u m y hy=>?_) y hy
     cases e:Z2 l u with
     | none=>
      rw[e] at hy
      simp only[Option.getD_none] at hy
      rw[Yv f b q] at hy
      exact .inl hy
     | some j=>
      rw[e] at hy
      simp only[Option.getD_some] at hy
      obtain ⟨g,d⟩:=S3 e
      obtain ⟨c,r,_⟩:=Zl e
      rcases s b j g y hy with h | ⟨n,rfl | h2⟩
      ·exact .inl h
      ·exact .inr ⟨n, .inr ⟨_,Yf o k,u,m,by rw[d];exact .refl r⟩⟩
      ·exact .inr ⟨n, .inr ⟨_,Yf o k,u,m,by rw[←d];exact h2.reach⟩⟩
    ·simp at hy;subst hy;exact .inr ⟨k, .inl rfl⟩
theorem Q32 {α:Type} {q:List Nat→Prop} {f:List Nat→α→List Nat}: ∀(xs:List α) (b:List Nat),(∀b x,x∈xs→q b→q (f b x))→q b→q (xs.foldl f b)
 | [],b,_,h=>h
 | x::r,b,a,h=>by
  rw[List.foldl_cons]
  exact Q32 r _ (fun b z c=>a b z (by simp[c])) (a b x (by simp) h)
def Few (l:List Cla) (a:List Nat):Prop:=a.Nodup∧ ∀y∈a,y<l.length
theorem Few.len {l:List Cla} {b:List Nat} (h:Few l b):b.length≤l.length:=by
 have key: ∀(n:Nat) (b:List Nat),b.Nodup→(∀y∈b,y<n)→b.length≤n:=by
  intro n
  induction n with
  | zero=>
   intro b _ h
   cases b with
   | nil=>simp
   | cons a r=>have:=h a (by simp);omega
  | succ n j=>
   intro b f h
   have m:=j (b.filter (fun y=> !decide (y=n))) (f.sublist List.filter_sublist) (fun y c=>by
    have:=List.mem_filter.1 c
    have g:=h y this.1
    have o:y≠n:=by simpa using this.2
    omega)
   have g:b.length≤(b.filter (fun y=> !decide (y=n))).length+1:=by
    clear m h
    induction b with
    | nil=>simp
    | cons a r d=>
     obtain ⟨i,k⟩:=List.nodup_cons.1 f
     by_cases e:a=n
     ·subst e
      have:r.filter (fun y=> !decide (y=a))=r:=List.filter_eq_self.2 fun y c=>by simp;rintro rfl;exact i c
      simp[this]
     ·have:=d k
      simp[e];exact this
   omega
 exact key _ _ h.1 h.2
theorem Pk {l:List Cla} (r:Jd l) (v:T6 l) {frm:Nat} (o:0<frm): ∀(f:Nat) (d:List Nat) (i:Nat),i<l.length→Few l d→Few l (A9 l frm f d i):=by
 intro f
 induction f with
 | zero=>intro d i _ h;exact h
 | succ f C=>
  intro d i z h
  simp only[A9]
  split
  ·exact h
  ·split
   ·exact h
   ·rename_i t
    have A:Few l ((U3 (l.getD i Cla.zero)).foldl (fun d n=>A9 l frm f d ((Z2 l n).getD 0)) d):=by
     refine Q32 _ _ (fun b u s m=>?_) h
     cases e:Z2 l u with
     | none=>simp only[Option.getD_none];rw[Yv f b o];exact m
     | some j=>exact C b j (S3 e).1 m
    have w:i∉(U3 (l.getD i Cla.zero)).foldl (fun d n=>A9 l frm f d ((Z2 l n).getD 0)) d:=by
     intro k
     rcases Lf (p:=fun y=>Wn (lk l) (Y3 l i) (Y3 l y)) _ _ (fun b u s y hy=>by
      cases e:Z2 l u with
      | none=>
       rw[e] at hy
       simp only[Option.getD_none] at hy
       rw[Yv f b o] at hy
       exact .inl hy
      | some j=>
       rw[e] at hy
       simp only[Option.getD_some] at hy
       obtain ⟨q,g⟩:=S3 e
       obtain ⟨c,B,_⟩:=Zl e
       rcases Q5p v o f b j q y hy with h | ⟨h1,rfl | h2⟩
       ·exact .inl h
       ·exact .inr ⟨_,Yf v z,u,s,by rw[g];exact .refl B⟩
       ·exact .inr ⟨_,Yf v z,u,s,by rw[←g];exact h2.reach⟩) i k with h1 | h1
     ·exact t h1
     ·exact r _ h1
    refine ⟨?_,fun y hy=>?_⟩
    ·rw[List.nodup_append]
     exact ⟨A.1,by simp,by rintro a r b m rfl;simp at m;subst m;exact w r⟩
    ·rcases List.mem_append.1 hy with hy | hy
     ·exact A.2 y hy
     ·simp at hy;omega
end Go.Hm

namespace Go.Emb
open Go.RowKit Go.Hm
variable {P : Program} {w w0 w1 w' w'' : World} {K : Value → World → Prop} {σ σ0 σ1 σ' : Q6}
def Vo (sz:Nat) (v:Value) (i:Nat):Addr:=match v with
 | .slice (some b) _ _=>b.add (i*sz)
 | _=>⟨0,0,none⟩
section
variable {α : Type} {R : Q6 → α → List Value → Prop} {sz : Nat} {v : Value} {xs : List α}
theorem Sl.el (h:Sl sz R σ v xs) {i:Nat} (f:i<xs.length): ∃cs,Z4 σ (Vo sz v i) cs∧cs.length=sz∧R σ xs[i] cs:=by
 obtain ⟨a,d,rfl,l,m,e,g⟩:=h
 cases a with
 | none=>have:=e rfl;omega
 | some b=>
  obtain ⟨cs,j,c,k⟩:=(g b rfl).2 i xs[i] (by simp[f])
  exact ⟨cs,j,c,k⟩
theorem Y1 {t e:TypeId} {c:Nat} {z:Value} [TS P t e] [TZ P e sz c z] (h:Sl sz R σ v xs) {i:Nat} (j:i<xs.length) (g:K (.pointer (some (Vo sz v i))) w):indexAddr P t v (I i) w K:=by
 obtain ⟨a,d,rfl,l,m,f,k⟩:=h
 cases a with
 | none=>have:=f rfl;omega
 | some b=>
  rw[Eb (by omega) (by omega)]
  simpa [Vo] using g
theorem Sl.elS {xs:List Kd.X0} (h:Sl 1 U8 σ v xs) {i:Nat} (b:i<xs.length):Z4 σ (Vo 1 v i) [S xs[i]]∧xs[i].length≤U1:=by
 obtain ⟨cs,c,d,rfl,a⟩:=h.el b;exact ⟨c,a⟩
theorem Sl.elF {xs:List Fld} (h:Sl 3 R7 σ v xs) {i:Nat} (b:i<xs.length):Z4 σ (Vo 3 v i) [S xs[i].name,S xs[i].kind, .bool xs[i].tr]∧R7 σ xs[i] [S xs[i].name,S xs[i].kind, .bool xs[i].tr]:=by
 obtain ⟨cs,c,d,rfl,a⟩:=h.el b;exact ⟨c,rfl,a⟩
theorem Sl.elI {xs:List Ins} (h:Sl 3 Qt σ v xs) {i:Nat} (b:i<xs.length):Z4 σ (Vo 3 v i) [S xs[i].op,I xs[i].n,S xs[i].s]∧Qt σ xs[i] [S xs[i].op,I xs[i].n,S xs[i].s]:=by
 obtain ⟨cs,c,d,rfl,a⟩:=h.el b;exact ⟨c,rfl,a⟩
theorem Sl.elK {xs:List Cat} (h:Sl 4 Jk σ v xs) {i:Nat} (b:i<xs.length):Z4 σ (Vo 4 v i) [I xs[i].frm,I xs[i].to,I xs[i].at_,S xs[i].cls]∧Jk σ xs[i] [I xs[i].frm,I xs[i].to,I xs[i].at_,S xs[i].cls]:=by
 obtain ⟨cs,c,d,rfl,a⟩:=h.el b;exact ⟨c,rfl,a⟩
theorem Sl.conv {α β:Type} {R:Q6→α→List Value→Prop} {R':Q6→β→List Value→Prop} {sz:Nat} {v:Value} {xs:List α} {ys:List β} (h:Sl sz R σ v xs) (e:ys.length=xs.length) (o: ∀i (j:i<xs.length) (t:i<ys.length) cs,R σ xs[i] cs→R' σ ys[i] cs):Sl sz R' σ v ys:=by
 obtain ⟨a,d,rfl,m,n,k,f⟩:=h
 refine ⟨a,d,by rw[e],by rw[e];exact m,n,k,fun b g=>⟨fun s=>(f b g).1 (by omega),fun i x l=>?_⟩⟩
 obtain ⟨j,rfl⟩:=List.getElem?_eq_some_iff.1 l
 have c:i<xs.length:=by omega
 obtain ⟨cs,r,p,q⟩:=(f b g).2 i xs[i] (List.getElem?_eq_getElem c)
 exact ⟨cs,r,p,o i c j cs q⟩
theorem Sl.elM {xs:List Hm.Met} (h:Sl 7 E8 σ v xs) {i:Nat} (d:i<xs.length): ∃pv b a,Z4 σ (Vo 7 v i) [S xs[i].name,pv,S xs[i].result, .bool xs[i].abs,I xs[i].locals,b,a]∧E8 σ xs[i] [S xs[i].name,pv,S xs[i].result, .bool xs[i].abs,I xs[i].locals,b,a]:=by
 obtain ⟨cs,e,f,pv,b,a,rfl,c⟩:=h.el d;exact ⟨pv,b,a,e,pv,b,a,rfl,c⟩
theorem Sl.elC {xs:List Cla} (h:Sl 8 V0 σ v xs) {i:Nat} (d:i<xs.length): ∃b a mv,Z4 σ (Vo 8 v i) [S xs[i].name,S xs[i].super,b, .bool xs[i].iface, .bool xs[i].abs, .bool xs[i].fin,a,mv]∧V0 σ xs[i] [S xs[i].name,S xs[i].super,b, .bool xs[i].iface, .bool xs[i].abs, .bool xs[i].fin,a,mv]:=by
 obtain ⟨cs,e,f,b,a,mv,rfl,c⟩:=h.el d;exact ⟨b,a,mv,e,b,a,mv,rfl,c⟩
end
theorem J0 {b:World→World→Prop} {A a:(Value→World→Prop)→Prop} {V:Value} (h:A (fun v _=>V=v)) (c:a (fun v _=>V=v)):Q5 b A a:=H0 _ (fun _ _ _ h _=>h) h c
theorem O3 {v V:Value} (h:V=v):dk (fun w w'=>Below w.heap.size w w') (fun v _=>V=v) w v w:=⟨Below.refl _ _,h⟩
theorem R9 {v V:Value} (a:Below w.heap.size w w') (h:V=v):dk (fun w w'=>Below w.heap.size w w') (fun v _=>V=v) w v w':=⟨a,h⟩
theorem F8 {c b:Bool} {V:Value} {a:World→(Value→World→Prop)→Prop} (h:c=b→a w (dk (fun w w'=>Below w.heap.size w w') (fun v _=>V=v) w)):Q0 (.bool c) b w a (dk (fun w w'=>Below w.heap.size w w') (fun v _=>(if c=b then V else undef)=v) w):=by
 by_cases e:c=b
 ·simp only[e,if_true]
  subst e
  have:=h rfl
  cases c
  ·rw[W7];exact this
  ·rw[W2];exact this
 ·have d:c= !b:=by cases c<;>cases b<;>simp_all
  rw[if_neg e];subst d
  cases b
  ·rw[Bool.not_false,S2];exact ⟨Below.refl _ _,rfl⟩
  ·rw[Bool.not_true,E1];exact ⟨Below.refl _ _,rfl⟩
theorem A8 {p:Prop} (hq:p:=by intros;(repeat (rename_i hx;subst hx));(repeat' (first | (with_reducible exact O3 rfl) | (with_reducible exact R9 (Stp.bel (by (repeat (first | exact Stp.refl (by (first | assumption | exact Stp.sat (by assumption) | exact Hst.sat (by assumption))) | assumption | refine Stp.trans ?_ (by first | assumption | exact Hst.stp (by assumption)))))) rfl) | (with_reducible intro _) | (simp only[↓M2,M2,Mb,reduceIte]) | (with_reducible show Q2 _ _ _ _ _;first | refine X7 aS aL aR ?_ | refine Y4 aS aL aR ?_ | refine ld aS aL aR ?_) | (with_reducible show indexAddr _ _ _ _ _ _;refine Y1 aL au ?_) | (with_reducible show X2 _ _ _ _ _ _ _ _;refine Q8 aL ?_) | (with_reducible show F3 _ _ _ _ _ _;refine Z9 aR ?_) | (with_reducible show pick _ _ _ _ _ _;refine M0 ?_) | (apply F8;intro hh;(try simp only[hh,reduceIte,↓M2,M2,Mb,reduceIte]))));done):p:=hq
end Go.Emb

namespace Go.Emb
open Go.RowKit Go.Hm
variable {P : Program} {w w0 w1 w' w'' : World} {K : Value → World → Prop} {σ σ0 σ1 σ' : Q6}
section
variable {α : Type} {R : Q6 → α → List Value → Prop} {B sz : Nat} {e : TypeId} {v u : Value} {xs ys : List α}
def Emp (v:Value):Prop:= ∃a,v= .slice a 0 0
theorem Q7d {t C:TypeId} {q:Nat} {z:Value} {cs:List Bool} [ts:TS P t e] [tz:TZ P e sz q z] [hr:Rep R] (hS:Stp w0 σ0 w σ) (ha:V5 w0.heap.size e sz R σ w v []) (hv:Emp v) (Q:X3 w σ') (Z:Sl sz R σ' u ys) (hR: ∀x cs,R σ' x cs→R σ x cs) (X:(z.cells.size==sz&&decide (0<sz))=true)
 (hb:ys.length*q≤140737488355328) (hm:ys.length≤1000000000000)
 (h: ∀l w',Stp w σ w' σ→V5 w0.heap.size e sz R σ w' l ys→K l w'):X2 P .append [t,t] C cs [v,u] w K:=by
 obtain ⟨j,rfl⟩:=hv
 have J:=hS.sat
 obtain ⟨a,d,c,rfl,n1,s,n3,n4,n5⟩:=Z.cells Q
 obtain ⟨i,Y,M,L,m⟩:=tz.info
 simp only[Bool.and_eq_true,beq_iff_eq,decide_eq_true_eq] at X
 obtain ⟨E,aq⟩:=X
 have g:Src P i.size t (.slice a ys.length d) ys.length c w:=by
  cases a with
  | some b=>exact Src.ofSlice w ts.h b ys.length d c (by rw[M];exact s) (n3 b rfl) n4
  | none=>
   have p:ys.length=0:=by
    obtain ⟨W,aa,e',q1,_,q3,_⟩:=Z;injection e' with e1 e2 e3;have:=n1 rfl;omega
   have H:c=[]:=List.eq_nil_of_length_eq_zero (by rw[s,p];simp)
   subst H
   rw[p];exact Src.ofNil w ts.h d
 have r: ∀l w',(Builtin.append_ #[t,t] C #[.slice j 0 0, .slice a ys.length d]).run P w= .ok l w'→Stp w σ w' σ→V5 w0.heap.size e sz R σ w' l ys→X2 P .append [t,t] C cs [.slice j 0 0, .slice a ys.length d] w K:=by
  intro l w' f O hq
  have n:(builtin .append #[t,t] C cs.toArray #[.slice j 0 0, .slice a ys.length d]).run P w= .ok (.value l) w':=by
   simp[builtin,f]
  unfold X2
  rw[T4];unfold P2
  rw[n]
  exact h l w' O hq
 by_cases p:ys=[]
 ·subst p
  have H:c=[]:=List.eq_nil_of_length_eq_zero (by simpa using s)
  subst H
  refine r (.slice j 0 0) w ?_ (Stp.refl J) ha
  have U:=g.len w
  have y:=g.cells
  simp only[List.length_nil] at U y⊢
  cases j<;>simp[Builtin.append_,run_underlying ts.h,sizeOf,typeInfo,Y,U,y,storeCells]
 ·have af:0<ys.length:=List.length_pos_iff.2 p
  have o:(Builtin.firstCells i.size 0 (.slice j 0 0)).run P w.drew= .ok (#[]:Array Value) w.drew:=by
   cases j with
   | none=>exact run_firstCells_none w.drew i.size 0 0 0
   | some W=>exact run_firstCells_some w.drew i.size 0 W 0 0 [] (by simp) (by intro _ _ h';simp at h')
  have V:0<0+ys.length:=by omega
  have f:=run_append_grow_src (P:=P) w t t C e i z ts.h Y m j 0 0 [] o (.slice a ys.length d) ys.length c g V (by omega) (growslice_fits V (by rw[L,Nat.zero_add];exact hb))
  simp only[Nat.zero_add] at f
  have D:=grownCap_le_maxLen w ys.length 0 e (by simp only[maxLen];omega)
  have N:=grownCap_ge w ys.length 0 e
  refine r _ _ f (Stp.of_below J ((Below.refl _ _).drew.alloc (Nat.le_refl _) _)) ⟨c,⟨s, .inr ⟨w.heap.size,_,_,rfl,hS.bel.size,heap_alloc_new w.drew _,N,D,?_,?_⟩⟩,?_,fun i x hx=>hR _ _ (n5 i x hx)⟩
  ·simp only[List.nil_append]
   rw[Array.size_append,List.size_toArray,s,size_zeroCells,E,←Nat.add_mul]
   congr 1;omega
  ·simp only[List.nil_append]
   rw[Array.toList_append]
   rw[List.take_append_of_le_length (by simp only[List.toList_toArray];omega),List.take_of_length_le (by simp only[List.toList_toArray];omega)]
  ·intro k O;cases O;exact J.none (Nat.le_refl _)
theorem X2U {t l:TypeId} {a:Nat} {z:Value} {cs:List Bool} [ts:TS P t e] [tz:TZ P e sz a z] [hr:Rep R] (b:Stp w0 σ0 w σ) (j:V5 w0.heap.size e sz R σ w v []) (f:Emp v) (i:Sl sz R σ u ys) (g:(z.cells.size==sz&&decide (0<sz))=true)
 (d:ys.length*a≤140737488355328) (k:ys.length≤1000000000000)
 (h: ∀c w',Stp w σ w' σ→V5 w0.heap.size e sz R σ w' c ys→K c w'):X2 P .append [t,t] l cs [v,u] w K:=
 Q7d b j f b.sat i (fun _ _ h=>h) g d k h
end
def X0O {α:Type} (w0:World) (σ:Q6) (e:TypeId) (sz:Nat) (R:Q6→α→List Value→Prop) (xs:List α) (v:Value) (w':World):Prop:=Stp w0 σ w' σ∧V5 w0.heap.size e sz R σ w' v xs
def Q8w {α:Type} (w0:World) (σ:Q6) (e:TypeId) (sz:Nat) (R:Q6→α→List Value→Prop) (v:Value) (w':World):Prop:=Stp w0 σ w' σ∧V5 w0.heap.size e sz R σ w' v ([]:List α)∧Emp v
section
variable {α : Type} {R : Q6 → α → List Value → Prop} {sz : Nat} {e : TypeId} {v u : Value} {xs ys : List α} {A rest : (Value → World → Prop) → Prop}
theorem Q1i [Rep R] (xs:List α) (h:A (X0O w σ e sz R xs)) (c:rest (X0O w σ e sz R xs)):Q5 (fun w w'=>Below w.heap.size w w') A rest:=
 H0 _ (fun _ _ _ ⟨a,d⟩ b=>⟨a.trans (Stp.of_below a.sat b),d.up (Stp.of_below a.sat b)⟩) h c
theorem X21 [Rep R] (h:A (Q8w w σ e sz R)) (c:rest (Q8w w σ e sz R)):Q5 (fun w w'=>Below w.heap.size w w') A rest:=
 H0 _ (fun _ _ _ ⟨a,d,f⟩ b=>⟨a.trans (Stp.of_below a.sat b),d.up (Stp.of_below a.sat b),f⟩) h c
theorem Q2Q (a:Hst w σ w1 σ) (h:Stp w1 σ w' σ) (b:V5 w.heap.size e sz R σ w' v xs):dk (fun w w'=>Below w.heap.size w w') (X0O w σ e sz R xs) w1 v w':=⟨h.bel,a.stp.trans h,b⟩
theorem X2M (b:Hst w σ w1 σ) (h:Stp w1 σ w' σ) (c:V5 w.heap.size e sz R σ w' v ([]:List α)) (a:Emp v):dk (fun w w'=>Below w.heap.size w w') (Q8w w σ e sz R) w1 v w':=⟨h.bel,b.stp.trans h,c,a⟩
theorem Eh {t:TypeId} {a:Nat} {z:Value} [ts:TS P t e] [tz:TZ P e sz a z] (R:Q6→α→List Value→Prop) (c:Stp w0 σ0 w σ) (f:0<sz)
 (h: ∀v w',Stp w σ w' σ→V5 w0.heap.size e sz R σ w' v ([]:List α)→Emp v→K v w'):buildSlice P t 0 [] w K:=by
 obtain ⟨cells,g,i⟩:=Hl (P:=P) (t:=t) (sz:=sz) (e:=e) [] (by simp) (by simp) w
 unfold buildSlice
 have b:(Instr.buildSlice t 0 ([]:List (Nat×Value)).toArray).run P w=_:=g
 rw[Y0 b]
 refine h _ _ (Stp.own c.sat _) ⟨[],⟨by simp, .inr ⟨_,_,cells,rfl,c.bel.size,heap_alloc_new w _,by simp,by simp[maxLen],?_,by simp⟩⟩,?_,by simp⟩ ⟨_,rfl⟩
 ·have:cells.size=0:=by rw[←Array.length_toList,i];rfl
  simp[this]
 ·intro k d;cases d;exact c.sat.none (Nat.le_refl _)
theorem Q3b [Rep R] {t:TypeId} {a:Nat} {z:Value} [ts:TS P t e] [tz:TZ P e sz a z] (b:(decide (0<sz))=true) (f:rest (Q8w w σ e sz R)):
 Q5 (fun w w'=>Below w.heap.size w w') (fun φ=> ∀w1:World,Hst w σ w1 σ→buildSlice P t 0 [] w1 (dk (fun w w'=>Below w.heap.size w w') φ w1)) rest:=
 X21 (fun w1 c=>Eh R c.stp (by simpa using b) fun v w' d g h=>X2M c d g h) f
end
theorem V0.parts {c:Cla} {a b j d e f i mv:Value} (h:V0 σ c [a,b,j,d,e,f,i,mv]):Sl 1 U8 σ j c.like∧Sl 3 R7 σ i c.fields∧Sl 7 E8 σ mv c.methods∧c.name.length≤U1∧c.super.length≤U1:=by
 obtain ⟨_,_,_,g,k⟩:=h
 simp only[List.cons.injEq,and_true] at g
 obtain ⟨_,_,rfl,_,_,_,rfl,rfl⟩:=g
 exact k
theorem E8.parts {m:Hm.Met} {a pv b d e f c:Value} (h:E8 σ m [a,pv,b,d,e,f,c]):Sl 1 U8 σ pv m.params∧Sl 3 Qt σ f m.code∧Sl 4 Jk σ c m.catches∧m.name.length≤U1∧m.result.length≤U1∧Yy m.locals:=by
 obtain ⟨_,_,_,g,i⟩:=h
 simp only[List.cons.injEq,and_true] at g
 obtain ⟨_,rfl,_,_,_,rfl,rfl⟩:=g
 exact i
end Go.Emb

namespace Go.Emb
open Go.RowKit
variable {P : Program} {w : World} {K : Value → World → Prop}
theorem X2k {d:Nat} {xs ys:Array Value}:(Op.eqFields d xs ys []).run P w= .ok true w:=by simp[Op.eqFields]
theorem Pg {d:Nat} {xs ys:Array Value} {f:Field} {a:List Field} {u v:Value} {b c:Bool} (g:f.name≠ "_") [tg:TG P f.type false] (h:xs[f.offset]? =some u) (e:ys[f.offset]? =some v)
 (j:(Op.equalIn d f.type u v).run P w= .ok b w) (i:(Op.eqFields d xs ys a).run P w= .ok c w):(Op.eqFields d xs ys (f::a)).run P w= .ok (b&&c) w:=by
 simp only[Op.eqFields,if_pos g]
 simp[part,Xs tg,h,e,j]
 cases b
 ·simp
 ·simp[i]
theorem X2l {d:Nat} {t:TypeId} (c:P.underlying t=some .string) (a b:List UInt8):(Op.equalIn (d+1) t (S a) (S b)).run P w= .ok (decide (a=b)) w:=by
 simp[Op.equalIn,run_underlying c,Em]
theorem Q3H {d:Nat} {t:TypeId} {k c:IntKind} (f:P.underlying t=some (.int k)) (a b:Int):(Op.equalIn (d+1) t (.int c a) (.int c b)).run P w= .ok (decide (a=b)) w:=by
 simp[Op.equalIn,run_underlying f]
 by_cases e:a=b<;>simp[e]
theorem X25 {t:TypeId} {a c:Operand} {xs ys:List Value} {b:Bool} (f:P.underlying t=some (.struct (P.fieldsOf t))) (d:P.stoodInHeld t=false) (i:P.eqGuardType P.depth t=false)
 (g:(Op.eqFields 9999 xs.toArray ys.toArray (P.fieldsOf t).toList).run P w= .ok b w) (h:K (.bool (!b)) w):Q3 P .neq t a c (.agg xs.toArray) (.agg ys.toArray) w K:=by
 have e:Q3 P .neq t a c (.agg xs.toArray) (.agg ys.toArray) w K=K (.bool (!b)) w:=Y0 (by
  simp only[Sem.run_bind,run_eqGuard_agg w .neq t a c xs.toArray ys.toArray i,Result.andThen_ok]
  rw[run_neq_struct,run_equalIn_struct w 9999 t _ _ f d,g];rfl)
 rw[e];exact h
theorem X1Z {t:TypeId} {a c:Operand} {xs ys:List Value} {b:Bool} (f:P.underlying t=some (.struct (P.fieldsOf t))) (d:P.stoodInHeld t=false) (i:P.eqGuardType P.depth t=false)
 (g:(Op.eqFields 9999 xs.toArray ys.toArray (P.fieldsOf t).toList).run P w= .ok b w) (h:K (.bool b) w):Q3 P .eql t a c (.agg xs.toArray) (.agg ys.toArray) w K:=by
 have e:Q3 P .eql t a c (.agg xs.toArray) (.agg ys.toArray) w K=K (.bool b) w:=Y0 (by
  simp only[Sem.run_bind,run_eqGuard_agg w .eql t a c xs.toArray ys.toArray i,Result.andThen_ok]
  rw[run_eql_struct,run_equalIn_struct w 9999 t _ _ f d,g];rfl)
 rw[e];exact h
end Go.Emb
namespace Go.Proofs.YtjdiakhipmggjaaGreatDoor
open Go.Emb Go.RowKit Go.Kd Go.Hm
variable {w : World} {K : Value → World → Prop} {σ : Q6}
end Go.Proofs.YtjdiakhipmggjaaGreatDoor

namespace Go.Proofs.YtjdiakhipmggjaaGreatDoor
open Go.Emb Go.RowKit Go.Kd
variable {w : World} {K : Value → World → Prop}
end Go.Proofs.YtjdiakhipmggjaaGreatDoor
