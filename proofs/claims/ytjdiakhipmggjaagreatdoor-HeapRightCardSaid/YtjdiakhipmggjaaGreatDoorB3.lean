/- Parts of a proof about the given program: its functions as texts of their own, what each computes, plain laws of that. The conditions of each stand in its statement. -/
import Derived.Test.YtjdiakhipmggjaaGreatDoorB2
import Derived.Test.YtjdiakhipmggjaaGreatDoorB1
import Derived.ChangeArms
import Derived.DataReads
import Derived.SizedLaws
import Derived.Deep.AppendSrc
import Derived.Laws.StructEq
set_option linter.unnecessarySimpa false
set_option linter.defProp false
set_option linter.unusedSectionVars false
set_option linter.unusedVariables false
set_option linter.unusedSimpArgs false
namespace Go.Proofs.YtjdiakhipmggjaaGreatDoor
open Go.Emb
instance z_x:TZ P T.x 1 0 (.tuple #[]):=⟨by kernel_rfl⟩
instance g_x:TG P T.x false:=⟨by kernel_rfl⟩
instance z_int64:TZ P T.a0 1 8 (.int .i64 0):=⟨by kernel_rfl⟩
instance g_int64:TG P T.a0 false:=⟨by kernel_rfl⟩
instance z_int:TZ P T.e 1 8 (.int .i64 0):=⟨by kernel_rfl⟩
instance g_int:TG P T.e false:=⟨by kernel_rfl⟩
instance z_bool:TZ P T.u 1 1 (.bool false):=⟨by kernel_rfl⟩
instance g_bool:TG P T.u false:=⟨by kernel_rfl⟩
instance z_uint8:TZ P T.a3 1 1 (.int .u8 0):=⟨by kernel_rfl⟩
instance g_uint8:TG P T.a3 false:=⟨by kernel_rfl⟩
instance z_string:TZ P T.c 1 16 (.string ⟨#[]⟩):=⟨by kernel_rfl⟩
instance g_string:TG P T.c false:=⟨by kernel_rfl⟩
instance z_uintptr:TZ P T.av 1 8 (.int .u64 0):=⟨by kernel_rfl⟩
instance g_uintptr:TG P T.av false:=⟨by kernel_rfl⟩
instance z_int32:TZ P T.an 1 4 (.int .i32 0):=⟨by kernel_rfl⟩
instance g_int32:TG P T.an false:=⟨by kernel_rfl⟩
instance z_P_hier_Table:TZ P T.r 1 8 (.pointer none):=⟨by kernel_rfl⟩
instance g_P_hier_Table:TG P T.r false:=⟨by kernel_rfl⟩
instance z_api_Errno:TZ P T.y 1 8 (.int .i64 0):=⟨by kernel_rfl⟩
instance g_api_Errno:TG P T.y false:=⟨by kernel_rfl⟩
instance z_S_api_Class:TZ P T.i 1 24 (.slice none 0 0):=⟨by kernel_rfl⟩
instance g_S_api_Class:TG P T.i false:=⟨by kernel_rfl⟩
instance s_S_api_Class:TS P T.i 85:=⟨by kernel_rfl⟩
instance z_P_heap_Heap:TZ P T.a5 1 8 (.pointer none):=⟨by kernel_rfl⟩
instance g_P_heap_Heap:TG P T.a5 false:=⟨by kernel_rfl⟩
instance z_api_Value:TZ P T.g 4 40 (.agg #[.int .i64 0, .int .i64 0, .string ⟨#[]⟩, .int .i64 0]):=⟨by kernel_rfl⟩
instance g_api_Value:TG P T.g true:=⟨by kernel_rfl⟩
instance f_api_Value_0:TF P T.g 0 0 3:=⟨by kernel_rfl⟩
instance f_api_Value_1:TF P T.g 1 1 2:=⟨by kernel_rfl⟩
instance f_api_Value_2:TF P T.g 2 2 9:=⟨by kernel_rfl⟩
instance f_api_Value_3:TF P T.g 3 3 3:=⟨by kernel_rfl⟩
instance z_S_api_Cell:TZ P T.f 1 24 (.slice none 0 0):=⟨by kernel_rfl⟩
instance g_S_api_Cell:TG P T.f false:=⟨by kernel_rfl⟩
instance s_S_api_Cell:TS P T.f 78:=⟨by kernel_rfl⟩
instance z_uint16:TZ P T.aq 1 2 (.int .u16 0):=⟨by kernel_rfl⟩
instance g_uint16:TG P T.aq false:=⟨by kernel_rfl⟩
instance z_S_squinchref09_Act:TZ P T.a1 1 24 (.slice none 0 0):=⟨by kernel_rfl⟩
instance g_S_squinchref09_Act:TG P T.a1 false:=⟨by kernel_rfl⟩
instance s_S_squinchref09_Act:TS P T.a1 51:=⟨by kernel_rfl⟩
instance z_squinchref09_Heap:TZ P T.a 3 56 (.agg #[.slice none 0 0, .int .i64 0, .slice none 0 0]):=⟨by kernel_rfl⟩
instance g_squinchref09_Heap:TG P T.a true:=⟨by kernel_rfl⟩
instance f_squinchref09_Heap_0:TF P T.a 0 0 26:=⟨by kernel_rfl⟩
instance f_squinchref09_Heap_1:TF P T.a 1 1 3:=⟨by kernel_rfl⟩
instance f_squinchref09_Heap_2:TF P T.a 2 2 37:=⟨by kernel_rfl⟩
instance z_squinchref09_Act:TZ P T.n 8 80 (.agg #[.int .i64 0, .string ⟨#[]⟩, .int .i64 0, .int .i64 0, .int .i64 0, .int .i64 0, .string ⟨#[]⟩, .int .i64 0]):=⟨by kernel_rfl⟩
instance g_squinchref09_Act:TG P T.n true:=⟨by kernel_rfl⟩
instance f_squinchref09_Act_0:TF P T.n 0 0 3:=⟨by kernel_rfl⟩
instance f_squinchref09_Act_1:TF P T.n 1 1 9:=⟨by kernel_rfl⟩
instance f_squinchref09_Act_2:TF P T.n 2 2 2:=⟨by kernel_rfl⟩
instance f_squinchref09_Act_3:TF P T.n 3 3 3:=⟨by kernel_rfl⟩
instance f_squinchref09_Act_4:TF P T.n 4 4 33:=⟨by kernel_rfl⟩
instance z_S_string:TZ P T.h 1 24 (.slice none 0 0):=⟨by kernel_rfl⟩
instance g_S_string:TG P T.h false:=⟨by kernel_rfl⟩
instance s_S_string:TS P T.h 9:=⟨by kernel_rfl⟩
instance z_S_api_Field:TZ P T.k 1 24 (.slice none 0 0):=⟨by kernel_rfl⟩
instance g_S_api_Field:TG P T.k false:=⟨by kernel_rfl⟩
instance s_S_api_Field:TS P T.k 69:=⟨by kernel_rfl⟩
instance z_api_Field:TZ P T.o 3 40 (.agg #[.string ⟨#[]⟩, .string ⟨#[]⟩, .bool false]):=⟨by kernel_rfl⟩
instance g_api_Field:TG P T.o true:=⟨by kernel_rfl⟩
instance f_api_Field_0:TF P T.o 0 0 9:=⟨by kernel_rfl⟩
instance f_api_Field_1:TF P T.o 1 1 9:=⟨by kernel_rfl⟩
instance f_api_Field_2:TF P T.o 2 2 4:=⟨by kernel_rfl⟩
instance z_func_int_2:TZ P T.ak 1 8 .nilFunc:=⟨by kernel_rfl⟩
instance g_func_int_2:TG P T.ak false:=⟨by kernel_rfl⟩
instance z_S_api_Value:TZ P T.l 1 24 (.slice none 0 0):=⟨by kernel_rfl⟩
instance g_S_api_Value:TG P T.l false:=⟨by kernel_rfl⟩
instance s_S_api_Value:TS P T.l 33:=⟨by kernel_rfl⟩
instance z_api_Cell:TZ P T.m 2 40 (.agg #[.string ⟨#[]⟩, .slice none 0 0]):=⟨by kernel_rfl⟩
instance g_api_Cell:TG P T.m true:=⟨by kernel_rfl⟩
instance f_api_Cell_0:TF P T.m 0 0 9:=⟨by kernel_rfl⟩
instance f_api_Cell_1:TF P T.m 1 1 76:=⟨by kernel_rfl⟩
instance z_M_string_int:TZ P T.a2 1 8 (.map none):=⟨by kernel_rfl⟩
instance g_M_string_int:TG P T.a2 false:=⟨by kernel_rfl⟩
instance m_M_string_int:TM P T.a2 9 3:=⟨by kernel_rfl⟩
instance z_hier_Table:TZ P T.z 2 32 (.agg #[.slice none 0 0, .map none]):=⟨by kernel_rfl⟩
instance g_hier_Table:TG P T.z true:=⟨by kernel_rfl⟩
instance f_hier_Table_0:TF P T.z 0 0 26:=⟨by kernel_rfl⟩
instance f_hier_Table_1:TF P T.z 1 1 80:=⟨by kernel_rfl⟩
instance z_S_api_Method:TZ P T.j 1 24 (.slice none 0 0):=⟨by kernel_rfl⟩
instance g_S_api_Method:TG P T.j false:=⟨by kernel_rfl⟩
instance s_S_api_Method:TS P T.j 98:=⟨by kernel_rfl⟩
instance z_api_Class:TZ P T.b 8 112 (.agg #[.string ⟨#[]⟩, .string ⟨#[]⟩, .slice none 0 0, .bool false, .bool false, .bool false, .slice none 0 0, .slice none 0 0]):=⟨by kernel_rfl⟩
instance g_api_Class:TG P T.b true:=⟨by kernel_rfl⟩
instance f_api_Class_0:TF P T.b 0 0 9:=⟨by kernel_rfl⟩
instance f_api_Class_1:TF P T.b 1 1 9:=⟨by kernel_rfl⟩
instance f_api_Class_2:TF P T.b 2 2 54:=⟨by kernel_rfl⟩
instance f_api_Class_3:TF P T.b 3 3 4:=⟨by kernel_rfl⟩
instance f_api_Class_4:TF P T.b 4 4 4:=⟨by kernel_rfl⟩
instance f_api_Class_5:TF P T.b 5 5 4:=⟨by kernel_rfl⟩
instance f_api_Class_6:TF P T.b 6 6 65:=⟨by kernel_rfl⟩
instance f_api_Class_7:TF P T.b 7 7 83:=⟨by kernel_rfl⟩
instance z_func_string_bool:TZ P T.a4 1 8 .nilFunc:=⟨by kernel_rfl⟩
instance g_func_string_bool:TG P T.a4 false:=⟨by kernel_rfl⟩
instance z_S_int:TZ P T.a7 1 24 (.slice none 0 0):=⟨by kernel_rfl⟩
instance g_S_int:TG P T.a7 false:=⟨by kernel_rfl⟩
instance s_S_int:TS P T.a7 3:=⟨by kernel_rfl⟩
instance z_api_Instr:TZ P T.v 3 40 (.agg #[.string ⟨#[]⟩, .int .i64 0, .string ⟨#[]⟩]):=⟨by kernel_rfl⟩
instance g_api_Instr:TG P T.v true:=⟨by kernel_rfl⟩
instance f_api_Instr_0:TF P T.v 0 0 9:=⟨by kernel_rfl⟩
instance f_api_Instr_1:TF P T.v 1 1 2:=⟨by kernel_rfl⟩
instance f_api_Instr_2:TF P T.v 2 2 9:=⟨by kernel_rfl⟩
instance z_S_api_Instr:TZ P T.q 1 24 (.slice none 0 0):=⟨by kernel_rfl⟩
instance g_S_api_Instr:TG P T.q false:=⟨by kernel_rfl⟩
instance s_S_api_Instr:TS P T.q 94:=⟨by kernel_rfl⟩
instance z_S_api_Catch:TZ P T.s 1 24 (.slice none 0 0):=⟨by kernel_rfl⟩
instance g_S_api_Catch:TG P T.s false:=⟨by kernel_rfl⟩
instance s_S_api_Catch:TS P T.s 172:=⟨by kernel_rfl⟩
instance z_api_Method:TZ P T.d 7 120 (.agg #[.string ⟨#[]⟩, .slice none 0 0, .string ⟨#[]⟩, .bool false, .int .i64 0, .slice none 0 0, .slice none 0 0]):=⟨by kernel_rfl⟩
instance g_api_Method:TG P T.d true:=⟨by kernel_rfl⟩
instance f_api_Method_0:TF P T.d 0 0 9:=⟨by kernel_rfl⟩
instance f_api_Method_1:TF P T.d 1 1 54:=⟨by kernel_rfl⟩
instance f_api_Method_2:TF P T.d 2 2 9:=⟨by kernel_rfl⟩
instance f_api_Method_3:TF P T.d 3 3 4:=⟨by kernel_rfl⟩
instance f_api_Method_4:TF P T.d 4 4 3:=⟨by kernel_rfl⟩
instance f_api_Method_5:TF P T.d 5 5 95:=⟨by kernel_rfl⟩
instance f_api_Method_6:TF P T.d 6 6 96:=⟨by kernel_rfl⟩
instance z_heap_Heap:TZ P T.p 4 48 (.agg #[.pointer none, .int .i64 0, .int .i64 0, .slice none 0 0]):=⟨by kernel_rfl⟩
instance g_heap_Heap:TG P T.p true:=⟨by kernel_rfl⟩
instance f_heap_Heap_0:TF P T.p 0 0 22:=⟨by kernel_rfl⟩
instance f_heap_Heap_1:TF P T.p 1 1 3:=⟨by kernel_rfl⟩
instance f_heap_Heap_2:TF P T.p 2 2 3:=⟨by kernel_rfl⟩
instance f_heap_Heap_3:TF P T.p 3 3 37:=⟨by kernel_rfl⟩
instance z_func_string_string:TZ P T.ac 1 8 .nilFunc:=⟨by kernel_rfl⟩
instance g_func_string_string:TG P T.ac false:=⟨by kernel_rfl⟩
instance z_A6_string:TZ P T.ao 6 96 (.agg #[.string ⟨#[]⟩, .string ⟨#[]⟩, .string ⟨#[]⟩, .string ⟨#[]⟩, .string ⟨#[]⟩, .string ⟨#[]⟩]):=⟨by kernel_rfl⟩
instance g_A6_string:TG P T.ao true:=⟨by kernel_rfl⟩
instance a_A6_string:TA P T.ao 6 9:=⟨by kernel_rfl⟩
instance z_M_string_string:TZ P T.w 1 8 (.map none):=⟨by kernel_rfl⟩
instance g_M_string_string:TG P T.w false:=⟨by kernel_rfl⟩
instance m_M_string_string:TM P T.w 9 9:=⟨by kernel_rfl⟩
instance z_func_api_Method_string:TZ P T.a9 1 8 .nilFunc:=⟨by kernel_rfl⟩
instance g_func_api_Method_string:TG P T.a9 false:=⟨by kernel_rfl⟩
instance z_func_api_Method_bool:TZ P T.ae 1 8 .nilFunc:=⟨by kernel_rfl⟩
instance g_func_api_Method_bool:TG P T.ae false:=⟨by kernel_rfl⟩
instance z_S_S_bool:TZ P T.a8 1 24 (.slice none 0 0):=⟨by kernel_rfl⟩
instance g_S_S_bool:TG P T.a8 false:=⟨by kernel_rfl⟩
instance s_S_S_bool:TS P T.a8 148:=⟨by kernel_rfl⟩
instance z_S_bool:TZ P T.a6 1 24 (.slice none 0 0):=⟨by kernel_rfl⟩
instance g_S_bool:TG P T.a6 false:=⟨by kernel_rfl⟩
instance s_S_bool:TS P T.a6 4:=⟨by kernel_rfl⟩
instance g_A256_uint8:TG P T.au true:=⟨by kernel_rfl⟩
instance a_A256_uint8:TA P T.au 256 5:=⟨by kernel_rfl⟩
instance z_utf8_acceptRange:TZ P T.aj 2 2 (.agg #[.int .u8 0, .int .u8 0]):=⟨by kernel_rfl⟩
instance g_utf8_acceptRange:TG P T.aj true:=⟨by kernel_rfl⟩
instance f_utf8_acceptRange_0:TF P T.aj 0 0 5:=⟨by kernel_rfl⟩
instance f_utf8_acceptRange_1:TF P T.aj 1 1 5:=⟨by kernel_rfl⟩
instance z_A16_utf8_acceptRange:TZ P T.al 32 32 (.agg #[.int .u8 0, .int .u8 0, .int .u8 0, .int .u8 0, .int .u8 0, .int .u8 0, .int .u8 0, .int .u8 0, .int .u8 0, .int .u8 0, .int .u8 0, .int .u8 0, .int .u8 0, .int .u8 0, .int .u8 0, .int .u8 0, .int .u8 0, .int .u8 0, .int .u8 0, .int .u8 0, .int .u8 0, .int .u8 0, .int .u8 0, .int .u8 0, .int .u8 0, .int .u8 0, .int .u8 0, .int .u8 0, .int .u8 0, .int .u8 0, .int .u8 0, .int .u8 0]):=⟨by kernel_rfl⟩
instance g_A16_utf8_acceptRange:TG P T.al true:=⟨by kernel_rfl⟩
instance a_A16_utf8_acceptRange:TA P T.al 16 156:=⟨by kernel_rfl⟩
instance z_func_api_Field_string:TZ P T.aa 1 8 .nilFunc:=⟨by kernel_rfl⟩
instance g_func_api_Field_string:TG P T.aa false:=⟨by kernel_rfl⟩
instance z_func_api_Field_bool:TZ P T.ag 1 8 .nilFunc:=⟨by kernel_rfl⟩
instance g_func_api_Field_bool:TG P T.ag false:=⟨by kernel_rfl⟩
instance z_api_Catch:TZ P T.t 4 40 (.agg #[.int .i64 0, .int .i64 0, .int .i64 0, .string ⟨#[]⟩]):=⟨by kernel_rfl⟩
instance g_api_Catch:TG P T.t true:=⟨by kernel_rfl⟩
instance f_api_Catch_0:TF P T.t 0 0 3:=⟨by kernel_rfl⟩
instance f_api_Catch_1:TF P T.t 1 1 3:=⟨by kernel_rfl⟩
instance f_api_Catch_2:TF P T.t 2 2 3:=⟨by kernel_rfl⟩
instance f_api_Catch_3:TF P T.t 3 3 9:=⟨by kernel_rfl⟩
instance z_uint64:TZ P T.ax 1 8 (.int .u64 0):=⟨by kernel_rfl⟩
instance g_uint64:TG P T.ax false:=⟨by kernel_rfl⟩
instance g_strings_asciiSet:TG P T.ab true:=⟨by kernel_rfl⟩
instance a_strings_asciiSet:TA P T.ab 256 4:=⟨by kernel_rfl⟩
instance z_func_api_Catch_bool:TZ P T.ah 1 8 .nilFunc:=⟨by kernel_rfl⟩
instance g_func_api_Catch_bool:TG P T.ah false:=⟨by kernel_rfl⟩
instance z_func_api_Instr_bool:TZ P T.ai 1 8 .nilFunc:=⟨by kernel_rfl⟩
instance g_func_api_Instr_bool:TG P T.ai false:=⟨by kernel_rfl⟩
instance z_S_uint8:TZ P T.ar 1 24 (.slice none 0 0):=⟨by kernel_rfl⟩
instance g_S_uint8:TG P T.ar false:=⟨by kernel_rfl⟩
instance s_S_uint8:TS P T.ar 5:=⟨by kernel_rfl⟩
instance z_strings_Builder:TZ P T.am 2 32 (.agg #[.pointer none, .slice none 0 0]):=⟨by kernel_rfl⟩
instance g_strings_Builder:TG P T.am true:=⟨by kernel_rfl⟩
instance f_strings_Builder_0:TF P T.am 0 0 202:=⟨by kernel_rfl⟩
instance f_strings_Builder_1:TF P T.am 1 1 203:=⟨by kernel_rfl⟩
instance z_P_uint8:TZ P T.aw 1 8 (.pointer none):=⟨by kernel_rfl⟩
instance g_P_uint8:TG P T.aw false:=⟨by kernel_rfl⟩
instance z_code_op:TZ P T.ad 3 24 (.agg #[.string ⟨#[]⟩, .bool false, .bool false]):=⟨by kernel_rfl⟩
instance g_code_op:TG P T.ad true:=⟨by kernel_rfl⟩
instance f_code_op_0:TF P T.ad 0 0 9:=⟨by kernel_rfl⟩
instance f_code_op_1:TF P T.ad 1 1 4:=⟨by kernel_rfl⟩
instance f_code_op_2:TF P T.ad 2 2 4:=⟨by kernel_rfl⟩
instance g_A42_code_op:TG P T.af true:=⟨by kernel_rfl⟩
instance a_A42_code_op:TA P T.af 42 225:=⟨by kernel_rfl⟩
instance z_S_code_op:TZ P T.ap 1 24 (.slice none 0 0):=⟨by kernel_rfl⟩
instance g_S_code_op:TG P T.ap false:=⟨by kernel_rfl⟩
instance s_S_code_op:TS P T.ap 225:=⟨by kernel_rfl⟩
instance z_uint32:TZ P T.ay 1 4 (.int .u32 0):=⟨by kernel_rfl⟩
instance g_uint32:TG P T.ay false:=⟨by kernel_rfl⟩
end Go.Proofs.YtjdiakhipmggjaaGreatDoor

namespace Go.Emb
theorem aS {p:Prop} (h:p:=by (first | assumption | exact Stp.sat (by assumption) | exact Hst.sat (by assumption))):p:=h
theorem aL {p:Prop} (h:p:=by (first | assumption | exact Sl.lift (by assumption) (by (repeat (first | exact SLe.refl _ | refine SLe.more ?_ (by assumption) | refine SLe.more ?_ (Nxt.le (by assumption)) | refine SLe.step ?_ (by assumption)))) | exact Z4.lift (by assumption) (by (repeat (first | exact SLe.refl _ | refine SLe.more ?_ (by assumption) | refine SLe.more ?_ (Nxt.le (by assumption)) | refine SLe.step ?_ (by assumption)))) | exact Xf.lift (by assumption) (by (repeat (first | exact SLe.refl _ | refine SLe.more ?_ (by assumption) | refine SLe.more ?_ (Nxt.le (by assumption)) | refine SLe.step ?_ (by assumption)))) | exact RCl_lift (by assumption) (by (repeat (first | exact SLe.refl _ | refine SLe.more ?_ (by assumption) | refine SLe.more ?_ (Nxt.le (by assumption)) | refine SLe.step ?_ (by assumption)))) | exact RMe_lift (by assumption) (by (repeat (first | exact SLe.refl _ | refine SLe.more ?_ (by assumption) | refine SLe.more ?_ (Nxt.le (by assumption)) | refine SLe.step ?_ (by assumption)))) | exact Glb.lift (by assumption) (by (repeat (first | exact SLe.refl _ | refine SLe.more ?_ (by assumption) | refine SLe.more ?_ (Nxt.le (by assumption)) | refine SLe.step ?_ (by assumption)))) | exact Tab.lift (by assumption) (by (repeat (first | exact SLe.refl _ | refine SLe.more ?_ (by assumption) | refine SLe.more ?_ (Nxt.le (by assumption)) | refine SLe.step ?_ (by assumption)))) | exact RIn_any (by assumption) | exact RFd_any (by assumption) | exact RCa_any (by assumption))):p:=h
theorem aR {p:Prop} (h:p:=by with_unfolding_all rfl):p:=h
theorem aF {p:Prop} (a:p:=by (refine Eq.subst (motive:=fun b=>K b _) ?_ (h _ _ (by (repeat (first | exact Stp.refl (by (first | assumption | exact Stp.sat (by assumption) | exact Hst.sat (by assumption))) | assumption | refine Stp.trans ?_ (by first | assumption | exact Hst.stp (by assumption))))));clear h;(try clear hA);(try clear hB);(try clear hC);first | rfl | ((try simp only[Bool.not_eq_true',Bool.not_eq_false',Bool.not_true,Bool.not_false,Bool.not_eq_true] at*);simp only[*,Mb,reduceIte];done) | (simp[*];done) | simp_all)):p:=a
theorem au {p:Prop} (h:p:=by (first | assumption | (first | assumption | exact Stp.sat (by assumption) | exact Hst.sat (by assumption)) | (first | assumption | exact Sl.lift (by assumption) (by (repeat (first | exact SLe.refl _ | refine SLe.more ?_ (by assumption) | refine SLe.more ?_ (Nxt.le (by assumption)) | refine SLe.step ?_ (by assumption)))) | exact Z4.lift (by assumption) (by (repeat (first | exact SLe.refl _ | refine SLe.more ?_ (by assumption) | refine SLe.more ?_ (Nxt.le (by assumption)) | refine SLe.step ?_ (by assumption)))) | exact Xf.lift (by assumption) (by (repeat (first | exact SLe.refl _ | refine SLe.more ?_ (by assumption) | refine SLe.more ?_ (Nxt.le (by assumption)) | refine SLe.step ?_ (by assumption)))) | exact RCl_lift (by assumption) (by (repeat (first | exact SLe.refl _ | refine SLe.more ?_ (by assumption) | refine SLe.more ?_ (Nxt.le (by assumption)) | refine SLe.step ?_ (by assumption)))) | exact RMe_lift (by assumption) (by (repeat (first | exact SLe.refl _ | refine SLe.more ?_ (by assumption) | refine SLe.more ?_ (Nxt.le (by assumption)) | refine SLe.step ?_ (by assumption)))) | exact Glb.lift (by assumption) (by (repeat (first | exact SLe.refl _ | refine SLe.more ?_ (by assumption) | refine SLe.more ?_ (Nxt.le (by assumption)) | refine SLe.step ?_ (by assumption)))) | exact Tab.lift (by assumption) (by (repeat (first | exact SLe.refl _ | refine SLe.more ?_ (by assumption) | refine SLe.more ?_ (Nxt.le (by assumption)) | refine SLe.step ?_ (by assumption)))) | exact RIn_any (by assumption) | exact RFd_any (by assumption) | exact RCa_any (by assumption)) | exact Nat.le_trans (by assumption) (by decide) | omega)):p:=h
end Go.Emb
namespace Go.Proofs.YtjdiakhipmggjaaGreatDoor
open Go.Emb
theorem X3B {a:List UInt8} {cs:List Bool} {r:TypeId} {w:World} {K:Value→World→Prop}:X3 P .len [T.c] r cs [S a] w K=K (I a.length) w:=R3 X8
theorem X3t {c d:Operand} {a b:Bool} {w:World} {K:Value→World→Prop}:Q3 P .eql T.u c d (.bool a) (.bool b) w K=K (.bool (a==b)) w:=Q5p Q39
theorem X3H {c d:Operand} {a b:Bool} {w:World} {K:Value→World→Prop}:Q3 P .neq T.u c d (.bool a) (.bool b) w K=K (.bool (!(a==b))) w:=Q6k Q39
def Mm:=And.intro @fa <| And.intro @L7 <| And.intro @Qa <| And.intro @X3B <| And.intro @X3t @X3H
def M1:=And.intro Mm Mr
def M2:=And.intro Mm Mp
end Go.Proofs.YtjdiakhipmggjaaGreatDoor

namespace Go.Proofs.YtjdiakhipmggjaaGreatDoor
open Go.Emb Go.RowKit Go.Kd Go.Hm
variable {w : World} {K : Value → World → Prop} {σ : Q5}
def We (m:Hm.Met):Bool:=decide (32<m.params.length)||decide (32<m.catches.length)||decide (200<m.code.length)||decide (64<m.locals)
def Zo (c:Cla):Bool:=c.methods.any We||decide (32<c.like.length)||decide (32<c.fields.length)||decide (32<c.methods.length)
theorem X2F {c : Cla} {cs : List Value} (hs : X2 w σ) (hc : V0 σ c cs) (h : ∀ w', Below w.heap.size w w' → K (.bool (Zo c)) w') : Q1 P F.cG [.agg cs.toArray] w K := Q5t (by
  obtain ⟨lv, fv, mv, rfl, hl, hf, hm, hn, hsu⟩ := hc
  unfold Q0D
  refine E5 hs fun a w1 σ1 hk ha => ?_
  have hs := hk.sat
  replace hl := hl.up hk
  replace hf := hf.up hk
  replace hm := hm.up hk
  simp only [Value.cells] at ha
  ((try simp only [↓M1, M1, Mb, reduceIte]); repeat ((first | refine ld (by assumption) (by assumption) rfl ?_ | refine X7 (by assumption) (by assumption) rfl ?_ | refine Q8 (by assumption) ?_); (try simp only [↓M1, M1, Mb, reduceIte])))
  refine U1 c.methods.length (fun n w' => Below w1.heap.size w1 w' ∧ ((c.methods.take n).any We) = false) ⟨Below.refl _ _, by simp⟩ fun n w2 d hn hi => ?_
  obtain ⟨hb, hp⟩ := hi
  have hs2 := hs.below hb
  ((try simp only [↓M1, M1, Mb, reduceIte]); repeat ((first | refine ld (by assumption) (by assumption) rfl ?_ | refine X7 (by assumption) (by assumption) rfl ?_ | refine Q8 (by assumption) ?_); (try simp only [↓M1, M1, Mb, reduceIte])))
  refine Q7 (fun hc => ?_) (fun hc => ?_)
  · have hn' : n < c.methods.length := by simpa using hc
    refine M7 hm hn' fun p cs hl1 hlen hr => ?_
    refine Y4 hs2 hl1 hlen ?_
    refine Y7 hs2 (by rfl) hlen (Rep.one hr) fun q w3 σ3 hk3 hq => ?_
    obtain ⟨pv, cv, hv, rfl, g1, g2, g3, g4⟩ := hr
    have hs3 := hk3.sat
    replace g1 := g1.up hk3
    replace g2 := g2.up hk3
    replace g3 := g3.up hk3
    ((try simp only [↓M1, M1, Mb, reduceIte]); repeat ((first | refine ld (by assumption) (by assumption) rfl ?_ | refine X7 (by assumption) (by assumption) rfl ?_ | refine Q8 (by assumption) ?_); (try simp only [↓M1, M1, Mb, reduceIte])))
    (repeat' ((first | refine Z8 (fun hh => ?_) (fun hh => ?_) | refine Q7 (fun hh => ?_) (fun hh => ?_)) <;> (try simp only [hh, Bool.not_true, Bool.not_false, ↓M1, M1, Mb, reduceIte]) <;> ((try simp only [↓M1, M1, Mb, reduceIte]); repeat ((first | refine ld (by assumption) (by assumption) rfl ?_ | refine X7 (by assumption) (by assumption) rfl ?_ | refine Q8 (by assumption) ?_); (try simp only [↓M1, M1, Mb, reduceIte])))))
    all_goals first
      | refine Y5 hm.max hn' ⟨bt hb hk3.bel, ?_⟩
        rw [L2 hn', hp]; simp only [We]; (first | (simp only [decide_eq_true_eq, decide_eq_false_iff_not, Bool.not_true, Bool.not_false, Bool.not_eq_true', Bool.not_eq_false', Bool.or_eq_true, Bool.and_eq_true, Bool.or_eq_false_iff, Bool.and_eq_false_iff, Bool.false_or, Bool.true_and, Bool.or_false, Bool.and_true] at *; first | omega | (and_intros <;> omega)) | (rw [Bool.eq_iff_iff]; (simp only [decide_eq_true_eq, decide_eq_false_iff_not, Bool.not_true, Bool.not_false, Bool.not_eq_true', Bool.not_eq_false', Bool.or_eq_true, Bool.and_eq_true, Bool.or_eq_false_iff, Bool.and_eq_false_iff, Bool.false_or, Bool.true_and, Bool.or_false, Bool.and_true] at *; first | omega | (and_intros <;> omega))))
      | have e : Zo c = true := by
          have : We c.methods[n] = true := by simp only [We]; (first | (simp only [decide_eq_true_eq, decide_eq_false_iff_not, Bool.not_true, Bool.not_false, Bool.not_eq_true', Bool.not_eq_false', Bool.or_eq_true, Bool.and_eq_true, Bool.or_eq_false_iff, Bool.and_eq_false_iff, Bool.false_or, Bool.true_and, Bool.or_false, Bool.and_true] at *; first | omega | (and_intros <;> omega)) | (rw [Bool.eq_iff_iff]; (simp only [decide_eq_true_eq, decide_eq_false_iff_not, Bool.not_true, Bool.not_false, Bool.not_eq_true', Bool.not_eq_false', Bool.or_eq_true, Bool.and_eq_true, Bool.or_eq_false_iff, Bool.and_eq_false_iff, Bool.false_or, Bool.true_and, Bool.or_false, Bool.and_true] at *; first | omega | (and_intros <;> omega))))
          simp [Zo, S5 hn' this]
        rw [← e]; exact h _ (bt hk.bel (bt hb hk3.bel))
  · have hn' : ¬ n < c.methods.length := by simpa using hc
    rw [E2 hn'] at hp
    have h := h w2 (bt hk.bel hb)
    ((try simp only [↓M1, M1, Mb, reduceIte]); repeat ((first | refine ld (by assumption) (by assumption) rfl ?_ | refine X7 (by assumption) (by assumption) rfl ?_ | refine Q8 (by assumption) ?_); (try simp only [↓M1, M1, Mb, reduceIte])))
    (repeat' ((first | refine Z8 (fun hh => ?_) (fun hh => ?_) | refine Q7 (fun hh => ?_) (fun hh => ?_)) <;> (try simp only [hh, Bool.not_true, Bool.not_false, ↓M1, M1, Mb, reduceIte]) <;> ((try simp only [↓M1, M1, Mb, reduceIte]); repeat ((first | refine ld (by assumption) (by assumption) rfl ?_ | refine X7 (by assumption) (by assumption) rfl ?_ | refine Q8 (by assumption) ?_); (try simp only [↓M1, M1, Mb, reduceIte])))))
    all_goals
      refine Eq.subst (motive := fun b => K (.bool b) w2) ?_ h
      simp only [Zo, hp]
      (first | (simp only [decide_eq_true_eq, decide_eq_false_iff_not, Bool.not_true, Bool.not_false, Bool.not_eq_true', Bool.not_eq_false', Bool.or_eq_true, Bool.and_eq_true, Bool.or_eq_false_iff, Bool.and_eq_false_iff, Bool.false_or, Bool.true_and, Bool.or_false, Bool.and_true] at *; first | omega | (and_intros <;> omega)) | (rw [Bool.eq_iff_iff]; (simp only [decide_eq_true_eq, decide_eq_false_iff_not, Bool.not_true, Bool.not_false, Bool.not_eq_true', Bool.not_eq_false', Bool.or_eq_true, Bool.and_eq_true, Bool.or_eq_false_iff, Bool.and_eq_false_iff, Bool.false_or, Bool.true_and, Bool.or_false, Bool.and_true] at *; first | omega | (and_intros <;> omega)))))
end Go.Proofs.YtjdiakhipmggjaaGreatDoor

namespace Go.Emb
open Go.RowKit Go.Hm
variable {H : Type} {enc : TypeId × Value → H} {P : Program} {W : World} {t : TypeId} {cs : List Value} {fuel : Nat} {x : DataW H × List MemPlace}
def Wj (W:World):Q5:=fun b=>W.heap[b]?
theorem Q8S:X2 W (Wj W):=fun b o h=>h
def Wt (P:Program) (t:TypeId) (d:DataW H):Prop:= ∀n∈d.weights P t,n≤reachBytes
theorem X25 {a:Addr} {n:Nat} (h:W.cells? 0 a n=some cs) (C:0<n):cs.length=n∧Z4 (Wj W) a cs:=by
 obtain ⟨_,k,y⟩:=World.cells?_some h
 refine ⟨k,?_⟩
 have key: ∀i v,cs[i]? =some v→ ∃arr e f,W.heap[a.block]? =some (.cells arr e f)∧(a.add i).spot=none∧arr[a.off+i]? =some v:=by
  intro i v g
  have B:i<cs.length:=(List.getElem?_eq_some_iff.1 g).1
  have b:=y i (by omega)
  rw[g] at b
  unfold World.cell? at b
  rw[S4,A9] at b
  cases p:W.heap[a.block]? with
  | none=>rw[p] at b;cases b
  | some o=>
   rw[p] at b
   cases o with
   | cells arr e f=>
    simp only at b
    split at b
    ·cases b
    ·rename_i q
     exact ⟨arr,e,f,rfl,by simpa using q,b⟩
   | _=>cases b
 cases j:cs with
 | nil=>subst j;simp at k;omega
 | cons c r=>
  obtain ⟨arr,e,f,m,s,D⟩:=key 0 c (by rw[j];rfl)
  refine ⟨by simpa [Addr.add] using s,arr,e,f,m,fun i v g=>?_⟩
  obtain ⟨l,z,w,d,A,u⟩:=key i v (by rw[j];exact g)
  rw[m] at d
  injection d with d
  injection d with d
  subst d
  exact u
theorem Q9N (b:P.underlying t=some .string) (h:DataW.trod enc P W 0 (fun _=>true) true fuel t cs=some x) (a:Wt P t x.1): ∃s:Kd.X0,cs=[S s]∧s.length≤U0:=by
 obtain ⟨⟨⟨s⟩⟩,rfl,rfl,_⟩:=DataW.trod_string b h
 refine ⟨s,rfl,?_⟩
 have:=a s.length (by simp[DataW.weights])
 exact this
theorem Gh (b:P.underlying t=some (.int .i64)) (h:DataW.trod enc P W 0 (fun _=>true) true fuel t cs=some x): ∃n,cs=[I n]∧Yu n:=by
 obtain ⟨n,c,_,a⟩:=DataW.trod_int b h
 refine ⟨n,c,?_⟩
 simp only[Lit.wf,Bool.and_eq_true,decide_eq_true_eq] at a
 exact ⟨a.1,a.2⟩
theorem X1A {α:Type} {Q:Nat→α→Prop}: ∀(n:Nat),(∀i,i<n→ ∃y,Q i y)→ ∃xs:List α,xs.length=n∧ ∀i y,xs[i]? =some y→Q i y:=by
 intro n
 induction n with
 | zero=>intro _;exact ⟨[],rfl,by simp⟩
 | succ n c=>
  intro h
  obtain ⟨xs,f,e⟩:=c fun i b=>h i (by omega)
  obtain ⟨y,d⟩:=h n (by omega)
  refine ⟨xs++[y],by simp[f],fun i z a=>?_⟩
  by_cases b:i<xs.length
  ·rw[List.getElem?_append_left b] at a;exact e i z a
  ·rw[List.getElem?_append_right (by omega)] at a
   have:i-xs.length=0:=by
    have:=(List.getElem?_eq_some_iff.1 a).1
    simp at this;omega
   rw[this] at a
   simp at a
   subst a
   rw[show i=n by omega];exact d
theorem X39 {e:TypeId} {d:DataW H}: ∀{l:List (DataW H)},d∈l→ ∀n∈d.weights P e,n∈DataW.weightsAll P e l:=by
 intro l
 induction l with
 | nil=>intro h;simp at h
 | cons a r c=>
  intro h n b
  simp only[DataW.weightsAll,List.mem_append]
  rcases List.mem_cons.1 h with rfl | h
  ·exact .inl b
  ·exact .inr (c h n b)
theorem X3G {α:Type} {R:Q5→α→List Value→Prop} {e:TypeId} {sz:Nat} (A:P.underlying t=some (.slice e)) (E:P.cellsOf e=sz) (O:0<sz)
 (s: ∀fuel cs (x:DataW H×List MemPlace),DataW.trod enc P W 0 (fun _=>true) true fuel e cs=some x→Wt P e x.1→ ∃y,R (Wj W) y cs)
 (h:DataW.trod enc P W 0 (fun _=>true) true fuel t cs=some x) (J:Wt P t x.1): ∃v xs,cs=[v]∧Sl sz R (Wj W) v xs:=by
 rcases DataW.trod_slice A h with ⟨rfl,rfl⟩ | ⟨a,g,q,d,z,n,_,rfl,rfl,_,Q,p,w,o,_⟩
 ·exact ⟨_,[],rfl,Sl.nil⟩
 subst E
 have step: ∀i,i<g→ ∃y,∃c,Z4 (Wj W) (a.add (i*P.cellsOf e)) c∧c.length=P.cellsOf e∧R (Wj W) y c:=by
  intro i C
  have u:=o i C
  have j:i<d.length:=by omega
  rw[List.getElem?_eq_getElem j] at u
  obtain ⟨c,M,B⟩:=Option.bind_eq_some_iff.1 u
  obtain ⟨D,r⟩:=X25 M O
  obtain ⟨y,f⟩:=s n c _ B (fun m p=>J m (by
   simp only[DataW.weights,A,List.mem_cons,List.mem_append]
   exact .inr (.inl (X39 (List.mem_map.2 ⟨_,List.getElem_mem j,rfl⟩) m p))))
  exact ⟨y,c,r,D,f⟩
 obtain ⟨xs,k,l⟩:=X1A g step
 refine ⟨_,xs,rfl,some a,q,by rw[k],by rw[k];exact Q,p,by simp,fun b N=>?_⟩
 cases N
 refine ⟨fun L=>?_,fun i y f=>l i y f⟩
 obtain ⟨y,f⟩: ∃y,xs[0]? =some y:=⟨xs[0],List.getElem?_eq_getElem L⟩
 obtain ⟨c,r,_,_⟩:=l 0 y f
 have:=r.1
 simpa [Addr.add] using this
theorem Q7I: ∀{a:List TypeId} {l:List (DataW H)} {i:Nat} {u:TypeId} {d:DataW H},a[i]? =some u→l[i]? =some d→ ∀n∈d.weights P u,n∈DataW.weightsEach P a l:=
 fun e c n b=>DataW.weights_mem_each e c n b
theorem Ll {e:Array Field} (g:P.underlying t=some (.struct e)) (h:DataW.trod enc P W 0 (fun _=>true) true fuel t cs=some x) (r:Wt P t x.1) (i:Nat) {o:Nat} {b:TypeId}
 (p:(e[i]?).map (fun f=>(f.type,f.offset))=some (b,o)) (q:P.cellsOf b=1): ∃n y,DataW.trod enc P W 0 (fun _=>true) true n b ((cs.drop o).take 1)=some y∧Wt P b y.1:=by
 obtain ⟨xs,n,_,rfl,v,s,k⟩:=DataW.trod_struct g h
 obtain ⟨f,a,j⟩:=Option.map_eq_some_iff.1 p
 cases j
 have d:=k i f a
 have c:i<xs.length:=by rw[s];exact (Array.getElem?_eq_some_iff.1 a).1
 rw[List.getElem?_eq_getElem c,q] at d
 refine ⟨n,_,d,fun m l=>r m ?_⟩
 simp only[DataW.weights,g]
 exact Q7I (i:=i) (u:=f.type) (by rw[List.getElem?_map,Array.getElem?_toList,a];rfl) (by rw[List.getElem?_map,List.getElem?_eq_getElem c];rfl) m l
theorem Q9n {c:Array Field} {k:Nat} (a:P.underlying t=some (.struct c)) (b:P.cellsOf t=k) (h:DataW.trod enc P W 0 (fun _=>true) true fuel t cs=some x):cs.length=k:=by
 obtain ⟨_,_,_,_,d,_,_⟩:=DataW.trod_struct a h
 rw[d,b]
theorem X1m {α:Type} {l:List α} (h:l.length=3): ∃a b c,l=[a,b,c]:=by
 match l,h with
 | [a,b,c],_=>exact ⟨a,b,c,rfl⟩
theorem X3Q {α:Type} {l:List α} (h:l.length=4): ∃a b c d,l=[a,b,c,d]:=by
 match l,h with
 | [a,b,c,d],_=>exact ⟨a,b,c,d,rfl⟩
theorem X3q {α:Type} {l:List α} (h:l.length=8): ∃a b c d e f g i,l=[a,b,c,d,e,f,g,i]:=by
 match l,h with
 | [a,b,c,d,e,f,g,i],_=>exact ⟨a,b,c,d,e,f,g,i,rfl⟩
end Go.Emb
namespace Go.Proofs.YtjdiakhipmggjaaGreatDoor
open Go.Emb Go.RowKit Go.Kd Go.Hm
variable {H : Type} {enc : TypeId × Value → H} {W : World} {cs : List Value} {fuel : Nat} {x : DataW H × List MemPlace}
theorem Pu:P.cellsOf T.c=1:=by kernel_rfl
theorem X2D:P.cellsOf T.u=1:=by kernel_rfl
theorem Q4U:P.cellsOf T.e=1:=by kernel_rfl
end Go.Proofs.YtjdiakhipmggjaaGreatDoor

namespace Go.Emb
def J3 {α β:Type} (a:β→α→Bool×β):β→List α→Nat→Option Nat×β
 | s,[],_=>(none,s)
 | s,x::xs,i=>if (a s x).1 then (some i,(a s x).2) else J3 a (a s x).2 xs (i+1)
def L5 (o:Option Nat):Int:=match o with | some i=>i | none=> -1
theorem K5 {α:Type} (p:α→Bool): ∀(xs:List α) (i:Nat),(J3 (fun (_:Unit) x=>(p x,())) () xs i).1=(xs.findIdx? p).map (· +i):=by
 intro xs
 induction xs with
 | nil=>intro i;rfl
 | cons x r ih=>
  intro i
  rw[List.findIdx?_cons]
  simp only[J3]
  cases p x with
  | true=>simp
  | false=>
   simp only[Bool.false_eq_true,if_false]
   rw[ih (i+1),Option.map_map]
   congr 1;funext n;simp only[Function.comp];omega
theorem Di {α β:Type} (a:β→α→Bool×β) (s:β) (xs:List α) (i:Nat):decide ((0:Int)≤L5 (J3 a s xs i).1)=(J3 a s xs i).1.isSome:=by
 cases (J3 a s xs i).1<;>simp[L5]
end Go.Emb
namespace Go.Proofs.YtjdiakhipmggjaaGreatDoor
open Go.Emb Go.RowKit Go.Kd Go.Hm
variable {w : World} {K : Value → World → Prop} {σ : Q5}
theorem Vw {β:Type} {xs:List Hm.Met} {v f:Value} (a:β→Hm.Met→Bool×β) (i:β) (b:β→World→Prop) (D:Nat→Prop) (j: ∀s w,b s w→X2 w σ) (A:b i w) (u:Sl 7 E7 σ v xs)
 (y: ∀s x cs (w1:World) (K:Value→World→Prop),x∈xs→Kpt D w w1→b s w1→E7 σ x cs→cs.length=7→(∀w',Kpt D w w'→b (a s x).2 w'→K (.bool (a s x).1) w')→Z3 P f [.agg cs.toArray] w1 K)
 (h: ∀w',Kpt D w w'→b (J3 a i xs 0).2 w'→K (I (L5 (J3 a i xs 0).1)) w'):Q1 P F.g [v,f] w K:=Xr (by
 unfold B1
 ((try simp only[↓M1,M1,Mb,reduceIte]);repeat ((first | refine ld (by assumption) (by assumption) rfl ?_ | refine X7 (by assumption) (by assumption) rfl ?_ | refine Q8 (by assumption) ?_);(try simp only[↓M1,M1,Mb,reduceIte])))
 refine U1 xs.length (fun n w'=>Kpt D w w'∧ ∃s,b s w'∧J3 a i xs 0=J3 a s (xs.drop n) n) ⟨Kpt.refl,i,A,rfl⟩ fun n w1 d E k=>?_
 obtain ⟨t,s,k,e⟩:=k
 have o:=j s w1 k
 ((try simp only[↓M1,M1,Mb,reduceIte]);repeat ((first | refine ld (by assumption) (by assumption) rfl ?_ | refine X7 (by assumption) (by assumption) rfl ?_ | refine Q8 (by assumption) ?_);(try simp only[↓M1,M1,Mb,reduceIte])))
 refine Q7 (fun q=>?_) (fun q=>?_)
 ·have c:n<xs.length:=by simpa using q
  refine M7 u c fun p cs C g z=>?_
  refine Y4 o C g ?_
  refine y s xs[n] cs w1 _ (List.getElem_mem c) t k z g fun B m l=>?_
  rw[List.drop_eq_getElem_cons c] at e
  simp only[J3] at e
  refine Q7 (fun r=>?_) (fun r=>?_)
  ·rw[r] at e
   have:=h B m
   rw[e] at this
   exact this l
  ·rw[r] at e
   ((try simp only[↓M1,M1,Mb,reduceIte]);repeat ((first | refine ld (by assumption) (by assumption) rfl ?_ | refine X7 (by assumption) (by assumption) rfl ?_ | refine Q8 (by assumption) ?_);(try simp only[↓M1,M1,Mb,reduceIte])))
   exact Y5 u.max c ⟨m,_,l,by simpa using e⟩
 ·have c: ¬n<xs.length:=by simpa using q
  rw[List.drop_eq_nil_of_le (by omega)] at e
  have:=h w1 t
  rw[e] at this
  exact this k)
theorem Je {β:Type} {xs:List Hm.Met} {v f:Value} (b:β→Hm.Met→Bool×β) (d:β) (a:β→World→Prop) (D:Nat→Prop) (c: ∀s w,a s w→X2 w σ) (k:a d w) (i:Sl 7 E7 σ v xs)
 (g: ∀s x cs (w1:World) (K:Value→World→Prop),x∈xs→Kpt D w w1→a s w1→E7 σ x cs→cs.length=7→(∀w',Kpt D w w'→a (b s x).2 w'→K (.bool (b s x).1) w')→Z3 P f [.agg cs.toArray] w1 K)
 (h: ∀w',Kpt D w w'→a (J3 b d xs 0).2 w'→K (.bool (J3 b d xs 0).1.isSome) w'):Q1 P F.a [v,f] w K:=Qi (by
 unfold S6
 refine Vw b d a D c k i g fun w1 e j=>?_
 (try simp only[↓M1,M1,Mb,reduceIte])
 rw[Di]
 exact h w1 e j)
theorem Bw {xs:List Hm.Met} {v f:Value} (p:Hm.Met→Bool) (hs:X2 w σ) (hv:Sl 7 E7 σ v xs)
 (hf: ∀x cs (w1:World) (K:Value→World→Prop),x∈xs→X2 w1 σ→E7 σ x cs→cs.length=7→(∀w',Below w1.heap.size w1 w'→K (.bool (p x)) w')→Z3 P f [.agg cs.toArray] w1 K)
 (h: ∀w',Below w.heap.size w w'→K (I (L5 (xs.findIdx? p))) w'):Q1 P F.g [v,f] w K:=by
 refine Vw (fun (_:Unit) x=>(p x,())) () (fun _ w'=>Below w.heap.size w w') (fun _=>False) (fun _ w' hb=>hs.below hb) (Below.refl _ _) hv (fun s x cs w1 K hx hk hi hr hl hK=>hf x cs w1 K hx (hs.below hi) hr hl fun w' hb=>hK w' (.of_below (bt hi hb)) (bt hi hb)) fun w' hk hi=>?_
 rw[K5]
 simpa using h w' hi
theorem B5 {xs:List Hm.Met} {v f:Value} (p:Hm.Met→Bool) (hs:X2 w σ) (hv:Sl 7 E7 σ v xs)
 (hf: ∀x cs (w1:World) (K:Value→World→Prop),x∈xs→X2 w1 σ→E7 σ x cs→cs.length=7→(∀w',Below w1.heap.size w1 w'→K (.bool (p x)) w')→Z3 P f [.agg cs.toArray] w1 K)
 (h: ∀w',Below w.heap.size w w'→K (.bool (xs.any p)) w'):Q1 P F.a [v,f] w K:=by
 refine Je (fun (_:Unit) x=>(p x,())) () (fun _ w'=>Below w.heap.size w w') (fun _=>False) (fun _ w' hb=>hs.below hb) (Below.refl _ _) hv (fun s x cs w1 K hx hk hi hr hl hK=>hf x cs w1 K hx (hs.below hi) hr hl fun w' hb=>hK w' (.of_below (bt hi hb)) (bt hi hb)) fun w' hk hi=>?_
 rw[K5]
 simpa using h w' hi
theorem Lb {β:Type} {xs:List Fld} {v f:Value} (a:β→Fld→Bool×β) (i:β) (b:β→World→Prop) (D:Nat→Prop) (j: ∀s w,b s w→X2 w σ) (A:b i w) (u:Sl 3 R7 σ v xs)
 (y: ∀s x cs (w1:World) (K:Value→World→Prop),x∈xs→Kpt D w w1→b s w1→R7 σ x cs→cs.length=3→(∀w',Kpt D w w'→b (a s x).2 w'→K (.bool (a s x).1) w')→Z3 P f [.agg cs.toArray] w1 K)
 (h: ∀w',Kpt D w w'→b (J3 a i xs 0).2 w'→K (I (L5 (J3 a i xs 0).1)) w'):Q1 P F.i [v,f] w K:=Yi (by
 unfold F0
 ((try simp only[↓M1,M1,Mb,reduceIte]);repeat ((first | refine ld (by assumption) (by assumption) rfl ?_ | refine X7 (by assumption) (by assumption) rfl ?_ | refine Q8 (by assumption) ?_);(try simp only[↓M1,M1,Mb,reduceIte])))
 refine U1 xs.length (fun n w'=>Kpt D w w'∧ ∃s,b s w'∧J3 a i xs 0=J3 a s (xs.drop n) n) ⟨Kpt.refl,i,A,rfl⟩ fun n w1 d E k=>?_
 obtain ⟨t,s,k,e⟩:=k
 have o:=j s w1 k
 ((try simp only[↓M1,M1,Mb,reduceIte]);repeat ((first | refine ld (by assumption) (by assumption) rfl ?_ | refine X7 (by assumption) (by assumption) rfl ?_ | refine Q8 (by assumption) ?_);(try simp only[↓M1,M1,Mb,reduceIte])))
 refine Q7 (fun q=>?_) (fun q=>?_)
 ·have c:n<xs.length:=by simpa using q
  refine M7 u c fun p cs C g z=>?_
  refine Y4 o C g ?_
  refine y s xs[n] cs w1 _ (List.getElem_mem c) t k z g fun B m l=>?_
  rw[List.drop_eq_getElem_cons c] at e
  simp only[J3] at e
  refine Q7 (fun r=>?_) (fun r=>?_)
  ·rw[r] at e
   have:=h B m
   rw[e] at this
   exact this l
  ·rw[r] at e
   ((try simp only[↓M1,M1,Mb,reduceIte]);repeat ((first | refine ld (by assumption) (by assumption) rfl ?_ | refine X7 (by assumption) (by assumption) rfl ?_ | refine Q8 (by assumption) ?_);(try simp only[↓M1,M1,Mb,reduceIte])))
   exact Y5 u.max c ⟨m,_,l,by simpa using e⟩
 ·have c: ¬n<xs.length:=by simpa using q
  rw[List.drop_eq_nil_of_le (by omega)] at e
  have:=h w1 t
  rw[e] at this
  exact this k)
theorem Rn {β:Type} {xs:List Fld} {v f:Value} (b:β→Fld→Bool×β) (d:β) (a:β→World→Prop) (D:Nat→Prop) (c: ∀s w,a s w→X2 w σ) (k:a d w) (i:Sl 3 R7 σ v xs)
 (g: ∀s x cs (w1:World) (K:Value→World→Prop),x∈xs→Kpt D w w1→a s w1→R7 σ x cs→cs.length=3→(∀w',Kpt D w w'→a (b s x).2 w'→K (.bool (b s x).1) w')→Z3 P f [.agg cs.toArray] w1 K)
 (h: ∀w',Kpt D w w'→a (J3 b d xs 0).2 w'→K (.bool (J3 b d xs 0).1.isSome) w'):Q1 P F.f [v,f] w K:=Xc (by
 unfold C6
 refine Lb b d a D c k i g fun w1 e j=>?_
 (try simp only[↓M1,M1,Mb,reduceIte])
 rw[Di]
 exact h w1 e j)
theorem Gl {xs:List Fld} {v f:Value} (p:Fld→Bool) (hs:X2 w σ) (hv:Sl 3 R7 σ v xs)
 (hf: ∀x cs (w1:World) (K:Value→World→Prop),x∈xs→X2 w1 σ→R7 σ x cs→cs.length=3→(∀w',Below w1.heap.size w1 w'→K (.bool (p x)) w')→Z3 P f [.agg cs.toArray] w1 K)
 (h: ∀w',Below w.heap.size w w'→K (I (L5 (xs.findIdx? p))) w'):Q1 P F.i [v,f] w K:=by
 refine Lb (fun (_:Unit) x=>(p x,())) () (fun _ w'=>Below w.heap.size w w') (fun _=>False) (fun _ w' hb=>hs.below hb) (Below.refl _ _) hv (fun s x cs w1 K hx hk hi hr hl hK=>hf x cs w1 K hx (hs.below hi) hr hl fun w' hb=>hK w' (.of_below (bt hi hb)) (bt hi hb)) fun w' hk hi=>?_
 rw[K5]
 simpa using h w' hi
theorem Jh {xs:List Fld} {v f:Value} (p:Fld→Bool) (hs:X2 w σ) (hv:Sl 3 R7 σ v xs)
 (hf: ∀x cs (w1:World) (K:Value→World→Prop),x∈xs→X2 w1 σ→R7 σ x cs→cs.length=3→(∀w',Below w1.heap.size w1 w'→K (.bool (p x)) w')→Z3 P f [.agg cs.toArray] w1 K)
 (h: ∀w',Below w.heap.size w w'→K (.bool (xs.any p)) w'):Q1 P F.f [v,f] w K:=by
 refine Rn (fun (_:Unit) x=>(p x,())) () (fun _ w'=>Below w.heap.size w w') (fun _=>False) (fun _ w' hb=>hs.below hb) (Below.refl _ _) hv (fun s x cs w1 K hx hk hi hr hl hK=>hf x cs w1 K hx (hs.below hi) hr hl fun w' hb=>hK w' (.of_below (bt hi hb)) (bt hi hb)) fun w' hk hi=>?_
 rw[K5]
 simpa using h w' hi
theorem Gt {β:Type} {xs:List Ins} {v f:Value} (a:β→Ins→Bool×β) (i:β) (b:β→World→Prop) (D:Nat→Prop) (j: ∀s w,b s w→X2 w σ) (A:b i w) (u:Sl 3 Qp σ v xs)
 (y: ∀s x cs (w1:World) (K:Value→World→Prop),x∈xs→Kpt D w w1→b s w1→Qp σ x cs→cs.length=3→(∀w',Kpt D w w'→b (a s x).2 w'→K (.bool (a s x).1) w')→Z3 P f [.agg cs.toArray] w1 K)
 (h: ∀w',Kpt D w w'→b (J3 a i xs 0).2 w'→K (I (L5 (J3 a i xs 0).1)) w'):Q1 P F.a5 [v,f] w K:=Yr (by
 unfold F9
 ((try simp only[↓M1,M1,Mb,reduceIte]);repeat ((first | refine ld (by assumption) (by assumption) rfl ?_ | refine X7 (by assumption) (by assumption) rfl ?_ | refine Q8 (by assumption) ?_);(try simp only[↓M1,M1,Mb,reduceIte])))
 refine U1 xs.length (fun n w'=>Kpt D w w'∧ ∃s,b s w'∧J3 a i xs 0=J3 a s (xs.drop n) n) ⟨Kpt.refl,i,A,rfl⟩ fun n w1 d E k=>?_
 obtain ⟨t,s,k,e⟩:=k
 have o:=j s w1 k
 ((try simp only[↓M1,M1,Mb,reduceIte]);repeat ((first | refine ld (by assumption) (by assumption) rfl ?_ | refine X7 (by assumption) (by assumption) rfl ?_ | refine Q8 (by assumption) ?_);(try simp only[↓M1,M1,Mb,reduceIte])))
 refine Q7 (fun q=>?_) (fun q=>?_)
 ·have c:n<xs.length:=by simpa using q
  refine M7 u c fun p cs C g z=>?_
  refine Y4 o C g ?_
  refine y s xs[n] cs w1 _ (List.getElem_mem c) t k z g fun B m l=>?_
  rw[List.drop_eq_getElem_cons c] at e
  simp only[J3] at e
  refine Q7 (fun r=>?_) (fun r=>?_)
  ·rw[r] at e
   have:=h B m
   rw[e] at this
   exact this l
  ·rw[r] at e
   ((try simp only[↓M1,M1,Mb,reduceIte]);repeat ((first | refine ld (by assumption) (by assumption) rfl ?_ | refine X7 (by assumption) (by assumption) rfl ?_ | refine Q8 (by assumption) ?_);(try simp only[↓M1,M1,Mb,reduceIte])))
   exact Y5 u.max c ⟨m,_,l,by simpa using e⟩
 ·have c: ¬n<xs.length:=by simpa using q
  rw[List.drop_eq_nil_of_le (by omega)] at e
  have:=h w1 t
  rw[e] at this
  exact this k)
theorem Sp {β:Type} {xs:List Ins} {v f:Value} (b:β→Ins→Bool×β) (d:β) (a:β→World→Prop) (D:Nat→Prop) (c: ∀s w,a s w→X2 w σ) (k:a d w) (i:Sl 3 Qp σ v xs)
 (g: ∀s x cs (w1:World) (K:Value→World→Prop),x∈xs→Kpt D w w1→a s w1→Qp σ x cs→cs.length=3→(∀w',Kpt D w w'→a (b s x).2 w'→K (.bool (b s x).1) w')→Z3 P f [.agg cs.toArray] w1 K)
 (h: ∀w',Kpt D w w'→a (J3 b d xs 0).2 w'→K (.bool (J3 b d xs 0).1.isSome) w'):Q1 P F.m [v,f] w K:=Xb (by
 unfold C8
 refine Gt b d a D c k i g fun w1 e j=>?_
 (try simp only[↓M1,M1,Mb,reduceIte])
 rw[Di]
 exact h w1 e j)
theorem Cc {xs:List Ins} {v f:Value} (p:Ins→Bool) (hs:X2 w σ) (hv:Sl 3 Qp σ v xs)
 (hf: ∀x cs (w1:World) (K:Value→World→Prop),x∈xs→X2 w1 σ→Qp σ x cs→cs.length=3→(∀w',Below w1.heap.size w1 w'→K (.bool (p x)) w')→Z3 P f [.agg cs.toArray] w1 K)
 (h: ∀w',Below w.heap.size w w'→K (.bool (xs.any p)) w'):Q1 P F.m [v,f] w K:=by
 refine Sp (fun (_:Unit) x=>(p x,())) () (fun _ w'=>Below w.heap.size w w') (fun _=>False) (fun _ w' hb=>hs.below hb) (Below.refl _ _) hv (fun s x cs w1 K hx hk hi hr hl hK=>hf x cs w1 K hx (hs.below hi) hr hl fun w' hb=>hK w' (.of_below (bt hi hb)) (bt hi hb)) fun w' hk hi=>?_
 rw[K5]
 simpa using h w' hi
theorem Gw {β:Type} {xs:List Cat} {v f:Value} (a:β→Cat→Bool×β) (i:β) (b:β→World→Prop) (D:Nat→Prop) (j: ∀s w,b s w→X2 w σ) (A:b i w) (u:Sl 4 Jw σ v xs)
 (y: ∀s x cs (w1:World) (K:Value→World→Prop),x∈xs→Kpt D w w1→b s w1→Jw σ x cs→cs.length=4→(∀w',Kpt D w w'→b (a s x).2 w'→K (.bool (a s x).1) w')→Z3 P f [.agg cs.toArray] w1 K)
 (h: ∀w',Kpt D w w'→b (J3 a i xs 0).2 w'→K (I (L5 (J3 a i xs 0).1)) w'):Q1 P F.a6 [v,f] w K:=Yp (by
 unfold G1
 ((try simp only[↓M1,M1,Mb,reduceIte]);repeat ((first | refine ld (by assumption) (by assumption) rfl ?_ | refine X7 (by assumption) (by assumption) rfl ?_ | refine Q8 (by assumption) ?_);(try simp only[↓M1,M1,Mb,reduceIte])))
 refine U1 xs.length (fun n w'=>Kpt D w w'∧ ∃s,b s w'∧J3 a i xs 0=J3 a s (xs.drop n) n) ⟨Kpt.refl,i,A,rfl⟩ fun n w1 d E k=>?_
 obtain ⟨t,s,k,e⟩:=k
 have o:=j s w1 k
 ((try simp only[↓M1,M1,Mb,reduceIte]);repeat ((first | refine ld (by assumption) (by assumption) rfl ?_ | refine X7 (by assumption) (by assumption) rfl ?_ | refine Q8 (by assumption) ?_);(try simp only[↓M1,M1,Mb,reduceIte])))
 refine Q7 (fun q=>?_) (fun q=>?_)
 ·have c:n<xs.length:=by simpa using q
  refine M7 u c fun p cs C g z=>?_
  refine Y4 o C g ?_
  refine y s xs[n] cs w1 _ (List.getElem_mem c) t k z g fun B m l=>?_
  rw[List.drop_eq_getElem_cons c] at e
  simp only[J3] at e
  refine Q7 (fun r=>?_) (fun r=>?_)
  ·rw[r] at e
   have:=h B m
   rw[e] at this
   exact this l
  ·rw[r] at e
   ((try simp only[↓M1,M1,Mb,reduceIte]);repeat ((first | refine ld (by assumption) (by assumption) rfl ?_ | refine X7 (by assumption) (by assumption) rfl ?_ | refine Q8 (by assumption) ?_);(try simp only[↓M1,M1,Mb,reduceIte])))
   exact Y5 u.max c ⟨m,_,l,by simpa using e⟩
 ·have c: ¬n<xs.length:=by simpa using q
  rw[List.drop_eq_nil_of_le (by omega)] at e
  have:=h w1 t
  rw[e] at this
  exact this k)
theorem Sn {β:Type} {xs:List Cat} {v f:Value} (b:β→Cat→Bool×β) (d:β) (a:β→World→Prop) (D:Nat→Prop) (c: ∀s w,a s w→X2 w σ) (k:a d w) (i:Sl 4 Jw σ v xs)
 (g: ∀s x cs (w1:World) (K:Value→World→Prop),x∈xs→Kpt D w w1→a s w1→Jw σ x cs→cs.length=4→(∀w',Kpt D w w'→a (b s x).2 w'→K (.bool (b s x).1) w')→Z3 P f [.agg cs.toArray] w1 K)
 (h: ∀w',Kpt D w w'→a (J3 b d xs 0).2 w'→K (.bool (J3 b d xs 0).1.isSome) w'):Q1 P F.n [v,f] w K:=Qz (by
 unfold C7
 refine Gw b d a D c k i g fun w1 e j=>?_
 (try simp only[↓M1,M1,Mb,reduceIte])
 rw[Di]
 exact h w1 e j)
theorem Rk {xs:List Cat} {v f:Value} (p:Cat→Bool) (hs:X2 w σ) (hv:Sl 4 Jw σ v xs)
 (hf: ∀x cs (w1:World) (K:Value→World→Prop),x∈xs→X2 w1 σ→Jw σ x cs→cs.length=4→(∀w',Below w1.heap.size w1 w'→K (.bool (p x)) w')→Z3 P f [.agg cs.toArray] w1 K)
 (h: ∀w',Below w.heap.size w w'→K (.bool (xs.any p)) w'):Q1 P F.n [v,f] w K:=by
 refine Sn (fun (_:Unit) x=>(p x,())) () (fun _ w'=>Below w.heap.size w w') (fun _=>False) (fun _ w' hb=>hs.below hb) (Below.refl _ _) hv (fun s x cs w1 K hx hk hi hr hl hK=>hf x cs w1 K hx (hs.below hi) hr hl fun w' hb=>hK w' (.of_below (bt hi hb)) (bt hi hb)) fun w' hk hi=>?_
 rw[K5]
 simpa using h w' hi
theorem Fj {β:Type} {xs:List Cla} {v f:Value} (a:β→Cla→Bool×β) (i:β) (b:β→World→Prop) (D:Nat→Prop) (j: ∀s w,b s w→X2 w σ) (A:b i w) (u:Sl 8 V0 σ v xs)
 (y: ∀s x cs (w1:World) (K:Value→World→Prop),x∈xs→Kpt D w w1→b s w1→V0 σ x cs→cs.length=8→(∀w',Kpt D w w'→b (a s x).2 w'→K (.bool (a s x).1) w')→Z3 P f [.agg cs.toArray] w1 K)
 (h: ∀w',Kpt D w w'→b (J3 a i xs 0).2 w'→K (I (L5 (J3 a i xs 0).1)) w'):Q1 P F.p [v,f] w K:=Yq (by
 unfold F3
 ((try simp only[↓M1,M1,Mb,reduceIte]);repeat ((first | refine ld (by assumption) (by assumption) rfl ?_ | refine X7 (by assumption) (by assumption) rfl ?_ | refine Q8 (by assumption) ?_);(try simp only[↓M1,M1,Mb,reduceIte])))
 refine U1 xs.length (fun n w'=>Kpt D w w'∧ ∃s,b s w'∧J3 a i xs 0=J3 a s (xs.drop n) n) ⟨Kpt.refl,i,A,rfl⟩ fun n w1 d E k=>?_
 obtain ⟨t,s,k,e⟩:=k
 have o:=j s w1 k
 ((try simp only[↓M1,M1,Mb,reduceIte]);repeat ((first | refine ld (by assumption) (by assumption) rfl ?_ | refine X7 (by assumption) (by assumption) rfl ?_ | refine Q8 (by assumption) ?_);(try simp only[↓M1,M1,Mb,reduceIte])))
 refine Q7 (fun q=>?_) (fun q=>?_)
 ·have c:n<xs.length:=by simpa using q
  refine M7 u c fun p cs C g z=>?_
  refine Y4 o C g ?_
  refine y s xs[n] cs w1 _ (List.getElem_mem c) t k z g fun B m l=>?_
  rw[List.drop_eq_getElem_cons c] at e
  simp only[J3] at e
  refine Q7 (fun r=>?_) (fun r=>?_)
  ·rw[r] at e
   have:=h B m
   rw[e] at this
   exact this l
  ·rw[r] at e
   ((try simp only[↓M1,M1,Mb,reduceIte]);repeat ((first | refine ld (by assumption) (by assumption) rfl ?_ | refine X7 (by assumption) (by assumption) rfl ?_ | refine Q8 (by assumption) ?_);(try simp only[↓M1,M1,Mb,reduceIte])))
   exact Y5 u.max c ⟨m,_,l,by simpa using e⟩
 ·have c: ¬n<xs.length:=by simpa using q
  rw[List.drop_eq_nil_of_le (by omega)] at e
  have:=h w1 t
  rw[e] at this
  exact this k)
theorem Fo {xs:List Cla} {v f:Value} (p:Cla→Bool) (hs:X2 w σ) (hv:Sl 8 V0 σ v xs)
 (hf: ∀x cs (w1:World) (K:Value→World→Prop),x∈xs→X2 w1 σ→V0 σ x cs→cs.length=8→(∀w',Below w1.heap.size w1 w'→K (.bool (p x)) w')→Z3 P f [.agg cs.toArray] w1 K)
 (h: ∀w',Below w.heap.size w w'→K (I (L5 (xs.findIdx? p))) w'):Q1 P F.p [v,f] w K:=by
 refine Fj (fun (_:Unit) x=>(p x,())) () (fun _ w'=>Below w.heap.size w w') (fun _=>False) (fun _ w' hb=>hs.below hb) (Below.refl _ _) hv (fun s x cs w1 K hx hk hi hr hl hK=>hf x cs w1 K hx (hs.below hi) hr hl fun w' hb=>hK w' (.of_below (bt hi hb)) (bt hi hb)) fun w' hk hi=>?_
 rw[K5]
 simpa using h w' hi
theorem Q0F {β:Type} {xs:List X0} {v f:Value} (a:β→X0→Bool×β) (g:β) (b:β→World→Prop) (D:Nat→Prop) (i: ∀s w,b s w→X2 w σ) (B:b g w) (u:Sl 1 U7 σ v xs)
 (z: ∀s x (w1:World) (K:Value→World→Prop),x∈xs→Kpt D w w1→b s w1→x.length≤U0→(∀w',Kpt D w w'→b (a s x).2 w'→K (.bool (a s x).1) w')→Z3 P f [S x] w1 K)
 (h: ∀w',Kpt D w w'→b (J3 a g xs 0).2 w'→K (I (L5 (J3 a g xs 0).1)) w'):Q1 P F.v [v,f] w K:=Vd (by
 unfold P8
 ((try simp only[↓M1,M1,Mb,reduceIte]);repeat ((first | refine ld (by assumption) (by assumption) rfl ?_ | refine X7 (by assumption) (by assumption) rfl ?_ | refine Q8 (by assumption) ?_);(try simp only[↓M1,M1,Mb,reduceIte])))
 refine U1 xs.length (fun n w'=>Kpt D w w'∧ ∃s,b s w'∧J3 a g xs 0=J3 a s (xs.drop n) n) ⟨Kpt.refl,g,B,rfl⟩ fun n w1 d H j=>?_
 obtain ⟨t,s,j,e⟩:=j
 have o:=i s w1 j
 ((try simp only[↓M1,M1,Mb,reduceIte]);repeat ((first | refine ld (by assumption) (by assumption) rfl ?_ | refine X7 (by assumption) (by assumption) rfl ?_ | refine Q8 (by assumption) ?_);(try simp only[↓M1,M1,Mb,reduceIte])))
 refine Q7 (fun q=>?_) (fun q=>?_)
 ·have c:n<xs.length:=by simpa using q
  refine M7 u c fun p cs E y A=>?_
  obtain ⟨rfl,k⟩:=A
  refine X7 o E rfl ?_
  refine z s xs[n] w1 _ (List.getElem_mem c) t j k fun C m l=>?_
  rw[List.drop_eq_getElem_cons c] at e
  simp only[J3] at e
  refine Q7 (fun r=>?_) (fun r=>?_)
  ·rw[r] at e
   have:=h C m
   rw[e] at this
   exact this l
  ·rw[r] at e
   ((try simp only[↓M1,M1,Mb,reduceIte]);repeat ((first | refine ld (by assumption) (by assumption) rfl ?_ | refine X7 (by assumption) (by assumption) rfl ?_ | refine Q8 (by assumption) ?_);(try simp only[↓M1,M1,Mb,reduceIte])))
   exact Y5 u.max c ⟨m,_,l,by simpa using e⟩
 ·have c: ¬n<xs.length:=by simpa using q
  rw[List.drop_eq_nil_of_le (by omega)] at e
  have:=h w1 t
  rw[e] at this
  exact this j)
theorem Q0U {xs:List X0} {v f:Value} (p:X0→Bool) (hs:X2 w σ) (hv:Sl 1 U7 σ v xs)
 (hf: ∀x (w1:World) (K:Value→World→Prop),x∈xs→X2 w1 σ→x.length≤U0→(∀w',Below w1.heap.size w1 w'→K (.bool (p x)) w')→Z3 P f [S x] w1 K)
 (h: ∀w',Below w.heap.size w w'→K (I (L5 (xs.findIdx? p))) w'):Q1 P F.v [v,f] w K:=by
 refine Q0F (fun (_:Unit) x=>(p x,())) () (fun _ w'=>Below w.heap.size w w') (fun _=>False) (fun _ w' hb=>hs.below hb) (Below.refl _ _) hv (fun s x w1 K hx hk hi hr hK=>hf x w1 K hx (hs.below hi) hr fun w' hb=>hK w' (.of_below (bt hi hb)) (bt hi hb)) fun w' hk hi=>?_
 rw[K5]
 simpa using h w' hi
theorem Q5P {α:Type} (p:α→Bool) (xs:List α):decide ((0:Int)≤L5 (xs.findIdx? p))=xs.any p:=by
 rw[Bool.eq_iff_iff,List.any_eq_true]
 simp only[decide_eq_true_eq]
 cases h:xs.findIdx? p with
 | none=>
  simp only[L5]
  constructor
  ·intro h;omega
  ·rintro ⟨x,b,a⟩;have:=List.findIdx?_eq_none_iff.1 h x b;rw[a] at this;cases this
 | some i=>
  simp only[L5]
  obtain ⟨c,a,_⟩:=List.findIdx?_eq_some_iff_getElem.1 h
  exact ⟨fun _=>⟨xs[i],List.getElem_mem c,a⟩,fun _=>by omega⟩
theorem P0 {xs:List X0} {v f:Value} (p:X0→Bool) (c:X2 w σ) (a:Sl 1 U7 σ v xs)
 (d: ∀x (w1:World) (K:Value→World→Prop),x∈xs→X2 w1 σ→x.length≤U0→(∀w',Below w1.heap.size w1 w'→K (.bool (p x)) w')→Z3 P f [S x] w1 K)
 (h: ∀w',Below w.heap.size w w'→K (.bool (xs.any p)) w'):Q1 P F.c [v,f] w K:=Jf (by
 unfold I7
 refine Q0U p c a d fun w1 b=>?_
 (try simp only[↓M1,M1,Mb,reduceIte])
 rw[Q5P]
 exact h w1 b)
theorem Q3G {xs:List X0} {v:Value} {x:X0} (o:X2 w σ) (f:Sl 1 U7 σ v xs)
 (h:K (I (L5 (xs.findIdx? fun y=>decide (x=y)))) w):Q1 P F.ar [v,S x] w K:=Mo (by
 unfold Qj
 ((try simp only[↓M1,M1,Mb,reduceIte]);repeat ((first | refine ld (by assumption) (by assumption) rfl ?_ | refine X7 (by assumption) (by assumption) rfl ?_ | refine Q8 (by assumption) ?_);(try simp only[↓M1,M1,Mb,reduceIte])))
 refine U1 xs.length (fun n w'=>w=w'∧(xs.take n).any (fun y=>decide (x=y))=false) ⟨rfl,rfl⟩ fun n w1 d q b=>?_
 obtain ⟨rfl,b⟩:=b
 ((try simp only[↓M1,M1,Mb,reduceIte]);repeat ((first | refine ld (by assumption) (by assumption) rfl ?_ | refine X7 (by assumption) (by assumption) rfl ?_ | refine Q8 (by assumption) ?_);(try simp only[↓M1,M1,Mb,reduceIte])))
 refine Q7 (fun c=>?_) (fun c=>?_)
 ·have a:n<xs.length:=by simpa using c
  refine M7 f a fun p cs r i l=>?_
  obtain ⟨rfl,g⟩:=l
  ((try simp only[↓M1,M1,Mb,reduceIte]);repeat ((first | refine ld (by assumption) (by assumption) rfl ?_ | refine X7 (by assumption) (by assumption) rfl ?_ | refine Q8 (by assumption) ?_);(try simp only[↓M1,M1,Mb,reduceIte])))
  refine Q7 (fun e=>?_) (fun e=>?_)
  ·have:xs.findIdx? (fun y=>decide (x=y))=some n:=by
    rw[List.findIdx?_eq_some_iff_getElem]
    refine ⟨a,e,fun j m=>?_⟩
    have:=List.any_eq_false.1 b (xs[j]) (List.mem_take_iff_getElem.2 ⟨j,by omega,rfl⟩)
    exact this
   rw[this] at h;exact h
  ·((try simp only[↓M1,M1,Mb,reduceIte]);repeat ((first | refine ld (by assumption) (by assumption) rfl ?_ | refine X7 (by assumption) (by assumption) rfl ?_ | refine Q8 (by assumption) ?_);(try simp only[↓M1,M1,Mb,reduceIte])))
   exact Y5 f.max a ⟨rfl,by rw[L2 a,b,e];rfl⟩
 ·have a: ¬n<xs.length:=by simpa using c
  rw[E2 a] at b
  have:xs.findIdx? (fun y=>decide (x=y))=none:=by
   rw[List.findIdx?_eq_none_iff];intro y k;simpa using List.any_eq_false.1 b y k
  rw[this] at h;exact h)
theorem Q1V {xs:List X0} {v:Value} {x:X0} (b:X2 w σ) (a:Sl 1 U7 σ v xs)
 (h:K (.bool (xs.any fun y=>decide (x=y))) w):Q1 P F.af [v,S x] w K:=Vr (by
 unfold T5
 refine Q3G b a ?_
 (try simp only[↓M1,M1,Mb,reduceIte])
 rw[Q5P]
 exact h)
end Go.Proofs.YtjdiakhipmggjaaGreatDoor

namespace Go.Emb
abbrev Q5.Le (σ σ':Q5):Prop:= ∀b o,σ b=some o→σ' b=some o
def C3 {α:Type} (f:α→List UInt8):List α→List α→Bool
 | _,[]=>true
 | seen,x::r=> !(seen.any fun y=>decide (f y=f x))&&C3 f (seen++[x]) r
theorem Vt {α:Type} (p:α→Bool) (xs:List α):(!xs.any fun x=> !p x)=xs.all p:=by
 rw[List.all_eq_not_any_not]
end Go.Emb
namespace Go.Proofs.YtjdiakhipmggjaaGreatDoor
open Go.Emb Go.RowKit Go.Kd Go.Hm
variable {w : World} {K : Value → World → Prop} {σ : Q5}
theorem Q1c {xs:List Hm.Met} {v:Value} {fn:Fn} {k d:Array Value} (p:Hm.Met→Bool) (s:X2 w σ) (u:Sl 7 E7 σ v xs)
 (t: ∀(σ1:Q5) x cs (w1:World) (K:Value→World→Prop),σ.Le σ1→x∈xs→X2 w1 σ1→E7 σ1 x cs→cs.length=7→(∀w',Below w1.heap.size w1 w'→K (.bool (p x)) w')→Z3 P (.func fn k d) [.agg cs.toArray] w1 K)
 (h: ∀w',Below w.heap.size w w'→K (.bool (xs.all p)) w'):Q1 P F.al [v, .func fn k d] w K:=Sr (by
 unfold Ju
 refine E5 s fun a w1 σ1 f m=>?_
 simp only[Value.cells] at m
 ((try simp only[↓M1,M1,Mb,reduceIte]);repeat ((first | refine ld (by assumption) (by assumption) rfl ?_ | refine X7 (by assumption) (by assumption) rfl ?_ | refine Q8 (by assumption) ?_);(try simp only[↓M1,M1,Mb,reduceIte])))
 refine B5 (fun x=> !p x) f.sat (u.up f) (fun x cs l K q i z n r=>?_) fun l B=>?_
 ·refine Z7 (Hc ?_)
  unfold Za
  refine E5 i fun b C A c g=>?_
  refine X7 c.sat (m.up c) rfl ?_
  refine Y4 c.sat g n ?_
  refine t A x _ C _ (fun b o e=>c.le b o (f.le b o e)) q c.sat (Rep.up c.le z) n fun y j=>?_
  (try simp only[↓M1,M1,Mb,reduceIte])
  exact r y (bt c.bel j)
 ·(try simp only[↓M1,M1,Mb,reduceIte])
  rw[Vt]
  exact h l (bt f.bel B))
theorem Q1X {xs:List Fld} {v:Value} {fn:Fn} {k d:Array Value} (p:Fld→Bool) (s:X2 w σ) (u:Sl 3 R7 σ v xs)
 (t: ∀(σ1:Q5) x cs (w1:World) (K:Value→World→Prop),σ.Le σ1→x∈xs→X2 w1 σ1→R7 σ1 x cs→cs.length=3→(∀w',Below w1.heap.size w1 w'→K (.bool (p x)) w')→Z3 P (.func fn k d) [.agg cs.toArray] w1 K)
 (h: ∀w',Below w.heap.size w w'→K (.bool (xs.all p)) w'):Q1 P F.aq [v, .func fn k d] w K:=Cm (by
 unfold Vb
 refine E5 s fun a w1 σ1 f m=>?_
 simp only[Value.cells] at m
 ((try simp only[↓M1,M1,Mb,reduceIte]);repeat ((first | refine ld (by assumption) (by assumption) rfl ?_ | refine X7 (by assumption) (by assumption) rfl ?_ | refine Q8 (by assumption) ?_);(try simp only[↓M1,M1,Mb,reduceIte])))
 refine Jh (fun x=> !p x) f.sat (u.up f) (fun x cs l K q i z n r=>?_) fun l B=>?_
 ·refine Z7 (Rb ?_)
  unfold Jc
  refine E5 i fun b C A c g=>?_
  refine X7 c.sat (m.up c) rfl ?_
  refine Y4 c.sat g n ?_
  refine t A x _ C _ (fun b o e=>c.le b o (f.le b o e)) q c.sat (Rep.up c.le z) n fun y j=>?_
  (try simp only[↓M1,M1,Mb,reduceIte])
  exact r y (bt c.bel j)
 ·(try simp only[↓M1,M1,Mb,reduceIte])
  rw[Vt]
  exact h l (bt f.bel B))
theorem Q1M {xs:List Ins} {v:Value} {fn:Fn} {k d:Array Value} (p:Ins→Bool) (s:X2 w σ) (u:Sl 3 Qp σ v xs)
 (t: ∀(σ1:Q5) x cs (w1:World) (K:Value→World→Prop),σ.Le σ1→x∈xs→X2 w1 σ1→Qp σ1 x cs→cs.length=3→(∀w',Below w1.heap.size w1 w'→K (.bool (p x)) w')→Z3 P (.func fn k d) [.agg cs.toArray] w1 K)
 (h: ∀w',Below w.heap.size w w'→K (.bool (xs.all p)) w'):Q1 P F.au [v, .func fn k d] w K:=Co (by
 unfold Vc
 refine E5 s fun a w1 σ1 f m=>?_
 simp only[Value.cells] at m
 ((try simp only[↓M1,M1,Mb,reduceIte]);repeat ((first | refine ld (by assumption) (by assumption) rfl ?_ | refine X7 (by assumption) (by assumption) rfl ?_ | refine Q8 (by assumption) ?_);(try simp only[↓M1,M1,Mb,reduceIte])))
 refine Cc (fun x=> !p x) f.sat (u.up f) (fun x cs l K q i z n r=>?_) fun l B=>?_
 ·refine Z7 (Hw ?_)
  unfold Zw
  refine E5 i fun b C A c g=>?_
  refine X7 c.sat (m.up c) rfl ?_
  refine Y4 c.sat g n ?_
  refine t A x _ C _ (fun b o e=>c.le b o (f.le b o e)) q c.sat (Rep.up c.le z) n fun y j=>?_
  (try simp only[↓M1,M1,Mb,reduceIte])
  exact r y (bt c.bel j)
 ·(try simp only[↓M1,M1,Mb,reduceIte])
  rw[Vt]
  exact h l (bt f.bel B))
theorem Q1R {xs:List Cat} {v:Value} {fn:Fn} {k d:Array Value} (p:Cat→Bool) (s:X2 w σ) (u:Sl 4 Jw σ v xs)
 (t: ∀(σ1:Q5) x cs (w1:World) (K:Value→World→Prop),σ.Le σ1→x∈xs→X2 w1 σ1→Jw σ1 x cs→cs.length=4→(∀w',Below w1.heap.size w1 w'→K (.bool (p x)) w')→Z3 P (.func fn k d) [.agg cs.toArray] w1 K)
 (h: ∀w',Below w.heap.size w w'→K (.bool (xs.all p)) w'):Q1 P F.av [v, .func fn k d] w K:=Ci (by
 unfold Uy
 refine E5 s fun a w1 σ1 f m=>?_
 simp only[Value.cells] at m
 ((try simp only[↓M1,M1,Mb,reduceIte]);repeat ((first | refine ld (by assumption) (by assumption) rfl ?_ | refine X7 (by assumption) (by assumption) rfl ?_ | refine Q8 (by assumption) ?_);(try simp only[↓M1,M1,Mb,reduceIte])))
 refine Rk (fun x=> !p x) f.sat (u.up f) (fun x cs l K q i z n r=>?_) fun l B=>?_
 ·refine Z7 (Ht ?_)
  unfold Zt
  refine E5 i fun b C A c g=>?_
  refine X7 c.sat (m.up c) rfl ?_
  refine Y4 c.sat g n ?_
  refine t A x _ C _ (fun b o e=>c.le b o (f.le b o e)) q c.sat (Rep.up c.le z) n fun y j=>?_
  (try simp only[↓M1,M1,Mb,reduceIte])
  exact r y (bt c.bel j)
 ·(try simp only[↓M1,M1,Mb,reduceIte])
  rw[Vt]
  exact h l (bt f.bel B))
theorem Gf {xs:List X0} {v:Value} {fn:Fn} {g b:Array Value} (p:X0→Bool) (l:X2 w σ) (n:Sl 1 U7 σ v xs)
 (m: ∀(σ1:Q5) x (w1:World) (K:Value→World→Prop),σ.Le σ1→x∈xs→X2 w1 σ1→x.length≤U0→(∀w',Below w1.heap.size w1 w'→K (.bool (p x)) w')→Z3 P (.func fn g b) [S x] w1 K)
 (h: ∀w',Below w.heap.size w w'→K (.bool (xs.all p)) w'):Q1 P F.aa [v, .func fn g b] w K:=Pf (by
 unfold Ml
 refine E5 l fun a w1 σ1 d i=>?_
 simp only[Value.cells] at i
 ((try simp only[↓M1,M1,Mb,reduceIte]);repeat ((first | refine ld (by assumption) (by assumption) rfl ?_ | refine X7 (by assumption) (by assumption) rfl ?_ | refine Q8 (by assumption) ?_);(try simp only[↓M1,M1,Mb,reduceIte])))
 refine P0 (fun x=> !p x) d.sat (n.up d) (fun x f K j c q k=>?_) fun f r=>?_
 ·refine Z7 (Bu ?_)
  unfold Vu
  refine X7 c i rfl ?_
  refine m σ1 x f _ d.le j c q fun o e=>?_
  (try simp only[↓M1,M1,Mb,reduceIte])
  exact k o e
 ·(try simp only[↓M1,M1,Mb,reduceIte])
  rw[Vt]
  exact h f (bt d.bel r))
theorem Q1J {xs:List Hm.Met} {v:Value} {fn:Fn} {E l:Array Value} (f:Hm.Met→X0) (hs:X2 w σ) (z:Sl 7 E7 σ v xs)
 (X: ∀(σ1:Q5) x cs (w1:World) (K:Value→World→Prop),σ.Le σ1→X2 w1 σ1→E7 σ1 x cs→cs.length=7→(∀w',Below w1.heap.size w1 w'→K (S (f x)) w')→Z3 P (.func fn E l) [.agg cs.toArray] w1 K)
 (h: ∀w',Below w.heap.size w w'→K (.bool (C3 f [] xs)) w'):Q1 P F.ap [v, .func fn E l] w K:=Ch (by
 unfold Uw
 refine E5 hs fun a w1 σ1 u ha=>?_
 simp only[Value.cells] at ha
 have M:=u.sat
 replace z:=z.up u
 ((try simp only[↓M1,M1,Mb,reduceIte]);repeat ((first | refine ld (by assumption) (by assumption) rfl ?_ | refine X7 (by assumption) (by assumption) rfl ?_ | refine Q8 (by assumption) ?_);(try simp only[↓M1,M1,Mb,reduceIte])))
 refine U1 xs.length (fun n w'=>Below w1.heap.size w1 w'∧C3 f [] xs=C3 f (xs.take n) (xs.drop n)) ⟨Below.refl _ _,rfl⟩ fun n w2 d hn hi=>?_
 obtain ⟨j,m⟩:=hi
 have D:=M.below j
 ((try simp only[↓M1,M1,Mb,reduceIte]);repeat ((first | refine ld (by assumption) (by assumption) rfl ?_ | refine X7 (by assumption) (by assumption) rfl ?_ | refine Q8 (by assumption) ?_);(try simp only[↓M1,M1,Mb,reduceIte])))
 refine Q7 (fun O=>?_) (fun O=>?_)
 ·have k:n<xs.length:=by simpa using O
  rw[List.drop_eq_getElem_cons k] at m
  simp only[C3] at m
  refine M7 z k fun p cs hl g Z=>?_
  refine Y4 D hl g ?_
  refine Y7 D (by rfl) g (Rep.one Z) fun q w3 σ3 i hq=>?_
  refine Es (z.up i) none (some (I n)) 0 n (.inl ⟨rfl,rfl⟩) (.inr rfl) (by omega) (by omega) fun v' W=>?_
  ((try simp only[↓M1,M1,Mb,reduceIte]);repeat ((first | refine ld (by assumption) (by assumption) rfl ?_ | refine X7 (by assumption) (by assumption) rfl ?_ | refine Q8 (by assumption) ?_);(try simp only[↓M1,M1,Mb,reduceIte])))
  refine B5 (fun y=>decide (f y=f xs[n])) i.sat W (fun y ys Y K hy R Q C hK=>?_) fun Y U=>?_
  ·refine Z7 (Hz ?_)
   unfold Zz
   refine E5 R fun b w5 H c V=>?_
   have A:=(ha.up i).up c
   have N:=hq.up c
   have s:σ.Le H:=fun b o e=>c.le b o (i.le b o (u.le b o e))
   refine Ds (Below.refl _ _) ?_
   refine X4 (.func fn E l) (fun w j=>X7 (c.sat.below j) A rfl (X6 rfl)) ?_
   refine X4 (.agg ys.toArray) (fun w j=>Y4 (c.sat.below j) V C (X6 rfl)) ?_
   refine X4 (S (f y)) (fun t t' w j e e'=>by rw[e,e'];exact X H y ys w _ s (c.sat.below j) (Rep.up c.le Q) C fun w' J=>Q2Z J rfl) ?_
   refine X4 (.func fn E l) (fun w j=>X7 (c.sat.below j) A rfl (X6 rfl)) ?_
   refine X4 (.agg cs.toArray) (fun w j=>Y4 (c.sat.below j) N g (X6 rfl)) ?_
   rintro _ _ _ _ _ w6 B rfl rfl rfl rfl rfl
   refine X H xs[n] cs w6 _ s (c.sat.below B) (Rep.up (fun b o e=>c.le b o (i.le b o e)) Z) g fun w7 L=>?_
   (try simp only[↓M1,M1,Mb,reduceIte])
   exact hK w7 (bt (bt c.bel B) L)
  ·have r:=bt j (bt i.bel U)
   simp only[List.drop_zero,Nat.sub_zero] at*
   refine Q7 (fun hh=>?_) (fun hh=>?_)
   ·rw[hh] at m
    have:=h Y (bt u.bel r)
    rw[m] at this;exact this
   ·rw[hh] at m
    ((try simp only[↓M1,M1,Mb,reduceIte]);repeat ((first | refine ld (by assumption) (by assumption) rfl ?_ | refine X7 (by assumption) (by assumption) rfl ?_ | refine Q8 (by assumption) ?_);(try simp only[↓M1,M1,Mb,reduceIte])))
    refine Y5 z.max k ⟨r,?_⟩
    rw[m,List.take_add_one,List.getElem?_eq_getElem k];rfl
 ·have k: ¬n<xs.length:=by simpa using O
  rw[List.drop_eq_nil_of_le (by omega)] at m
  have:=h w2 (bt u.bel j)
  rw[m] at this;exact this)
theorem Q2v {xs:List Fld} {v:Value} {fn:Fn} {E l:Array Value} (f:Fld→X0) (hs:X2 w σ) (z:Sl 3 R7 σ v xs)
 (X: ∀(σ1:Q5) x cs (w1:World) (K:Value→World→Prop),σ.Le σ1→X2 w1 σ1→R7 σ1 x cs→cs.length=3→(∀w',Below w1.heap.size w1 w'→K (S (f x)) w')→Z3 P (.func fn E l) [.agg cs.toArray] w1 K)
 (h: ∀w',Below w.heap.size w w'→K (.bool (C3 f [] xs)) w'):Q1 P F.aE [v, .func fn E l] w K:=Fb (by
 unfold Vi
 refine E5 hs fun a w1 σ1 u ha=>?_
 simp only[Value.cells] at ha
 have M:=u.sat
 replace z:=z.up u
 ((try simp only[↓M1,M1,Mb,reduceIte]);repeat ((first | refine ld (by assumption) (by assumption) rfl ?_ | refine X7 (by assumption) (by assumption) rfl ?_ | refine Q8 (by assumption) ?_);(try simp only[↓M1,M1,Mb,reduceIte])))
 refine U1 xs.length (fun n w'=>Below w1.heap.size w1 w'∧C3 f [] xs=C3 f (xs.take n) (xs.drop n)) ⟨Below.refl _ _,rfl⟩ fun n w2 d hn hi=>?_
 obtain ⟨j,m⟩:=hi
 have D:=M.below j
 ((try simp only[↓M1,M1,Mb,reduceIte]);repeat ((first | refine ld (by assumption) (by assumption) rfl ?_ | refine X7 (by assumption) (by assumption) rfl ?_ | refine Q8 (by assumption) ?_);(try simp only[↓M1,M1,Mb,reduceIte])))
 refine Q7 (fun O=>?_) (fun O=>?_)
 ·have k:n<xs.length:=by simpa using O
  rw[List.drop_eq_getElem_cons k] at m
  simp only[C3] at m
  refine M7 z k fun p cs hl g Z=>?_
  refine Y4 D hl g ?_
  refine Y7 D (by rfl) g (Rep.one Z) fun q w3 σ3 i hq=>?_
  refine Es (z.up i) none (some (I n)) 0 n (.inl ⟨rfl,rfl⟩) (.inr rfl) (by omega) (by omega) fun v' W=>?_
  ((try simp only[↓M1,M1,Mb,reduceIte]);repeat ((first | refine ld (by assumption) (by assumption) rfl ?_ | refine X7 (by assumption) (by assumption) rfl ?_ | refine Q8 (by assumption) ?_);(try simp only[↓M1,M1,Mb,reduceIte])))
  refine Jh (fun y=>decide (f y=f xs[n])) i.sat W (fun y ys Y K hy R Q C hK=>?_) fun Y U=>?_
  ·refine Z7 (Su ?_)
   unfold Ug
   refine E5 R fun b w5 H c V=>?_
   have A:=(ha.up i).up c
   have N:=hq.up c
   have s:σ.Le H:=fun b o e=>c.le b o (i.le b o (u.le b o e))
   refine Ds (Below.refl _ _) ?_
   refine X4 (.func fn E l) (fun w j=>X7 (c.sat.below j) A rfl (X6 rfl)) ?_
   refine X4 (.agg ys.toArray) (fun w j=>Y4 (c.sat.below j) V C (X6 rfl)) ?_
   refine X4 (S (f y)) (fun t t' w j e e'=>by rw[e,e'];exact X H y ys w _ s (c.sat.below j) (Rep.up c.le Q) C fun w' J=>Q2Z J rfl) ?_
   refine X4 (.func fn E l) (fun w j=>X7 (c.sat.below j) A rfl (X6 rfl)) ?_
   refine X4 (.agg cs.toArray) (fun w j=>Y4 (c.sat.below j) N g (X6 rfl)) ?_
   rintro _ _ _ _ _ w6 B rfl rfl rfl rfl rfl
   refine X H xs[n] cs w6 _ s (c.sat.below B) (Rep.up (fun b o e=>c.le b o (i.le b o e)) Z) g fun w7 L=>?_
   (try simp only[↓M1,M1,Mb,reduceIte])
   exact hK w7 (bt (bt c.bel B) L)
  ·have r:=bt j (bt i.bel U)
   simp only[List.drop_zero,Nat.sub_zero] at*
   refine Q7 (fun hh=>?_) (fun hh=>?_)
   ·rw[hh] at m
    have:=h Y (bt u.bel r)
    rw[m] at this;exact this
   ·rw[hh] at m
    ((try simp only[↓M1,M1,Mb,reduceIte]);repeat ((first | refine ld (by assumption) (by assumption) rfl ?_ | refine X7 (by assumption) (by assumption) rfl ?_ | refine Q8 (by assumption) ?_);(try simp only[↓M1,M1,Mb,reduceIte])))
    refine Y5 z.max k ⟨r,?_⟩
    rw[m,List.take_add_one,List.getElem?_eq_getElem k];rfl
 ·have k: ¬n<xs.length:=by simpa using O
  rw[List.drop_eq_nil_of_le (by omega)] at m
  have:=h w2 (bt u.bel j)
  rw[m] at this;exact this)
theorem Q4G {xs:List X0} {v:Value} {fn:Fn} {D k:Array Value} (f:X0→X0) (Y:X2 w σ) (u:Sl 1 U7 σ v xs)
 (R: ∀(σ1:Q5) x (w1:World) (K:Value→World→Prop),σ.Le σ1→X2 w1 σ1→x.length≤U0→(∀w',Below w1.heap.size w1 w'→K (S (f x)) w')→Z3 P (.func fn D k) [S x] w1 K)
 (h: ∀w',Below w.heap.size w w'→K (.bool (C3 f [] xs)) w'):Q1 P F.aW [v, .func fn D k] w K:=Ae (by
 unfold Dd
 refine E5 Y fun a w1 σ1 s V=>?_
 simp only[Value.cells] at V
 have J:=s.sat
 replace u:=u.up s
 ((try simp only[↓M1,M1,Mb,reduceIte]);repeat ((first | refine ld (by assumption) (by assumption) rfl ?_ | refine X7 (by assumption) (by assumption) rfl ?_ | refine Q8 (by assumption) ?_);(try simp only[↓M1,M1,Mb,reduceIte])))
 refine U1 xs.length (fun n w'=>Below w1.heap.size w1 w'∧C3 f [] xs=C3 f (xs.take n) (xs.drop n)) ⟨Below.refl _ _,rfl⟩ fun n w2 d hn Z=>?_
 obtain ⟨j,l⟩:=Z
 have C:=J.below j
 ((try simp only[↓M1,M1,Mb,reduceIte]);repeat ((first | refine ld (by assumption) (by assumption) rfl ?_ | refine X7 (by assumption) (by assumption) rfl ?_ | refine Q8 (by assumption) ?_);(try simp only[↓M1,M1,Mb,reduceIte])))
 refine Q7 (fun L=>?_) (fun L=>?_)
 ·have i:n<xs.length:=by simpa using L
  rw[List.drop_eq_getElem_cons i] at l
  simp only[C3] at l
  refine M7 u i fun p cs hl W hr=>?_
  obtain ⟨rfl,B⟩:=hr
  refine X7 C hl rfl ?_
  refine U6 C (by rfl) rfl rfl fun q w3 M c hq=>?_
  refine Es (u.up c) none (some (I n)) 0 n (.inl ⟨rfl,rfl⟩) (.inr rfl) (by omega) (by omega) fun v' Q=>?_
  ((try simp only[↓M1,M1,Mb,reduceIte]);repeat ((first | refine ld (by assumption) (by assumption) rfl ?_ | refine X7 (by assumption) (by assumption) rfl ?_ | refine Q8 (by assumption) ?_);(try simp only[↓M1,M1,Mb,reduceIte])))
  refine P0 (fun y=>decide (f y=f xs[n])) c.sat Q (fun y U K hy g N X=>?_) fun U O=>?_
  ·refine Z7 (Fl ?_)
   unfold Lk
   have z:=V.up c
   have r:σ.Le M:=fun b o e=>c.le b o (s.le b o e)
   refine Ds (Below.refl _ _) ?_
   refine X4 (.func fn D k) (fun w j=>X7 (g.below j) z rfl (X6 rfl)) ?_
   refine X4 (S (f y)) (fun t w j e=>by rw[e];exact R M y w _ r (g.below j) N fun w' E=>Q2Z E rfl) ?_
   refine X4 (.func fn D k) (fun w j=>X7 (g.below j) z rfl (X6 rfl)) ?_
   refine X4 (S xs[n]) (fun w j=>X7 (g.below j) hq rfl (X6 rfl)) ?_
   rintro _ _ _ _ w6 A rfl rfl rfl rfl
   refine R M xs[n] w6 _ r (g.below A) B fun w7 H=>?_
   (try simp only[↓M1,M1,Mb,reduceIte])
   exact X w7 (bt A H)
  ·have m:=bt j (bt c.bel O)
   simp only[List.drop_zero,Nat.sub_zero] at*
   refine Q7 (fun hh=>?_) (fun hh=>?_)
   ·rw[hh] at l
    have:=h U (bt s.bel m)
    rw[l] at this;exact this
   ·rw[hh] at l
    ((try simp only[↓M1,M1,Mb,reduceIte]);repeat ((first | refine ld (by assumption) (by assumption) rfl ?_ | refine X7 (by assumption) (by assumption) rfl ?_ | refine Q8 (by assumption) ?_);(try simp only[↓M1,M1,Mb,reduceIte])))
    refine Y5 u.max i ⟨m,?_⟩
    rw[l,List.take_add_one,List.getElem?_eq_getElem i];rfl
 ·have i: ¬n<xs.length:=by simpa using L
  rw[List.drop_eq_nil_of_le (by omega)] at l
  have:=h w2 (bt s.bel j)
  rw[l] at this;exact this)
theorem Q6O {P:Program} {w:World} (d:Nat) (t e:TypeId) (a:Option Addr) (n c:Nat) (h:P.underlying t=some (.slice e)):
 (Op.equalIn (d+1) t (.slice a n c) (.slice none 0 0)).run P w= .ok a.isNone w:=by
 cases a<;>simp[Op.equalIn,run_underlying h]
theorem Q1u {t e:TypeId} {g i:Operand} [ts:TS P t e] {a:Option Addr} {n c:Nat} {b:Bool} (d:a.isNone=b) (f:K (.bool b) w):Q3 P .eql t g i (.slice a n c) (.slice none 0 0) w K:=by
 have j:(Op.equal t (.slice a n c) (.slice none 0 0)).run P w= .ok b w:=by
  have:=Q6O (P:=P) (w:=w) 9999 t e a n c ts.h
  rw[d] at this
  exact this
 unfold Q3
 rw[X9 (v:= .bool b) (w':=w) (by simp[eqGuard,Go.binOp,j])]
 exact f
theorem Ln {xs:List X0} {v:Value} (e:X2 w σ) (f:Sl 1 U7 σ v xs) (C:xs.length≤1000000)
 (h: ∀i w' b,Stp w σ w' b→Sl 1 U7 b i xs→K i w'):Q1 P F.a8 [v] w K:=Mg (by
 unfold Qk
 have d:=f
 obtain ⟨a,l,rfl,B,s,m,y⟩:=f
 refine Q1u rfl ?_
 refine Q7 (fun g=>?_) (fun g=>?_)
 ·have:a=none:=by simpa using g
  have A:=m this
  have j:xs=[]:=List.eq_nil_of_length_eq_zero (by omega)
  subst j
  exact h _ w σ (Stp.refl e) Sl.nil
 ·refine Yx (R:=U7) (sz:=1) (Stp.refl e) [] [] rfl rfl (by simp) (by rfl) trivial fun u w1 k o _=>?_
  refine app k o d (by rfl) (by simp only[List.length_nil];omega) (by simp only[List.length_nil];omega) fun z n t p c _=>?_
  obtain ⟨b,r,q,_⟩:=c.keep p
  exact h _ n b r q)
theorem Ha {xs:List Fld} {v:Value} (e:X2 w σ) (f:Sl 3 R7 σ v xs) (C:xs.length≤1000000)
 (h: ∀i w' b,Stp w σ w' b→Sl 3 R7 b i xs→K i w'):Q1 P F.ac [v] w K:=Jg (by
 unfold K2
 have d:=f
 obtain ⟨a,l,rfl,B,s,m,y⟩:=f
 refine Q1u rfl ?_
 refine Q7 (fun g=>?_) (fun g=>?_)
 ·have:a=none:=by simpa using g
  have A:=m this
  have j:xs=[]:=List.eq_nil_of_length_eq_zero (by omega)
  subst j
  exact h _ w σ (Stp.refl e) Sl.nil
 ·refine Yx (R:=R7) (sz:=3) (Stp.refl e) [] [] rfl rfl (by simp) (by rfl) trivial fun u w1 k o _=>?_
  refine app k o d (by rfl) (by simp only[List.length_nil];omega) (by simp only[List.length_nil];omega) fun z n t p c _=>?_
  obtain ⟨b,r,q,_⟩:=c.keep p
  exact h _ n b r q)
theorem Ef {xs:List Ins} {v:Value} (e:X2 w σ) (f:Sl 3 Qp σ v xs) (C:xs.length≤1000000)
 (h: ∀i w' b,Stp w σ w' b→Sl 3 Qp b i xs→K i w'):Q1 P F.ad [v] w K:=Js (by
 unfold K6
 have d:=f
 obtain ⟨a,l,rfl,B,s,m,y⟩:=f
 refine Q1u rfl ?_
 refine Q7 (fun g=>?_) (fun g=>?_)
 ·have:a=none:=by simpa using g
  have A:=m this
  have j:xs=[]:=List.eq_nil_of_length_eq_zero (by omega)
  subst j
  exact h _ w σ (Stp.refl e) Sl.nil
 ·refine Yx (R:=Qp) (sz:=3) (Stp.refl e) [] [] rfl rfl (by simp) (by rfl) trivial fun u w1 k o _=>?_
  refine app k o d (by rfl) (by simp only[List.length_nil];omega) (by simp only[List.length_nil];omega) fun z n t p c _=>?_
  obtain ⟨b,r,q,_⟩:=c.keep p
  exact h _ n b r q)
theorem Dw {xs:List Cat} {v:Value} (e:X2 w σ) (f:Sl 4 Jw σ v xs) (C:xs.length≤1000000)
 (h: ∀i w' b,Stp w σ w' b→Sl 4 Jw b i xs→K i w'):Q1 P F.ae [v] w K:=Jx (by
 unfold K3
 have d:=f
 obtain ⟨a,l,rfl,B,s,m,y⟩:=f
 refine Q1u rfl ?_
 refine Q7 (fun g=>?_) (fun g=>?_)
 ·have:a=none:=by simpa using g
  have A:=m this
  have j:xs=[]:=List.eq_nil_of_length_eq_zero (by omega)
  subst j
  exact h _ w σ (Stp.refl e) Sl.nil
 ·refine Yx (R:=Jw) (sz:=4) (Stp.refl e) [] [] rfl rfl (by simp) (by rfl) trivial fun u w1 k o _=>?_
  refine app k o d (by rfl) (by simp only[List.length_nil];omega) (by simp only[List.length_nil];omega) fun z n t p c _=>?_
  obtain ⟨b,r,q,_⟩:=c.keep p
  exact h _ n b r q)
end Go.Proofs.YtjdiakhipmggjaaGreatDoor

namespace Go.Hm
open Go.Kd
structure Opr where
  name : X0
  number : Bool
  text : Bool
deriving DecidableEq
def Ub:List Opr:=[
 ⟨[105,110,116],true,false⟩,
 ⟨[116,114,117,101],false,false⟩,
 ⟨[102,97,108,115,101],false,false⟩,
 ⟨[119,111,114,100],false,true⟩,
 ⟨[110,117,108,108],false,false⟩,
 ⟨[108,111,97,100],true,false⟩,
 ⟨[115,116,111,114,101],true,false⟩,
 ⟨[112,111,112],false,false⟩,
 ⟨[100,117,112],false,false⟩,
 ⟨[115,119,97,112],false,false⟩,
 ⟨[97,100,100],false,false⟩,
 ⟨[115,117,98],false,false⟩,
 ⟨[109,117,108],false,false⟩,
 ⟨[100,105,118],false,false⟩,
 ⟨[114,101,109],false,false⟩,
 ⟨[110,101,103],false,false⟩,
 ⟨[108,101,115,115],false,false⟩,
 ⟨[115,97,109,101],false,false⟩,
 ⟨[110,111,116],false,false⟩,
 ⟨[98,111,116,104],false,false⟩,
 ⟨[106,111,105,110],false,false⟩,
 ⟨[115,105,122,101],false,false⟩,
 ⟨[106,117,109,112],true,false⟩,
 ⟨[98,114,97,110,99,104],true,false⟩,
 ⟨[110,101,119],false,true⟩,
 ⟨[103,101,116],false,true⟩,
 ⟨[112,117,116],false,true⟩,
 ⟨[99,97,108,108],false,true⟩,
 ⟨[97,114,114,97,121],false,true⟩,
 ⟨[97,116],false,false⟩,
 ⟨[115,101,116],false,false⟩,
 ⟨[105,115],false,true⟩,
 ⟨[99,97,115,116],false,true⟩,
 ⟨[114,101,116,117,114,110],false,false⟩,
 ⟨[116,104,114,111,119],false,false⟩,
 ⟨[111,117,116],false,false⟩,
 ⟨[101,113,117,97,108],false,false⟩,
 ⟨[97,110,100],false,false⟩,
 ⟨[111,114],false,false⟩,
 ⟨[120,111,114],false,false⟩,
 ⟨[115,104,108],false,false⟩,
 ⟨[115,104,114],false,false⟩]
end Go.Hm
namespace Go.Emb
open Go.Hm
def ROp (_:Q5) (o:Opr) (cs:List Value):Prop:=cs=[S o.name, .bool o.number, .bool o.text]
def cOp (o:Opr):List Value:=[S o.name, .bool o.number, .bool o.text]
instance:Rep ROp:=⟨fun _ h=>h,fun h u hu=>by rw[h] at hu;simp at hu;rcases hu with rfl | rfl | rfl<;>rfl⟩
end Go.Emb
namespace Go.Proofs.YtjdiakhipmggjaaGreatDoor
open Go.Emb Go.RowKit Go.Kd Go.Hm
variable {w : World} {K : Value → World → Prop} {σ : Q5}
theorem Q63 {a:X0} (l:a.length≤U0) (h: ∀w',Below w.heap.size w w'→K (.bool (D7 a)) w'):Q1 P F.bT [S a] w K:=Q3M (by
 unfold Fp
 have b:a.length≤140737488355328:=by simp only[U0] at l;omega
 refine Q6i a b fun w1 g=>?_
 cases d:name a
 ·(try simp only[↓M1,M1,Mb,reduceIte])
  have:=h w1 g
  rwa [show D7 a=false by cases a with | nil=>rfl | cons c r=>simp[D7,d]] at this
 ·(try simp only[↓M1,M1,Mb,reduceIte])
  refine Rh a b fun j k=>?_
  (try simp only[↓M1,M1,Mb,reduceIte])
  have:=h j (bt g k)
  rwa [show D7 a= !M6 a by
   cases a with
   | nil=>simp[name] at d
   | cons c r=>
    obtain ⟨i,m⟩:=Pr d
    simp only[M6,D7,d,Bool.true_and]
    simp only[S3,m,Bool.or_false] at i
    cases e:Xh c.toNat<;>cases f:A7 c.toNat
    ·simp[e,f] at i
    ·rfl
    ·rfl
    ·exfalso
     simp only[Xh,A7,Bool.and_eq_true,decide_eq_true_eq] at e f
     omega] at this)
theorem X2l {t e:TypeId} {n sz b:Nat} {z:Value} [ta:TA P t n e] [tz:TZ P e sz b z] {a:Addr} (c:K (.slice (some a) n n) w):R6 P t (.pointer (some a)) none none none w K:=by
 unfold R6
 have:(Instr.sliceAt t (.pointer (some a)) none none none).run P w= .ok (.slice (some (if n=0 then a else a.add (0*sz))) (n-0) (n-0)) w:=by
  simp[Instr.sliceAt,run_underlying ta.h,Instr.sureAddr,Instr.sliceBounds,L3 tz]
 rw[X9 this]
 have d:(if n=0 then a else a.add (0*sz))=a:=by
  by_cases h:n=0
  ·rw[if_pos h]
  ·rw[if_neg h,Nat.zero_mul,add_zero]
 rw[d];exact c
def Q2G (σ:Q5):Prop:=Z4 σ ⟨G.a,0,none⟩ (Ub.flatMap cOp)
theorem Q7a (i:Nat) (o:Opr) (h:Ub[i]? =some o):((Ub.flatMap cOp).drop (i*3)).take 3=cOp o:=by
 have c:i<42:=(List.getElem?_eq_some_iff.1 h).1
 have key: ∀l:List Opr,∀i o,l[i]? =some o→((l.flatMap cOp).drop (i*3)).take 3=cOp o:=by
  intro l
  induction l with
  | nil=>intro i o h;simp at h
  | cons a r b=>
   intro i o h
   cases i with
   | zero=>simp at h;subst h;rfl
   | succ i=>
    have:=b i o (by simpa using h)
    rw[List.flatMap_cons,show (i+1)*3=(cOp a).length+i*3 by simp[cOp];omega,List.drop_append]
    simpa [List.drop_eq_nil_of_le] using this
 exact key _ i o h
theorem Q3f {σ:Q5} {a:Addr} {cs:List Value} (h:Z4 σ a cs) (i n:Nat):Z4 σ (a.add i) ((cs.drop i).take n):=by
 obtain ⟨g,arr,e,d,f,c⟩:=h
 refine ⟨I6 g _,arr,e,d,by rw[S4];exact f,fun j v b=>?_⟩
 rw[List.getElem?_take] at b
 split at b
 ·rw[List.getElem?_drop] at b
  rw[A9,Nat.add_assoc];exact c _ _ b
 ·cases b
theorem X2H (h:Q2G σ):Sl 3 ROp σ (.slice (some ⟨G.a,0,none⟩) 42 42) Ub:=by
 refine ⟨_,42,rfl,by decide,by decide,by simp,?_⟩
 rintro _ ⟨⟩
 refine ⟨fun _=>rfl,fun i x a=>⟨cOp x,?_,rfl,rfl⟩⟩
 rw[←Q7a i x a]
 exact Q3f h (i*3) 3
theorem Ai {β:Type} {xs:List Opr} {v f:Value} (a:β→Opr→Bool×β) (i:β) (b:β→World→Prop) (D:Nat→Prop) (j: ∀s w,b s w→X2 w σ) (A:b i w) (u:Sl 3 ROp σ v xs)
 (y: ∀s x cs (w1:World) (K:Value→World→Prop),x∈xs→Kpt D w w1→b s w1→ROp σ x cs→cs.length=3→(∀w',Kpt D w w'→b (a s x).2 w'→K (.bool (a s x).1) w')→Z3 P f [.agg cs.toArray] w1 K)
 (h: ∀w',Kpt D w w'→b (J3 a i xs 0).2 w'→K (I (L5 (J3 a i xs 0).1)) w'):Q1 P F.t [v,f] w K:=Ul (by
 unfold K4
 ((try simp only[↓M1,M1,Mb,reduceIte]);repeat ((first | refine ld (by assumption) (by assumption) rfl ?_ | refine X7 (by assumption) (by assumption) rfl ?_ | refine Q8 (by assumption) ?_);(try simp only[↓M1,M1,Mb,reduceIte])))
 refine U1 xs.length (fun n w'=>Kpt D w w'∧ ∃s,b s w'∧J3 a i xs 0=J3 a s (xs.drop n) n) ⟨Kpt.refl,i,A,rfl⟩ fun n w1 d E k=>?_
 obtain ⟨t,s,k,e⟩:=k
 have o:=j s w1 k
 ((try simp only[↓M1,M1,Mb,reduceIte]);repeat ((first | refine ld (by assumption) (by assumption) rfl ?_ | refine X7 (by assumption) (by assumption) rfl ?_ | refine Q8 (by assumption) ?_);(try simp only[↓M1,M1,Mb,reduceIte])))
 refine Q7 (fun q=>?_) (fun q=>?_)
 ·have c:n<xs.length:=by simpa using q
  refine M7 u c fun p cs C g z=>?_
  refine Y4 o C g ?_
  refine y s xs[n] cs w1 _ (List.getElem_mem c) t k z g fun B m l=>?_
  rw[List.drop_eq_getElem_cons c] at e
  simp only[J3] at e
  refine Q7 (fun r=>?_) (fun r=>?_)
  ·rw[r] at e
   have:=h B m
   rw[e] at this
   exact this l
  ·rw[r] at e
   ((try simp only[↓M1,M1,Mb,reduceIte]);repeat ((first | refine ld (by assumption) (by assumption) rfl ?_ | refine X7 (by assumption) (by assumption) rfl ?_ | refine Q8 (by assumption) ?_);(try simp only[↓M1,M1,Mb,reduceIte])))
   exact Y5 u.max c ⟨m,_,l,by simpa using e⟩
 ·have c: ¬n<xs.length:=by simpa using q
  rw[List.drop_eq_nil_of_le (by omega)] at e
  have:=h w1 t
  rw[e] at this
  exact this k)
theorem Tw {xs:List Opr} {v f:Value} (p:Opr→Bool) (hs:X2 w σ) (hv:Sl 3 ROp σ v xs)
 (hf: ∀x cs (w1:World) (K:Value→World→Prop),x∈xs→X2 w1 σ→ROp σ x cs→cs.length=3→(∀w',Below w1.heap.size w1 w'→K (.bool (p x)) w')→Z3 P f [.agg cs.toArray] w1 K)
 (h: ∀w',Below w.heap.size w w'→K (I (L5 (xs.findIdx? p))) w'):Q1 P F.t [v,f] w K:=by
 refine Ai (fun (_:Unit) x=>(p x,())) () (fun _ w'=>Below w.heap.size w w') (fun _=>False) (fun _ w' hb=>hs.below hb) (Below.refl _ _) hv (fun s x cs w1 K hx hk hi hr hl hK=>hf x cs w1 K hx (hs.below hi) hr hl fun w' hb=>hK w' (.of_below (bt hi hb)) (bt hi hb)) fun w' hk hi=>?_
 rw[K5]
 simpa using h w' hi
theorem Q2G.le {σ a:Q5} (h:Q2G σ) (c: ∀b o,σ b=some o→a b=some o):Q2G a:=Z4.le h c
def Qm (n:X0):Option Nat:=Ub.findIdx? fun o=>decide (o.name=n)
theorem X2z {a:X0} (k:X2 w σ) (j:Q2G σ) (h: ∀w',Below w.heap.size w w'→K (I (L5 (Qm a))) w'):Q1 P F.cM [S a] w K:=Q6C (by
 unfold Q27
 refine E5 k fun p w1 σ1 c g=>?_
 simp only[Value.cells] at g
 refine X2l ?_
 ((try simp only[↓M1,M1,Mb,reduceIte]);repeat ((first | refine ld (by assumption) (by assumption) rfl ?_ | refine X7 (by assumption) (by assumption) rfl ?_ | refine Q8 (by assumption) ?_);(try simp only[↓M1,M1,Mb,reduceIte])))
 refine Tw (fun o=>decide (o.name=a)) c.sat (X2H (j.le c.le)) (fun x cs f K u d l y i=>?_) fun f s=>?_
 ·refine Z7 (Q4I ?_)
  unfold Tf
  refine E5 d fun q t v b r=>?_
  have e:cs=[S x.name, .bool x.number, .bool x.text]:=l
  subst e
  have m:=b.sat
  have n:=g.up b
  simp only[Value.cells] at r
  ((try simp only[↓M1,M1,Mb,reduceIte]);repeat ((first | refine ld (by assumption) (by assumption) rfl ?_ | refine X7 (by assumption) (by assumption) rfl ?_ | refine Q8 (by assumption) ?_);(try simp only[↓M1,M1,Mb,reduceIte])))
  exact i t b.bel
 ·(try simp only[↓M1,M1,Mb,reduceIte])
  exact h f (bt c.bel s))
def takes (n:X0):Bool×Bool×Bool:=match Qm n with
 | none=>(false,false,false)
 | some i=>((Ub.getD i ⟨[],false,false⟩).number,(Ub.getD i ⟨[],false,false⟩).text,true)
theorem X2n {a:X0} (l:X2 w σ) (k:Q2G σ) (h: ∀w',Below w.heap.size w w'→K (.tuple #[.bool (takes a).1, .bool (takes a).2.1, .bool (takes a).2.2]) w'):Q1 P F.cm [S a] w K:=Q5m (by
 unfold Q09
 refine X2z l k fun w1 b=>?_
 have c:=l.below b
 unfold takes at h
 cases d:Qm a with
 | none=>
  rw[d] at h
  simp only[L5]
  (try simp only[↓M1,M1,Mb,reduceIte])
  simp only[show decide ((-1:Int)<0)=true from rfl,↓M1,M1,Mb,reduceIte]
  exact h w1 b
 | some i=>
  rw[d] at h
  simp only at h
  have m:i<42:=(List.findIdx?_eq_some_iff_getElem.1 d).1
  have j:Ub[i]? =some (Ub.getD i ⟨[],false,false⟩):=by
   rw[List.getD,List.getElem?_eq_getElem (by exact m)];rfl
  generalize Ub.getD i ⟨[],false,false⟩=o at h j
  have g:=Q3f k (i*3) 3
  rw[Q7a i o j] at g
  simp only[L5]
  have n:decide ((i:Int)<0)=false:=by simp
  simp only[n,↓M1,M1,Mb,reduceIte]
  have A: ∀{w:World} {K:Value→World→Prop},K (.pointer (some ((⟨G.a,0,none⟩:Addr).add (i*3)))) w→indexAddr P T.af (.pointer (some ⟨G.a,0,none⟩)) (I i) w K:=by
   intro w K h
   rw[Q90 (by omega) (by omega)]
   simpa using h
  refine Ds (Below.refl _ _) ?_
  refine X4 (.pointer (some ((⟨G.a,0,none⟩:Addr).add (i*3)))) (fun w b=>A (X6 rfl)) ?_
  refine X4 (.pointer (some (((⟨G.a,0,none⟩:Addr).add (i*3)).add 1))) (fun t w b e=>by rw[e,fa];exact X6 rfl) ?_
  refine X4 (.pointer (some ((⟨G.a,0,none⟩:Addr).add (i*3)))) (fun w b=>A (X6 rfl)) ?_
  refine X4 (.pointer (some (((⟨G.a,0,none⟩:Addr).add (i*3)).add 2))) (fun t w b e=>by rw[e,fa];exact X6 rfl) ?_
  refine X4 (.bool o.number) (fun t w b e=>by rw[e];exact ld (c.below b) g rfl (X6 rfl)) ?_
  refine X4 (.bool o.text) (fun t w b e=>by rw[e];exact ld (c.below b) g rfl (X6 rfl)) ?_
  rintro _ _ _ _ _ _ p f rfl rfl rfl rfl rfl rfl
  exact h p (bt b f))
end Go.Proofs.YtjdiakhipmggjaaGreatDoor

namespace Go.Emb
open Go.RowKit Go.Hm
variable {P : Program} {w w0 w1 w' w'' : World} {K : Value → World → Prop} {σ σ0 σ1 σ' : Q5}
structure SLe (σ σ' : Q5) : Prop where
  le : ∀ b o, σ b = some o → σ' b = some o
theorem SLe.refl (σ:Q5):SLe σ σ:=⟨fun _ _ h=>h⟩
theorem SLe.step {w w':World} (h:SLe σ0 σ) (k:Stp w σ w' σ'):SLe σ0 σ':=⟨fun b o e=>k.le b o (h.le b o e)⟩
theorem SLe.more (h:SLe σ0 σ) (k:SLe σ σ'):SLe σ0 σ':=⟨fun b o e=>k.le b o (h.le b o e)⟩
structure Hst (w : World) (σ : Q5) (w' : World) (σ' : Q5) : Prop where
  stp : Stp w σ w' σ'
theorem Hst.sat (h:Hst w σ w' σ'):X2 w' σ':=h.stp.sat
section lifts
variable {α : Type} {R : Q5 → α → List Value → Prop} {sz : Nat} {v : Value} {xs : List α} {a : Addr} {cs : List Value}
theorem Sl.lift [Rep R] (h:Sl sz R σ0 v xs) (k:SLe σ0 σ):Sl sz R σ v xs:=h.le k.le
theorem Z4.lift (h:Z4 σ0 a cs) (k:SLe σ0 σ):Z4 σ a cs:=h.le k.le
theorem Xf.lift {r:Nat} {m:List (List UInt8×Value)} (h:Xf σ0 r m) (k:SLe σ0 σ):Xf σ r m:=h.le k.le
theorem RMe_lift {x:Hm.Met} (h:E7 σ0 x cs) (k:SLe σ0 σ):E7 σ x cs:=Rep.up k.le h
theorem RCl_lift {x:Cla} (h:V0 σ0 x cs) (k:SLe σ0 σ):V0 σ x cs:=Rep.up k.le h
theorem RFd_any {x:Fld} (h:R7 σ0 x cs):R7 σ x cs:=h
theorem RIn_any {x:Ins} (h:Qp σ0 x cs):Qp σ x cs:=h
theorem RCa_any {x:Cat} (h:Jw σ0 x cs):Jw σ x cs:=h
theorem Y1.step {b:Nat} (h:Y1 σ w b cs) (k:Stp w σ w' σ'):Y1 σ' w' b cs:=h.up k
theorem V5.step [Rep R] {B:Nat} {e:TypeId} (h:V5 B e sz R σ w v xs) (k:Stp w σ w' σ'):V5 B e sz R σ' w' v xs:=h.up k
end lifts
theorem W9 {Q:World→Prop} (d:X2 w σ) (h: ∀w' σ',Stp w σ w' σ'→Q w'): ∀w',Below w.heap.size w w'→Q w':=fun w' c=>h w' σ (Stp.of_below d c)
section plain
variable {k : IntKind} {t : TypeId} {ox oy : Operand} {a b : Int} {x y : Bool} {s u : List UInt8}
theorem N1 (h:K (.int k (k.wrap (a+b))) w):Q3 P .add t ox oy (.int k a) (.int k b) w K:=by rw[Gi];exact h
theorem Xo (c: -9223372036854775808≤a+b∧a+b≤9223372036854775807) (h:K (I (a+b)) w):Q3 P .add t ox oy (I a) (I b) w K:=by rw[Gi,G3 c.1 c.2];exact h
theorem Zi (c: -9223372036854775808≤a-b∧a-b≤9223372036854775807) (h:K (I (a-b)) w):Q3 P .sub t ox oy (I a) (I b) w K:=by rw[Q40,G3 c.1 c.2];exact h
theorem Z0 (h:K (.bool (decide (a<b))) w):Q3 P .lss t ox oy (.int k a) (.int k b) w K:=by rw[Q3Y];exact h
theorem Q4Z (h:K (.bool (decide (a≤b))) w):Q3 P .leq t ox oy (.int k a) (.int k b) w K:=by rw[Q3H];exact h
theorem Q1s (h:K (.bool (decide (b<a))) w):Q3 P .gtr t ox oy (.int k a) (.int k b) w K:=by rw[Rj];exact h
theorem K8 (h:K (.bool (decide (b≤a))) w):Q3 P .geq t ox oy (.int k a) (.int k b) w K:=by rw[Q1q];exact h
theorem P2 (h:K (.bool (decide (a=b))) w):Q3 P .eql t ox oy (.int k a) (.int k b) w K:=by rw[Q1x];exact h
theorem Jb (h:K (.bool (!decide (a=b))) w):Q3 P .neq t ox oy (.int k a) (.int k b) w K:=by rw[Q3Z];exact h
theorem Wa (h:K (.bool (!x)) w):J6 P .not (.bool x) w K:=by rw[Q3O];exact h
theorem K0 (h:K (.bool (decide (s=u))) w):Q3 P .eql t ox oy (S s) (S u) w K:=by rw[Bx];exact h
theorem Vz (h:K (.bool (!decide (s=u))) w):Q3 P .neq t ox oy (S s) (S u) w K:=by rw[By];exact h
theorem Rc (c:s.length+u.length≤9223372036854775807) (h:K (S (s++u)) w):Q3 P .add t ox oy (S s) (S u) w K:=by rw[Q2m c];exact h
theorem Fh {cs:List Bool} {r:TypeId} (c:P.underlying t=some .string) (h:K (I s.length) w):X3 P .len [t] r cs [S s] w K:=by rw[R3 c];exact h
theorem X1z {v u:Value} (h:K v w):pick P (.bool true) v u w K:=by rw[M4];exact h
theorem X1M {v u:Value} (h:K u w):pick P (.bool false) v u w K:=by rw[L1];exact h
theorem M9 {v u:Value} (h:K (if x=true then v else u) w):pick P (.bool x) v u w K:=by rw[Ej];exact h
theorem J7 {vs:List Value} {i:Nat} {v:Value} (c:vs[i]? =some v) (h:K v w):ext P (.tuple vs.toArray) i w K:=by rw[Jm c];exact h
theorem J4 {t e:Prop} (h:t):X1 (.bool true) t e:=by rw[H5];exact h
theorem Z6 {t e:Prop} (h:e):X1 (.bool false) t e:=by rw[M3];exact h
theorem X38 {c:World→(Value→World→Prop)→Prop} (h:c w K):Q0 (.bool true) true w c K:=by rw[W5];exact h
theorem X2Y {c:World→(Value→World→Prop)→Prop} (h:c w K):Q0 (.bool false) false w c K:=by rw[W7];exact h
theorem X1O {c:World→(Value→World→Prop)→Prop} (h:K undef w):Q0 (.bool true) false w c K:=by rw[S1];exact h
theorem X1v {c:World→(Value→World→Prop)→Prop} (h:K undef w):Q0 (.bool false) true w c K:=by rw[E1];exact h
end plain
section mem
variable {α : Type} {R : Q5 → α → List Value → Prop} {sz : Nat} {v : Value} {xs : List α} {a : Addr} {cs : List Value}
theorem Y9 {t:TypeId} (d:X2 w σ) (h: ∀a w' σ',Stp w σ w' σ'→Z4 σ' a cs→K (.pointer (some a)) w'):box P t (.agg cs.toArray) w K:=
 E5 d fun a w' σ' c f=>h a w' σ' c (by simpa [Value.cells] using f)
theorem U5 {t:TypeId} (g:X2 w σ) (d:v.cells= #[v]) (h: ∀a w' σ',Stp w σ w' σ'→Z4 σ' a [v]→K (.pointer (some a)) w'):box P t v w K:=
 E5 g fun a w' σ' f c=>h a w' σ' f (by rw[d] at c;exact c)
theorem Wn (h:Sl sz R σ v xs):v.cells= #[v]:=by
 obtain ⟨a,c,rfl,_⟩:=h;rfl
theorem W2 {t:TypeId} {k c:Nat} {d:TypeId} {sz by_:Nat} {z:Value} [tf:TF P t k c d] [tz:TZ P d sz by_ z] [nz:NZ sz] (h:K (.pointer (some (a.add c))) w):fieldAddr P t (.pointer (some a)) k w K:=by
 rw[fa];exact h
theorem J0 {t:TypeId} {k c:Nat} {d:TypeId} [tf:TF P t k c d] [tg:TG P d false] {cs:List Value} {v:Value} (f:cs[c]? =some v) (h:K v w):F2 P t (.agg cs.toArray) k w K:=by
 rw[X1S (v:=v) (by simpa using f)];exact h
end mem
theorem U2 {A:(World→World→Prop)→(World→Prop)→Prop} (d:X2 w σ) (h:A (fun w w'=>Below w.heap.size w w') (fun w'=>Hst w σ w' σ)):dr w A:=
 Kf _ _ ⟨Stp.of_below d (Below.refl _ _).drew⟩ (fun _ _ c f=>⟨c.stp.trans (Stp.of_below c.sat f)⟩) h
theorem N2 {α:Type} {R:Q5→α→List Value→Prop} {sz:Nat} {v:Value} {xs:List α} {t:TypeId} (d:X2 w σ) (c:Sl sz R σ v xs) (h: ∀a w' σ',Stp w σ w' σ'→Z4 σ' a [v]→K (.pointer (some a)) w'):box P t v w K:=
 U5 d (Wn c) h
section elems
variable {v : Value} {t e : TypeId} {by_ : Nat} {z : Value} {n : Nat}
theorem Q5d {xs:List Kd.X0} [TS P t e] [TZ P e 1 by_ z] (h:Sl 1 U7 σ v xs) (g:n<xs.length) (d: ∀a,Z4 σ a [S xs[n]]→xs[n].length≤U0→K (.pointer (some a)) w):indexAddr P t v (I n) w K:=
 M7 h g fun a cs i j c=>by obtain ⟨rfl,f⟩:=c;exact d a i f
theorem Q8L {xs:List Fld} [TS P t e] [TZ P e 3 by_ z] (h:Sl 3 R7 σ v xs) (g:n<xs.length) (d: ∀a,Z4 σ a [S xs[n].name,S xs[n].kind, .bool xs[n].tr]→R7 σ xs[n] [S xs[n].name,S xs[n].kind, .bool xs[n].tr]→K (.pointer (some a)) w):indexAddr P t v (I n) w K:=
 M7 h g fun a cs i j c=>by obtain ⟨rfl,f⟩:=c;exact d a i ⟨rfl,f⟩
end elems
end Go.Emb

namespace Go.Hm
open Go.Kd
abbrev Wr:=X0→Option Cla
def Z2 (l:List Cla) (n:X0):Option Nat:=l.findIdx? fun c=>decide (c.name=n)
def lk (l:List Cla):Wr:=fun n=>(Z2 l n).bind (l[·]?)
def U3 (c:Cla):List X0:=c.super::c.like
def J9:X0:=[79,98,106,101,99,116]
def L6:X0:=[70,97,117,108,116]
def H8:X0:=[110,117,108,108]
def D0:X0:=[116,101,120,116]
def Qe:X0:=[119,104,97,116]
def U4:List X0:=[[78,117,108,108,70,97,117,108,116],[73,110,100,101,120,70,97,117,108,116],[67,97,115,116,70,97,117,108,116],[90,101,114,111,70,97,117,108,116],[82,111,111,109,70,97,117,108,116],[67,97,108,108,70,97,117,108,116]]
def G5:List Cla:=[⟨J9,[],[],false,false,false,[],[]⟩,⟨L6,J9,[],false,false,false,[⟨Qe,D0,false⟩],[]⟩]++U4.map fun n=>⟨n,L6,[],false,false,true,[],[]⟩
def Uu (L:Wr):Nat→List X0→List X0→List X0
 | 0,_,a=>a
 | _,[],a=>a
 | f+1,n::b,a=>match L n with
  | none=>Uu L f b a
  | some c=>if n∈a then Uu L f b a else Uu L f (b++U3 c) (a++[n])
def weigh (l:List Cla) (a:List X0):Nat:=(l.map fun c=>if c.name∈a then 0 else (U3 c).length).sum
def F7 (l:List Cla) (n:X0):List X0:=Uu (lk l) (1+weigh l []) [n] []
def Q0v (l:List Cla) (n:X0):Bool:=(Z2 l n).isSome
def N3 (l:List Cla) (s:X0):Bool:=decide (s=H8)||(right s&&(plain (base s).1||Q0v l (base s).1))
def Xx (l:List Cla) (a b:X0):Bool:=
 if !N3 l a|| !N3 l b then false else if a=b then true else if plain a||plain b then false else if a=H8 then true
 else if elem a≠[] then decide (b=J9) else (F7 l a).contains b
def G7 (L:Wr):Nat→X0→List Cla
 | 0,_=>[]
 | f+1,n=>match L n with
  | none=>[]
  | some c=>c::G7 L f c.super
def chain (l:List Cla) (n:X0):List Cla:=G7 (lk l) (l.length+1) n
def Y6 (l:List Cla) (n:X0):List Fld:=(chain l n).reverse.flatMap (·.fields)
def Jk (l:List Cla) (n f:X0):Option Nat:=(Y6 l n).findIdx? fun x=>decide (x.name=f)
def B7 (c:Cla) (n:X0):Option Hm.Met:=c.methods.find? fun m=>decide (m.name=n)
def Rs (L:Wr):Nat→Cla→X0→Option (X0×Hm.Met)
 | 0,_,_=>none
 | f+1,c,n=>c.like.findSome? fun u=>match L u with
  | none=>none
  | some d=>match B7 d n with
   | some m=>some (u,m)
   | none=>Rs L f d n
def V3 (l:List Cla) (k n:X0):Option (X0×Hm.Met):=
 match (chain l k).findSome? fun c=>(B7 c n).map (c.name,·) with
 | some r=>some r
 | none=>(chain l k).findSome? fun c=>Rs (lk l) (l.length+1) c n
def P3 (l:List Cla) (n:X0):Bool:=match lk l n with
 | some c=> !c.abs
 | none=>false
def H7:List X0→X0
 | []=>[]
 | [a]=>a
 | a::b::r=>a++[44]++H7 (b::r)
def Qu (m:Hm.Met):X0:=[40]++H7 m.params++[41]++m.result
def O7 (l:List Cla) (s:X0):Bool:= !decide (s=H8)&&N3 l s
def Yw (l:List Cla) (c:Cla):Bool:=c.fields.any fun f=>(Jk l c.super f.name).isSome
def B2 (l:List Cla) (c:Cla):Bool:=c.fields.any (fun f=> !O7 l f.kind)||c.methods.any fun m=>(!O7 l m.result&& !decide (m.result=[]))||m.params.any fun s=> !O7 l s
def Lp (l:List Cla) (n:X0):List Hm.Met:=(F7 l n).flatMap fun u=>((lk l u).map (·.methods)).getD []
def Mj (a:List Hm.Met):Bool:=a.any fun x=>a.any fun y=>decide (x.name=y.name)&& !decide (Qu x=Qu y)
def Zh (l:List Cla) (c:Cla):Bool:=Mj (Lp l c.name)
def Yz (l:List Cla) (k n:X0):Bool:=match V3 l k n with
 | none=>true
 | some r=>r.2.abs
def Dl (l:List Cla) (c:Cla):Bool:= !c.abs&&(Lp l c.name).any fun m=>Yz l c.name m.name
def V7 (l:List Cla) (c:Cla):Nat:=if Yw l c then 64 else if B2 l c then 65 else if Zh l c then 66 else if Dl l c then 67 else 0
def Qt (l:List Cla) (n:X0):Bool:=match lk l n with
 | none=>true
 | some d=>d.iface||d.fin
def R2 (l:List Cla) (n:X0):Bool:=match lk l n with
 | none=>true
 | some d=> !d.iface
def D2 (l:List Cla) (c:Cla):Nat:=if Qt l c.super then 61 else if c.like.any (R2 l) then 62 else 0
def P7 (l:List Cla) (c:Cla):Bool:=(U3 c).any fun n=>(F7 l n).contains c.name
def T9 (l:List Cla) (frm:Nat):Nat→List Nat→Nat→List Nat
 | 0,a,_=>a
 | f+1,a,i=>if i<frm then a else if i∈a then a else ((U3 (l.getD i Cla.zero)).foldl (fun a n=>T9 l frm f a ((Z2 l n).getD 0)) a)++[i]
def W1 (l:List Cla) (frm:Nat):List Nat:=((List.range l.length).drop frm).foldl (fun a i=>T9 l frm (l.length+1) a i) []
end Go.Hm

namespace Go.Emb
open Go.RowKit Go.Hm
variable {P : Program} {w w0 w1 w' w'' : World} {K : Value → World → Prop} {σ σ0 σ1 σ' : Q5}
def J8 {α:Type} (B:Nat) (e:TypeId) (sz:Nat) (R:Q5→α→List Value→Prop) (σ:Q5) (w:World) (v:Value) (xs:List α):Prop:=
 ∃a c,v= .slice a xs.length c∧xs.length≤c∧c≤maxLen∧(∀b,a=some b→b.spot=none∧B≤b.block∧b.block<w.heap.size∧σ b.block=none)∧(0<c→ ∃g d f,a=some ⟨g,d,none⟩∧B≤g∧σ g=none∧w.heap[g]? =some (.cells f e (0,0))∧d+c*sz≤f.size∧ ∀i x,xs[i]? =some x→R σ x ((f.toList.drop (d+i*sz)).take sz))
section
variable {α : Type} {R : Q5 → α → List Value → Prop} {B sz : Nat} {e : TypeId} {v u : Value} {xs ys : List α}
theorem J8.of_acc (h:V5 B e sz R σ w v xs):J8 B e sz R σ w v xs:=by
 obtain ⟨cells,o,l,n⟩:=h
 rcases o.2 with ⟨rfl,q⟩ | ⟨g,b,f,rfl,m,k,d,a,r,c⟩
 ·exact ⟨none,0,by rw[q],by omega,by simp,by simp,fun h=>by omega⟩
 ·refine ⟨_,b,rfl,d,a,by rintro _ ⟨⟩;exact ⟨rfl,m,(Array.getElem?_eq_some_iff.1 k).1,l g rfl⟩,fun _=>⟨g,0,f,rfl,m,l g rfl,k,by omega,fun i x j=>?_⟩⟩
  have p:i<xs.length:=(List.getElem?_eq_some_iff.1 j).1
  have hh:i*sz+sz≤xs.length*sz:=by rw[←Nat.succ_mul];exact Nat.mul_le_mul_right _ p
  have:=n i x j
  rw[←c,List.drop_take,List.take_take] at this
  rw[Nat.zero_add]
  rwa [show min sz (xs.length*sz-i*sz)=sz by omega] at this
theorem J8.mem (h:J8 B e sz R σ w v xs) {k:Nat} (c:v.ownBlock=some k):B≤k∧k<w.heap.size∧σ k=none:=by
 obtain ⟨a,d,rfl,i,g,b,f⟩:=h
 cases a with
 | none=>cases c
 | some a=>cases c;exact (b a rfl).2
theorem J8.up [hr:Rep R] (h:J8 B e sz R σ w v xs) (d:Stp w σ w' σ'):J8 B e sz R σ' w' v xs:=by
 obtain ⟨a,j,rfl,r,y,c,p⟩:=h
 refine ⟨a,j,rfl,r,y,fun b f=>⟨(c b f).1,(c b f).2.1,Nat.lt_of_lt_of_le (c b f).2.2.1 d.bel.size,(d.old _ (c b f).2.2.1).trans (c b f).2.2.2⟩,fun t=>?_⟩
 obtain ⟨g,l,k,rfl,A,z,m,s,q⟩:=p t
 have n:=(Array.getElem?_eq_some_iff.1 m).1
 exact ⟨g,l,k,rfl,A,(d.old g n).trans z,(d.bel.block g n).trans m,s,fun i x o=>hr.up d.le (q i x o)⟩
theorem J8.step [hr:Rep R] (h:J8 B e sz R σ w v xs) (a:Stp w σ w' σ'):J8 B e sz R σ' w' v xs:=h.up a
theorem J8.kp {D:Nat→Prop} (h:J8 B e sz R σ w v xs) (n:Kpt D w w') (i: ∀k,v.ownBlock=some k→ ¬D k):J8 B e sz R σ w' v xs:=by
 obtain ⟨a,f,rfl,q,t,c,o⟩:=h
 refine ⟨a,f,rfl,q,t,fun b d=>⟨(c b d).1,(c b d).2.1,Nat.lt_of_lt_of_le (c b d).2.2.1 n.size,(c b d).2.2.2⟩,fun s=>?_⟩
 obtain ⟨g,l,j,rfl,A,y,m,r,p⟩:=o s
 have z:=(Array.getElem?_eq_some_iff.1 m).1
 exact ⟨g,l,j,rfl,A,y,(n.block g z (i g rfl)).trans m,r,p⟩
theorem Q1r {b t:TypeId} {cs:List Bool} [ts:TS P b e] (h:J8 B e sz R σ w v xs) (c:K (I xs.length) w):X3 P .len [b] t cs [v] w K:=by
 obtain ⟨a,d,rfl,_⟩:=h
 rw[Q1n];exact c
theorem Q5J {t:TypeId} {d:Nat} {z:Value} [TS P t e] [TZ P e sz d z] (h:J8 B e sz R σ w v xs) {n:Nat} (p:n<xs.length)
 (o: ∀a cs,(∀j u,cs[j]? =some u→w.cell? (a.add j)=some u)→cs.length=sz→R σ xs[n] cs→K (.pointer (some a)) w):indexAddr P t v (I n) w K:=by
 obtain ⟨a,c,rfl,r,y,q,k⟩:=h
 obtain ⟨g,i,f,rfl,C,A,m,s,l⟩:=k (by omega)
 rw[Si (by omega) (by omega)]
 have hh:n*sz+sz≤c*sz:=by rw[←Nat.succ_mul];exact Nat.mul_le_mul_right _ (by omega)
 refine o _ ((f.toList.drop (i+n*sz)).take sz) ?_ ?_ (l n _ (by simp[p]))
 ·intro j u b
  rw[List.getElem?_take] at b
  split at b
  ·rw[List.getElem?_drop] at b
   unfold World.cell?
   rw[S4,S4,A9,A9,I6 (I6 rfl _)]
   simp only[m]
   simpa using b
  ·cases b
 ·rw[List.length_take,List.length_drop,Array.length_toList];omega
theorem X3O {t:TypeId} {m:Nat} {z:Value} [ts:TS P t e] [tz:TZ P e sz m z] (h:J8 B e sz R σ w v xs) (l:Nat) (N:l≤xs.length)
 (y: ∀k,J8 B e sz R σ w k (xs.drop l)→(k.ownBlock=v.ownBlock∨k.ownBlock=none)→K k w):R6 P t v (some (I l)) none none w K:=by
 obtain ⟨a,c,rfl,A,M,d,q⟩:=h
 have hh: ∀w:World,(Instr.sliceBounds true xs.length c (some (I l)) none none).run P w= .ok (l,xs.length,c) w:=by
  intro w
  have D:(l:Int)≤xs.length:=by omega
  simp[Instr.sliceBounds,Instr.sliceBound,asIntOf,A,D]
  intros;omega
 unfold R6
 have:(Instr.sliceAt t (.slice a xs.length c) (some (I l)) none none).run P w= .ok (.slice (if c=l then a else a.map (·.add (l*sz))) (xs.length-l) (c-l)) w:=by
  simp[Instr.sliceAt,run_underlying ts.h,Instr.slice,hh,L3 tz]
 rw[X9 this]
 refine y _ ⟨_,c-l,by rw[List.length_drop],by rw[List.length_drop];omega,by omega,?_,fun L=>?_⟩ ?_
 ·intro b j
  split at j
  ·exact d b j
  ·cases a with
   | none=>cases j
   | some a=>cases j;exact ⟨I6 (d a rfl).1 _,by rw[S4];exact (d a rfl).2⟩
 ·have C:=q (by omega)
  clear q
  obtain ⟨g,o,n,rfl,H,E,s,J,r⟩:=C
  refine ⟨g,o+l*sz,n,?_,H,E,s,?_,fun i x p=>?_⟩
  ·rw[if_neg (by omega)];simp only[Option.map_some];congr 1;unfold Addr.add;split<;>simp_all
  ·have:l*sz+(c-l)*sz=c*sz:=by rw[←Nat.add_mul];congr 1;omega
   omega
  ·rw[List.getElem?_drop] at p
   have:=r _ _ p
   rwa [Nat.add_mul,←Nat.add_assoc] at this
 ·left
  by_cases f:c=l
  ·rw[if_pos f];cases a<;>rfl
  ·rw[if_neg f]
   cases a with
   | none=>rfl
   | some a=>simp only[Option.map_some,Value.ownBlock,S4]
theorem Q7M {t ty:TypeId} {Z:Nat} {z:Value} {cs:List Bool} [ts:TS P t e] [tz:TZ P e sz Z z] [hr:Rep R] (X:X2 w σ) (hB:B≤w.heap.size) (ha:J8 B e sz R σ w v xs) (H:Sl sz R σ u ys) (hz:(z.cells.size==sz&&decide (0<sz))=true)
 (Q:(xs.length+ys.length)*Z≤140737488355328) (hm:xs.length+ys.length≤1000000000000)
 (h: ∀s w',Kpt (fun k=>v.ownBlock=some k∧B≤k∧σ k=none) w w'→X2 w' σ→J8 B e sz R σ w' s (xs++ys)→((∃a m,v= .slice a xs.length m∧s= .slice a (xs.length+ys.length) m)∨(Below w.heap.size w w'∧ ∀k,s.ownBlock=some k→w.heap.size≤k))→K s w'):X3 P .append [t,t] ty cs [v,u] w K:=by
 obtain ⟨y,c,rfl,c1,c2,A,c3⟩:=ha
 obtain ⟨a,m,d,rfl,n1,n2,n3,n4,n5⟩:=H.cells X
 obtain ⟨i,hi,E,am,N⟩:=tz.info
 simp only[Bool.and_eq_true,beq_iff_eq,decide_eq_true_eq] at hz
 obtain ⟨aw,bf⟩:=hz
 have L: ∀s w',(Builtin.append_ #[t,t] ty #[.slice y xs.length c, .slice a ys.length m]).run P w= .ok s w'→Kpt (fun k=>(Value.slice y xs.length c).ownBlock=some k∧B≤k∧σ k=none) w w'→J8 B e sz R σ w' s (xs++ys)→((∃a m,(Value.slice y xs.length c)= .slice a xs.length m∧s= .slice a (xs.length+ys.length) m)∨(Below w.heap.size w w'∧ ∀k,s.ownBlock=some k→w.heap.size≤k))→X3 P .append [t,t] ty cs [.slice y xs.length c, .slice a ys.length m] w K:=by
  intro s w' C hk hq ao
  have M:(builtin .append #[t,t] ty cs.toArray #[.slice y xs.length c, .slice a ys.length m]).run P w= .ok (.value s) w':=by
   simp[builtin,C]
  unfold X3
  rw[P9];unfold K9
  rw[M]
  exact h s w' hk (fun k o ho=>by rw[hk.block k (X.lt ho) fun e=>by rw[e.2.2] at ho;cases ho];exact X k o ho) hq ao
 have q:Src P i.size t (.slice a ys.length m) ys.length d w:=by
  cases a with
  | some b=>exact Src.ofSlice w ts.h b ys.length m d (by rw[E];exact n2) (n3 b rfl) n4
  | none=>
   have hy:ys.length=0:=by
    obtain ⟨a',a5,e',q1,_,V,_⟩:=H;injection e' with e1 e2 e3;have:=n1 rfl;omega
   have hn:d=[]:=List.eq_nil_of_length_eq_zero (by rw[n2,hy];simp)
   subst hn
   rw[hy];exact Src.ofNil w ts.h m
 by_cases r:xs.length+ys.length≤c
 ·by_cases O:c=0
  ·-- nothing at all
   subst O
   have p:xs=[]:=List.eq_nil_of_length_eq_zero (by omega)
   have hy:ys=[]:=List.eq_nil_of_length_eq_zero (by omega)
   subst p hy
   have hn:d=[]:=List.eq_nil_of_length_eq_zero (by simpa using n2)
   subst hn
   refine L (.slice y 0 0) w ?_ Kpt.refl ⟨y,0,rfl,by simp,by simp,A,fun h=>by omega⟩ (.inl ⟨_,_,rfl,rfl⟩)
   have hl:=q.len w
   have D:=q.cells
   simp only[List.length_nil] at hl D⊢
   cases y<;>simp[Builtin.append_,run_underlying ts.h,sizeOf,typeInfo,hi,hl,D,storeCells]
  ·obtain ⟨g,l,f,rfl,q1,q2,V,q4,q5⟩:=c3 (by omega)
   have e1:(xs.length+ys.length)*sz≤c*sz:=Nat.mul_le_mul_right _ r
   rw[Nat.add_mul] at e1
   have Y:=run_storeCells_at P g (l+xs.length*sz) e d 0 f w V (by omega) n4
   simp only[Nat.add_zero] at Y
   obtain ⟨ab,az⟩:=Un (cs:=(f.toList.take (l+xs.length*sz)++d++f.toList.drop (l+xs.length*sz+d.length)).toArray) V
   refine L (.slice (some ⟨g,l,none⟩) (xs.length+ys.length) c) _ ?_ (Kpt.of_upd ab ⟨rfl,q1,q2⟩) ?_ (.inl ⟨_,_,rfl,rfl⟩)
   ·have hl:=q.len w
    have D:=q.cells
    rw[E] at D
    simp[Builtin.append_,run_underlying ts.h,sizeOf,typeInfo,hi,hl,D,E,r,Addr.add_lit,Y]
   ·refine ⟨_,c,by rw[List.length_append],by rw[List.length_append];exact r,c2,fun b Q=>⟨(A b Q).1,(A b Q).2.1,by rw[ab.size];exact (A b Q).2.2.1,(A b Q).2.2.2⟩,fun _=>⟨g,l,_,rfl,q1,q2,az,?_,fun j x p=>?_⟩⟩
    ·simp;omega
    ·by_cases U:j<xs.length
     ·rw[List.getElem?_append_left U] at p
      have:=q5 j x p
      have hh:j*sz+sz≤xs.length*sz:=by rw[←Nat.succ_mul];exact Nat.mul_le_mul_right _ U
      have e2:((f.toList.take (l+xs.length*sz)++d++f.toList.drop (l+xs.length*sz+d.length)).toArray.toList.drop (l+j*sz)).take sz=(f.toList.drop (l+j*sz)).take sz:=by
       rw[List.toList_toArray,List.append_assoc]
       rw[List.drop_append_of_le_length (by rw[List.length_take,Array.length_toList (xs:=f)];omega),List.take_append_of_le_length (by rw[List.length_drop,List.length_take,Array.length_toList (xs:=f)];omega),List.drop_take,List.take_take]
       congr 1;omega
      rw[e2];exact this
     ·rw[List.getElem?_append_right (by omega)] at p
      have:=n5 _ _ p
      have ar:j-xs.length<ys.length:=(List.getElem?_eq_some_iff.1 p).1
      have hh:(j-xs.length)*sz+sz≤ys.length*sz:=by rw[←Nat.succ_mul];exact Nat.mul_le_mul_right _ ar
      have bh:j*sz=xs.length*sz+(j-xs.length)*sz:=by rw[←Nat.add_mul];congr 1;omega
      have e2:((f.toList.take (l+xs.length*sz)++d++f.toList.drop (l+xs.length*sz+d.length)).toArray.toList.drop (l+j*sz)).take sz=(d.drop ((j-xs.length)*sz)).take sz:=by
       rw[List.toList_toArray,List.append_assoc]
       rw[List.drop_append,List.drop_eq_nil_of_le (by rw[List.length_take,Array.length_toList (xs:=f)];omega),List.nil_append,List.length_take,Array.length_toList (xs:=f),
        show l+j*sz-min (l+xs.length*sz) f.size=(j-xs.length)*sz by omega,
        List.drop_append_of_le_length (by omega),List.take_append_of_le_length (by rw[List.length_drop];omega)]
      rw[e2];exact this
 ·-- a new row
  have J: ∃n:List Value,n.length=xs.length*sz∧(Builtin.firstCells i.size xs.length (.slice y xs.length c)).run P w.drew= .ok n.toArray w.drew∧ ∀j x,xs[j]? =some x→R σ x ((n.drop (j*sz)).take sz):=by
   by_cases O:c=0
   ·subst O
    have p:xs=[]:=List.eq_nil_of_length_eq_zero (by omega)
    subst p
    refine ⟨[],by simp,?_,by simp⟩
    cases y with
    | none=>exact run_firstCells_none w.drew i.size 0 0 0
    | some a'=>exact run_firstCells_some w.drew i.size 0 a' 0 0 [] (by simp) (by intro _ _ h';simp at h')
   ·obtain ⟨g,l,f,rfl,q1,q2,V,q4,q5⟩:=c3 (by omega)
    have e1:xs.length*sz≤c*sz:=Nat.mul_le_mul_right _ c1
    refine ⟨(f.toList.drop l).take (xs.length*sz),by rw[List.length_take,List.length_drop,Array.length_toList (xs:=f)];omega,?_,fun j x p=>?_⟩
    ·refine run_firstCells_some w.drew i.size xs.length ⟨g,l,none⟩ xs.length c _ (by rw[List.length_take,List.length_drop,Array.length_toList (xs:=f),E];omega) (fun j u H=>?_)
     rw[List.getElem?_take] at H
     split at H
     ·rw[List.getElem?_drop] at H
      have ax:w.drew.heap[g]? =some (.cells f e (0,0)):=V
      unfold World.cell?
      rw[S4,A9,I6 rfl]
      simp only[ax]
      simpa using H
     ·cases H
    ·have U:j<xs.length:=(List.getElem?_eq_some_iff.1 p).1
     have hh:j*sz+sz≤xs.length*sz:=by rw[←Nat.succ_mul];exact Nat.mul_le_mul_right _ U
     have:=q5 j x p
     rw[List.drop_take,List.take_take,List.drop_drop,show min sz (xs.length*sz-j*sz)=sz by omega]
     exact this
  obtain ⟨n,o1,o2,o3⟩:=J
  have hg:c<xs.length+ys.length:=by omega
  have C:=run_append_grow_src (P:=P) w t t ty e i z ts.h hi N y xs.length c n o2 (.slice a ys.length m) ys.length d q hg (by omega) (growslice_fits hg (by rw[am];exact Q))
  have ap:=grownCap_le_maxLen w (xs.length+ys.length) c e (by simp only[maxLen];omega)
  have ak:=grownCap_ge w (xs.length+ys.length) c e
  have hL:(n++d).length=(xs.length+ys.length)*sz:=by rw[List.length_append,o1,n2,Nat.add_mul]
  refine L _ _ C ?_ ?_ (.inr ⟨(Below.refl _ _).drew.alloc (Nat.le_refl _) _,by intro k hk;cases hk;exact Nat.le_refl _⟩)
  ·exact Kpt.of_below ((Below.refl _ _).drew.alloc (Nat.le_refl _) _)
  ·refine ⟨_,_,by rw[List.length_append],by rw[List.length_append];exact ak,ap,by rintro _ ⟨⟩;exact ⟨rfl,hB,(Array.getElem?_eq_some_iff.1 (heap_alloc_new w.drew _)).1,X.none (Nat.le_refl _)⟩,fun _=>⟨w.heap.size,0,_,rfl,hB,X.none (Nat.le_refl _),heap_alloc_new w.drew _,?_,fun j x p=>?_⟩⟩
   ·rw[Array.size_append,List.size_toArray,hL,size_zeroCells,aw,←Nat.add_mul]
    rw[Nat.zero_add];exact Nat.mul_le_mul_right _ (by omega)
   ·rw[Nat.zero_add,Array.toList_append]
    have U:j<xs.length+ys.length:=by have:=(List.getElem?_eq_some_iff.1 p).1;rwa [List.length_append] at this
    have hh:j*sz+sz≤(xs.length+ys.length)*sz:=by rw[←Nat.succ_mul];exact Nat.mul_le_mul_right _ U
    rw[List.drop_append_of_le_length (by simp only[List.toList_toArray];omega),List.take_append_of_le_length (by rw[List.length_drop];simp only[List.toList_toArray];omega)]
    simp only[List.toList_toArray]
    by_cases W:j<xs.length
    ·rw[List.getElem?_append_left W] at p
     rw[Wp n d xs.length j o1 W]
     exact o3 j x p
    ·rw[List.getElem?_append_right (by omega)] at p
     have:=n5 _ _ p
     rw[show j*sz=n.length+(j-xs.length)*sz by rw[o1,←Nat.add_mul];congr 1;omega,List.drop_append]
     simpa [List.drop_eq_nil_of_le] using this
end
theorem M8 {b:Nat} (h:w1.heap.size≤b) (k:Stp w σ w1 σ1):w.heap.size≤b:=Nat.le_trans k.bel.size h
theorem N0 {t:TypeId} {sz a:Nat} {z:Value} [tz:TZ P t sz a z] (g:X2 w σ) (h: ∀b w' σ',w.heap.size≤b→Stp w σ w' σ'→Y1 σ' w' b z.cells.toList→K (.pointer (some ⟨b,0,none⟩)) w'):V9 P t w K:=
 Ks g fun b w' c f d=>h b w' σ c f d
theorem Ev {t:TypeId} {cs:List Value} (f:X2 w σ) (h: ∀b w' σ',w.heap.size≤b→Stp w σ w' σ'→Y1 σ' w' b cs→K (.pointer (some ⟨b,0,none⟩)) w'):box P t (.agg cs.toArray) w K:=
 Q5k f fun b w' a d c=>h b w' σ a d (by simpa [Value.cells] using c)
theorem F8 {t:TypeId} {sz a:Nat} {z:Value} [tz:TZ P t sz a z] {b:Nat} {cs ds:List Value} (d:Y1 σ w b cs) (g:Stp w0 σ0 w σ) (f:w0.heap.size≤b) (j:cs.length=sz) (k:ds.length=sz) (l: ∀u∈ds,u.oneCell'=true)
 (h: ∀w',Hst w0 σ0 w' σ→Y1 σ w' b ds→K undef w'):Y0 P t (.pointer (some ⟨b,0,none⟩)) (.agg ds.toArray) w K:=
 Oc d j k (by rw[List.all_toArray];exact List.all_eq_true.2 l) fun w' i c=>h w' ⟨i.stp g f d.1⟩ c
structure Nxt (D : Nat → Prop) (w : World) (σ : Q5) (w' : World) (σ' : Q5) : Prop where
  kp : Kpt D w w'
  le : SLe σ σ'
  old : ∀ k, k < w.heap.size → σ' k = σ k
  sat : X2 w' σ'
theorem Nxt.of_stp {D:Nat→Prop} (h:Stp w σ w' σ'):Nxt D w σ w' σ':=⟨Kpt.of_below h.bel,⟨h.le⟩,h.old,h.sat⟩
theorem Nxt.mono {D D':Nat→Prop} (h:Nxt D w σ w' σ') (a: ∀k,k<w.heap.size→D k→D' k):Nxt D' w σ w' σ':=⟨h.kp.mono a,h.le,h.old,h.sat⟩
theorem Nxt.trans {D:Nat→Prop} (h:Nxt D w σ w' σ') (k:Nxt D w' σ' w'' σ1):Nxt D w σ w'' σ1:=
 ⟨h.kp.trans k.kp,h.le.more k.le,fun i a=>(k.old i (Nat.lt_of_lt_of_le a h.kp.size)).trans (h.old i a),k.sat⟩
theorem Y1.nx {D:Nat→Prop} {b:Nat} {cs:List Value} (h:Y1 σ w b cs) (k:Nxt D w σ w' σ') (d: ¬D b):Y1 σ' w' b cs:=by
 have a:=h.lt
 obtain ⟨f,e,c⟩:=h
 exact ⟨(k.old b a).trans f,e,(k.kp.block b a d).trans c⟩
theorem C2.nx {D:Nat→Prop} {r:Nat} {m:List (List UInt8×Value)} (h:C2 σ w r m) (k:Nxt D w σ w' σ') (a: ¬D r):C2 σ' w' r m:=
 ⟨(k.old r h.lt).trans h.1,(k.kp.block r h.lt a).symm▸h.2⟩
section
variable {α : Type} {R : Q5 → α → List Value → Prop} {B sz : Nat} {e : TypeId} {v u : Value} {xs : List α} {x : α}
theorem V5.nx [hr:Rep R] {D:Nat→Prop} (h:V5 B e sz R σ w v xs) (k:Nxt D w σ w' σ') (g: ∀k,v.ownBlock=some k→ ¬D k):V5 B e sz R σ' w' v xs:=by
 have d:=h.kp k.kp g
 obtain ⟨cells,j,f,c⟩:=d
 refine ⟨cells,j,fun i a=>(k.old i (h.mem i a).2.1).trans (f i a),fun i x b=>hr.up k.le.le (c i x b)⟩
theorem J8.nx [hr:Rep R] {D:Nat→Prop} (h:J8 B e sz R σ w v xs) (k:Nxt D w σ w' σ') (r: ∀k,v.ownBlock=some k→ ¬D k):J8 B e sz R σ' w' v xs:=by
 obtain ⟨a,f,rfl,s,z,c,p⟩:=h
 refine ⟨a,f,rfl,s,z,fun b d=>⟨(c b d).1,(c b d).2.1,Nat.lt_of_lt_of_le (c b d).2.2.1 k.kp.size,(k.old _ (c b d).2.2.1).trans (c b d).2.2.2⟩,fun y=>?_⟩
 obtain ⟨g,l,j,rfl,C,A,m,t,q⟩:=p y
 have n:=(Array.getElem?_eq_some_iff.1 m).1
 exact ⟨g,l,j,rfl,C,(k.old g n).trans A,(k.kp.block g n (r g rfl)).trans m,t,fun i x o=>hr.up k.le.le (q i x o)⟩
theorem Jv {t r:TypeId} {d:Nat} {z:Value} {cs:List Bool} {A:Value→Value→World→Prop} [ts:TS P t e] [tz:TZ P e sz d z] [hr:Rep R] (n:Stp w0 σ0 w σ) (y:V5 w0.heap.size e sz R σ w v xs) (D:R σ x u.cells.toList) (q:u.cells.size=sz) (E:(z.cells.size==sz&&decide (0<sz))=true) (l:(decide (0<sz)&&decide ([u].length*sz≤16777216))=true)
 (C:(xs.length+1)*d≤140737488355328) (p:xs.length+1≤9223372036854775807)
 (h: ∀s b w' σ',Nxt (fun k=>v.ownBlock=some k) w σ w' σ'→Stp w0 σ0 w' σ'→V5 w0.heap.size e sz R σ' w' b (xs++[x])→(b.ownBlock=v.ownBlock∨ ∀k,b.ownBlock=some k→w.heap.size≤k)→A s b w'):
 buildSlice P t 1 [(0,u)] w (fun s w=>X3 P .append [t,t] r cs [v,s] w (fun b w=>A s b w)):=by
 refine T4 n.sat [u] [x] rfl rfl (by simpa using q) l ⟨D,trivial⟩ fun s w1 σ1 a j=>?_
 refine app (n.trans a) (y.up a) j E (by simpa using C) (by simpa using p) fun b m o c g hat=>?_
 have i:Kpt (fun k=>v.ownBlock=some k) w m:=(Kpt.of_below a.bel).trans (Kpt.of_grown o fun k a=>a)
 refine h s b m σ1 ⟨i,⟨a.le⟩,a.old,c.sat⟩ c g ?_
 rcases hat with hat | hat
 ·exact .inl hat
 ·exact .inr fun k f=>Nat.le_trans a.bel.size (hat k f)
theorem Wi {t l:TypeId} {c:Nat} {z:Value} {cs:List Bool} {ys:List α} [ts:TS P t e] [tz:TZ P e sz c z] [hr:Rep R] (p:Stp w0 σ0 w σ) (n:V5 w0.heap.size e sz R σ w v xs) (q:Sl sz R σ u ys) (r:(z.cells.size==sz&&decide (0<sz))=true)
 (o:(xs.length+ys.length)*c≤140737488355328) (i:xs.length+ys.length≤9223372036854775807)
 (h: ∀a w',Nxt (fun k=>v.ownBlock=some k) w σ w' σ→Stp w0 σ0 w' σ→V5 w0.heap.size e sz R σ w' a (xs++ys)→(a.ownBlock=v.ownBlock∨ ∀k,a.ownBlock=some k→w.heap.size≤k)→K a w'):X3 P .append [t,t] l cs [v,u] w K:=
 app p n q r o i fun a m g b f d=>h a m ⟨Kpt.of_grown g fun k j=>j,SLe.refl _,fun _ _=>rfl,b.sat⟩ b f d
end
section
variable {α : Type} {R : Q5 → α → List Value → Prop} {B sz : Nat} {e : TypeId} {v u : Value} {xs : List α} {x : α}
theorem J8.mono {B':Nat} (h:J8 B e sz R σ w v xs) (k:B'≤B):J8 B' e sz R σ w v xs:=by
 obtain ⟨a,i,rfl,n,o,d,m⟩:=h
 refine ⟨a,i,rfl,n,o,fun b c=>⟨(d b c).1,Nat.le_trans k (d b c).2.1,(d b c).2.2⟩,fun l=>?_⟩
 obtain ⟨g,f,j,rfl,p,q⟩:=m l
 exact ⟨g,f,j,rfl,Nat.le_trans k p,q⟩
theorem J8.own (h:J8 B e sz R σ w v xs) {k:Nat} (a:v.ownBlock=some k):B≤k:=(h.mem a).1
theorem J8.keep [hr:Rep R] (h:J8 w0.heap.size e sz R σ w v xs) (n:Stp w0 σ0 w σ): ∃σ',Stp w0 σ0 w σ'∧Sl sz R σ' v xs∧SLe σ σ'∧(∀k,some k≠v.ownBlock→σ' k=σ k):=by
 obtain ⟨a,f,rfl,z,C,p,r⟩:=h
 by_cases A:f=0
 ·have m:xs=[]:=List.eq_nil_of_length_eq_zero (by omega)
  subst A m
  exact ⟨σ,n,⟨a,0,rfl,by simp,by simp,fun _=>rfl,fun b D=>⟨fun _=>(p b D).1,by simp⟩⟩,SLe.refl _,fun _ _=>rfl⟩
 ·obtain ⟨g,o,c,rfl,E,q,t,J,s⟩:=r (by omega)
  have d:=Q5.put_le n.sat q (.cells c e (0,0))
  refine ⟨σ.put g (.cells c e (0,0)),n.put q E t,⟨_,f,rfl,z,C,by simp,?_⟩,⟨d⟩,?_⟩
  ·rintro _ ⟨⟩
   refine ⟨fun _=>rfl,fun i x m=>⟨(c.toList.drop (o+i*sz)).take sz,⟨I6 rfl _,c,e,(0,0),by rw[S4];simp[Q5.put],?_⟩,?_,hr.up d (s i x m)⟩⟩
   ·intro j u l
    rw[A9]
    rw[List.getElem?_take] at l
    split at l
    ·rw[List.getElem?_drop] at l;simpa using l
    ·cases l
   ·have H:i<xs.length:=(List.getElem?_eq_some_iff.1 m).1
    have h:i*sz+sz≤f*sz:=by rw[←Nat.succ_mul];exact Nat.mul_le_mul_right _ (by omega)
    rw[List.length_take,List.length_drop,Array.length_toList (xs:=c)];omega
  ·intro k y
   have:k≠g:=by intro e;subst e;exact y rfl
   simp only[Q5.put,if_neg this]
theorem Q3o {t U:TypeId} {H:Nat} {z:Value} {A:Value→Value→World→Prop} {ds:List Value} [ts:TS P t e] [tz:TZ P e sz H z] {L:Nat} {z':Value} [tz':TZ P U sz L z'] (hS:Stp w0 σ0 w σ) (ha:J8 w0.heap.size e sz R σ w v xs) {n:Nat} (hn:n<xs.length) (C:ds.length=sz) (V:R σ x ds) (h1: ∀u∈ds,u.oneCell'=true)
 (h: ∀p u w',Kpt (fun k=>v.ownBlock=some k) w w'→Hst w0 σ0 w' σ→J8 w0.heap.size e sz R σ w' v (xs.set n x)→A p u w'):
 indexAddr P t v (I n) w (fun p w=>Y0 P U p (.agg ds.toArray) w (fun u w=>A p u w)):=by
 obtain ⟨a,f,rfl,c1,c2,i,c3⟩:=ha
 obtain ⟨g,c,d,rfl,O,Q,M,q4,X⟩:=c3 (by omega)
 rw[Si (by omega) (by omega)]
 have hh:n*sz+sz≤f*sz:=by rw[←Nat.succ_mul];exact Nat.mul_le_mul_right _ (by omega)
 have q:(⟨g,c,none⟩:Addr).add ((n:Int).toNat*sz)=⟨g,c+n*sz,none⟩:=by unfold Addr.add;split<;>simp_all
 rw[q]
 have o:=run_storeCells_at P g (c+n*sz) e ds 0 d w M (by omega) h1
 simp only[Nat.add_zero] at o
 obtain ⟨l,J⟩:=Un (cs:=(d.toList.take (c+n*sz)++ds++d.toList.drop (c+n*sz+ds.length)).toArray) M
 unfold Y0
 rw[Li (w':=w.setRow g (d.toList.take (c+n*sz)++ds++d.toList.drop (c+n*sz+ds.length)).toArray) (by
  simp[Instr.storeAt,Instr.sureAddr,storeVar,L3 tz',Value.cells,C]
  simpa [C] using o)]
 have Y:Kpt (fun k=>(Value.slice (some ⟨g,c,none⟩) xs.length f).ownBlock=some k) w (w.setRow g (d.toList.take (c+n*sz)++ds++d.toList.drop (c+n*sz+ds.length)).toArray):=Kpt.of_upd l rfl
 refine h _ _ _ Y ⟨l.stp hS O Q⟩ ⟨_,f,by rw[List.length_set],by rw[List.length_set];exact c1,c2,fun b r=>⟨(i b r).1,(i b r).2.1,by rw[l.size];exact (i b r).2.2.1,(i b r).2.2.2⟩,fun _=>⟨g,c,_,rfl,O,Q,J,?_,fun j y m=>?_⟩⟩
 ·simp;omega
 ·rw[List.toList_toArray]
  have Z:=Array.length_toList (xs:=d)
  have E:j<xs.length:=by have:=(List.getElem?_eq_some_iff.1 m).1;simpa using this
  have W:j*sz+sz≤f*sz:=by rw[←Nat.succ_mul];exact Nat.mul_le_mul_right _ (by omega)
  by_cases N:j=n
  ·subst N
   rw[List.getElem?_set_self E] at m
   cases m
   rw[List.append_assoc,List.drop_append,List.drop_eq_nil_of_le (by rw[List.length_take];omega),List.nil_append,List.length_take,show c+j*sz-min (c+j*sz) d.toList.length=0 by omega,List.drop_zero,List.take_append_of_le_length (by omega),List.take_of_length_le (by omega)]
   exact V
  ·rw[List.getElem?_set_ne (by omega)] at m
   have:=X j y m
   rcases Nat.lt_or_gt_of_ne N with D | hgt
   ·have s:j*sz+sz≤n*sz:=by rw[←Nat.succ_mul];exact Nat.mul_le_mul_right _ D
    rw[List.append_assoc,List.drop_append_of_le_length (by rw[List.length_take];omega),List.take_append_of_le_length (by rw[List.length_drop,List.length_take];omega),List.drop_take,List.take_take]
    rwa [show min sz (c+n*sz-(c+j*sz))=sz by omega]
   ·have s:n*sz+sz≤j*sz:=by rw[←Nat.succ_mul];exact Nat.mul_le_mul_right _ hgt
    rw[List.drop_append,List.drop_eq_nil_of_le (by rw[List.length_append,List.length_take];omega),List.nil_append,List.length_append,List.length_take,List.drop_drop,C]
    rwa [show c+n*sz+sz+(c+j*sz-(min (c+n*sz) d.toList.length+sz))=c+j*sz by omega]
end
theorem Q6n (p:Nat→Prop): ∀n,p n→ ∃m,p m∧ ∀k,p k→m≤k:=by
 intro n
 induction n using Nat.strongRecOn with
 | _ n c=>
  intro h
  by_cases b: ∃k,k<n∧p k
  ·obtain ⟨k,g,f⟩:=b;exact c k g f
  ·exact ⟨n,h,fun k d=>Nat.le_of_not_lt fun a=>b ⟨k,a,d⟩⟩
noncomputable def Q1t (p:Nat→Prop):Nat:=open Classical in if h: ∃m,p m∧ ∀k,p k→m≤k then Classical.choose h else 0
theorem Q0i {p:Nat→Prop} {n:Nat} (h:p n):p (Q1t p)∧Q1t p≤n:=by
 have a:=Q6n p n h
 unfold Q1t
 rw[dif_pos a]
 exact ⟨(Classical.choose_spec a).1,(Classical.choose_spec a).2 n h⟩
theorem Pi {α:Type} {x0:α} {A:(α→World→Prop)→α→(Nat→Value)→World→Prop} (I:Nat→α→World→Prop) (n:Nat) (k:I n x0 w)
 (j: ∀a n x d w,I n x w→(∀b c w',b<n→I b c w'→a c w')→A a x d w):lp x0 w A:=by
 refine Wc (fun x w=> ∃n,I n x w) (fun x w=>Q1t fun n=>I n x w) ⟨n,k⟩ ?_
 rintro x d w ⟨n,i⟩
 obtain ⟨h,l⟩:=Q0i (p:=fun n=>I n x w) i
 refine j _ _ x d w h fun b c w' f g=>⟨⟨b,g⟩,?_⟩
 exact Nat.lt_of_le_of_lt (Q0i (p:=fun n=>I n c w') g).2 f
section
variable {α : Type} {R : Q5 → α → List Value → Prop} {B sz : Nat} {e : TypeId} {v u : Value} {xs ys : List α} {x : α}
theorem J8.below (h:J8 B e sz R σ w v xs) (a:Below w.heap.size w w'):J8 B e sz R σ w' v xs:=h.kp (D:=fun _=>False) (.of_below a) fun _ _=>id
theorem J8.pre {a:Option Addr} {n m b:Nat} (h:J8 B e sz R σ w (.slice a m b) (xs++ys)) (y:n=xs.length):J8 B e sz R σ w (.slice a n b) xs:=by
 obtain ⟨J,k,l,s,D,f,o⟩:=h
 injection l with C e2 q
 subst C q y
 rw[List.length_append] at s
 refine ⟨a,b,rfl,by omega,D,f,fun A=>?_⟩
 obtain ⟨g,d,c,E,t,H,r,z,p⟩:=o A
 exact ⟨g,d,c,E,t,H,r,z,fun i x j=>p i x (by rw[List.getElem?_append_left (List.getElem?_eq_some_iff.1 j).1];exact j)⟩
def Ge (B:Nat) (e:TypeId) (sz:Nat) (R:Q5→α→List Value→Prop) (σ:Q5) (v:Value) (xs:List α) (x:α) (w1 c:World):Prop:=
 Kpt (fun k=>v.ownBlock=some k) w1 c∧(J8 B e sz R σ w1 v xs→J8 B e sz R σ c v xs)∧
  ∀a b,v= .slice a xs.length b→J8 B e sz R σ w1 (.slice a (xs.length+1) b) (xs++[x])→J8 B e sz R σ c (.slice a (xs.length+1) b) (xs++[x])
theorem Ge.below (a:Below w.heap.size w w'):Ge B e sz R σ v xs x w w':=⟨.of_below a,fun h=>h.below a,fun _ _ _ h=>h.below a⟩
theorem Ge.refl:Ge B e sz R σ v xs x w w:=Ge.below (Below.refl _ _)
def VQa (N B:Nat) (e:TypeId) (sz:Nat) (R:Q5→α→List Value→Prop) (σ:Q5) (v:Value) (xs:List α) (x:α) (c:Value) (w:World):Prop:=
 J8 B e sz R σ w c (xs++[x])∧((∃a b,v= .slice a xs.length b∧c= .slice a (xs.length+1) b)∨((∀k,c.ownBlock=some k→N≤k)∧ ∀k,v.ownBlock=some k→k<N))
theorem VQa.stable {N:Nat} {g:Value} (h:VQa N B e sz R σ v xs x g w) (i:Ge B e sz R σ v xs x w w'):VQa N B e sz R σ v xs x g w':=by
 obtain ⟨j,b⟩:=h
 refine ⟨?_,b⟩
 rcases b with ⟨a,f,c,rfl⟩ | ⟨b,c⟩
 ·exact i.2.2 a f c j
 ·exact j.kp i.1 fun k l d=>by have:=b k l;have:=c k d;omega
theorem Kpt.more {D E:Nat→Prop} (h:Kpt D w w') (k:Kpt E w' w'') (hE: ∀j,E j→w.heap.size≤j):Kpt D w w'':=
 ⟨k.os.trans h.os,k.tape.trans h.tape,k.output.trans h.output,Nat.le_trans h.size k.size,fun i a b=>(k.block i (Nat.lt_of_lt_of_le a h.size) fun e=>by have:=hE i e;omega).trans (h.block i a b)⟩
end
end Go.Emb

namespace Go.Hm
open Go.Kd
theorem V2 {l:List Cla} {n:X0} {c:Cla} (h:lk l n=some c):c.name=n∧c∈l∧ ∃i,Z2 l n=some i∧l[i]? =some c:=by
 unfold lk at h
 cases b:Z2 l n with
 | none=>rw[b] at h;cases h
 | some i=>
  rw[b] at h
  obtain ⟨a,e,_⟩:=List.findIdx?_eq_some_iff_getElem.1 b
  have d:l[i]? =some c:=h
  rw[List.getElem?_eq_getElem a] at d
  cases d
  exact ⟨by simpa using e,List.getElem_mem a,i,rfl,List.getElem?_eq_getElem a⟩
theorem Zg {l:List Cla} {n:X0} {i:Nat} (h:Z2 l n=some i): ∃c,lk l n=some c∧l[i]? =some c∧c.name=n:=by
 obtain ⟨a,b,_⟩:=List.findIdx?_eq_some_iff_getElem.1 h
 refine ⟨l[i],?_,List.getElem?_eq_getElem a,by simpa using b⟩
 unfold lk;rw[h];simp[a]
theorem Q1o {l:List Cla} {n:X0}:Q0v l n=(lk l n).isSome:=by
 unfold Q0v
 cases a:Z2 l n with
 | none=>simp[lk,a]
 | some i=>obtain ⟨c,h,_⟩:=Zg a;simp[h]
theorem Q9i {l:List Cla} {c:Cla} (h:c∈l): ∃d,lk l c.name=some d:=by
 cases a:Z2 l c.name with
 | none=>
  have:=List.findIdx?_eq_none_iff.1 a c h
  simp at this
 | some i=>obtain ⟨d,h,_⟩:=Zg a;exact ⟨d,h⟩
inductive Reach (L : Wr) : X0 → X0 → Prop
  | refl {a : X0} {c : Cla} : L a = some c → Reach L a a
  | step {a u b : X0} {c : Cla} : L a = some c → u ∈ U3 c → Reach L u b → Reach L a b
theorem Reach.trans {L:Wr} {a b d:X0} (h:Reach L a b) (k:Reach L b d):Reach L a d:=by
 induction h with
 | refl _=>exact k
 | step f e _ c=>exact .step f e (c k)
theorem Reach.right {L:Wr} {a b:X0} (h:Reach L a b): ∃c,L b=some c:=by
 induction h with
 | refl h=>exact ⟨_,h⟩
 | step _ _ _ d=>exact d
theorem Reach.left {L:Wr} {a b:X0} (h:Reach L a b): ∃c,L a=some c:=by
 cases h with
 | refl h=>exact ⟨_,h⟩
 | step h _ _=>exact ⟨_,h⟩
theorem Q1l (L:Wr): ∀(f:Nat) (a b:List X0),∃r,Uu L f a b=b++r:=by
 intro f
 induction f with
 | zero=>intro a b;exact ⟨[],by simp[Uu]⟩
 | succ f c=>
  intro a b
  cases a with
  | nil=>exact ⟨[],by simp[Uu]⟩
  | cons n a=>
   simp only[Uu]
   split
   ·exact c _ _
   ·split
    ·exact c _ _
    ·obtain ⟨r,d⟩:=c (a++U3 ‹_›) (b++[n])
     exact ⟨n::r,by rw[d];simp⟩
theorem Q8T (L:Wr): ∀(f:Nat) (a b:List X0) (x:X0),x∈Uu L f a b→x∈b∨ ∃t∈a,Reach L t x:=by
 intro f
 induction f with
 | zero=>intro a b x h;exact .inl h
 | succ f d=>
  intro a b x h
  cases a with
  | nil=>exact .inl h
  | cons n a=>
   simp only[Uu] at h
   split at h
   ·rcases d _ _ _ h with h | ⟨t,ht,h⟩
    ·exact .inl h
    ·exact .inr ⟨t,by simp[ht],h⟩
   ·rename_i c e
    split at h
    ·rcases d _ _ _ h with h | ⟨t,ht,h⟩
     ·exact .inl h
     ·exact .inr ⟨t,by simp[ht],h⟩
    ·rcases d _ _ _ h with h | ⟨t,ht,h⟩
     ·rcases List.mem_append.1 h with h | h
      ·exact .inl h
      ·simp at h;subst h;exact .inr ⟨x,by simp, .refl e⟩
     ·rcases List.mem_append.1 ht with ht | ht
      ·exact .inr ⟨t,by simp[ht],h⟩
      ·exact .inr ⟨n,by simp, .step e ht h⟩
theorem X0t (l:List Cla) (a b:List X0) (h: ∀x∈a,x∈b):weigh l b≤weigh l a:=by
 unfold weigh
 induction l with
 | nil=>simp
 | cons c r e=>
  simp only[List.map_cons,List.sum_cons]
  by_cases d:c.name∈a
  ·rw[if_pos d,if_pos (h _ d)];omega
  ·rw[if_neg d];split<;>omega
theorem Iq (l:List Cla) (a:List X0) (c:Cla) (hc:c∈l) (h:c.name∉a):weigh l (a++[c.name])+(U3 c).length≤weigh l a:=by
 unfold weigh
 induction l with
 | nil=>simp at hc
 | cons d r g=>
  simp only[List.map_cons,List.sum_cons]
  have b:weigh r (a++[c.name])≤weigh r a:=X0t _ _ _ (by simp;intro x f;exact .inl f)
  unfold weigh at b
  rcases List.mem_cons.1 hc with rfl | hc
  ·rw[if_pos (by simp),if_neg h];omega
  ·have:=g hc
   by_cases e:d.name∈a
   ·rw[if_pos (by simp[e]),if_pos e];omega
   ·rw[if_neg e];split<;>omega
theorem X0U (l:List Cla): ∀(f:Nat) (a b:List X0),a.length+weigh l b≤f→
 (∀x∈b,∀c,lk l x=some c→ ∀u∈U3 c,∀d,lk l u=some d→u∈b∨u∈a)→
 (∀t∈a,∀d,lk l t=some d→t∈Uu (lk l) f a b)∧ ∀x∈Uu (lk l) f a b,∀c,lk l x=some c→ ∀u∈U3 c,∀d,lk l u=some d→u∈Uu (lk l) f a b:=by
 intro f
 induction f with
 | zero=>
  intro a b w o
  have:a=[]:=List.eq_nil_of_length_eq_zero (by omega)
  subst this
  refine ⟨by simp,fun x hx c i u j d g=>?_⟩
  rcases o x hx c i u j d g with h | h
  ·exact h
  ·simp at h
 | succ f v=>
  intro a b w o
  cases a with
  | nil=>
   refine ⟨by simp,fun x hx c i u j d g=>?_⟩
   rcases o x hx c i u j d g with h | h
   ·exact h
   ·simp at h
  | cons n a=>
   simp only[List.length_cons] at w
   simp only[Uu]
   split
   ·rename_i y
    obtain ⟨p,q⟩:=v a b (by omega) (fun x hx c i u j d g=>by
     rcases o x hx c i u j d g with h | h
     ·exact .inl h
     ·rcases List.mem_cons.1 h with rfl | h
      ·rw[y] at g;cases g
      ·exact .inr h)
    refine ⟨fun t ht d g=>?_,q⟩
    rcases List.mem_cons.1 ht with rfl | ht
    ·rw[y] at g;cases g
    ·exact p t ht d g
   ·rename_i c i
    split
    ·rename_i k
     obtain ⟨r,s⟩:=Q1l (lk l) f a b
     obtain ⟨p,q⟩:=v a b (by omega) (fun x hx c i u j d g=>by
      rcases o x hx c i u j d g with h | h
      ·exact .inl h
      ·rcases List.mem_cons.1 h with rfl | h
       ·exact .inl k
       ·exact .inr h)
     refine ⟨fun t ht d g=>?_,q⟩
     rcases List.mem_cons.1 ht with rfl | ht
     ·rw[s];simp[k]
     ·exact p t ht d g
    ·rename_i k
     obtain ⟨e,z,_⟩:=V2 i
     have B:=Iq l b c z (by rw[e];exact k)
     rw[e] at B
     obtain ⟨p,q⟩:=v (a++U3 c) (b++[n]) (by rw[List.length_append];omega) (fun x hx A m u j d g=>by
      rcases List.mem_append.1 hx with hx | hx
      ·rcases o x hx A m u j d g with h | h
       ·exact .inl (by simp[h])
       ·rcases List.mem_cons.1 h with rfl | h
        ·exact .inl (by simp)
        ·exact .inr (by simp[h])
      ·simp at hx;subst hx
       rw[i] at m;cases m
       exact .inr (by simp[j]))
     refine ⟨fun t ht d g=>?_,q⟩
     rcases List.mem_cons.1 ht with rfl | ht
     ·obtain ⟨r,s⟩:=Q1l (lk l) f (a++U3 c) (b++[t])
      rw[s];simp
     ·exact p t (by simp[ht]) d g
theorem Ut {l:List Cla} {a b:X0}:b∈F7 l a↔Reach (lk l) a b:=by
 obtain ⟨g,k⟩:=X0U l (1+weigh l []) [a] [] (by simp) (by simp)
 constructor
 ·intro h
  rcases Q8T _ _ _ _ _ h with h | ⟨t,e,n⟩
  ·simp at h
  ·simp at e;subst e;exact n
 ·intro h
  have key: ∀{x y:X0},Reach (lk l) x y→x∈F7 l a→y∈F7 l a:=by
   intro x y h
   induction h with
   | refl _=>exact id
   | step i o j m=>
    intro f
    obtain ⟨d,c⟩:=j.left
    exact m (k _ f _ i _ o _ c)
  obtain ⟨d,c⟩:=h.left
  exact key h (g a (by simp) d c)
theorem X0o (l:List Cla): ∀(f:Nat) (a b:List X0),a.length+weigh l b≤f→ ∀k,Uu (lk l) (f+k) a b=Uu (lk l) f a b:=by
 intro f
 induction f with
 | zero=>
  intro a b h k
  have:a=[]:=List.eq_nil_of_length_eq_zero (by omega)
  subst this
  cases k<;>rfl
 | succ f d=>
  intro a b h k
  cases a with
  | nil=>rw[Nat.succ_add];rfl
  | cons n a=>
   simp only[List.length_cons] at h
   rw[Nat.succ_add]
   simp only[Uu]
   split
   ·exact d _ _ (by omega) k
   ·rename_i c i
    split
    ·exact d _ _ (by omega) k
    ·rename_i g
     obtain ⟨e,m,_⟩:=V2 i
     have j:=Iq l b c m (by rw[e];exact g)
     rw[e] at j
     exact d _ _ (by rw[List.length_append];omega) k
end Go.Hm

namespace Go.Hm
open Go.Kd
def Ws (L:Wr) (a b:X0):Prop:= ∃c,L a=some c∧ ∃u∈U3 c,Reach L u b
def Jd (l:List Cla):Prop:= ∀a,¬Ws (lk l) a a
theorem Ws.reach {L:Wr} {a b:X0} (h:Ws L a b):Reach L a b:=by
 obtain ⟨c,d,u,f,e⟩:=h;exact .step d f e
theorem Ws.trans {L:Wr} {a b d:X0} (h:Ws L a b) (k:Reach L b d):Ws L a d:=by
 obtain ⟨c,e,u,g,f⟩:=h;exact ⟨c,e,u,g,f.trans k⟩
theorem Q0I {L:Wr} {a b:X0}:Reach L a b↔(a=b∧(∃c,L a=some c))∨Ws L a b:=by
 constructor
 ·intro h
  cases h with
  | refl h=>exact .inl ⟨rfl,_,h⟩
  | step f e d=>exact .inr ⟨_,f,_,e,d⟩
 ·rintro (⟨rfl,c,h⟩ | h)
  ·exact .refl h
  ·exact h.reach
def Xe (l:List Cla) (a b:X0):Bool:=match lk l a with
 | none=>false
 | some c=>(U3 c).any fun u=>(F7 l u).contains b
theorem Jr {l:List Cla} {a b:X0}:Xe l a b=true↔Ws (lk l) a b:=by
 unfold Xe Ws
 cases h:lk l a with
 | none=>simp
 | some c=>
  simp only[List.any_eq_true,List.contains_iff_mem,Ut]
  constructor
  ·rintro ⟨u,e,d⟩;exact ⟨c,rfl,u,e,d⟩
  ·rintro ⟨_,⟨⟩,u,e,d⟩;exact ⟨u,e,d⟩
def K7 (l:List Cla) (n:X0):Nat:=l.countP fun m=>Xe l n m.name
theorem Q1F (l:List Cla) (n:X0):K7 l n≤l.length:=List.countP_le_length
theorem Q42 {α:Type} {p q:α→Bool}: ∀{l:List α},(∀x∈l,p x=true→q x=true)→(∃x∈l,q x=true∧p x=false)→l.countP p<l.countP q:=by
 intro l
 induction l with
 | nil=>rintro _ ⟨x,hx,_⟩;simp at hx
 | cons a r e=>
  rintro h ⟨x,hx,c,d⟩
  have g:r.countP p≤r.countP q:=List.countP_mono_left fun x hx=>h x (by simp[hx])
  rw[List.countP_cons,List.countP_cons]
  rcases List.mem_cons.1 hx with rfl | hx
  ·rw[c,d];simp;omega
  ·have:=e (fun x hx=>h x (by simp[hx])) ⟨x,hx,c,d⟩
   have f:=h a (by simp)
   cases b:p a
   ·simp;split<;>omega
   ·rw[f b];simp;omega
theorem X1N {l:List Cla} (i:Jd l) {a b:X0} (h:Ws (lk l) a b):K7 l b<K7 l a:=by
 unfold K7
 refine Q42 (fun x _ f=>?_) ?_
 ·rw[Jr] at*
  exact h.trans f.reach
 ·obtain ⟨d,j⟩:=(Reach.right (h.reach))
  obtain ⟨e,g,_⟩:=V2 j
  refine ⟨d,g,?_,?_⟩
  ·rw[Jr,e];exact h
  ·cases c:Xe l b d.name with
   | false=>rfl
   | true=>rw[Jr,e] at c;exact absurd c (i b)
theorem Xw {l:List Cla} (f:Jd l) {a u:X0} {c d:Cla} (b:lk l a=some c) (e:u∈U3 c) (g:lk l u=some d):K7 l u<K7 l a:=
 X1N f ⟨c,b,u,e, .refl g⟩
theorem Q71 {l:List Cla} (i:Jd l): ∀(f g:Nat) (n:X0),K7 l n<f→K7 l n<g→G7 (lk l) f n=G7 (lk l) g n:=by
 intro f
 induction f with
 | zero=>intro g n h;omega
 | succ f e=>
  intro g n k j
  obtain ⟨g,rfl⟩: ∃m,g=m+1:=⟨g-1,by omega⟩
  simp only[G7]
  cases b:lk l n with
  | none=>rfl
  | some c=>
   simp only
   congr 1
   cases a:lk l c.super with
   | none=>cases f<;>cases g<;>simp[G7,a]
   | some d=>
    have:=Xw i b (by simp[U3]) a
    exact e g c.super (by omega) (by omega)
theorem T8 {l:List Cla} (a:Jd l) (n:X0):chain l n=match lk l n with | none=>[] | some c=>c::chain l c.super:=by
 have:=Q1F l n
 unfold chain
 rw[G7]
 cases e:lk l n with
 | none=>rfl
 | some c=>
  simp only
  congr 1
  cases b:lk l c.super with
  | none=>cases l.length<;>simp[G7,b]
  | some d=>
   have:=Xw a e (by simp[U3]) b
   exact Q71 a _ _ _ (by omega) (by omega)
theorem Yj {l:List Cla} {n:X0} (h:lk l n=none):chain l n=[]:=by simp[chain,G7,h]
theorem Dk {α β:Type} {f g:α→Option β}: ∀{l:List α},(∀x∈l,f x=g x)→l.findSome? f=l.findSome? g
 | [],_=>rfl
 | a::r,h=>by
  rw[List.findSome?_cons,List.findSome?_cons,h a (by simp),Dk fun x b=>h x (by simp[b])]
theorem Q6r {l:List Cla} (i:Jd l) (n:X0): ∀(f g:Nat) (c:Cla),lk l c.name=some c→K7 l c.name<f→K7 l c.name<g→Rs (lk l) f c n=Rs (lk l) g c n:=by
 intro f
 induction f with
 | zero=>intro g c _ h;omega
 | succ f j=>
  intro g c b p o
  obtain ⟨g,rfl⟩: ∃m,g=m+1:=⟨g-1,by omega⟩
  simp only[Rs]
  refine Dk fun u k=>?_
  cases a:lk l u with
  | none=>rfl
  | some d=>
   simp only
   cases B7 d n with
   | some m=>rfl
   | none=>
    simp only
    have:=Xw i b (by simp[U3,k]) a
    have e:=(V2 a).1
    exact j g d (by rw[e];exact a) (by rw[e];omega) (by rw[e];omega)
def V4 (l:List Cla) (c:Cla) (n:X0):Option (X0×Hm.Met):=Rs (lk l) (l.length+1) c n
theorem Q4p {l:List Cla} (b:Jd l) {c:Cla} (f:lk l c.name=some c) (n:X0):V4 l c n=c.like.findSome? fun u=>match lk l u with
 | none=>none
 | some d=>match B7 d n with
  | some m=>some (u,m)
  | none=>V4 l d n:=by
 have:=Q1F l c.name
 unfold V4
 rw[Rs]
 refine Dk fun u g=>?_
 cases a:lk l u with
 | none=>rfl
 | some d=>
  simp only
  cases B7 d n with
  | some m=>rfl
  | none=>
   have:=Xw b f (by simp[U3,g]) a
   have e:=(V2 a).1
   exact Q6r b n _ _ d (by rw[e];exact a) (by rw[e];omega) (by rw[e];omega)
def T6 (l:List Cla):Prop:=(l.map (·.name)).Nodup
theorem T6.lk {l:List Cla} (h:T6 l) {c:Cla} (f:c∈l):Go.Hm.lk l c.name=some c:=by
 obtain ⟨d,k⟩:=Q9i f
 obtain ⟨e,p,i,o,b⟩:=V2 k
 obtain ⟨j,m,rfl⟩:=List.getElem_of_mem f
 obtain ⟨a,g⟩:=List.getElem?_eq_some_iff.1 b
 have:i=j:=by
  have n:(l.map (·.name))[i]'(by simpa using a)=(l.map (·.name))[j]'(by simpa using m):=by simp[g,e]
  exact (List.getElem_inj h).1 n
 subst this
 rw[k,←g]
theorem T6.find {l:List Cla} (h:T6 l) {i:Nat} {c:Cla} (d:l[i]? =some c):Z2 l c.name=some i:=by
 obtain ⟨b,rfl⟩:=List.getElem?_eq_some_iff.1 d
 have:=h.lk (List.getElem_mem b)
 obtain ⟨e,n,j,g,k⟩:=V2 this
 obtain ⟨a,f⟩:=List.getElem?_eq_some_iff.1 k
 have:j=i:=by
  have m:(l.map (·.name))[j]'(by simpa using a)=(l.map (·.name))[i]'(by simpa using b):=by simp[f]
  exact (List.getElem_inj h).1 m
 rw[g,this]
end Go.Hm

namespace Go.Emb
open Go.RowKit Go.Hm
variable {P : Program} {w w0 w1 w' w'' : World} {K : Value → World → Prop} {σ σ0 σ1 σ2 σ' : Q5}
theorem Stp.join (c:Stp w σ w' σ1) (f:Stp w σ w' σ2): ∃d,Stp w σ w' d∧SLe σ1 d∧SLe σ2 d:=by
 have h: ∀b o,σ1 b=some o→(fun b=>(σ1 b).or (σ2 b)) b=some o:=fun b o e=>by simp[e]
 have i: ∀b o,σ2 b=some o→(fun b=>(σ1 b).or (σ2 b)) b=some o:=by
  intro b o e
  cases a:σ1 b with
  | none=>simp[a,e]
  | some p=>
   have j:=c.sat b p a
   have g:=f.sat b o e
   rw[j] at g;cases g;simp only[a,Option.some_or]
 refine ⟨fun b=>(σ1 b).or (σ2 b),⟨c.bel,?_,fun b o e=>h b o (c.le b o e),?_⟩,⟨h⟩,⟨i⟩⟩
 ·intro b o e
  cases a:σ1 b with
  | none=>simp only[a,Option.none_or] at e;exact f.sat b o e
  | some p=>simp only[a,Option.some_or] at e;cases e;exact c.sat b _ a
 ·intro b a
  simp only[c.old b a,f.old b a];cases σ b<;>rfl
theorem Wb {Φ:Q5→Value→Prop} {A a:(Value→World→Prop)→Prop} (h:A (fun v w'=> ∃σ',Stp w σ w' σ'∧Φ σ' v)) (c:a (fun v w'=> ∃σ',Stp w σ w' σ'∧Φ σ' v)):Q6 (fun w w'=>Below w.heap.size w w') A a:=
 H0 _ (fun _ _ _ ⟨σ',b,e⟩ d=>⟨σ',b.trans (Stp.of_below b.sat d),e⟩) h c
theorem Sv {Φ:Q5→Value→Prop} {v:Value} (b:Hst w σ w1 σ) (h:Stp w1 σ w' σ') (a:Φ σ' v):dk (fun w w'=>Below w.heap.size w w') (fun v w'=> ∃σ',Stp w σ w' σ'∧Φ σ' v) w1 v w':=
 ⟨h.bel,σ',b.stp.trans h,a⟩
theorem E7.mk {m:Hm.Met} {pv b a:Value} (h:Sl 1 U7 σ pv m.params) (g:Sl 3 Qp σ b m.code) (c:Sl 4 Jw σ a m.catches) (d:m.name.length≤U0) (e:m.result.length≤U0) (f:Yu m.locals):E7 σ m [S m.name,pv,S m.result, .bool m.abs,I m.locals,b,a]:=
 ⟨pv,b,a,rfl,h,g,c,d,e,f⟩
theorem V0.mk {c:Cla} {a b mv:Value} (h:Sl 1 U7 σ a c.like) (g:Sl 3 R7 σ b c.fields) (d:Sl 7 E7 σ mv c.methods) (e:c.name.length≤U0) (f:c.super.length≤U0):V0 σ c [S c.name,S c.super,a, .bool c.iface, .bool c.abs, .bool c.fin,b,mv]:=
 ⟨a,b,mv,rfl,h,g,d,e,f⟩
end Go.Emb
namespace Go.Hm
def SmM (m:Hm.Met):Prop:=m.params.length≤1000000∧m.code.length≤1000000∧m.catches.length≤1000000
def Qh (c:Cla):Prop:=c.like.length≤1000000∧c.fields.length≤1000000∧c.methods.length≤1000000∧ ∀m∈c.methods,SmM m
end Go.Hm
namespace Go.Proofs.YtjdiakhipmggjaaGreatDoor
open Go.Emb Go.RowKit Go.Kd Go.Hm
variable {w : World} {K : Value → World → Prop} {σ : Q5}
theorem Q46 {m:Hm.Met} {cs:List Value} (hs:X2 w σ) (Y:E7 σ m cs) (N:SmM m)
 (h: ∀pv o f w' σ',Stp w σ w' σ'→E7 σ' m [S m.name,pv,S m.result, .bool m.abs,I m.locals,o,f]→K (.agg [S m.name,pv,S m.result, .bool m.abs,I m.locals,o,f].toArray) w'):Q1 P F.c8 [.agg cs.toArray] w K:=Q4K (by
 obtain ⟨pv,o,f,rfl,M,y,J,g4,X,g6⟩:=Y
 obtain ⟨s1,s2,s3⟩:=N
 unfold Th
 refine Ev hs fun b w1 σ1 d g a=>?_
 refine N0 g.sat fun b2 w2 σ2 C j c=>?_
 have am:=a.lt
 replace a:=a.step j
 have E:=j.sat
 have M:=(M.up g).up j
 have y:=(y.up g).up j
 have J:=(J.up g).up j
 have L: ∀{w':World} (i:Nat) (v:Value),[S m.name,pv,S m.result, .bool m.abs,I m.locals,o,f][i]? =some v→Hst w2 σ2 w' σ2→w'.cell? ((⟨b,0,none⟩:Addr).add i)=some v:=fun i v f hh=>(a.step hh.stp).cell f
 refine U2 E ?_
 refine X4 (.pointer (some ((⟨b,0,none⟩:Addr).add 1))) (fun w d=>by rw[fa];exact X6 rfl) ?_
 refine X4 (.pointer (some ((⟨b,0,none⟩:Addr).add 5))) (fun w d=>by rw[fa];exact X6 rfl) ?_
 refine X4 (.pointer (some ((⟨b,0,none⟩:Addr).add 6))) (fun w d=>by rw[fa];exact X6 rfl) ?_
 refine X4 pv (fun t w d e=>by rw[e];exact Qc (L 1 pv rfl d) (X6 rfl)) ?_
 refine Wb (Φ:=fun σ' v=>Sl 1 U7 σ' v m.params) (fun t w d e=>by rw[e];exact Ln d.sat M s1 fun R w' σ' p f=>Sv d p f) ?_
 refine X4 o (fun t w d e=>by rw[e];exact Qc (L 5 o rfl d) (X6 rfl)) ?_
 refine Wb (Φ:=fun σ' v=>Sl 3 Qp σ' v m.code) (fun t w d e=>by rw[e];exact Ef d.sat y s2 fun R w' σ' p f=>Sv d p f) ?_
 refine X4 f (fun t w d e=>by rw[e];exact Qc (L 6 f rfl d) (X6 rfl)) ?_
 refine X4 (.pointer (some ((⟨b,0,none⟩:Addr).add 1))) (fun w d=>by rw[fa];exact X6 rfl) ?_
 refine Wb (Φ:=fun σ' v=>Sl 4 Jw σ' v m.catches) (fun t w d e=>by rw[e];exact Dw d.sat J s3 fun R w' σ' p f=>Sv d p f) ?_
 rintro t1 t2 t3 t4 Z t6 t8 t9 ag H w3 aj e1 e2 e3 e4 ⟨σ5,k5,s⟩ e6 ⟨σ8,k8,q⟩ e9 D ⟨an,A,k⟩
 subst D
 obtain ⟨σa,ka,z,B⟩:=k5.join k8
 obtain ⟨σ3,u,U,l2⟩:=ka.join A
 have s:=(s.lift z).lift U
 have q:=(q.lift B).lift U
 have k:=k.lift l2
 have a:=a.step u
 have c:=c.step u
 have n:b2≠b:=by omega
 have l:=(g.trans j).trans u
 refine Zu a (by simp) (Wn s) (A0 s) fun w4 W a=>?_
 rw[fa]
 have l:=W.stp l d a.1
 have c:=c.upd W n
 refine Zu a (by simp) (Wn q) (A0 q) fun w5 V a=>?_
 rw[fa]
 have l:=V.stp l d a.1
 have c:=c.upd V n
 refine Zu a (by simp) (Wn k) (A0 k) fun w6 Q a=>?_
 have l:=Q.stp l d a.1
 have c:=c.upd Q n
 refine Rr a rfl ?_
 have O:=E7.mk s q k g4 X g6
 have r:=M8 C g
 refine Oc c rfl rfl (by rw[List.all_toArray];exact List.all_eq_true.2 (Rep.one O)) fun w7 u7 c=>?_
 have l:=u7.stp l r c.1
 refine V1 c rfl ?_
 exact h Z t8 H w7 σ3 l O)
theorem X0x {c:Cla} {cs:List Value} (hs:X2 w σ) (hc:V0 σ c cs) (ar:Qh c)
 (h: ∀V X mv w' σ',Stp w σ w' σ'→V0 σ' c [S c.name,S c.super,V, .bool c.iface, .bool c.abs, .bool c.fin,X,mv]→K (.agg [S c.name,S c.super,V, .bool c.iface, .bool c.abs, .bool c.fin,X,mv].toArray) w'):Q1 P F.cz [.agg cs.toArray] w K:=Q4F (by
 obtain ⟨V,X,mv,rfl,g1,g2,W,g4,g5⟩:=hc
 obtain ⟨s1,s2,s3,s4⟩:=ar
 unfold Tk
 refine Ev hs fun b w1 σ1 l o f=>?_
 refine N0 o.sat fun R w2 σ2 ao r g=>?_
 have bo:=f.lt
 replace f:=f.step r
 have ap:=r.sat
 have g1:=(g1.up o).up r
 have g2:=(g2.up o).up r
 have W:=(W.up o).up r
 have L: ∀{w':World} (i:Nat) (v:Value),[S c.name,S c.super,V, .bool c.iface, .bool c.abs, .bool c.fin,X,mv][i]? =some v→Hst w2 σ2 w' σ2→w'.cell? ((⟨b,0,none⟩:Addr).add i)=some v:=fun i v U hh=>(f.step hh.stp).cell U
 refine U2 ap ?_
 refine X4 (.pointer (some ((⟨b,0,none⟩:Addr).add 2))) (fun w l=>by rw[fa];exact X6 rfl) ?_
 refine X4 (.pointer (some ((⟨b,0,none⟩:Addr).add 6))) (fun w l=>by rw[fa];exact X6 rfl) ?_
 refine X4 V (fun t w l e=>by rw[e];exact Qc (L 2 V rfl l) (X6 rfl)) ?_
 refine Wb (Φ:=fun σ' v=>Sl 1 U7 σ' v c.like) (fun t w l e=>by rw[e];exact Ln l.sat g1 s1 fun v' w' σ' H U=>Sv l H U) ?_
 refine X4 X (fun t w l e=>by rw[e];exact Qc (L 6 X rfl l) (X6 rfl)) ?_
 refine X4 (.pointer (some ((⟨b,0,none⟩:Addr).add 2))) (fun w l=>by rw[fa];exact X6 rfl) ?_
 refine Wb (Φ:=fun σ' v=>Sl 3 R7 σ' v c.fields) (fun t w l e=>by rw[e];exact Ha l.sat g2 s2 fun v' w' σ' H U=>Sv l H U) ?_
 rintro t6 t9 t7 t8 bh bf ac w3 bk e6 e9 e7 ⟨σ8,k8,f8⟩ br al ⟨bp,am,u⟩
 subst al
 obtain ⟨σ3,k3,l1,l2⟩:=k8.join am
 have f8:=f8.lift l1
 have u:=u.lift l2
 have W:=W.up k3
 have f:=f.step k3
 have g:=g.step k3
 have Q:R≠b:=by omega
 have hS:=(o.trans r).trans k3
 refine Zu f (by simp) (Wn f8) (A0 f8) fun w4 u4 f=>?_
 rw[fa]
 have hS:=u4.stp hS l f.1
 have g:=g.upd u4 Q
 refine Zu f (by simp) (Wn u) (A0 u) fun w5 u5 f=>?_
 rw[fa]
 have hS:=u5.stp hS l f.1
 have g:=g.upd u5 Q
 refine Ya f rfl ?_
 refine Q8 W ?_
 refine E3 c.methods.length (fun n a w'=> ∃σ',Stp w σ w' σ'∧SLe σ3 σ'∧V5 w.heap.size T.d 7 E7 σ' w' a (c.methods.take n)∧Y1 σ' w' b [S c.name,S c.super,t8, .bool c.iface, .bool c.abs, .bool c.fin,ac,mv]∧Y1 σ' w' R [S [],S [], .slice none 0 0, .bool false, .bool false, .bool false, .slice none 0 0, .slice none 0 0]∧ ∀k,a.ownBlock=some k→k≠b∧k≠R)
  ⟨σ3,hS,SLe.refl _,V5.nil,f,g,fun k H=>by cases H⟩ fun n a w6 d hn hi=>?_
 obtain ⟨σ6,C,B,ha,f,g,j⟩:=hi
 refine Z0 ?_
 refine Q7 (fun hh=>?_) (fun hh=>?_)
 ·have A:n<c.methods.length:=by simpa using hh
  have Y:c.methods.length≤9223372036854775807:=by omega
  refine M7 (W.lift B) A fun p cs hl z Z=>?_
  refine Y4 C.sat hl z ?_
  refine Y7 C.sat (by rfl) z (Rep.one Z) fun q w7 σ7 m hq=>?_
  refine Y4 m.sat hq z ?_
  refine Q46 m.sat (Rep.up m.le Z) (s4 _ (List.getElem_mem A)) fun pv cv U w8 σ8 N aw=>?_
  have M:=(Nxt.of_stp (D:=fun k=>a.ownBlock=some k) m).trans (Nxt.of_stp N)
  have av:=(ha.up m).up N
  have a2:=(f.nx M fun e=>(j _ e).1 rfl).lt
  have ay:=(g.nx M fun e=>(j _ e).2 rfl).lt
  refine Jv ((C.trans m).trans N) av aw rfl rfl rfl (by rw[List.length_take];omega) (by rw[List.length_take];omega) fun s v' w9 σ9 y ah ak hat=>?_
  refine N1 ?_
  have y:=M.trans y
  refine Z9 Y A ⟨σ9,ah,B.more y.le,?_,f.nx y fun e=>(j _ e).1 rfl,g.nx y fun e=>(j _ e).2 rfl,?_⟩
  ·rw[List.take_add_one,List.getElem?_eq_getElem A];exact ak
  ·intro k H
   rcases hat with hat | hat
   ·exact j k (hat▸H)
   ·have:=hat k H
    constructor<;>omega
 ·have A: ¬n<c.methods.length:=by simpa using hh
  rw[List.take_of_length_le (by omega)] at ha
  obtain ⟨σ7,O,J,aa,E⟩:=ha.keep C
  have f:Y1 σ7 w6 b _:=⟨(E b fun e=>(j b e.symm).1 rfl).trans f.1,f.2⟩
  have g:Y1 σ7 w6 R _:=⟨(E R fun e=>(j R e.symm).2 rfl).trans g.1,g.2⟩
  rw[fa]
  refine Zu f (by simp) (Wn J) (A0 J) fun w7 u7 f=>?_
  have O:=u7.stp O l f.1
  have g:=g.upd u7 Q
  refine Rr f rfl ?_
  have Z:=V0.mk (f8.lift (B.more ⟨aa⟩)) (u.lift (B.more ⟨aa⟩)) J g4 g5
  have ae:=M8 ao o
  refine Oc g rfl rfl (by rw[List.all_toArray];exact List.all_eq_true.2 (Rep.one Z)) fun w8 u8 g=>?_
  have an:=u8.stp O ae g.1
  refine V1 g rfl ?_
  exact h t8 ac a w8 σ7 an Z)
end Go.Proofs.YtjdiakhipmggjaaGreatDoor

namespace Go.Hm
open Go.Kd
def C4 {α:Type}:Nat→List α→List α
 | 0,xs=>xs
 | i+1,xs=>match (C4 i xs)[i]?,(C4 i xs)[xs.length-1-i]? with
  | some a,some b=>((C4 i xs).set i b).set (xs.length-1-i) a
  | _,_=>C4 i xs
theorem Q0Q {α:Type} (xs:List α): ∀i,2*i≤xs.length→(C4 i xs).length=xs.length∧ ∀k,k<xs.length→(C4 i xs)[k]? =if k<i∨xs.length-1-k<i then xs[xs.length-1-k]? else xs[k]?
 | 0,_=>⟨rfl,fun k j=>by simp[C4]⟩
 | i+1,h=>by
  obtain ⟨m,c⟩:=Q0Q xs i (by omega)
  have f:=c i (by omega)
  have d:=c (xs.length-1-i) (by omega)
  rw[if_neg (by omega)] at f d
  have n:i<xs.length:=by omega
  have b:xs.length-1-i<xs.length:=by omega
  rw[List.getElem?_eq_getElem (l:=xs) n] at f
  rw[List.getElem?_eq_getElem (l:=xs) b] at d
  simp only[C4,f,d]
  refine ⟨by simp[m],fun k j=>?_⟩
  by_cases a:k=xs.length-1-i
  ·subst a
   rw[List.getElem?_set_self (by simp[m];omega),if_pos (by omega)]
   rw[show xs.length-1-(xs.length-1-i)=i by omega,List.getElem?_eq_getElem (by omega)]
  ·rw[List.getElem?_set_ne (by omega)]
   by_cases e:k=i
   ·subst e
    rw[List.getElem?_set_self (by omega),if_pos (by omega),List.getElem?_eq_getElem (by omega)]
   ·rw[List.getElem?_set_ne (by omega),c k j]
    by_cases g:k<i∨xs.length-1-k<i
    ·rw[if_pos g,if_pos (by omega)]
    ·rw[if_neg g,if_neg (by omega)]
theorem Q9m {α:Type} (xs:List α) (i:Nat) (d:2*i≤xs.length) (f:xs.length≤2*i+1):C4 i xs=xs.reverse:=by
 obtain ⟨e,c⟩:=Q0Q xs i d
 apply List.ext_getElem?
 intro k
 by_cases b:k<xs.length
 ·rw[c k b,List.getElem?_reverse b]
  by_cases a:k<i∨xs.length-1-k<i
  ·rw[if_pos a]
  ·rw[if_neg a];congr 1;omega
 ·rw[List.getElem?_eq_none (by omega),List.getElem?_eq_none (by simp;omega)]
theorem Iu (L:Wr): ∀(f:Nat) (n:X0),(G7 L f n).length≤f
 | 0,_=>by simp[G7]
 | f+1,n=>by
  simp only[G7]
  split
  ·simp
  ·have:=Iu L f (by rename_i c _;exact c.super)
   simp only[List.length_cons];rename_i c _;have:=Iu L f c.super;omega
theorem Bb (l:List Cla) (n:X0):(chain l n).length≤l.length+1:=Iu _ _ _
theorem Cr {l:List Cla} {n:X0} {c:Cla} (h:c∈chain l n):c∈l:=by
 have key: ∀(f:Nat) (n:X0),c∈G7 (lk l) f n→c∈l:=by
  intro f
  induction f with
  | zero=>intro n h;simp[G7] at h
  | succ f a=>
   intro n h
   simp only[G7] at h
   split at h
   ·simp at h
   ·rename_i d b
    rcases List.mem_cons.1 h with rfl | h
    ·exact (V2 b).2.1
    ·exact a _ h
 exact key _ _ h
theorem Vp {α β:Type} (f:α→List β) (k:Nat): ∀(xs:List α),(∀x∈xs,(f x).length≤k)→(xs.flatMap f).length≤xs.length*k
 | [],_=>by simp
 | x::r,h=>by
  have b:=h x (by simp)
  have c:=Vp f k r fun y a=>h y (by simp[a])
  simp only[List.flatMap_cons,List.length_append,List.length_cons,Nat.add_mul];omega
end Go.Hm

namespace Go.Hm
open Go.Kd
def Y2 (l:List Cla) (i:Nat):X0:=(l.getD i Cla.zero).name
theorem Xz {l:List Cla} (b:T6 l) {i:Nat} (a:i<l.length):lk l (Y2 l i)=some (l.getD i Cla.zero):=by
 have e:l.getD i Cla.zero=l[i]:=by rw[List.getD_eq_getElem?_getD,List.getElem?_eq_getElem a];rfl
 unfold Y2
 rw[e];exact b.lk (List.getElem_mem a)
theorem S2 {l:List Cla} {u:X0} {j:Nat} (h:Z2 l u=some j):j<l.length∧Y2 l j=u:=by
 obtain ⟨a,b,_⟩:=List.findIdx?_eq_some_iff_getElem.1 h
 refine ⟨a,?_⟩
 unfold Y2
 rw[List.getD_eq_getElem?_getD,List.getElem?_eq_getElem a]
 simpa using b
theorem Q1B {l:List Cla} (g:Jd l) (d:T6 l) {i j:Nat} (e:i<l.length) {u:X0} (f:u∈U3 (l.getD i Cla.zero)) (a:Z2 l u=some j):K7 l (Y2 l j)<K7 l (Y2 l i):=by
 obtain ⟨c,b,_⟩:=Zg a
 rw[(S2 a).2]
 exact Xw g (Xz d e) f b
theorem Bt {α β:Type} {f g:β→α→β}: ∀(xs:List α) (b:β),(∀b x,x∈xs→f b x=g b x)→xs.foldl f b=xs.foldl g b
 | [],_,_=>rfl
 | x::r,b,h=>by
  rw[List.foldl_cons,List.foldl_cons,h b x (by simp)]
  exact Bt r _ fun b y a=>h b y (by simp[a])
theorem Yv {l:List Cla} {frm:Nat} (f:Nat) (a:List Nat) {i:Nat} (h:i<frm):T9 l frm f a i=a:=by
 cases f<;>simp[T9,h]
theorem Q9f {l:List Cla} (n:Jd l) (e:T6 l) {frm:Nat} (d:0<frm): ∀(f g:Nat) (a:List Nat) (i:Nat),i<l.length→K7 l (Y2 l i)<f→K7 l (Y2 l i)<g→T9 l frm f a i=T9 l frm g a i:=by
 intro f
 induction f with
 | zero=>intro g a i _ h;omega
 | succ f o=>
  intro g a i k q r
  obtain ⟨g,rfl⟩: ∃m,g=m+1:=⟨g-1,by omega⟩
  simp only[T9]
  split
  ·rfl
  ·split
   ·rfl
   ·congr 1
    refine Bt _ _ fun b u p=>?_
    cases c:Z2 l u with
    | none=>simp only[Option.getD_none];rw[Yv f b d,Yv g b d]
    | some j=>
     simp only[Option.getD_some]
     have:=Q1B n e k p c
     exact o g b j (S2 c).1 (by omega) (by omega)
def Xk (l:List Cla) (frm:Nat) (a:List Nat) (i:Nat):List Nat:=T9 l frm (l.length+1) a i
theorem Q7c {l:List Cla} (f:Jd l) (e:T6 l) {frm:Nat} (c:0<frm) (a:List Nat) {i:Nat} (g:i<l.length):Xk l frm a i=if i<frm then a else if i∈a then a else
 ((U3 (l.getD i Cla.zero)).foldl (fun a n=>Xk l frm a ((Z2 l n).getD 0)) a)++[i]:=by
 have k:=Q1F l (Y2 l i)
 unfold Xk
 rw[T9]
 split
 ·rfl
 ·split
  ·rfl
  ·congr 1
   refine Bt _ _ fun b u h=>?_
   cases d:Z2 l u with
   | none=>simp only[Option.getD_none];rw[Yv _ b c,Yv _ b c]
   | some j=>
    simp only[Option.getD_some]
    have:=Q1B f e g h d
    exact Q9f f e c _ _ b j (S2 d).1 (by omega) (by omega)
theorem Wy {α:Type} {p:Nat→Prop} {f:List Nat→α→List Nat}: ∀(xs:List α) (b:List Nat),(∀b x,x∈xs→ ∀y∈f b x,y∈b∨p y)→ ∀y∈xs.foldl f b,y∈b∨p y
 | [],b,_=>fun y a=> .inl a
 | x::r,b,h=>fun y a=>by
  rw[List.foldl_cons] at a
  rcases Wy r _ (fun b z c=>h b z (by simp[c])) y a with h1 | h1
  ·exact h b x (by simp) y h1
  ·exact .inr h1
theorem Q6a {l:List Cla} (m:T6 l) {frm:Nat} (q:0<frm): ∀(f:Nat) (a:List Nat) (i:Nat),i<l.length→ ∀y∈T9 l frm f a i,y∈a∨(y<l.length∧(y=i∨Ws (lk l) (Y2 l i) (Y2 l y))):=by
 intro f
 induction f with
 | zero=>intro a i _ y hy;exact .inl hy
 | succ f s=>
  intro a i g y hy
  simp only[T9] at hy
  split at hy
  ·exact .inl hy
  ·split at hy
   ·exact .inl hy
   ·rcases List.mem_append.1 hy with hy | hy
    ·refine Wy (p:=fun y=>y<l.length∧(y=i∨Ws (lk l) (Y2 l i) (Y2 l y))) _ _ (fun b u o y hy=>?_) y hy
     cases e:Z2 l u with
     | none=>
      rw[e] at hy
      simp only[Option.getD_none] at hy
      rw[Yv f b q] at hy
      exact .inl hy
     | some j=>
      rw[e] at hy
      simp only[Option.getD_some] at hy
      obtain ⟨k,d⟩:=S2 e
      obtain ⟨c,r,_⟩:=Zg e
      rcases s b j k y hy with h | ⟨n,rfl | h2⟩
      ·exact .inl h
      ·exact .inr ⟨n, .inr ⟨_,Xz m g,u,o,by rw[d];exact .refl r⟩⟩
      ·exact .inr ⟨n, .inr ⟨_,Xz m g,u,o,by rw[←d];exact h2.reach⟩⟩
    ·simp at hy;subst hy;exact .inr ⟨g, .inl rfl⟩
theorem Q3q {α:Type} {q:List Nat→Prop} {f:List Nat→α→List Nat}: ∀(xs:List α) (b:List Nat),(∀b x,x∈xs→q b→q (f b x))→q b→q (xs.foldl f b)
 | [],b,_,h=>h
 | x::r,b,a,h=>by
  rw[List.foldl_cons]
  exact Q3q r _ (fun b z c=>a b z (by simp[c])) (a b x (by simp) h)
def Few (l:List Cla) (a:List Nat):Prop:=a.Nodup∧ ∀y∈a,y<l.length
theorem Few.len {l:List Cla} {b:List Nat} (h:Few l b):b.length≤l.length:=by
 have key: ∀(n:Nat) (b:List Nat),b.Nodup→(∀y∈b,y<n)→b.length≤n:=by
  intro n
  induction n with
  | zero=>
   intro b _ h
   cases b with
   | nil=>simp
   | cons a r=>have:=h a (by simp);omega
  | succ n m=>
   intro b f h
   have g:=m (b.filter (fun y=> !decide (y=n))) (f.sublist List.filter_sublist) (fun y c=>by
    have:=List.mem_filter.1 c
    have j:=h y this.1
    have o:y≠n:=by simpa using this.2
    omega)
   have j:b.length≤(b.filter (fun y=> !decide (y=n))).length+1:=by
    clear g h
    induction b with
    | nil=>simp
    | cons a r d=>
     obtain ⟨k,i⟩:=List.nodup_cons.1 f
     by_cases e:a=n
     ·subst e
      have:r.filter (fun y=> !decide (y=a))=r:=List.filter_eq_self.2 fun y c=>by simp;rintro rfl;exact k c
      simp[this]
     ·have:=d i
      simp[e];exact this
   omega
 exact key _ _ h.1 h.2
theorem Iy {l:List Cla} (t:Jd l) (o:T6 l) {frm:Nat} (q:0<frm): ∀(f:Nat) (d:List Nat) (i:Nat),i<l.length→Few l d→Few l (T9 l frm f d i):=by
 intro f
 induction f with
 | zero=>intro d i _ h;exact h
 | succ f C=>
  intro d i A h
  simp only[T9]
  split
  ·exact h
  ·split
   ·exact h
   ·rename_i s
    have z:Few l ((U3 (l.getD i Cla.zero)).foldl (fun d n=>T9 l frm f d ((Z2 l n).getD 0)) d):=by
     refine Q3q _ _ (fun b u w m=>?_) h
     cases e:Z2 l u with
     | none=>simp only[Option.getD_none];rw[Yv f b q];exact m
     | some j=>exact C b j (S2 e).1 m
    have v:i∉(U3 (l.getD i Cla.zero)).foldl (fun d n=>T9 l frm f d ((Z2 l n).getD 0)) d:=by
     intro g
     rcases Wy (p:=fun y=>Ws (lk l) (Y2 l i) (Y2 l y)) _ _ (fun b u w y hy=>by
      cases e:Z2 l u with
      | none=>
       rw[e] at hy
       simp only[Option.getD_none] at hy
       rw[Yv f b q] at hy
       exact .inl hy
      | some j=>
       rw[e] at hy
       simp only[Option.getD_some] at hy
       obtain ⟨r,k⟩:=S2 e
       obtain ⟨c,B,_⟩:=Zg e
       rcases Q6a o q f b j r y hy with h | ⟨h1,rfl | h2⟩
       ·exact .inl h
       ·exact .inr ⟨_,Xz o A,u,w,by rw[k];exact .refl B⟩
       ·exact .inr ⟨_,Xz o A,u,w,by rw[←k];exact h2.reach⟩) i g with h1 | h1
     ·exact s h1
     ·exact t _ h1
    refine ⟨?_,fun y hy=>?_⟩
    ·rw[List.nodup_append]
     exact ⟨z.1,by simp,by rintro a t b m rfl;simp at m;subst m;exact v t⟩
    ·rcases List.mem_append.1 hy with hy | hy
     ·exact z.2 y hy
     ·simp at hy;omega
end Go.Hm

namespace Go.Emb
open Go.RowKit Go.Hm
variable {P : Program} {w w0 w1 w' w'' : World} {K : Value → World → Prop} {σ σ0 σ1 σ' : Q5}
def Vq (sz:Nat) (v:Value) (i:Nat):Addr:=match v with
 | .slice (some b) _ _=>b.add (i*sz)
 | _=>⟨0,0,none⟩
section
variable {α : Type} {R : Q5 → α → List Value → Prop} {sz : Nat} {v : Value} {xs : List α}
theorem Sl.el (h:Sl sz R σ v xs) {i:Nat} (c:i<xs.length): ∃cs,Z4 σ (Vq sz v i) cs∧cs.length=sz∧R σ xs[i] cs:=by
 obtain ⟨a,f,rfl,m,l,d,g⟩:=h
 cases a with
 | none=>have:=d rfl;omega
 | some b=>
  obtain ⟨cs,k,e,j⟩:=(g b rfl).2 i xs[i] (by simp[c])
  exact ⟨cs,k,e,j⟩
theorem Y3 {t e:TypeId} {c:Nat} {z:Value} [TS P t e] [TZ P e sz c z] (h:Sl sz R σ v xs) {i:Nat} (k:i<xs.length) (f:K (.pointer (some (Vq sz v i))) w):indexAddr P t v (I i) w K:=by
 obtain ⟨a,g,rfl,m,j,d,l⟩:=h
 cases a with
 | none=>have:=d rfl;omega
 | some b=>
  rw[Si (by omega) (by omega)]
  simpa [Vq] using f
theorem Sl.elS {xs:List Kd.X0} (h:Sl 1 U7 σ v xs) {i:Nat} (a:i<xs.length):Z4 σ (Vq 1 v i) [S xs[i]]∧xs[i].length≤U0:=by
 obtain ⟨cs,c,d,rfl,b⟩:=h.el a;exact ⟨c,b⟩
theorem Sl.elF {xs:List Fld} (h:Sl 3 R7 σ v xs) {i:Nat} (a:i<xs.length):Z4 σ (Vq 3 v i) [S xs[i].name,S xs[i].kind, .bool xs[i].tr]∧R7 σ xs[i] [S xs[i].name,S xs[i].kind, .bool xs[i].tr]:=by
 obtain ⟨cs,c,d,rfl,b⟩:=h.el a;exact ⟨c,rfl,b⟩
theorem Sl.elI {xs:List Ins} (h:Sl 3 Qp σ v xs) {i:Nat} (a:i<xs.length):Z4 σ (Vq 3 v i) [S xs[i].op,I xs[i].n,S xs[i].s]∧Qp σ xs[i] [S xs[i].op,I xs[i].n,S xs[i].s]:=by
 obtain ⟨cs,c,d,rfl,b⟩:=h.el a;exact ⟨c,rfl,b⟩
theorem Sl.elK {xs:List Cat} (h:Sl 4 Jw σ v xs) {i:Nat} (a:i<xs.length):Z4 σ (Vq 4 v i) [I xs[i].frm,I xs[i].to,I xs[i].at_,S xs[i].cls]∧Jw σ xs[i] [I xs[i].frm,I xs[i].to,I xs[i].at_,S xs[i].cls]:=by
 obtain ⟨cs,c,d,rfl,b⟩:=h.el a;exact ⟨c,rfl,b⟩
theorem Sl.conv {α β:Type} {R:Q5→α→List Value→Prop} {R':Q5→β→List Value→Prop} {sz:Nat} {v:Value} {xs:List α} {ys:List β} (h:Sl sz R σ v xs) (j:ys.length=xs.length) (o: ∀i (e:i<xs.length) (s:i<ys.length) cs,R σ xs[i] cs→R' σ ys[i] cs):Sl sz R' σ v ys:=by
 obtain ⟨a,d,rfl,p,l,n,f⟩:=h
 refine ⟨a,d,by rw[j],by rw[j];exact p,l,n,fun b g=>⟨fun t=>(f b g).1 (by omega),fun i x k=>?_⟩⟩
 obtain ⟨e,rfl⟩:=List.getElem?_eq_some_iff.1 k
 have c:i<xs.length:=by omega
 obtain ⟨cs,r,m,q⟩:=(f b g).2 i xs[i] (List.getElem?_eq_getElem c)
 exact ⟨cs,r,m,o i c e cs q⟩
theorem Sl.elM {xs:List Hm.Met} (h:Sl 7 E7 σ v xs) {i:Nat} (c:i<xs.length): ∃pv b a,Z4 σ (Vq 7 v i) [S xs[i].name,pv,S xs[i].result, .bool xs[i].abs,I xs[i].locals,b,a]∧E7 σ xs[i] [S xs[i].name,pv,S xs[i].result, .bool xs[i].abs,I xs[i].locals,b,a]:=by
 obtain ⟨cs,e,f,pv,b,a,rfl,d⟩:=h.el c;exact ⟨pv,b,a,e,pv,b,a,rfl,d⟩
theorem Sl.elC {xs:List Cla} (h:Sl 8 V0 σ v xs) {i:Nat} (c:i<xs.length): ∃a b mv,Z4 σ (Vq 8 v i) [S xs[i].name,S xs[i].super,a, .bool xs[i].iface, .bool xs[i].abs, .bool xs[i].fin,b,mv]∧V0 σ xs[i] [S xs[i].name,S xs[i].super,a, .bool xs[i].iface, .bool xs[i].abs, .bool xs[i].fin,b,mv]:=by
 obtain ⟨cs,e,f,a,b,mv,rfl,d⟩:=h.el c;exact ⟨a,b,mv,e,a,b,mv,rfl,d⟩
end
theorem J5 {c:World→World→Prop} {A a:(Value→World→Prop)→Prop} {V:Value} (h:A (fun v _=>V=v)) (b:a (fun v _=>V=v)):Q6 c A a:=H0 _ (fun _ _ _ h _=>h) h b
theorem O8 {v V:Value} (h:V=v):dk (fun w w'=>Below w.heap.size w w') (fun v _=>V=v) w v w:=⟨Below.refl _ _,h⟩
theorem S7 {v V:Value} (a:Below w.heap.size w w') (h:V=v):dk (fun w w'=>Below w.heap.size w w') (fun v _=>V=v) w v w':=⟨a,h⟩
theorem I1 {c b:Bool} {V:Value} {a:World→(Value→World→Prop)→Prop} (h:c=b→a w (dk (fun w w'=>Below w.heap.size w w') (fun v _=>V=v) w)):Q0 (.bool c) b w a (dk (fun w w'=>Below w.heap.size w w') (fun v _=>(if c=b then V else undef)=v) w):=by
 by_cases e:c=b
 ·simp only[e,if_true]
  subst e
  have:=h rfl
  cases c
  ·rw[W7];exact this
  ·rw[W5];exact this
 ·have d:c= !b:=by cases c<;>cases b<;>simp_all
  rw[if_neg e];subst d
  cases b
  ·rw[Bool.not_false,S1];exact ⟨Below.refl _ _,rfl⟩
  ·rw[Bool.not_true,E1];exact ⟨Below.refl _ _,rfl⟩
theorem Qd {p:Prop} (hq:p:=by intros;(repeat (rename_i hx;subst hx));(repeat' (first | (with_reducible exact O8 rfl) | (with_reducible exact S7 (Stp.bel (by (repeat (first | exact Stp.refl (by (first | assumption | exact Stp.sat (by assumption) | exact Hst.sat (by assumption))) | assumption | refine Stp.trans ?_ (by first | assumption | exact Hst.stp (by assumption)))))) rfl) | (with_reducible intro _) | (simp only[↓M2,M2,Mb,reduceIte]) | (with_reducible show Q2 _ _ _ _ _;first | refine X7 aS aL aR ?_ | refine Y4 aS aL aR ?_ | refine ld aS aL aR ?_) | (with_reducible show indexAddr _ _ _ _ _ _;refine Y3 aL au ?_) | (with_reducible show X3 _ _ _ _ _ _ _ _;refine Q8 aL ?_) | (with_reducible show F2 _ _ _ _ _ _;refine J0 aR ?_) | (with_reducible show pick _ _ _ _ _ _;refine M9 ?_) | (apply I1;intro hh;(try simp only[hh,reduceIte,↓M2,M2,Mb,reduceIte]))));done):p:=hq
end Go.Emb

namespace Go.Emb
open Go.RowKit Go.Hm
variable {P : Program} {w w0 w1 w' w'' : World} {K : Value → World → Prop} {σ σ0 σ1 σ' : Q5}
section
variable {α : Type} {R : Q5 → α → List Value → Prop} {B sz : Nat} {e : TypeId} {v u : Value} {xs ys : List α}
def Emp (v:Value):Prop:= ∃a,v= .slice a 0 0
theorem Q79 {t y:TypeId} {s:Nat} {z:Value} {cs:List Bool} [ts:TS P t e] [tz:TZ P e sz s z] [hr:Rep R] (W:Stp w0 σ0 w σ) (ha:V5 w0.heap.size e sz R σ w v []) (hv:Emp v) (J:X2 w σ') (Y:Sl sz R σ' u ys) (hR: ∀x cs,R σ' x cs→R σ x cs) (Z:(z.cells.size==sz&&decide (0<sz))=true)
 (hb:ys.length*s≤140737488355328) (hm:ys.length≤1000000000000)
 (h: ∀l w',Stp w σ w' σ→V5 w0.heap.size e sz R σ w' l ys→K l w'):X3 P .append [t,t] y cs [v,u] w K:=by
 obtain ⟨j,rfl⟩:=hv
 have E:=W.sat
 obtain ⟨a,d,c,rfl,n1,r,n3,n4,n5⟩:=Y.cells J
 obtain ⟨i,V,O,Q,m⟩:=tz.info
 simp only[Bool.and_eq_true,beq_iff_eq,decide_eq_true_eq] at Z
 obtain ⟨N,ah⟩:=Z
 have g:Src P i.size t (.slice a ys.length d) ys.length c w:=by
  cases a with
  | some b=>exact Src.ofSlice w ts.h b ys.length d c (by rw[O];exact r) (n3 b rfl) n4
  | none=>
   have p:ys.length=0:=by
    obtain ⟨a',X,e',q1,_,q3,_⟩:=Y;injection e' with e1 e2 e3;have:=n1 rfl;omega
   have M:c=[]:=List.eq_nil_of_length_eq_zero (by rw[r,p];simp)
   subst M
   rw[p];exact Src.ofNil w ts.h d
 have C: ∀l w',(Builtin.append_ #[t,t] y #[.slice j 0 0, .slice a ys.length d]).run P w= .ok l w'→Stp w σ w' σ→V5 w0.heap.size e sz R σ w' l ys→X3 P .append [t,t] y cs [.slice j 0 0, .slice a ys.length d] w K:=by
  intro l w' f D hq
  have o:(builtin .append #[t,t] y cs.toArray #[.slice j 0 0, .slice a ys.length d]).run P w= .ok (.value l) w':=by
   simp[builtin,f]
  unfold X3
  rw[P9];unfold K9
  rw[o]
  exact h l w' D hq
 by_cases p:ys=[]
 ·subst p
  have M:c=[]:=List.eq_nil_of_length_eq_zero (by simpa using r)
  subst M
  refine C (.slice j 0 0) w ?_ (Stp.refl E) ha
  have hl:=g.len w
  have q:=g.cells
  simp only[List.length_nil] at hl q⊢
  cases j<;>simp[Builtin.append_,run_underlying ts.h,sizeOf,typeInfo,V,hl,q,storeCells]
 ·have aq:0<ys.length:=List.length_pos_iff.2 p
  have n:(Builtin.firstCells i.size 0 (.slice j 0 0)).run P w.drew= .ok (#[]:Array Value) w.drew:=by
   cases j with
   | none=>exact run_firstCells_none w.drew i.size 0 0 0
   | some a'=>exact run_firstCells_some w.drew i.size 0 a' 0 0 [] (by simp) (by intro _ _ h';simp at h')
  have U:0<0+ys.length:=by omega
  have f:=run_append_grow_src (P:=P) w t t y e i z ts.h V m j 0 0 [] n (.slice a ys.length d) ys.length c g U (by omega) (growslice_fits U (by rw[Q,Nat.zero_add];exact hb))
  simp only[Nat.zero_add] at f
  have L:=grownCap_le_maxLen w ys.length 0 e (by simp only[maxLen];omega)
  have H:=grownCap_ge w ys.length 0 e
  refine C _ _ f (Stp.of_below E ((Below.refl _ _).drew.alloc (Nat.le_refl _) _)) ⟨c,⟨r, .inr ⟨w.heap.size,_,_,rfl,W.bel.size,heap_alloc_new w.drew _,H,L,?_,?_⟩⟩,?_,fun i x hx=>hR _ _ (n5 i x hx)⟩
  ·simp only[List.nil_append]
   rw[Array.size_append,List.size_toArray,r,size_zeroCells,N,←Nat.add_mul]
   congr 1;omega
  ·simp only[List.nil_append]
   rw[Array.toList_append]
   rw[List.take_append_of_le_length (by simp only[List.toList_toArray];omega),List.take_of_length_le (by simp only[List.toList_toArray];omega)]
  ·intro k D;cases D;exact E.none (Nat.le_refl _)
theorem X2C {t i:TypeId} {a:Nat} {z:Value} {cs:List Bool} [ts:TS P t e] [tz:TZ P e sz a z] [hr:Rep R] (b:Stp w0 σ0 w σ) (l:V5 w0.heap.size e sz R σ w v []) (d:Emp v) (g:Sl sz R σ u ys) (j:(z.cells.size==sz&&decide (0<sz))=true)
 (f:ys.length*a≤140737488355328) (k:ys.length≤1000000000000)
 (h: ∀c w',Stp w σ w' σ→V5 w0.heap.size e sz R σ w' c ys→K c w'):X3 P .append [t,t] i cs [v,u] w K:=
 Q79 b l d b.sat g (fun _ _ h=>h) j f k h
end
def X0I {α:Type} (w0:World) (σ:Q5) (e:TypeId) (sz:Nat) (R:Q5→α→List Value→Prop) (xs:List α) (v:Value) (w':World):Prop:=Stp w0 σ w' σ∧V5 w0.heap.size e sz R σ w' v xs
def Q7O {α:Type} (w0:World) (σ:Q5) (e:TypeId) (sz:Nat) (R:Q5→α→List Value→Prop) (v:Value) (w':World):Prop:=Stp w0 σ w' σ∧V5 w0.heap.size e sz R σ w' v ([]:List α)∧Emp v
section
variable {α : Type} {R : Q5 → α → List Value → Prop} {sz : Nat} {e : TypeId} {v u : Value} {xs ys : List α} {A rest : (Value → World → Prop) → Prop}
theorem Q1v [Rep R] (xs:List α) (h:A (X0I w σ e sz R xs)) (c:rest (X0I w σ e sz R xs)):Q6 (fun w w'=>Below w.heap.size w w') A rest:=
 H0 _ (fun _ _ _ ⟨a,d⟩ b=>⟨a.trans (Stp.of_below a.sat b),d.up (Stp.of_below a.sat b)⟩) h c
theorem X2p [Rep R] (h:A (Q7O w σ e sz R)) (c:rest (Q7O w σ e sz R)):Q6 (fun w w'=>Below w.heap.size w w') A rest:=
 H0 _ (fun _ _ _ ⟨a,f,d⟩ b=>⟨a.trans (Stp.of_below a.sat b),f.up (Stp.of_below a.sat b),d⟩) h c
theorem Q2I (a:Hst w σ w1 σ) (h:Stp w1 σ w' σ) (b:V5 w.heap.size e sz R σ w' v xs):dk (fun w w'=>Below w.heap.size w w') (X0I w σ e sz R xs) w1 v w':=⟨h.bel,a.stp.trans h,b⟩
theorem X2E (b:Hst w σ w1 σ) (h:Stp w1 σ w' σ) (c:V5 w.heap.size e sz R σ w' v ([]:List α)) (a:Emp v):dk (fun w w'=>Below w.heap.size w w') (Q7O w σ e sz R) w1 v w':=⟨h.bel,b.stp.trans h,c,a⟩
theorem Ee {t:TypeId} {b:Nat} {z:Value} [ts:TS P t e] [tz:TZ P e sz b z] (R:Q5→α→List Value→Prop) (c:Stp w0 σ0 w σ) (f:0<sz)
 (h: ∀v w',Stp w σ w' σ→V5 w0.heap.size e sz R σ w' v ([]:List α)→Emp v→K v w'):buildSlice P t 0 [] w K:=by
 obtain ⟨cells,i,g⟩:=Hh (P:=P) (t:=t) (sz:=sz) (e:=e) [] (by simp) (by simp) w
 unfold buildSlice
 have a:(Instr.buildSlice t 0 ([]:List (Nat×Value)).toArray).run P w=_:=i
 rw[X9 a]
 refine h _ _ (Stp.own c.sat _) ⟨[],⟨by simp, .inr ⟨_,_,cells,rfl,c.bel.size,heap_alloc_new w _,by simp,by simp[maxLen],?_,by simp⟩⟩,?_,by simp⟩ ⟨_,rfl⟩
 ·have:cells.size=0:=by rw[←Array.length_toList,g];rfl
  simp[this]
 ·intro k d;cases d;exact c.sat.none (Nat.le_refl _)
theorem Q2W [Rep R] {t:TypeId} {a:Nat} {z:Value} [ts:TS P t e] [tz:TZ P e sz a z] (b:(decide (0<sz))=true) (d:rest (Q7O w σ e sz R)):
 Q6 (fun w w'=>Below w.heap.size w w') (fun φ=> ∀w1:World,Hst w σ w1 σ→buildSlice P t 0 [] w1 (dk (fun w w'=>Below w.heap.size w w') φ w1)) rest:=
 X2p (fun w1 c=>Ee R c.stp (by simpa using b) fun v w' g h f=>X2E c g h f) d
end
theorem V0.parts {c:Cla} {a b i d e f j mv:Value} (h:V0 σ c [a,b,i,d,e,f,j,mv]):Sl 1 U7 σ i c.like∧Sl 3 R7 σ j c.fields∧Sl 7 E7 σ mv c.methods∧c.name.length≤U0∧c.super.length≤U0:=by
 obtain ⟨_,_,_,g,k⟩:=h
 simp only[List.cons.injEq,and_true] at g
 obtain ⟨_,_,rfl,_,_,_,rfl,rfl⟩:=g
 exact k
theorem E7.parts {m:Hm.Met} {a pv b d e g c:Value} (h:E7 σ m [a,pv,b,d,e,g,c]):Sl 1 U7 σ pv m.params∧Sl 3 Qp σ g m.code∧Sl 4 Jw σ c m.catches∧m.name.length≤U0∧m.result.length≤U0∧Yu m.locals:=by
 obtain ⟨_,_,_,f,i⟩:=h
 simp only[List.cons.injEq,and_true] at f
 obtain ⟨_,rfl,_,_,_,rfl,rfl⟩:=f
 exact i
end Go.Emb

namespace Go.Emb
open Go.RowKit
variable {P : Program} {w : World} {K : Value → World → Prop}
theorem X1Y {d:Nat} {xs ys:Array Value}:(Op.eqFields d xs ys []).run P w= .ok true w:=by simp[Op.eqFields]
theorem Pb {d:Nat} {xs ys:Array Value} {f:Field} {a:List Field} {u v:Value} {b c:Bool} (h:f.name≠ "_") [tg:TG P f.type false] (g:xs[f.offset]? =some u) (e:ys[f.offset]? =some v)
 (j:(Op.equalIn d f.type u v).run P w= .ok b w) (i:(Op.eqFields d xs ys a).run P w= .ok c w):(Op.eqFields d xs ys (f::a)).run P w= .ok (b&&c) w:=by
 simp only[Op.eqFields,if_pos h]
 simp[part,Xu tg,g,e,j]
 cases b
 ·simp
 ·simp[i]
theorem X2m {d:Nat} {t:TypeId} (c:P.underlying t=some .string) (a b:List UInt8):(Op.equalIn (d+1) t (S a) (S b)).run P w= .ok (decide (a=b)) w:=by
 simp[Op.equalIn,run_underlying c,Ex]
theorem Q3y {d:Nat} {t:TypeId} {k c:IntKind} (f:P.underlying t=some (.int k)) (a b:Int):(Op.equalIn (d+1) t (.int c a) (.int c b)).run P w= .ok (decide (a=b)) w:=by
 simp[Op.equalIn,run_underlying f]
 by_cases e:a=b<;>simp[e]
theorem X1I {t:TypeId} {a c:Operand} {xs ys:List Value} {b:Bool} (f:P.underlying t=some (.struct (P.fieldsOf t))) (i:P.stoodInHeld t=false) (g:P.eqGuardType P.depth t=false)
 (d:(Op.eqFields 9999 xs.toArray ys.toArray (P.fieldsOf t).toList).run P w= .ok b w) (h:K (.bool b) w):Q3 P .eql t a c (.agg xs.toArray) (.agg ys.toArray) w K:=by
 have e:Q3 P .eql t a c (.agg xs.toArray) (.agg ys.toArray) w K=K (.bool b) w:=X9 (by
  simp only[Sem.run_bind,run_eqGuard_agg w .eql t a c xs.toArray ys.toArray g,Result.andThen_ok]
  rw[run_eql_struct,run_equalIn_struct w 9999 t _ _ f i,d];rfl)
 rw[e];exact h
end Go.Emb
namespace Go.Proofs.YtjdiakhipmggjaaGreatDoor
open Go.Emb Go.RowKit Go.Kd Go.Hm
variable {w : World} {K : Value → World → Prop} {σ : Q5}
end Go.Proofs.YtjdiakhipmggjaaGreatDoor

namespace Go.Proofs.YtjdiakhipmggjaaGreatDoor
open Go.Emb Go.RowKit Go.Kd
variable {w : World} {K : Value → World → Prop}
end Go.Proofs.YtjdiakhipmggjaaGreatDoor
