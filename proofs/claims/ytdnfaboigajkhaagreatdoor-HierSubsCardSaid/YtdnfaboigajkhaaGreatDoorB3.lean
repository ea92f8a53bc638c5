/- Parts of a proof about the given program: its functions as texts of their own, what each computes, plain laws of that. The conditions of each stand in its statement. -/
import Derived.Test.YtdnfaboigajkhaaGreatDoorB2
import Derived.Test.YtdnfaboigajkhaaGreatDoorB1
import Derived.ChangeArms
import Derived.DataReads
import Derived.SizedLaws
import Derived.Shelf.Strings.Builder1
import Derived.Shelf.Strings.Builder2
import Derived.Shelf.Strings.OnBuilder
import Derived.Shelf.Strings.Trim
import Derived.Shelf.Small.Utf8
import Derived.Shelf.Small.Strs
import Derived.Shelf.Small.Wraps
import Derived.Shelf.Strings.BuilderF
import Derived.Shelf.Strings.BuilderK
import Derived.Shelf.Strings.Builder2Cap
import Derived.Shelf.Strings.Search1
import Derived.Shelf.Strings.Search2
import Derived.Shelf.Strings.Search3
import Derived.Shelf.Strings.Cut
import Derived.Shelf.LaysM
import Derived.Shelf.Strings.Shaped
import Derived.Shelf.Strings.Prefix
import Derived.Shelf.Unicode.Decode
import Derived.Shelf.Strings.Runes
import Derived.Shelf.Strings.AsciiSet
import Derived.Shelf.Unicode.DecodeSlow
import Derived.Shelf.Unicode.DecodeAny
import Derived.Shelf.Unicode.DecodeLast
import Derived.Shelf.Slices.Turned
import Derived.Ground.Names2Prog
import Derived.Shelf.Slices.Clone
import Derived.Ground.SlgnProg
import Derived.Shelf.SlicesE.Clone
import Derived.Shelf.Unicode.ValidAny
import Derived.Test.YtdnfaboigajkhaaGreatDoorProg
import Derived.Test.YtdnfaboigajkhaaGreatDoorRows
import Derived.Lib.LaidU8T
import Derived.OpenShut
import Derived.MakeChecks
import Derived.WideShapes
import Derived.Deep.AppendSrc
set_option linter.unnecessarySimpa false
set_option linter.defProp false
set_option linter.unusedSectionVars false
set_option linter.unusedVariables false
set_option linter.unusedSimpArgs false
namespace Go.Proofs.YtdnfaboigajkhaaGreatDoor
open Go.Emb
instance z_x : TZ P T.x 1 0 (.tuple #[]) := ⟨by kernel_rfl⟩
instance g_x : TG P T.x false := ⟨by kernel_rfl⟩
instance z_int64 : TZ P T.ag 1 8 (.int .i64 0) := ⟨by kernel_rfl⟩
instance g_int64 : TG P T.ag false := ⟨by kernel_rfl⟩
instance z_int : TZ P T.d 1 8 (.int .i64 0) := ⟨by kernel_rfl⟩
instance g_int : TG P T.d false := ⟨by kernel_rfl⟩
instance z_bool : TZ P T.m 1 1 (.bool false) := ⟨by kernel_rfl⟩
instance g_bool : TG P T.m false := ⟨by kernel_rfl⟩
instance z_uint8 : TZ P T.s 1 1 (.int .u8 0) := ⟨by kernel_rfl⟩
instance g_uint8 : TG P T.s false := ⟨by kernel_rfl⟩
instance z_string : TZ P T.b 1 16 (.string ⟨#[]⟩) := ⟨by kernel_rfl⟩
instance g_string : TG P T.b false := ⟨by kernel_rfl⟩
instance z_uintptr : TZ P T.ak 1 8 (.int .u64 0) := ⟨by kernel_rfl⟩
instance g_uintptr : TG P T.ak false := ⟨by kernel_rfl⟩
instance z_int32 : TZ P T.ac 1 4 (.int .i32 0) := ⟨by kernel_rfl⟩
instance g_int32 : TG P T.ac false := ⟨by kernel_rfl⟩
instance z_S_api_Class : TZ P T.f 1 24 (.slice none 0 0) := ⟨by kernel_rfl⟩
instance g_S_api_Class : TG P T.f false := ⟨by kernel_rfl⟩
instance s_S_api_Class : TS P T.f 57 := ⟨by kernel_rfl⟩
instance z_P_hier_Table : TZ P T.p 1 8 (.pointer none) := ⟨by kernel_rfl⟩
instance g_P_hier_Table : TG P T.p false := ⟨by kernel_rfl⟩
instance z_api_Errno : TZ P T.t 1 8 (.int .i64 0) := ⟨by kernel_rfl⟩
instance g_api_Errno : TG P T.t false := ⟨by kernel_rfl⟩
instance z_func_string_bool : TZ P T.u 1 8 .nilFunc := ⟨by kernel_rfl⟩
instance g_func_string_bool : TG P T.u false := ⟨by kernel_rfl⟩
instance z_A3_string : TZ P T.ah 3 48 (.agg #[.string ⟨#[]⟩, .string ⟨#[]⟩, .string ⟨#[]⟩]) := ⟨by kernel_rfl⟩
instance g_A3_string : TG P T.ah true := ⟨by kernel_rfl⟩
instance a_A3_string : TA P T.ah 3 9 := ⟨by kernel_rfl⟩
instance z_S_api_Field : TZ P T.h 1 24 (.slice none 0 0) := ⟨by kernel_rfl⟩
instance g_S_api_Field : TG P T.h false := ⟨by kernel_rfl⟩
instance s_S_api_Field : TS P T.h 45 := ⟨by kernel_rfl⟩
instance z_api_Field : TZ P T.i 3 40 (.agg #[.string ⟨#[]⟩, .string ⟨#[]⟩, .bool false]) := ⟨by kernel_rfl⟩
instance g_api_Field : TG P T.i true := ⟨by kernel_rfl⟩
instance f_api_Field_0 : TF P T.i 0 0 9 := ⟨by kernel_rfl⟩
instance f_api_Field_1 : TF P T.i 1 1 9 := ⟨by kernel_rfl⟩
instance f_api_Field_2 : TF P T.i 2 2 4 := ⟨by kernel_rfl⟩
instance z_S_string : TZ P T.g 1 24 (.slice none 0 0) := ⟨by kernel_rfl⟩
instance g_S_string : TG P T.g false := ⟨by kernel_rfl⟩
instance s_S_string : TS P T.g 9 := ⟨by kernel_rfl⟩
instance z_S_api_Instr : TZ P T.j 1 24 (.slice none 0 0) := ⟨by kernel_rfl⟩
instance g_S_api_Instr : TG P T.j false := ⟨by kernel_rfl⟩
instance s_S_api_Instr : TS P T.j 141 := ⟨by kernel_rfl⟩
instance z_S_api_Catch : TZ P T.k 1 24 (.slice none 0 0) := ⟨by kernel_rfl⟩
instance g_S_api_Catch : TG P T.k false := ⟨by kernel_rfl⟩
instance s_S_api_Catch : TS P T.k 123 := ⟨by kernel_rfl⟩
instance z_api_Method : TZ P T.c 7 120 (.agg #[.string ⟨#[]⟩, .slice none 0 0, .string ⟨#[]⟩, .bool false, .int .i64 0, .slice none 0 0, .slice none 0 0]) := ⟨by kernel_rfl⟩
instance g_api_Method : TG P T.c true := ⟨by kernel_rfl⟩
instance f_api_Method_0 : TF P T.c 0 0 9 := ⟨by kernel_rfl⟩
instance f_api_Method_1 : TF P T.c 1 1 46 := ⟨by kernel_rfl⟩
instance f_api_Method_2 : TF P T.c 2 2 9 := ⟨by kernel_rfl⟩
instance f_api_Method_3 : TF P T.c 3 3 4 := ⟨by kernel_rfl⟩
instance f_api_Method_4 : TF P T.c 4 4 3 := ⟨by kernel_rfl⟩
instance f_api_Method_5 : TF P T.c 5 5 47 := ⟨by kernel_rfl⟩
instance f_api_Method_6 : TF P T.c 6 6 48 := ⟨by kernel_rfl⟩
instance z_S_api_Method : TZ P T.e 1 24 (.slice none 0 0) := ⟨by kernel_rfl⟩
instance g_S_api_Method : TG P T.e false := ⟨by kernel_rfl⟩
instance s_S_api_Method : TS P T.e 50 := ⟨by kernel_rfl⟩
instance z_api_Class : TZ P T.a 8 112 (.agg #[.string ⟨#[]⟩, .string ⟨#[]⟩, .slice none 0 0, .bool false, .bool false, .bool false, .slice none 0 0, .slice none 0 0]) := ⟨by kernel_rfl⟩
instance g_api_Class : TG P T.a true := ⟨by kernel_rfl⟩
instance f_api_Class_0 : TF P T.a 0 0 9 := ⟨by kernel_rfl⟩
instance f_api_Class_1 : TF P T.a 1 1 9 := ⟨by kernel_rfl⟩
instance f_api_Class_2 : TF P T.a 2 2 46 := ⟨by kernel_rfl⟩
instance f_api_Class_3 : TF P T.a 3 3 4 := ⟨by kernel_rfl⟩
instance f_api_Class_4 : TF P T.a 4 4 4 := ⟨by kernel_rfl⟩
instance f_api_Class_5 : TF P T.a 5 5 4 := ⟨by kernel_rfl⟩
instance f_api_Class_6 : TF P T.a 6 6 39 := ⟨by kernel_rfl⟩
instance f_api_Class_7 : TF P T.a 7 7 55 := ⟨by kernel_rfl⟩
instance z_func_string_string : TZ P T.a2 1 8 .nilFunc := ⟨by kernel_rfl⟩
instance g_func_string_string : TG P T.a2 false := ⟨by kernel_rfl⟩
instance z_func_api_Method_string : TZ P T.z 1 8 .nilFunc := ⟨by kernel_rfl⟩
instance g_func_api_Method_string : TG P T.z false := ⟨by kernel_rfl⟩
instance z_M_string_int : TZ P T.r 1 8 (.map none) := ⟨by kernel_rfl⟩
instance g_M_string_int : TG P T.r false := ⟨by kernel_rfl⟩
instance m_M_string_int : TM P T.r 9 3 := ⟨by kernel_rfl⟩
instance z_hier_Table : TZ P T.q 2 32 (.agg #[.slice none 0 0, .map none]) := ⟨by kernel_rfl⟩
instance g_hier_Table : TG P T.q true := ⟨by kernel_rfl⟩
instance f_hier_Table_0 : TF P T.q 0 0 22 := ⟨by kernel_rfl⟩
instance f_hier_Table_1 : TF P T.q 1 1 67 := ⟨by kernel_rfl⟩
instance z_S_int : TZ P T.w 1 24 (.slice none 0 0) := ⟨by kernel_rfl⟩
instance g_S_int : TG P T.w false := ⟨by kernel_rfl⟩
instance s_S_int : TS P T.w 3 := ⟨by kernel_rfl⟩
instance z_S_S_bool : TZ P T.y 1 24 (.slice none 0 0) := ⟨by kernel_rfl⟩
instance g_S_S_bool : TG P T.y false := ⟨by kernel_rfl⟩
instance s_S_S_bool : TS P T.y 80 := ⟨by kernel_rfl⟩
instance z_S_bool : TZ P T.v 1 24 (.slice none 0 0) := ⟨by kernel_rfl⟩
instance g_S_bool : TG P T.v false := ⟨by kernel_rfl⟩
instance s_S_bool : TS P T.v 4 := ⟨by kernel_rfl⟩
instance z_func_api_Field_bool : TZ P T.a6 1 8 .nilFunc := ⟨by kernel_rfl⟩
instance g_func_api_Field_bool : TG P T.a6 false := ⟨by kernel_rfl⟩
instance z_A6_string : TZ P T.ad 6 96 (.agg #[.string ⟨#[]⟩, .string ⟨#[]⟩, .string ⟨#[]⟩, .string ⟨#[]⟩, .string ⟨#[]⟩, .string ⟨#[]⟩]) := ⟨by kernel_rfl⟩
instance g_A6_string : TG P T.ad true := ⟨by kernel_rfl⟩
instance a_A6_string : TA P T.ad 6 9 := ⟨by kernel_rfl⟩
instance z_func_int : TZ P T.ae 1 8 .nilFunc := ⟨by kernel_rfl⟩
instance g_func_int : TG P T.ae false := ⟨by kernel_rfl⟩
instance z_M_string_string : TZ P T.o 1 8 (.map none) := ⟨by kernel_rfl⟩
instance g_M_string_string : TG P T.o false := ⟨by kernel_rfl⟩
instance m_M_string_string : TM P T.o 9 9 := ⟨by kernel_rfl⟩
instance z_func_api_Method_bool : TZ P T.a4 1 8 .nilFunc := ⟨by kernel_rfl⟩
instance g_func_api_Method_bool : TG P T.a4 false := ⟨by kernel_rfl⟩
instance g_strings_asciiSet : TG P T.a1 true := ⟨by kernel_rfl⟩
instance a_strings_asciiSet : TA P T.a1 256 4 := ⟨by kernel_rfl⟩
instance z_api_Catch : TZ P T.l 4 40 (.agg #[.int .i64 0, .int .i64 0, .int .i64 0, .string ⟨#[]⟩]) := ⟨by kernel_rfl⟩
instance g_api_Catch : TG P T.l true := ⟨by kernel_rfl⟩
instance f_api_Catch_0 : TF P T.l 0 0 3 := ⟨by kernel_rfl⟩
instance f_api_Catch_1 : TF P T.l 1 1 3 := ⟨by kernel_rfl⟩
instance f_api_Catch_2 : TF P T.l 2 2 3 := ⟨by kernel_rfl⟩
instance f_api_Catch_3 : TF P T.l 3 3 9 := ⟨by kernel_rfl⟩
instance z_S_uint8 : TZ P T.ai 1 24 (.slice none 0 0) := ⟨by kernel_rfl⟩
instance g_S_uint8 : TG P T.ai false := ⟨by kernel_rfl⟩
instance s_S_uint8 : TS P T.ai 5 := ⟨by kernel_rfl⟩
instance z_strings_Builder : TZ P T.aa 2 32 (.agg #[.pointer none, .slice none 0 0]) := ⟨by kernel_rfl⟩
instance g_strings_Builder : TG P T.aa true := ⟨by kernel_rfl⟩
instance f_strings_Builder_0 : TF P T.aa 0 0 124 := ⟨by kernel_rfl⟩
instance f_strings_Builder_1 : TF P T.aa 1 1 125 := ⟨by kernel_rfl⟩
instance z_func_api_Field_string : TZ P T.a0 1 8 .nilFunc := ⟨by kernel_rfl⟩
instance g_func_api_Field_string : TG P T.a0 false := ⟨by kernel_rfl⟩
instance z_api_Instr : TZ P T.n 3 40 (.agg #[.string ⟨#[]⟩, .int .i64 0, .string ⟨#[]⟩]) := ⟨by kernel_rfl⟩
instance g_api_Instr : TG P T.n true := ⟨by kernel_rfl⟩
instance f_api_Instr_0 : TF P T.n 0 0 9 := ⟨by kernel_rfl⟩
instance f_api_Instr_1 : TF P T.n 1 1 2 := ⟨by kernel_rfl⟩
instance f_api_Instr_2 : TF P T.n 2 2 9 := ⟨by kernel_rfl⟩
instance z_P_uint8 : TZ P T.al 1 8 (.pointer none) := ⟨by kernel_rfl⟩
instance g_P_uint8 : TG P T.al false := ⟨by kernel_rfl⟩
instance z_func_api_Catch_bool : TZ P T.a7 1 8 .nilFunc := ⟨by kernel_rfl⟩
instance g_func_api_Catch_bool : TG P T.a7 false := ⟨by kernel_rfl⟩
instance z_func_api_Instr_bool : TZ P T.a8 1 8 .nilFunc := ⟨by kernel_rfl⟩
instance g_func_api_Instr_bool : TG P T.a8 false := ⟨by kernel_rfl⟩
instance z_code_op : TZ P T.a3 3 24 (.agg #[.string ⟨#[]⟩, .bool false, .bool false]) := ⟨by kernel_rfl⟩
instance g_code_op : TG P T.a3 true := ⟨by kernel_rfl⟩
instance f_code_op_0 : TF P T.a3 0 0 9 := ⟨by kernel_rfl⟩
instance f_code_op_1 : TF P T.a3 1 1 4 := ⟨by kernel_rfl⟩
instance f_code_op_2 : TF P T.a3 2 2 4 := ⟨by kernel_rfl⟩
instance g_A42_code_op : TG P T.a5 true := ⟨by kernel_rfl⟩
instance a_A42_code_op : TA P T.a5 42 170 := ⟨by kernel_rfl⟩
instance g_A256_uint8 : TG P T.aj true := ⟨by kernel_rfl⟩
instance a_A256_uint8 : TA P T.aj 256 5 := ⟨by kernel_rfl⟩
instance z_utf8_acceptRange : TZ P T.a9 2 2 (.agg #[.int .u8 0, .int .u8 0]) := ⟨by kernel_rfl⟩
instance g_utf8_acceptRange : TG P T.a9 true := ⟨by kernel_rfl⟩
instance f_utf8_acceptRange_0 : TF P T.a9 0 0 5 := ⟨by kernel_rfl⟩
instance f_utf8_acceptRange_1 : TF P T.a9 1 1 5 := ⟨by kernel_rfl⟩
instance z_A16_utf8_acceptRange : TZ P T.ab 32 32 (.agg #[.int .u8 0, .int .u8 0, .int .u8 0, .int .u8 0, .int .u8 0, .int .u8 0, .int .u8 0, .int .u8 0, .int .u8 0, .int .u8 0, .int .u8 0, .int .u8 0, .int .u8 0, .int .u8 0, .int .u8 0, .int .u8 0, .int .u8 0, .int .u8 0, .int .u8 0, .int .u8 0, .int .u8 0, .int .u8 0, .int .u8 0, .int .u8 0, .int .u8 0, .int .u8 0, .int .u8 0, .int .u8 0, .int .u8 0, .int .u8 0, .int .u8 0, .int .u8 0]) := ⟨by kernel_rfl⟩
instance g_A16_utf8_acceptRange : TG P T.ab true := ⟨by kernel_rfl⟩
instance a_A16_utf8_acceptRange : TA P T.ab 16 179 := ⟨by kernel_rfl⟩
instance z_S_code_op : TZ P T.af 1 24 (.slice none 0 0) := ⟨by kernel_rfl⟩
instance g_S_code_op : TG P T.af false := ⟨by kernel_rfl⟩
instance s_S_code_op : TS P T.af 170 := ⟨by kernel_rfl⟩
instance z_uint64 : TZ P T.am 1 8 (.int .u64 0) := ⟨by kernel_rfl⟩
instance g_uint64 : TG P T.am false := ⟨by kernel_rfl⟩
instance z_uint32 : TZ P T.an 1 4 (.int .u32 0) := ⟨by kernel_rfl⟩
instance g_uint32 : TG P T.an false := ⟨by kernel_rfl⟩
end Go.Proofs.YtdnfaboigajkhaaGreatDoor

namespace Go.Emb
theorem aS {p : Prop} (h : p := by (first | assumption | exact Stp.sat (by assumption) | exact Hst.sat (by assumption))) : p := h
theorem aL {p : Prop} (h : p := by (first | assumption | exact Sl.lift (by assumption) (by (repeat (first | exact SLe.refl _ | refine SLe.more ?_ (by assumption) | refine SLe.more ?_ (Nxt.le (by assumption)) | refine SLe.step ?_ (by assumption)))) | exact J4.lift (by assumption) (by (repeat (first | exact SLe.refl _ | refine SLe.more ?_ (by assumption) | refine SLe.more ?_ (Nxt.le (by assumption)) | refine SLe.step ?_ (by assumption)))) | exact P7.lift (by assumption) (by (repeat (first | exact SLe.refl _ | refine SLe.more ?_ (by assumption) | refine SLe.more ?_ (Nxt.le (by assumption)) | refine SLe.step ?_ (by assumption)))) | exact R2 (by assumption) (by (repeat (first | exact SLe.refl _ | refine SLe.more ?_ (by assumption) | refine SLe.more ?_ (Nxt.le (by assumption)) | refine SLe.step ?_ (by assumption)))) | exact S3 (by assumption) (by (repeat (first | exact SLe.refl _ | refine SLe.more ?_ (by assumption) | refine SLe.more ?_ (Nxt.le (by assumption)) | refine SLe.step ?_ (by assumption)))) | exact Glb.lift (by assumption) (by (repeat (first | exact SLe.refl _ | refine SLe.more ?_ (by assumption) | refine SLe.more ?_ (Nxt.le (by assumption)) | refine SLe.step ?_ (by assumption)))) | exact Tab.lift (by assumption) (by (repeat (first | exact SLe.refl _ | refine SLe.more ?_ (by assumption) | refine SLe.more ?_ (Nxt.le (by assumption)) | refine SLe.step ?_ (by assumption)))) | exact Q0N (by assumption) | exact Q0F (by assumption) | exact Q0z (by assumption))) : p := h
theorem aR {p : Prop} (h : p := by with_unfolding_all rfl) : p := h
theorem au {p : Prop} (h : p := by (first | assumption | (first | assumption | exact Stp.sat (by assumption) | exact Hst.sat (by assumption)) | (first | assumption | exact Sl.lift (by assumption) (by (repeat (first | exact SLe.refl _ | refine SLe.more ?_ (by assumption) | refine SLe.more ?_ (Nxt.le (by assumption)) | refine SLe.step ?_ (by assumption)))) | exact J4.lift (by assumption) (by (repeat (first | exact SLe.refl _ | refine SLe.more ?_ (by assumption) | refine SLe.more ?_ (Nxt.le (by assumption)) | refine SLe.step ?_ (by assumption)))) | exact P7.lift (by assumption) (by (repeat (first | exact SLe.refl _ | refine SLe.more ?_ (by assumption) | refine SLe.more ?_ (Nxt.le (by assumption)) | refine SLe.step ?_ (by assumption)))) | exact R2 (by assumption) (by (repeat (first | exact SLe.refl _ | refine SLe.more ?_ (by assumption) | refine SLe.more ?_ (Nxt.le (by assumption)) | refine SLe.step ?_ (by assumption)))) | exact S3 (by assumption) (by (repeat (first | exact SLe.refl _ | refine SLe.more ?_ (by assumption) | refine SLe.more ?_ (Nxt.le (by assumption)) | refine SLe.step ?_ (by assumption)))) | exact Glb.lift (by assumption) (by (repeat (first | exact SLe.refl _ | refine SLe.more ?_ (by assumption) | refine SLe.more ?_ (Nxt.le (by assumption)) | refine SLe.step ?_ (by assumption)))) | exact Tab.lift (by assumption) (by (repeat (first | exact SLe.refl _ | refine SLe.more ?_ (by assumption) | refine SLe.more ?_ (Nxt.le (by assumption)) | refine SLe.step ?_ (by assumption)))) | exact Q0N (by assumption) | exact Q0F (by assumption) | exact Q0z (by assumption)) | exact Nat.le_trans (by assumption) (by decide) | omega)) : p := h
end Go.Emb
namespace Go.Proofs.YtdnfaboigajkhaaGreatDoor
open Go.Emb
theorem Q8X {a : List UInt8} {cs : List Bool} {r : TypeId} {w : World} {K : Value → World → Prop} : X5 P .len [T.b] r cs [S a] w K = K (I a.length) w := D3 X8
theorem Q94 {ox oy : Operand} {a b : Bool} {w : World} {K : Value → World → Prop} : Q3 P .eql T.m ox oy (.bool a) (.bool b) w K = K (.bool (a == b)) w := Q22 Uo
theorem Q9e {ox oy : Operand} {a b : Bool} {w : World} {K : Value → World → Prop} : Q3 P .neq T.m ox oy (.bool a) (.bool b) w K = K (.bool (!(a == b))) w := Q2P Uo
def Mm := And.intro @fa <| And.intro @S2 <| And.intro @Qz <| And.intro @Q8X <| And.intro @Q94 @Q9e
end Go.Proofs.YtdnfaboigajkhaaGreatDoor

namespace Go.Proofs.YtdnfaboigajkhaaGreatDoor
open Go.Emb Go.RowKit Go.Kd Go.Hm
variable {w : World} {K : Value → World → Prop} {σ : Q6}
def Ji (m : Hm.Met) : Bool := decide (32 < m.params.length) || decide (32 < m.catches.length) || decide (200 < m.code.length) || decide (64 < m.locals)
def Xe (c : Cla) : Bool := c.methods.any Ji || decide (32 < c.like.length) || decide (32 < c.fields.length) || decide (32 < c.methods.length)
theorem Q8h {c : Cla} {cs : List Value} (hs : X6 w σ) (hc : V0 σ c cs) (h : ∀ w', Below w.heap.size w w' → K (.bool (Xe c)) w') : Q1 P F.c2 [.agg cs.toArray] w K := Q2u (by
  obtain ⟨lv, fv, mv, rfl, hl, hf, hm, hn, hsu⟩ := hc
  unfold Iw
  refine N0 hs fun a w1 σ1 hk ha => ?_
  have hs := hk.sat
  replace hl := hl.up hk
  replace hf := hf.up hk
  replace hm := hm.up hk
  simp only [Value.cells] at ha
  ((try simp only [↓Mm, Mm, ↓Mr, Mr, Mb, reduceIte]); repeat ((first | refine ld (by assumption) (by assumption) rfl ?_ | refine X7 (by assumption) (by assumption) rfl ?_ | refine Q7 (by assumption) ?_); (try simp only [↓Mm, Mm, ↓Mr, Mr, Mb, reduceIte])))
  refine V7 c.methods.length (fun n w' => Below w1.heap.size w1 w' ∧ ((c.methods.take n).any Ji) = false) ⟨Below.refl _ _, by simp⟩ fun n w2 d hn hi => ?_
  obtain ⟨hb, hp⟩ := hi
  have hs2 := hs.below hb
  ((try simp only [↓Mm, Mm, ↓Mr, Mr, Mb, reduceIte]); repeat ((first | refine ld (by assumption) (by assumption) rfl ?_ | refine X7 (by assumption) (by assumption) rfl ?_ | refine Q7 (by assumption) ?_); (try simp only [↓Mm, Mm, ↓Mr, Mr, Mb, reduceIte])))
  refine Q4 (fun hc => ?_) (fun hc => ?_)
  · have hn' : n < c.methods.length := by simpa using hc
    refine L3 hm hn' fun p cs hl1 hlen hr => ?_
    refine Z0 hs2 hl1 hlen ?_
    refine Y2 hs2 (by rfl) hlen (Rep.one hr) fun q w3 σ3 hk3 hq => ?_
    obtain ⟨pv, cv, hv, rfl, g1, g2, g3, g4⟩ := hr
    have hs3 := hk3.sat
    replace g1 := g1.up hk3
    replace g2 := g2.up hk3
    replace g3 := g3.up hk3
    ((try simp only [↓Mm, Mm, ↓Mr, Mr, Mb, reduceIte]); repeat ((first | refine ld (by assumption) (by assumption) rfl ?_ | refine X7 (by assumption) (by assumption) rfl ?_ | refine Q7 (by assumption) ?_); (try simp only [↓Mm, Mm, ↓Mr, Mr, Mb, reduceIte])))
    (repeat' ((first | refine Y1 (fun hh => ?_) (fun hh => ?_) | refine Q4 (fun hh => ?_) (fun hh => ?_)) <;> (try simp only [hh, Bool.not_true, Bool.not_false, ↓Mm, Mm, ↓Mr, Mr, Mb, reduceIte]) <;> ((try simp only [↓Mm, Mm, ↓Mr, Mr, Mb, reduceIte]); repeat ((first | refine ld (by assumption) (by assumption) rfl ?_ | refine X7 (by assumption) (by assumption) rfl ?_ | refine Q7 (by assumption) ?_); (try simp only [↓Mm, Mm, ↓Mr, Mr, Mb, reduceIte])))))
    all_goals first
      | refine Z2 hm.max hn' ⟨bt hb hk3.bel, ?_⟩
        rw [M5 hn', hp]; simp only [Ji]; (first | (simp only [decide_eq_true_eq, decide_eq_false_iff_not, Bool.not_true, Bool.not_false, Bool.not_eq_true', Bool.not_eq_false', Bool.or_eq_true, Bool.and_eq_true, Bool.or_eq_false_iff, Bool.and_eq_false_iff, Bool.false_or, Bool.true_and, Bool.or_false, Bool.and_true] at *; first | omega | (and_intros <;> omega)) | (rw [Bool.eq_iff_iff]; (simp only [decide_eq_true_eq, decide_eq_false_iff_not, Bool.not_true, Bool.not_false, Bool.not_eq_true', Bool.not_eq_false', Bool.or_eq_true, Bool.and_eq_true, Bool.or_eq_false_iff, Bool.and_eq_false_iff, Bool.false_or, Bool.true_and, Bool.or_false, Bool.and_true] at *; first | omega | (and_intros <;> omega))))
      | have e : Xe c = true := by
          have : Ji c.methods[n] = true := by simp only [Ji]; (first | (simp only [decide_eq_true_eq, decide_eq_false_iff_not, Bool.not_true, Bool.not_false, Bool.not_eq_true', Bool.not_eq_false', Bool.or_eq_true, Bool.and_eq_true, Bool.or_eq_false_iff, Bool.and_eq_false_iff, Bool.false_or, Bool.true_and, Bool.or_false, Bool.and_true] at *; first | omega | (and_intros <;> omega)) | (rw [Bool.eq_iff_iff]; (simp only [decide_eq_true_eq, decide_eq_false_iff_not, Bool.not_true, Bool.not_false, Bool.not_eq_true', Bool.not_eq_false', Bool.or_eq_true, Bool.and_eq_true, Bool.or_eq_false_iff, Bool.and_eq_false_iff, Bool.false_or, Bool.true_and, Bool.or_false, Bool.and_true] at *; first | omega | (and_intros <;> omega))))
          simp [Xe, R5 hn' this]
        rw [← e]; exact h _ (bt hk.bel (bt hb hk3.bel))
  · have hn' : ¬ n < c.methods.length := by simpa using hc
    rw [D0 hn'] at hp
    have h := h w2 (bt hk.bel hb)
    ((try simp only [↓Mm, Mm, ↓Mr, Mr, Mb, reduceIte]); repeat ((first | refine ld (by assumption) (by assumption) rfl ?_ | refine X7 (by assumption) (by assumption) rfl ?_ | refine Q7 (by assumption) ?_); (try simp only [↓Mm, Mm, ↓Mr, Mr, Mb, reduceIte])))
    (repeat' ((first | refine Y1 (fun hh => ?_) (fun hh => ?_) | refine Q4 (fun hh => ?_) (fun hh => ?_)) <;> (try simp only [hh, Bool.not_true, Bool.not_false, ↓Mm, Mm, ↓Mr, Mr, Mb, reduceIte]) <;> ((try simp only [↓Mm, Mm, ↓Mr, Mr, Mb, reduceIte]); repeat ((first | refine ld (by assumption) (by assumption) rfl ?_ | refine X7 (by assumption) (by assumption) rfl ?_ | refine Q7 (by assumption) ?_); (try simp only [↓Mm, Mm, ↓Mr, Mr, Mb, reduceIte])))))
    all_goals
      refine Eq.subst (motive := fun b => K (.bool b) w2) ?_ h
      simp only [Xe, hp]
      (first | (simp only [decide_eq_true_eq, decide_eq_false_iff_not, Bool.not_true, Bool.not_false, Bool.not_eq_true', Bool.not_eq_false', Bool.or_eq_true, Bool.and_eq_true, Bool.or_eq_false_iff, Bool.and_eq_false_iff, Bool.false_or, Bool.true_and, Bool.or_false, Bool.and_true] at *; first | omega | (and_intros <;> omega)) | (rw [Bool.eq_iff_iff]; (simp only [decide_eq_true_eq, decide_eq_false_iff_not, Bool.not_true, Bool.not_false, Bool.not_eq_true', Bool.not_eq_false', Bool.or_eq_true, Bool.and_eq_true, Bool.or_eq_false_iff, Bool.and_eq_false_iff, Bool.false_or, Bool.true_and, Bool.or_false, Bool.and_true] at *; first | omega | (and_intros <;> omega)))))
end Go.Proofs.YtdnfaboigajkhaaGreatDoor

namespace Go.Emb
open Go.RowKit Go.Hm
variable {H : Type} {enc : TypeId × Value → H} {P : Program} {W : World} {t : TypeId} {cs : List Value} {fuel : Nat} {x : DataW H × List MemPlace}
def I9 (W : World) : Q6 := fun b => W.heap[b]?
theorem Q5R : X6 W (I9 W) := fun b o h => h
def Wt (P : Program) (t : TypeId) (d : DataW H) : Prop := ∀ n ∈ d.weights P t, n ≤ reachBytes
theorem Q7z {a : Addr} {n : Nat} (h : W.cells? 0 a n = some cs) (hn : 0 < n) : cs.length = n ∧ J4 (I9 W) a cs := by
  obtain ⟨_, h1, h2⟩ := World.cells?_some h
  refine ⟨h1, ?_⟩
  have key : ∀ i v, cs[i]? = some v → ∃ N7 e fr, W.heap[a.block]? = some (.cells N7 e fr) ∧ (a.add i).spot = none ∧ N7[a.off + i]? = some v := by
    intro i v hv
    have hi : i < cs.length := (List.getElem?_eq_some_iff.1 hv).1
    have h3 := h2 i (by omega)
    rw [hv] at h3
    unfold World.cell? at h3
    rw [R6, Xa] at h3
    cases hb : W.heap[a.block]? with
    | none => rw [hb] at h3; cases h3
    | some o =>
      rw [hb] at h3
      cases o with
      | cells N7 e fr =>
        simp only at h3
        split at h3
        · cases h3
        · rename_i hs
          exact ⟨N7, e, fr, rfl, by simpa using hs, h3⟩
      | _ => cases h3
  cases hc : cs with
  | nil => subst hc; simp at h1; omega
  | cons c r =>
    obtain ⟨N7, e, fr, g1, g2, g3⟩ := key 0 c (by rw [hc]; rfl)
    refine ⟨by simpa [Addr.add] using g2, N7, e, fr, g1, fun i v hv => ?_⟩
    obtain ⟨arr', e', fr', k1, k2, k3⟩ := key i v (by rw [hc]; exact hv)
    rw [g1] at k1
    injection k1 with k1
    injection k1 with k1
    subst k1
    exact k3
theorem Yu (hu : P.underlying t = some .string) (h : DataW.trod enc P W 0 (fun _ => true) true fuel t cs = some x) (hw : Wt P t x.1) : ∃ s : Kd.X0, cs = [S s] ∧ s.length ≤ V9 := by
  obtain ⟨⟨⟨s⟩⟩, rfl, rfl, _⟩ := DataW.trod_string hu h
  refine ⟨s, rfl, ?_⟩
  have := hw s.length (by simp [DataW.weights])
  exact this
theorem Rh (hu : P.underlying t = some .bool) (h : DataW.trod enc P W 0 (fun _ => true) true fuel t cs = some x) : ∃ b, cs = [.bool b] := by
  obtain ⟨b, h1, _⟩ := DataW.trod_bool hu h; exact ⟨b, h1⟩
theorem Gs (hu : P.underlying t = some (.int .i64)) (h : DataW.trod enc P W 0 (fun _ => true) true fuel t cs = some x) : ∃ n, cs = [I n] ∧ Gp n := by
  obtain ⟨n, h1, _, h2⟩ := DataW.trod_int hu h
  refine ⟨n, h1, ?_⟩
  simp only [Lit.wf, Bool.and_eq_true, decide_eq_true_eq] at h2
  exact ⟨h2.1, h2.2⟩
theorem Q7n {α : Type} {Q : Nat → α → Prop} : ∀ (n : Nat), (∀ i, i < n → ∃ y, Q i y) → ∃ xs : List α, xs.length = n ∧ ∀ i y, xs[i]? = some y → Q i y := by
  intro n
  induction n with
  | zero => intro _; exact ⟨[], rfl, by simp⟩
  | succ n ih =>
    intro h
    obtain ⟨xs, h1, h2⟩ := ih fun i hi => h i (by omega)
    obtain ⟨y, hy⟩ := h n (by omega)
    refine ⟨xs ++ [y], by simp [h1], fun i z hz => ?_⟩
    by_cases hi : i < xs.length
    · rw [List.getElem?_append_left hi] at hz; exact h2 i z hz
    · rw [List.getElem?_append_right (by omega)] at hz
      have : i - xs.length = 0 := by
        have := (List.getElem?_eq_some_iff.1 hz).1
        simp at this; omega
      rw [this] at hz
      simp at hz
      subst hz
      rw [show i = n by omega]; exact hy
theorem Q8b {e : TypeId} {d : DataW H} : ∀ {l : List (DataW H)}, d ∈ l → ∀ n ∈ d.weights P e, n ∈ DataW.weightsAll P e l := by
  intro l
  induction l with
  | nil => intro h; simp at h
  | cons a r ih =>
    intro h n hn
    simp only [DataW.weightsAll, List.mem_append]
    rcases List.mem_cons.1 h with rfl | h
    · exact .inl hn
    · exact .inr (ih h n hn)
theorem Ci {α : Type} {R : Q6 → α → List Value → Prop} {e : TypeId} {sz : Nat} (hu : P.underlying t = some (.slice e)) (hc : P.cellsOf e = sz) (hz : 0 < sz)
    (hel : ∀ fuel cs (x : DataW H × List MemPlace), DataW.trod enc P W 0 (fun _ => true) true fuel e cs = some x → Wt P e x.1 → ∃ y, R (I9 W) y cs)
    (h : DataW.trod enc P W 0 (fun _ => true) true fuel t cs = some x) (hw : Wt P t x.1) : ∃ v xs, cs = [v] ∧ Sl sz R (I9 W) v xs := by
  rcases DataW.trod_slice hu h with ⟨rfl, rfl⟩ | ⟨a, len, cap, elems, rest, n, _, rfl, rfl, _, hl, hm, hel2, hget, _⟩
  · exact ⟨_, [], rfl, Sl.nil⟩
  subst hc
  have step : ∀ i, i < len → ∃ y, ∃ cs', J4 (I9 W) (a.add (i * P.cellsOf e)) cs' ∧ cs'.length = P.cellsOf e ∧ R (I9 W) y cs' := by
    intro i hi
    have h1 := hget i hi
    have hi2 : i < elems.length := by omega
    rw [List.getElem?_eq_getElem hi2] at h1
    obtain ⟨cs', h2, h3⟩ := Option.bind_eq_some_iff.1 h1
    obtain ⟨h4, h5⟩ := Q7z h2 hz
    obtain ⟨y, hy⟩ := hel n cs' _ h3 (fun m hm => hw m (by
      simp only [DataW.weights, hu, List.mem_cons, List.mem_append]
      exact .inr (.inl (Q8b (List.mem_map.2 ⟨_, List.getElem_mem hi2, rfl⟩) m hm))))
    exact ⟨y, cs', h5, h4, hy⟩
  obtain ⟨xs, hx1, hx2⟩ := Q7n len step
  refine ⟨_, xs, rfl, some a, cap, by rw [hx1], by rw [hx1]; exact hl, hm, by simp, fun b hb => ?_⟩
  cases hb
  refine ⟨fun h0 => ?_, fun i y hy => hx2 i y hy⟩
  obtain ⟨y, hy⟩ : ∃ y, xs[0]? = some y := ⟨xs[0], List.getElem?_eq_getElem h0⟩
  obtain ⟨cs', h5, _, _⟩ := hx2 0 y hy
  have := h5.1
  simpa [Addr.add] using this
theorem Q7Z : ∀ {ts : List TypeId} {l : List (DataW H)} {i : Nat} {u : TypeId} {d : DataW H}, ts[i]? = some u → l[i]? = some d → ∀ n ∈ d.weights P u, n ∈ DataW.weightsEach P ts l :=
  fun h1 h2 n hn => DataW.weights_mem_each h1 h2 n hn
theorem L8 {fs : Array Field} (hu : P.underlying t = some (.struct fs)) (h : DataW.trod enc P W 0 (fun _ => true) true fuel t cs = some x) (hw : Wt P t x.1) (i : Nat) {o : Nat} {ft : TypeId}
    (hf : (fs[i]?).map (fun f => (f.type, f.offset)) = some (ft, o)) (hc : P.cellsOf ft = 1) : ∃ n y, DataW.trod enc P W 0 (fun _ => true) true n ft ((cs.drop o).take 1) = some y ∧ Wt P ft y.1 := by
  obtain ⟨xs, n, _, rfl, h1, h2, h3⟩ := DataW.trod_struct hu h
  obtain ⟨f, hf', he⟩ := Option.map_eq_some_iff.1 hf
  cases he
  have h4 := h3 i f hf'
  have hi : i < xs.length := by rw [h2]; exact (Array.getElem?_eq_some_iff.1 hf').1
  rw [List.getElem?_eq_getElem hi, hc] at h4
  refine ⟨n, _, h4, fun m hm => hw m ?_⟩
  simp only [DataW.weights, hu]
  exact Q7Z (i := i) (u := f.type) (by rw [List.getElem?_map, Array.getElem?_toList, hf']; rfl) (by rw [List.getElem?_map, List.getElem?_eq_getElem hi]; rfl) m hm
theorem Ic {fs : Array Field} {k : Nat} (hu : P.underlying t = some (.struct fs)) (hk : P.cellsOf t = k) (h : DataW.trod enc P W 0 (fun _ => true) true fuel t cs = some x) : cs.length = k := by
  obtain ⟨_, _, _, _, h1, _, _⟩ := DataW.trod_struct hu h
  rw [h1, hk]
theorem Q1O {α : Type} {l : List α} (h : l.length = 3) : ∃ a b c, l = [a, b, c] := by
  match l, h with
  | [a, b, c], _ => exact ⟨a, b, c, rfl⟩
theorem Q8U {α : Type} {l : List α} (h : l.length = 4) : ∃ a b c d, l = [a, b, c, d] := by
  match l, h with
  | [a, b, c, d], _ => exact ⟨a, b, c, d, rfl⟩
theorem Q9g {α : Type} {l : List α} (h : l.length = 7) : ∃ a b c d e f g, l = [a, b, c, d, e, f, g] := by
  match l, h with
  | [a, b, c, d, e, f, g], _ => exact ⟨a, b, c, d, e, f, g, rfl⟩
theorem Q91 {α : Type} {l : List α} (h : l.length = 8) : ∃ a b c d e f g i, l = [a, b, c, d, e, f, g, i] := by
  match l, h with
  | [a, b, c, d, e, f, g, i], _ => exact ⟨a, b, c, d, e, f, g, i, rfl⟩
end Go.Emb
namespace Go.Proofs.YtdnfaboigajkhaaGreatDoor
open Go.Emb Go.RowKit Go.Kd Go.Hm
variable {H : Type} {enc : TypeId × Value → H} {W : World} {cs : List Value} {fuel : Nat} {x : DataW H × List MemPlace}
def Q97 : Array Field := #[⟨"Name", T.b, 0, false, "", "", 0⟩, ⟨"Kind", T.b, 1, false, "", "", 16⟩, ⟨"Transient", T.m, 2, false, "", "", 32⟩]
theorem Q1K : P.underlying T.i = some (.struct Q97) := by kernel_rfl
theorem S6 : P.cellsOf T.b = 1 := by kernel_rfl
theorem Rc : P.cellsOf T.m = 1 := by kernel_rfl
theorem Q1H : P.cellsOf T.d = 1 := by kernel_rfl
theorem Q8x (h : DataW.trod enc P W 0 (fun _ => true) true fuel T.i cs = some x) (hw : Wt P T.i x.1) : ∃ y, D5 (I9 W) y cs := by
  obtain ⟨c0, c1, c2, rfl⟩ := Q1O (Ic Q1K (by kernel_rfl) h)
  obtain ⟨_, _, k0, w0⟩ := L8 (o := 0) Q1K h hw 0 rfl S6
  obtain ⟨_, _, k1, w1⟩ := L8 (o := 1) Q1K h hw 1 rfl S6
  obtain ⟨_, _, k2, w2⟩ := L8 (o := 2) Q1K h hw 2 rfl Rc
  obtain ⟨s0, q0, r0⟩ := Yu X8 k0 w0
  obtain ⟨s1, q1, r1⟩ := Yu X8 k1 w1
  obtain ⟨s2, q2⟩ := Rh Uo k2
  simp at q0 q1 q2
  subst q0 q1 q2
  exact ⟨⟨s0, s1, s2⟩, rfl, r0, r1⟩
theorem Q5d {t : TypeId} (hu : P.underlying t = some .string) (h : DataW.trod enc P W 0 (fun _ => true) true fuel t cs = some x) (hw : Wt P t x.1) : ∃ y, U9 (I9 W) y cs := by
  obtain ⟨s, q, r⟩ := Yu hu h hw; exact ⟨s, q, r⟩
def Q92 : Array Field := #[⟨"Op", T.b, 0, false, "", "", 0⟩, ⟨"N", T.ag, 1, false, "", "", 16⟩, ⟨"S", T.b, 2, false, "", "", 24⟩]
theorem Q1Q : P.underlying T.n = some (.struct Q92) := by kernel_rfl
theorem Q8O (h : DataW.trod enc P W 0 (fun _ => true) true fuel T.n cs = some x) (hw : Wt P T.n x.1) : ∃ y, I5 (I9 W) y cs := by
  obtain ⟨c0, c1, c2, rfl⟩ := Q1O (Ic Q1Q (by kernel_rfl) h)
  obtain ⟨_, _, k0, w0⟩ := L8 (o := 0) Q1Q h hw 0 rfl S6
  obtain ⟨_, _, k1, w1⟩ := L8 (o := 1) Q1Q h hw 1 rfl (by kernel_rfl)
  obtain ⟨_, _, k2, w2⟩ := L8 (o := 2) Q1Q h hw 2 rfl S6
  obtain ⟨s0, q0, r0⟩ := Yu X8 k0 w0
  obtain ⟨s1, q1, r1⟩ := Gs (by kernel_rfl) k1
  obtain ⟨s2, q2, r2⟩ := Yu X8 k2 w2
  simp at q0 q1 q2
  subst q0 q1 q2
  exact ⟨⟨s0, s1, s2⟩, rfl, r0, r1, r2⟩
def Q8V : Array Field := #[⟨"From", T.d, 0, false, "", "", 0⟩, ⟨"To", T.d, 1, false, "", "", 8⟩, ⟨"At", T.d, 2, false, "", "", 16⟩, ⟨"Class", T.b, 3, false, "", "", 24⟩]
theorem Q0m : P.underlying T.l = some (.struct Q8V) := by kernel_rfl
theorem Q89 (h : DataW.trod enc P W 0 (fun _ => true) true fuel T.l cs = some x) (hw : Wt P T.l x.1) : ∃ y, Qt (I9 W) y cs := by
  obtain ⟨c0, c1, c2, c3, rfl⟩ := Q8U (Ic Q0m (by kernel_rfl) h)
  obtain ⟨_, _, k0, w0⟩ := L8 (o := 0) Q0m h hw 0 rfl Q1H
  obtain ⟨_, _, k1, w1⟩ := L8 (o := 1) Q0m h hw 1 rfl Q1H
  obtain ⟨_, _, k2, w2⟩ := L8 (o := 2) Q0m h hw 2 rfl Q1H
  obtain ⟨_, _, k3, w3⟩ := L8 (o := 3) Q0m h hw 3 rfl S6
  obtain ⟨s0, q0, r0⟩ := Gs Az k0
  obtain ⟨s1, q1, r1⟩ := Gs Az k1
  obtain ⟨s2, q2, r2⟩ := Gs Az k2
  obtain ⟨s3, q3, r3⟩ := Yu X8 k3 w3
  simp at q0 q1 q2 q3
  subst q0 q1 q2 q3
  exact ⟨⟨s0, s1, s2, s3⟩, rfl, r0, r1, r2, r3⟩
theorem Q5x : P.underlying T.g = some (.slice T.b) := by kernel_rfl
theorem Q8a : P.underlying T.h = some (.slice T.i) := by kernel_rfl
theorem Q8B : P.underlying T.j = some (.slice T.n) := by kernel_rfl
theorem Q8j : P.underlying T.k = some (.slice T.l) := by kernel_rfl
theorem Q8J : P.underlying T.e = some (.slice T.c) := by kernel_rfl
theorem Q68 : P.underlying T.f = some (.slice T.a) := by kernel_rfl
def Q90 : Array Field := #[⟨"Name", T.b, 0, false, "", "", 0⟩, ⟨"Params", T.g, 1, false, "", "", 16⟩, ⟨"Result", T.b, 2, false, "", "", 40⟩, ⟨"Abstract", T.m, 3, false, "", "", 56⟩, ⟨"Locals", T.d, 4, false, "", "", 64⟩, ⟨"Code", T.j, 5, false, "", "", 72⟩, ⟨"Catches", T.k, 6, false, "", "", 96⟩]
theorem Ea : P.underlying T.c = some (.struct Q90) := by kernel_rfl
theorem Q8g (h : DataW.trod enc P W 0 (fun _ => true) true fuel T.c cs = some x) (hw : Wt P T.c x.1) : ∃ y, M8 (I9 W) y cs := by
  obtain ⟨c0, c1, c2, c3, c4, c5, c6, rfl⟩ := Q9g (Ic Ea (by kernel_rfl) h)
  obtain ⟨_, _, k0, w0⟩ := L8 (o := 0) Ea h hw 0 rfl S6
  obtain ⟨_, _, k1, w1⟩ := L8 (o := 1) Ea h hw 1 rfl (by kernel_rfl)
  obtain ⟨_, _, k2, w2⟩ := L8 (o := 2) Ea h hw 2 rfl S6
  obtain ⟨_, _, k3, w3⟩ := L8 (o := 3) Ea h hw 3 rfl Rc
  obtain ⟨_, _, k4, w4⟩ := L8 (o := 4) Ea h hw 4 rfl Q1H
  obtain ⟨_, _, k5, w5⟩ := L8 (o := 5) Ea h hw 5 rfl (by kernel_rfl)
  obtain ⟨_, _, k6, w6⟩ := L8 (o := 6) Ea h hw 6 rfl (by kernel_rfl)
  obtain ⟨s0, q0, r0⟩ := Yu X8 k0 w0
  obtain ⟨v1, s1, q1, r1⟩ := Ci (R := U9) Q5x S6 (by decide) (fun _ _ _ h hw => Q5d X8 h hw) k1 w1
  obtain ⟨s2, q2, r2⟩ := Yu X8 k2 w2
  obtain ⟨s3, q3⟩ := Rh Uo k3
  obtain ⟨s4, q4, r4⟩ := Gs Az k4
  obtain ⟨v5, s5, q5, r5⟩ := Ci (R := I5) (sz := 3) Q8B (by kernel_rfl) (by decide) (fun _ _ _ h hw => Q8O h hw) k5 w5
  obtain ⟨v6, s6, q6, r6⟩ := Ci (R := Qt) (sz := 4) Q8j (by kernel_rfl) (by decide) (fun _ _ _ h hw => Q89 h hw) k6 w6
  simp at q0 q1 q2 q3 q4 q5 q6
  subst q0 q1 q2 q3 q4 q5 q6
  exact ⟨⟨s0, s1, s2, s3, s4, s5, s6⟩, _, _, _, rfl, r1, r5, r6, r0, r2, r4⟩
def Q8Q : Array Field := #[⟨"Name", T.b, 0, false, "", "", 0⟩, ⟨"Super", T.b, 1, false, "", "", 16⟩, ⟨"Like", T.g, 2, false, "", "", 32⟩, ⟨"Interface", T.m, 3, false, "", "", 56⟩, ⟨"Abstract", T.m, 4, false, "", "", 57⟩, ⟨"Final", T.m, 5, false, "", "", 58⟩, ⟨"Fields", T.h, 6, false, "", "", 64⟩, ⟨"Methods", T.e, 7, false, "", "", 88⟩]
theorem Na : P.underlying T.a = some (.struct Q8Q) := by kernel_rfl
theorem Q8l (h : DataW.trod enc P W 0 (fun _ => true) true fuel T.a cs = some x) (hw : Wt P T.a x.1) : ∃ y, V0 (I9 W) y cs := by
  obtain ⟨c0, c1, c2, c3, c4, c5, c6, c7, rfl⟩ := Q91 (Ic Na (by kernel_rfl) h)
  obtain ⟨_, _, k0, w0⟩ := L8 (o := 0) Na h hw 0 rfl S6
  obtain ⟨_, _, k1, w1⟩ := L8 (o := 1) Na h hw 1 rfl S6
  obtain ⟨_, _, k2, w2⟩ := L8 (o := 2) Na h hw 2 rfl (by kernel_rfl)
  obtain ⟨_, _, k3, w3⟩ := L8 (o := 3) Na h hw 3 rfl Rc
  obtain ⟨_, _, k4, w4⟩ := L8 (o := 4) Na h hw 4 rfl Rc
  obtain ⟨_, _, k5, w5⟩ := L8 (o := 5) Na h hw 5 rfl Rc
  obtain ⟨_, _, k6, w6⟩ := L8 (o := 6) Na h hw 6 rfl (by kernel_rfl)
  obtain ⟨_, _, k7, w7⟩ := L8 (o := 7) Na h hw 7 rfl (by kernel_rfl)
  obtain ⟨s0, q0, r0⟩ := Yu X8 k0 w0
  obtain ⟨s1, q1, r1⟩ := Yu X8 k1 w1
  obtain ⟨v2, s2, q2, r2⟩ := Ci (R := U9) Q5x S6 (by decide) (fun _ _ _ h hw => Q5d X8 h hw) k2 w2
  obtain ⟨s3, q3⟩ := Rh Uo k3
  obtain ⟨s4, q4⟩ := Rh Uo k4
  obtain ⟨s5, q5⟩ := Rh Uo k5
  obtain ⟨v6, s6, q6, r6⟩ := Ci (R := D5) (sz := 3) Q8a (by kernel_rfl) (by decide) (fun _ _ _ h hw => Q8x h hw) k6 w6
  obtain ⟨v7, s7, q7, r7⟩ := Ci (R := M8) (sz := 7) Q8J (by kernel_rfl) (by decide) (fun _ _ _ h hw => Q8g h hw) k7 w7
  simp at q0 q1 q2 q3 q4 q5 q6 q7
  subst q0 q1 q2 q3 q4 q5 q6 q7
  exact ⟨⟨s0, s1, s2, s3, s4, s5, s6, s7⟩, _, _, _, rfl, r2, r6, r7, r0, r1⟩
theorem Q7p (h : DataW.trod enc P W 0 (fun _ => true) true fuel T.f cs = some x) (hw : Wt P T.f x.1) : ∃ v l, cs = [v] ∧ Sl 8 V0 (I9 W) v l :=
  Ci Q68 (by kernel_rfl) (by decide) (fun _ _ _ h hw => Q8l h hw) h hw
end Go.Proofs.YtdnfaboigajkhaaGreatDoor

namespace Go.Emb
def U6 {α β : Type} (stp : β → α → Bool × β) : β → List α → Nat → Option Nat × β
  | s, [], _ => (none, s)
  | s, x :: xs, i => if (stp s x).1 then (some i, (stp s x).2) else U6 stp (stp s x).2 xs (i + 1)
def W8 (o : Option Nat) : Int := match o with | some i => i | none => -1
theorem I6 {α : Type} (p : α → Bool) : ∀ (xs : List α) (i : Nat), (U6 (fun (_ : Unit) x => (p x, ())) () xs i).1 = (xs.findIdx? p).map (· + i) := by
  intro xs
  induction xs with
  | nil => intro i; rfl
  | cons x r ih =>
    intro i
    rw [List.findIdx?_cons]
    simp only [U6]
    cases p x with
    | true => simp
    | false =>
      simp only [Bool.false_eq_true, if_false]
      rw [ih (i + 1), Option.map_map]
      congr 1; funext n; simp only [Function.comp]; omega
theorem Ba {α β : Type} (stp : β → α → Bool × β) (s : β) (xs : List α) (i : Nat) : decide ((0 : Int) ≤ W8 (U6 stp s xs i).1) = (U6 stp s xs i).1.isSome := by
  cases (U6 stp s xs i).1 <;> simp [W8]
end Go.Emb
namespace Go.Proofs.YtdnfaboigajkhaaGreatDoor
open Go.Emb Go.RowKit Go.Kd Go.Hm
variable {w : World} {K : Value → World → Prop} {σ : Q6}
theorem Zy {β : Type} {xs : List Hm.Met} {v f : Value} (stp : β → Hm.Met → Bool × β) (s0 : β) (Inv : β → World → Prop) (D : Nat → Prop) (hsat : ∀ s w, Inv s w → X6 w σ) (h0 : Inv s0 w) (hv : Sl 7 M8 σ v xs)
    (hf : ∀ s x cs (w1 : World) (K : Value → World → Prop), x ∈ xs → Kpt D w w1 → Inv s w1 → M8 σ x cs → cs.length = 7 → (∀ w', Kpt D w w' → Inv (stp s x).2 w' → K (.bool (stp s x).1) w') → Z4 P f [.agg cs.toArray] w1 K)
    (h : ∀ w', Kpt D w w' → Inv (U6 stp s0 xs 0).2 w' → K (I (W8 (U6 stp s0 xs 0).1)) w') : Q1 P F.h [v, f] w K := T2 (by
  unfold H1
  ((try simp only [↓Mm, Mm, ↓Mr, Mr, Mb, reduceIte]); repeat ((first | refine ld (by assumption) (by assumption) rfl ?_ | refine X7 (by assumption) (by assumption) rfl ?_ | refine Q7 (by assumption) ?_); (try simp only [↓Mm, Mm, ↓Mr, Mr, Mb, reduceIte])))
  refine V7 xs.length (fun n w' => Kpt D w w' ∧ ∃ s, Inv s w' ∧ U6 stp s0 xs 0 = U6 stp s (xs.drop n) n) ⟨Kpt.refl, s0, h0, rfl⟩ fun n w1 d hn hi => ?_
  obtain ⟨hk, s, hi, he⟩ := hi
  have hs1 := hsat s w1 hi
  ((try simp only [↓Mm, Mm, ↓Mr, Mr, Mb, reduceIte]); repeat ((first | refine ld (by assumption) (by assumption) rfl ?_ | refine X7 (by assumption) (by assumption) rfl ?_ | refine Q7 (by assumption) ?_); (try simp only [↓Mm, Mm, ↓Mr, Mr, Mb, reduceIte])))
  refine Q4 (fun hc => ?_) (fun hc => ?_)
  · have hn' : n < xs.length := by simpa using hc
    refine L3 hv hn' fun p cs hl hlen hr => ?_
    refine Z0 hs1 hl hlen ?_
    refine hf s xs[n] cs w1 _ (List.getElem_mem hn') hk hi hr hlen fun w2 hk2 hi2 => ?_
    rw [List.drop_eq_getElem_cons hn'] at he
    simp only [U6] at he
    refine Q4 (fun hb => ?_) (fun hb => ?_)
    · rw [hb] at he
      have := h w2 hk2
      rw [he] at this
      exact this hi2
    · rw [hb] at he
      ((try simp only [↓Mm, Mm, ↓Mr, Mr, Mb, reduceIte]); repeat ((first | refine ld (by assumption) (by assumption) rfl ?_ | refine X7 (by assumption) (by assumption) rfl ?_ | refine Q7 (by assumption) ?_); (try simp only [↓Mm, Mm, ↓Mr, Mr, Mb, reduceIte])))
      exact Z2 hv.max hn' ⟨hk2, _, hi2, by simpa using he⟩
  · have hn' : ¬ n < xs.length := by simpa using hc
    rw [List.drop_eq_nil_of_le (by omega)] at he
    have := h w1 hk
    rw [he] at this
    exact this hi)
theorem Xn {β : Type} {xs : List Hm.Met} {v f : Value} (stp : β → Hm.Met → Bool × β) (s0 : β) (Inv : β → World → Prop) (D : Nat → Prop) (hsat : ∀ s w, Inv s w → X6 w σ) (h0 : Inv s0 w) (hv : Sl 7 M8 σ v xs)
    (hf : ∀ s x cs (w1 : World) (K : Value → World → Prop), x ∈ xs → Kpt D w w1 → Inv s w1 → M8 σ x cs → cs.length = 7 → (∀ w', Kpt D w w' → Inv (stp s x).2 w' → K (.bool (stp s x).1) w') → Z4 P f [.agg cs.toArray] w1 K)
    (h : ∀ w', Kpt D w w' → Inv (U6 stp s0 xs 0).2 w' → K (.bool (U6 stp s0 xs 0).1.isSome) w') : Q1 P F.a [v, f] w K := I1 (by
  unfold D8
  refine Zy stp s0 Inv D hsat h0 hv hf fun w1 hk hi => ?_
  (try simp only [↓Mm, Mm, ↓Mr, Mr, Mb, reduceIte])
  rw [Ba]
  exact h w1 hk hi)
theorem Et {xs : List Hm.Met} {v f : Value} (p : Hm.Met → Bool) (hs : X6 w σ) (hv : Sl 7 M8 σ v xs)
    (hf : ∀ x cs (w1 : World) (K : Value → World → Prop), x ∈ xs → X6 w1 σ → M8 σ x cs → cs.length = 7 → (∀ w', Below w1.heap.size w1 w' → K (.bool (p x)) w') → Z4 P f [.agg cs.toArray] w1 K)
    (h : ∀ w', Below w.heap.size w w' → K (I (W8 (xs.findIdx? p))) w') : Q1 P F.h [v, f] w K := by
  refine Zy (fun (_ : Unit) x => (p x, ())) () (fun _ w' => Below w.heap.size w w') (fun _ => False) (fun _ w' hb => hs.below hb) (Below.refl _ _) hv (fun s x cs w1 K hx hk hi hr hl hK => hf x cs w1 K hx (hs.below hi) hr hl fun w' hb => hK w' (.of_below (bt hi hb)) (bt hi hb)) fun w' hk hi => ?_
  rw [I6]
  simpa using h w' hi
theorem H2 {xs : List Hm.Met} {v f : Value} (p : Hm.Met → Bool) (hs : X6 w σ) (hv : Sl 7 M8 σ v xs)
    (hf : ∀ x cs (w1 : World) (K : Value → World → Prop), x ∈ xs → X6 w1 σ → M8 σ x cs → cs.length = 7 → (∀ w', Below w1.heap.size w1 w' → K (.bool (p x)) w') → Z4 P f [.agg cs.toArray] w1 K)
    (h : ∀ w', Below w.heap.size w w' → K (.bool (xs.any p)) w') : Q1 P F.a [v, f] w K := by
  refine Xn (fun (_ : Unit) x => (p x, ())) () (fun _ w' => Below w.heap.size w w') (fun _ => False) (fun _ w' hb => hs.below hb) (Below.refl _ _) hv (fun s x cs w1 K hx hk hi hr hl hK => hf x cs w1 K hx (hs.below hi) hr hl fun w' hb => hK w' (.of_below (bt hi hb)) (bt hi hb)) fun w' hk hi => ?_
  rw [I6]
  simpa using h w' hi
theorem Uc {β : Type} {xs : List Fld} {v f : Value} (stp : β → Fld → Bool × β) (s0 : β) (Inv : β → World → Prop) (D : Nat → Prop) (hsat : ∀ s w, Inv s w → X6 w σ) (h0 : Inv s0 w) (hv : Sl 3 D5 σ v xs)
    (hf : ∀ s x cs (w1 : World) (K : Value → World → Prop), x ∈ xs → Kpt D w w1 → Inv s w1 → D5 σ x cs → cs.length = 3 → (∀ w', Kpt D w w' → Inv (stp s x).2 w' → K (.bool (stp s x).1) w') → Z4 P f [.agg cs.toArray] w1 K)
    (h : ∀ w', Kpt D w w' → Inv (U6 stp s0 xs 0).2 w' → K (I (W8 (U6 stp s0 xs 0).1)) w') : Q1 P F.j [v, f] w K := Qd (by
  unfold H8
  ((try simp only [↓Mm, Mm, ↓Mr, Mr, Mb, reduceIte]); repeat ((first | refine ld (by assumption) (by assumption) rfl ?_ | refine X7 (by assumption) (by assumption) rfl ?_ | refine Q7 (by assumption) ?_); (try simp only [↓Mm, Mm, ↓Mr, Mr, Mb, reduceIte])))
  refine V7 xs.length (fun n w' => Kpt D w w' ∧ ∃ s, Inv s w' ∧ U6 stp s0 xs 0 = U6 stp s (xs.drop n) n) ⟨Kpt.refl, s0, h0, rfl⟩ fun n w1 d hn hi => ?_
  obtain ⟨hk, s, hi, he⟩ := hi
  have hs1 := hsat s w1 hi
  ((try simp only [↓Mm, Mm, ↓Mr, Mr, Mb, reduceIte]); repeat ((first | refine ld (by assumption) (by assumption) rfl ?_ | refine X7 (by assumption) (by assumption) rfl ?_ | refine Q7 (by assumption) ?_); (try simp only [↓Mm, Mm, ↓Mr, Mr, Mb, reduceIte])))
  refine Q4 (fun hc => ?_) (fun hc => ?_)
  · have hn' : n < xs.length := by simpa using hc
    refine L3 hv hn' fun p cs hl hlen hr => ?_
    refine Z0 hs1 hl hlen ?_
    refine hf s xs[n] cs w1 _ (List.getElem_mem hn') hk hi hr hlen fun w2 hk2 hi2 => ?_
    rw [List.drop_eq_getElem_cons hn'] at he
    simp only [U6] at he
    refine Q4 (fun hb => ?_) (fun hb => ?_)
    · rw [hb] at he
      have := h w2 hk2
      rw [he] at this
      exact this hi2
    · rw [hb] at he
      ((try simp only [↓Mm, Mm, ↓Mr, Mr, Mb, reduceIte]); repeat ((first | refine ld (by assumption) (by assumption) rfl ?_ | refine X7 (by assumption) (by assumption) rfl ?_ | refine Q7 (by assumption) ?_); (try simp only [↓Mm, Mm, ↓Mr, Mr, Mb, reduceIte])))
      exact Z2 hv.max hn' ⟨hk2, _, hi2, by simpa using he⟩
  · have hn' : ¬ n < xs.length := by simpa using hc
    rw [List.drop_eq_nil_of_le (by omega)] at he
    have := h w1 hk
    rw [he] at this
    exact this hi)
theorem Nr {β : Type} {xs : List Fld} {v f : Value} (stp : β → Fld → Bool × β) (s0 : β) (Inv : β → World → Prop) (D : Nat → Prop) (hsat : ∀ s w, Inv s w → X6 w σ) (h0 : Inv s0 w) (hv : Sl 3 D5 σ v xs)
    (hf : ∀ s x cs (w1 : World) (K : Value → World → Prop), x ∈ xs → Kpt D w w1 → Inv s w1 → D5 σ x cs → cs.length = 3 → (∀ w', Kpt D w w' → Inv (stp s x).2 w' → K (.bool (stp s x).1) w') → Z4 P f [.agg cs.toArray] w1 K)
    (h : ∀ w', Kpt D w w' → Inv (U6 stp s0 xs 0).2 w' → K (.bool (U6 stp s0 xs 0).1.isSome) w') : Q1 P F.g [v, f] w K := P4 (by
  unfold E8
  refine Uc stp s0 Inv D hsat h0 hv hf fun w1 hk hi => ?_
  (try simp only [↓Mm, Mm, ↓Mr, Mr, Mb, reduceIte])
  rw [Ba]
  exact h w1 hk hi)
theorem Hj {xs : List Fld} {v f : Value} (p : Fld → Bool) (hs : X6 w σ) (hv : Sl 3 D5 σ v xs)
    (hf : ∀ x cs (w1 : World) (K : Value → World → Prop), x ∈ xs → X6 w1 σ → D5 σ x cs → cs.length = 3 → (∀ w', Below w1.heap.size w1 w' → K (.bool (p x)) w') → Z4 P f [.agg cs.toArray] w1 K)
    (h : ∀ w', Below w.heap.size w w' → K (I (W8 (xs.findIdx? p))) w') : Q1 P F.j [v, f] w K := by
  refine Uc (fun (_ : Unit) x => (p x, ())) () (fun _ w' => Below w.heap.size w w') (fun _ => False) (fun _ w' hb => hs.below hb) (Below.refl _ _) hv (fun s x cs w1 K hx hk hi hr hl hK => hf x cs w1 K hx (hs.below hi) hr hl fun w' hb => hK w' (.of_below (bt hi hb)) (bt hi hb)) fun w' hk hi => ?_
  rw [I6]
  simpa using h w' hi
theorem Yd {xs : List Fld} {v f : Value} (p : Fld → Bool) (hs : X6 w σ) (hv : Sl 3 D5 σ v xs)
    (hf : ∀ x cs (w1 : World) (K : Value → World → Prop), x ∈ xs → X6 w1 σ → D5 σ x cs → cs.length = 3 → (∀ w', Below w1.heap.size w1 w' → K (.bool (p x)) w') → Z4 P f [.agg cs.toArray] w1 K)
    (h : ∀ w', Below w.heap.size w w' → K (.bool (xs.any p)) w') : Q1 P F.g [v, f] w K := by
  refine Nr (fun (_ : Unit) x => (p x, ())) () (fun _ w' => Below w.heap.size w w') (fun _ => False) (fun _ w' hb => hs.below hb) (Below.refl _ _) hv (fun s x cs w1 K hx hk hi hr hl hK => hf x cs w1 K hx (hs.below hi) hr hl fun w' hb => hK w' (.of_below (bt hi hb)) (bt hi hb)) fun w' hk hi => ?_
  rw [I6]
  simpa using h w' hi
theorem Rk {β : Type} {xs : List Ins} {v f : Value} (stp : β → Ins → Bool × β) (s0 : β) (Inv : β → World → Prop) (D : Nat → Prop) (hsat : ∀ s w, Inv s w → X6 w σ) (h0 : Inv s0 w) (hv : Sl 3 I5 σ v xs)
    (hf : ∀ s x cs (w1 : World) (K : Value → World → Prop), x ∈ xs → Kpt D w w1 → Inv s w1 → I5 σ x cs → cs.length = 3 → (∀ w', Kpt D w w' → Inv (stp s x).2 w' → K (.bool (stp s x).1) w') → Z4 P f [.agg cs.toArray] w1 K)
    (h : ∀ w', Kpt D w w' → Inv (U6 stp s0 xs 0).2 w' → K (I (W8 (U6 stp s0 xs 0).1)) w') : Q1 P F.z [v, f] w K := Qm (by
  unfold H6
  ((try simp only [↓Mm, Mm, ↓Mr, Mr, Mb, reduceIte]); repeat ((first | refine ld (by assumption) (by assumption) rfl ?_ | refine X7 (by assumption) (by assumption) rfl ?_ | refine Q7 (by assumption) ?_); (try simp only [↓Mm, Mm, ↓Mr, Mr, Mb, reduceIte])))
  refine V7 xs.length (fun n w' => Kpt D w w' ∧ ∃ s, Inv s w' ∧ U6 stp s0 xs 0 = U6 stp s (xs.drop n) n) ⟨Kpt.refl, s0, h0, rfl⟩ fun n w1 d hn hi => ?_
  obtain ⟨hk, s, hi, he⟩ := hi
  have hs1 := hsat s w1 hi
  ((try simp only [↓Mm, Mm, ↓Mr, Mr, Mb, reduceIte]); repeat ((first | refine ld (by assumption) (by assumption) rfl ?_ | refine X7 (by assumption) (by assumption) rfl ?_ | refine Q7 (by assumption) ?_); (try simp only [↓Mm, Mm, ↓Mr, Mr, Mb, reduceIte])))
  refine Q4 (fun hc => ?_) (fun hc => ?_)
  · have hn' : n < xs.length := by simpa using hc
    refine L3 hv hn' fun p cs hl hlen hr => ?_
    refine Z0 hs1 hl hlen ?_
    refine hf s xs[n] cs w1 _ (List.getElem_mem hn') hk hi hr hlen fun w2 hk2 hi2 => ?_
    rw [List.drop_eq_getElem_cons hn'] at he
    simp only [U6] at he
    refine Q4 (fun hb => ?_) (fun hb => ?_)
    · rw [hb] at he
      have := h w2 hk2
      rw [he] at this
      exact this hi2
    · rw [hb] at he
      ((try simp only [↓Mm, Mm, ↓Mr, Mr, Mb, reduceIte]); repeat ((first | refine ld (by assumption) (by assumption) rfl ?_ | refine X7 (by assumption) (by assumption) rfl ?_ | refine Q7 (by assumption) ?_); (try simp only [↓Mm, Mm, ↓Mr, Mr, Mb, reduceIte])))
      exact Z2 hv.max hn' ⟨hk2, _, hi2, by simpa using he⟩
  · have hn' : ¬ n < xs.length := by simpa using hc
    rw [List.drop_eq_nil_of_le (by omega)] at he
    have := h w1 hk
    rw [he] at this
    exact this hi)
theorem Oj {β : Type} {xs : List Ins} {v f : Value} (stp : β → Ins → Bool × β) (s0 : β) (Inv : β → World → Prop) (D : Nat → Prop) (hsat : ∀ s w, Inv s w → X6 w σ) (h0 : Inv s0 w) (hv : Sl 3 I5 σ v xs)
    (hf : ∀ s x cs (w1 : World) (K : Value → World → Prop), x ∈ xs → Kpt D w w1 → Inv s w1 → I5 σ x cs → cs.length = 3 → (∀ w', Kpt D w w' → Inv (stp s x).2 w' → K (.bool (stp s x).1) w') → Z4 P f [.agg cs.toArray] w1 K)
    (h : ∀ w', Kpt D w w' → Inv (U6 stp s0 xs 0).2 w' → K (.bool (U6 stp s0 xs 0).1.isSome) w') : Q1 P F.k [v, f] w K := P2 (by
  unfold E7
  refine Rk stp s0 Inv D hsat h0 hv hf fun w1 hk hi => ?_
  (try simp only [↓Mm, Mm, ↓Mr, Mr, Mb, reduceIte])
  rw [Ba]
  exact h w1 hk hi)
theorem Oc {xs : List Ins} {v f : Value} (p : Ins → Bool) (hs : X6 w σ) (hv : Sl 3 I5 σ v xs)
    (hf : ∀ x cs (w1 : World) (K : Value → World → Prop), x ∈ xs → X6 w1 σ → I5 σ x cs → cs.length = 3 → (∀ w', Below w1.heap.size w1 w' → K (.bool (p x)) w') → Z4 P f [.agg cs.toArray] w1 K)
    (h : ∀ w', Below w.heap.size w w' → K (.bool (xs.any p)) w') : Q1 P F.k [v, f] w K := by
  refine Oj (fun (_ : Unit) x => (p x, ())) () (fun _ w' => Below w.heap.size w w') (fun _ => False) (fun _ w' hb => hs.below hb) (Below.refl _ _) hv (fun s x cs w1 K hx hk hi hr hl hK => hf x cs w1 K hx (hs.below hi) hr hl fun w' hb => hK w' (.of_below (bt hi hb)) (bt hi hb)) fun w' hk hi => ?_
  rw [I6]
  simpa using h w' hi
theorem Hr {β : Type} {xs : List Cat} {v f : Value} (stp : β → Cat → Bool × β) (s0 : β) (Inv : β → World → Prop) (D : Nat → Prop) (hsat : ∀ s w, Inv s w → X6 w σ) (h0 : Inv s0 w) (hv : Sl 4 Qt σ v xs)
    (hf : ∀ s x cs (w1 : World) (K : Value → World → Prop), x ∈ xs → Kpt D w w1 → Inv s w1 → Qt σ x cs → cs.length = 4 → (∀ w', Kpt D w w' → Inv (stp s x).2 w' → K (.bool (stp s x).1) w') → Z4 P f [.agg cs.toArray] w1 K)
    (h : ∀ w', Kpt D w w' → Inv (U6 stp s0 xs 0).2 w' → K (I (W8 (U6 stp s0 xs 0).1)) w') : Q1 P F.a0 [v, f] w K := Qj (by
  unfold H5
  ((try simp only [↓Mm, Mm, ↓Mr, Mr, Mb, reduceIte]); repeat ((first | refine ld (by assumption) (by assumption) rfl ?_ | refine X7 (by assumption) (by assumption) rfl ?_ | refine Q7 (by assumption) ?_); (try simp only [↓Mm, Mm, ↓Mr, Mr, Mb, reduceIte])))
  refine V7 xs.length (fun n w' => Kpt D w w' ∧ ∃ s, Inv s w' ∧ U6 stp s0 xs 0 = U6 stp s (xs.drop n) n) ⟨Kpt.refl, s0, h0, rfl⟩ fun n w1 d hn hi => ?_
  obtain ⟨hk, s, hi, he⟩ := hi
  have hs1 := hsat s w1 hi
  ((try simp only [↓Mm, Mm, ↓Mr, Mr, Mb, reduceIte]); repeat ((first | refine ld (by assumption) (by assumption) rfl ?_ | refine X7 (by assumption) (by assumption) rfl ?_ | refine Q7 (by assumption) ?_); (try simp only [↓Mm, Mm, ↓Mr, Mr, Mb, reduceIte])))
  refine Q4 (fun hc => ?_) (fun hc => ?_)
  · have hn' : n < xs.length := by simpa using hc
    refine L3 hv hn' fun p cs hl hlen hr => ?_
    refine Z0 hs1 hl hlen ?_
    refine hf s xs[n] cs w1 _ (List.getElem_mem hn') hk hi hr hlen fun w2 hk2 hi2 => ?_
    rw [List.drop_eq_getElem_cons hn'] at he
    simp only [U6] at he
    refine Q4 (fun hb => ?_) (fun hb => ?_)
    · rw [hb] at he
      have := h w2 hk2
      rw [he] at this
      exact this hi2
    · rw [hb] at he
      ((try simp only [↓Mm, Mm, ↓Mr, Mr, Mb, reduceIte]); repeat ((first | refine ld (by assumption) (by assumption) rfl ?_ | refine X7 (by assumption) (by assumption) rfl ?_ | refine Q7 (by assumption) ?_); (try simp only [↓Mm, Mm, ↓Mr, Mr, Mb, reduceIte])))
      exact Z2 hv.max hn' ⟨hk2, _, hi2, by simpa using he⟩
  · have hn' : ¬ n < xs.length := by simpa using hc
    rw [List.drop_eq_nil_of_le (by omega)] at he
    have := h w1 hk
    rw [he] at this
    exact this hi)
theorem Og {β : Type} {xs : List Cat} {v f : Value} (stp : β → Cat → Bool × β) (s0 : β) (Inv : β → World → Prop) (D : Nat → Prop) (hsat : ∀ s w, Inv s w → X6 w σ) (h0 : Inv s0 w) (hv : Sl 4 Qt σ v xs)
    (hf : ∀ s x cs (w1 : World) (K : Value → World → Prop), x ∈ xs → Kpt D w w1 → Inv s w1 → Qt σ x cs → cs.length = 4 → (∀ w', Kpt D w w' → Inv (stp s x).2 w' → K (.bool (stp s x).1) w') → Z4 P f [.agg cs.toArray] w1 K)
    (h : ∀ w', Kpt D w w' → Inv (U6 stp s0 xs 0).2 w' → K (.bool (U6 stp s0 xs 0).1.isSome) w') : Q1 P F.l [v, f] w K := P3 (by
  unfold E9
  refine Hr stp s0 Inv D hsat h0 hv hf fun w1 hk hi => ?_
  (try simp only [↓Mm, Mm, ↓Mr, Mr, Mb, reduceIte])
  rw [Ba]
  exact h w1 hk hi)
theorem Da {xs : List Cat} {v f : Value} (p : Cat → Bool) (hs : X6 w σ) (hv : Sl 4 Qt σ v xs)
    (hf : ∀ x cs (w1 : World) (K : Value → World → Prop), x ∈ xs → X6 w1 σ → Qt σ x cs → cs.length = 4 → (∀ w', Below w1.heap.size w1 w' → K (.bool (p x)) w') → Z4 P f [.agg cs.toArray] w1 K)
    (h : ∀ w', Below w.heap.size w w' → K (.bool (xs.any p)) w') : Q1 P F.l [v, f] w K := by
  refine Og (fun (_ : Unit) x => (p x, ())) () (fun _ w' => Below w.heap.size w w') (fun _ => False) (fun _ w' hb => hs.below hb) (Below.refl _ _) hv (fun s x cs w1 K hx hk hi hr hl hK => hf x cs w1 K hx (hs.below hi) hr hl fun w' hb => hK w' (.of_below (bt hi hb)) (bt hi hb)) fun w' hk hi => ?_
  rw [I6]
  simpa using h w' hi
theorem Rb {β : Type} {xs : List Cla} {v f : Value} (stp : β → Cla → Bool × β) (s0 : β) (Inv : β → World → Prop) (D : Nat → Prop) (hsat : ∀ s w, Inv s w → X6 w σ) (h0 : Inv s0 w) (hv : Sl 8 V0 σ v xs)
    (hf : ∀ s x cs (w1 : World) (K : Value → World → Prop), x ∈ xs → Kpt D w w1 → Inv s w1 → V0 σ x cs → cs.length = 8 → (∀ w', Kpt D w w' → Inv (stp s x).2 w' → K (.bool (stp s x).1) w') → Z4 P f [.agg cs.toArray] w1 K)
    (h : ∀ w', Kpt D w w' → Inv (U6 stp s0 xs 0).2 w' → K (I (W8 (U6 stp s0 xs 0).1)) w') : Q1 P F.o [v, f] w K := Qg (by
  unfold H4
  ((try simp only [↓Mm, Mm, ↓Mr, Mr, Mb, reduceIte]); repeat ((first | refine ld (by assumption) (by assumption) rfl ?_ | refine X7 (by assumption) (by assumption) rfl ?_ | refine Q7 (by assumption) ?_); (try simp only [↓Mm, Mm, ↓Mr, Mr, Mb, reduceIte])))
  refine V7 xs.length (fun n w' => Kpt D w w' ∧ ∃ s, Inv s w' ∧ U6 stp s0 xs 0 = U6 stp s (xs.drop n) n) ⟨Kpt.refl, s0, h0, rfl⟩ fun n w1 d hn hi => ?_
  obtain ⟨hk, s, hi, he⟩ := hi
  have hs1 := hsat s w1 hi
  ((try simp only [↓Mm, Mm, ↓Mr, Mr, Mb, reduceIte]); repeat ((first | refine ld (by assumption) (by assumption) rfl ?_ | refine X7 (by assumption) (by assumption) rfl ?_ | refine Q7 (by assumption) ?_); (try simp only [↓Mm, Mm, ↓Mr, Mr, Mb, reduceIte])))
  refine Q4 (fun hc => ?_) (fun hc => ?_)
  · have hn' : n < xs.length := by simpa using hc
    refine L3 hv hn' fun p cs hl hlen hr => ?_
    refine Z0 hs1 hl hlen ?_
    refine hf s xs[n] cs w1 _ (List.getElem_mem hn') hk hi hr hlen fun w2 hk2 hi2 => ?_
    rw [List.drop_eq_getElem_cons hn'] at he
    simp only [U6] at he
    refine Q4 (fun hb => ?_) (fun hb => ?_)
    · rw [hb] at he
      have := h w2 hk2
      rw [he] at this
      exact this hi2
    · rw [hb] at he
      ((try simp only [↓Mm, Mm, ↓Mr, Mr, Mb, reduceIte]); repeat ((first | refine ld (by assumption) (by assumption) rfl ?_ | refine X7 (by assumption) (by assumption) rfl ?_ | refine Q7 (by assumption) ?_); (try simp only [↓Mm, Mm, ↓Mr, Mr, Mb, reduceIte])))
      exact Z2 hv.max hn' ⟨hk2, _, hi2, by simpa using he⟩
  · have hn' : ¬ n < xs.length := by simpa using hc
    rw [List.drop_eq_nil_of_le (by omega)] at he
    have := h w1 hk
    rw [he] at this
    exact this hi)
theorem Hq {xs : List Cla} {v f : Value} (p : Cla → Bool) (hs : X6 w σ) (hv : Sl 8 V0 σ v xs)
    (hf : ∀ x cs (w1 : World) (K : Value → World → Prop), x ∈ xs → X6 w1 σ → V0 σ x cs → cs.length = 8 → (∀ w', Below w1.heap.size w1 w' → K (.bool (p x)) w') → Z4 P f [.agg cs.toArray] w1 K)
    (h : ∀ w', Below w.heap.size w w' → K (I (W8 (xs.findIdx? p))) w') : Q1 P F.o [v, f] w K := by
  refine Rb (fun (_ : Unit) x => (p x, ())) () (fun _ w' => Below w.heap.size w w') (fun _ => False) (fun _ w' hb => hs.below hb) (Below.refl _ _) hv (fun s x cs w1 K hx hk hi hr hl hK => hf x cs w1 K hx (hs.below hi) hr hl fun w' hb => hK w' (.of_below (bt hi hb)) (bt hi hb)) fun w' hk hi => ?_
  rw [I6]
  simpa using h w' hi
theorem Gy {β : Type} {xs : List X0} {v f : Value} (stp : β → X0 → Bool × β) (s0 : β) (Inv : β → World → Prop) (D : Nat → Prop) (hsat : ∀ s w, Inv s w → X6 w σ) (h0 : Inv s0 w) (hv : Sl 1 U9 σ v xs)
    (hf : ∀ s x (w1 : World) (K : Value → World → Prop), x ∈ xs → Kpt D w w1 → Inv s w1 → x.length ≤ V9 → (∀ w', Kpt D w w' → Inv (stp s x).2 w' → K (.bool (stp s x).1) w') → Z4 P f [S x] w1 K)
    (h : ∀ w', Kpt D w w' → Inv (U6 stp s0 xs 0).2 w' → K (I (W8 (U6 stp s0 xs 0).1)) w') : Q1 P F.u [v, f] w K := Zr (by
  unfold B3
  ((try simp only [↓Mm, Mm, ↓Mr, Mr, Mb, reduceIte]); repeat ((first | refine ld (by assumption) (by assumption) rfl ?_ | refine X7 (by assumption) (by assumption) rfl ?_ | refine Q7 (by assumption) ?_); (try simp only [↓Mm, Mm, ↓Mr, Mr, Mb, reduceIte])))
  refine V7 xs.length (fun n w' => Kpt D w w' ∧ ∃ s, Inv s w' ∧ U6 stp s0 xs 0 = U6 stp s (xs.drop n) n) ⟨Kpt.refl, s0, h0, rfl⟩ fun n w1 d hn hi => ?_
  obtain ⟨hk, s, hi, he⟩ := hi
  have hs1 := hsat s w1 hi
  ((try simp only [↓Mm, Mm, ↓Mr, Mr, Mb, reduceIte]); repeat ((first | refine ld (by assumption) (by assumption) rfl ?_ | refine X7 (by assumption) (by assumption) rfl ?_ | refine Q7 (by assumption) ?_); (try simp only [↓Mm, Mm, ↓Mr, Mr, Mb, reduceIte])))
  refine Q4 (fun hc => ?_) (fun hc => ?_)
  · have hn' : n < xs.length := by simpa using hc
    refine L3 hv hn' fun p cs hl hlen hr => ?_
    obtain ⟨rfl, hbig⟩ := hr
    refine X7 hs1 hl rfl ?_
    refine hf s xs[n] w1 _ (List.getElem_mem hn') hk hi hbig fun w2 hk2 hi2 => ?_
    rw [List.drop_eq_getElem_cons hn'] at he
    simp only [U6] at he
    refine Q4 (fun hb => ?_) (fun hb => ?_)
    · rw [hb] at he
      have := h w2 hk2
      rw [he] at this
      exact this hi2
    · rw [hb] at he
      ((try simp only [↓Mm, Mm, ↓Mr, Mr, Mb, reduceIte]); repeat ((first | refine ld (by assumption) (by assumption) rfl ?_ | refine X7 (by assumption) (by assumption) rfl ?_ | refine Q7 (by assumption) ?_); (try simp only [↓Mm, Mm, ↓Mr, Mr, Mb, reduceIte])))
      exact Z2 hv.max hn' ⟨hk2, _, hi2, by simpa using he⟩
  · have hn' : ¬ n < xs.length := by simpa using hc
    rw [List.drop_eq_nil_of_le (by omega)] at he
    have := h w1 hk
    rw [he] at this
    exact this hi)
theorem Gr {xs : List X0} {v f : Value} (p : X0 → Bool) (hs : X6 w σ) (hv : Sl 1 U9 σ v xs)
    (hf : ∀ x (w1 : World) (K : Value → World → Prop), x ∈ xs → X6 w1 σ → x.length ≤ V9 → (∀ w', Below w1.heap.size w1 w' → K (.bool (p x)) w') → Z4 P f [S x] w1 K)
    (h : ∀ w', Below w.heap.size w w' → K (I (W8 (xs.findIdx? p))) w') : Q1 P F.u [v, f] w K := by
  refine Gy (fun (_ : Unit) x => (p x, ())) () (fun _ w' => Below w.heap.size w w') (fun _ => False) (fun _ w' hb => hs.below hb) (Below.refl _ _) hv (fun s x w1 K hx hk hi hr hK => hf x w1 K hx (hs.below hi) hr fun w' hb => hK w' (.of_below (bt hi hb)) (bt hi hb)) fun w' hk hi => ?_
  rw [I6]
  simpa using h w' hi
theorem Q2i {α : Type} (p : α → Bool) (xs : List α) : decide ((0 : Int) ≤ W8 (xs.findIdx? p)) = xs.any p := by
  rw [Bool.eq_iff_iff, List.any_eq_true]
  simp only [decide_eq_true_eq]
  cases h : xs.findIdx? p with
  | none =>
    simp only [W8]
    constructor
    · intro h; omega
    · rintro ⟨x, hx, hp⟩; have := List.findIdx?_eq_none_iff.1 h x hx; rw [hp] at this; cases this
  | some i =>
    simp only [W8]
    obtain ⟨hi, hp, _⟩ := List.findIdx?_eq_some_iff_getElem.1 h
    exact ⟨fun _ => ⟨xs[i], List.getElem_mem hi, hp⟩, fun _ => by omega⟩
theorem C5 {xs : List X0} {v f : Value} (p : X0 → Bool) (hs : X6 w σ) (hv : Sl 1 U9 σ v xs)
    (hf : ∀ x (w1 : World) (K : Value → World → Prop), x ∈ xs → X6 w1 σ → x.length ≤ V9 → (∀ w', Below w1.heap.size w1 w' → K (.bool (p x)) w') → Z4 P f [S x] w1 K)
    (h : ∀ w', Below w.heap.size w w' → K (.bool (xs.any p)) w') : Q1 P F.c [v, f] w K := Xp (by
  unfold S8
  refine Gr p hs hv hf fun w1 hb => ?_
  (try simp only [↓Mm, Mm, ↓Mr, Mr, Mb, reduceIte])
  rw [Q2i]
  exact h w1 hb)
theorem Q0J {xs : List X0} {v : Value} {x : X0} (hs : X6 w σ) (hv : Sl 1 U9 σ v xs)
    (h : K (I (W8 (xs.findIdx? fun y => decide (x = y)))) w) : Q1 P F.ao [v, S x] w K := Vl (by
  unfold I7
  ((try simp only [↓Mm, Mm, ↓Mr, Mr, Mb, reduceIte]); repeat ((first | refine ld (by assumption) (by assumption) rfl ?_ | refine X7 (by assumption) (by assumption) rfl ?_ | refine Q7 (by assumption) ?_); (try simp only [↓Mm, Mm, ↓Mr, Mr, Mb, reduceIte])))
  refine V7 xs.length (fun n w' => w = w' ∧ (xs.take n).any (fun y => decide (x = y)) = false) ⟨rfl, rfl⟩ fun n w1 d hn hi => ?_
  obtain ⟨rfl, hi⟩ := hi
  ((try simp only [↓Mm, Mm, ↓Mr, Mr, Mb, reduceIte]); repeat ((first | refine ld (by assumption) (by assumption) rfl ?_ | refine X7 (by assumption) (by assumption) rfl ?_ | refine Q7 (by assumption) ?_); (try simp only [↓Mm, Mm, ↓Mr, Mr, Mb, reduceIte])))
  refine Q4 (fun hc => ?_) (fun hc => ?_)
  · have hn' : n < xs.length := by simpa using hc
    refine L3 hv hn' fun p cs hl hlen hr => ?_
    obtain ⟨rfl, hbig⟩ := hr
    ((try simp only [↓Mm, Mm, ↓Mr, Mr, Mb, reduceIte]); repeat ((first | refine ld (by assumption) (by assumption) rfl ?_ | refine X7 (by assumption) (by assumption) rfl ?_ | refine Q7 (by assumption) ?_); (try simp only [↓Mm, Mm, ↓Mr, Mr, Mb, reduceIte])))
    refine Q4 (fun hb => ?_) (fun hb => ?_)
    · have : xs.findIdx? (fun y => decide (x = y)) = some n := by
        rw [List.findIdx?_eq_some_iff_getElem]
        refine ⟨hn', hb, fun j hj => ?_⟩
        have := List.any_eq_false.1 hi (xs[j]) (List.mem_take_iff_getElem.2 ⟨j, by omega, rfl⟩)
        exact this
      rw [this] at h; exact h
    · ((try simp only [↓Mm, Mm, ↓Mr, Mr, Mb, reduceIte]); repeat ((first | refine ld (by assumption) (by assumption) rfl ?_ | refine X7 (by assumption) (by assumption) rfl ?_ | refine Q7 (by assumption) ?_); (try simp only [↓Mm, Mm, ↓Mr, Mr, Mb, reduceIte])))
      exact Z2 hv.max hn' ⟨rfl, by rw [M5 hn', hi, hb]; rfl⟩
  · have hn' : ¬ n < xs.length := by simpa using hc
    rw [D0 hn'] at hi
    have : xs.findIdx? (fun y => decide (x = y)) = none := by
      rw [List.findIdx?_eq_none_iff]; intro y hy; simpa using List.any_eq_false.1 hi y hy
    rw [this] at h; exact h)
theorem Ps {xs : List X0} {v : Value} {x : X0} (hs : X6 w σ) (hv : Sl 1 U9 σ v xs)
    (h : K (.bool (xs.any fun y => decide (x = y))) w) : Q1 P F.ab [v, S x] w K := Zz (by
  unfold B7
  refine Q0J hs hv ?_
  (try simp only [↓Mm, Mm, ↓Mr, Mr, Mb, reduceIte])
  rw [Q2i]
  exact h)
end Go.Proofs.YtdnfaboigajkhaaGreatDoor

namespace Go.Emb
abbrev Q6.Le (σ σ' : Q6) : Prop := ∀ b o, σ b = some o → σ' b = some o
def E4 {α : Type} (f : α → List UInt8) : List α → List α → Bool
  | _, [] => true
  | seen, x :: r => !(seen.any fun y => decide (f y = f x)) && E4 f (seen ++ [x]) r
theorem Zt {α : Type} (p : α → Bool) (xs : List α) : (!xs.any fun x => !p x) = xs.all p := by
  rw [List.all_eq_not_any_not]
end Go.Emb
namespace Go.Proofs.YtdnfaboigajkhaaGreatDoor
open Go.Emb Go.RowKit Go.Kd Go.Hm
variable {w : World} {K : Value → World → Prop} {σ : Q6}
theorem Gf {xs : List Hm.Met} {v : Value} {fn : Fn} {fs cps : Array Value} (p : Hm.Met → Bool) (hs : X6 w σ) (hv : Sl 7 M8 σ v xs)
    (hf : ∀ (σ1 : Q6) x cs (w1 : World) (K : Value → World → Prop), σ.Le σ1 → x ∈ xs → X6 w1 σ1 → M8 σ1 x cs → cs.length = 7 → (∀ w', Below w1.heap.size w1 w' → K (.bool (p x)) w') → Z4 P (.func fn fs cps) [.agg cs.toArray] w1 K)
    (h : ∀ w', Below w.heap.size w w' → K (.bool (xs.all p)) w') : Q1 P F.ak [v, .func fn fs cps] w K := Oi (by
  unfold Yh
  refine N0 hs fun a w1 σ1 hk ha => ?_
  simp only [Value.cells] at ha
  ((try simp only [↓Mm, Mm, ↓Mr, Mr, Mb, reduceIte]); repeat ((first | refine ld (by assumption) (by assumption) rfl ?_ | refine X7 (by assumption) (by assumption) rfl ?_ | refine Q7 (by assumption) ?_); (try simp only [↓Mm, Mm, ↓Mr, Mr, Mb, reduceIte])))
  refine H2 (fun x => !p x) hk.sat (hv.up hk) (fun x cs w2 K hx hs2 hr hl hK => ?_) fun w2 hb => ?_
  · refine Z9 (Mn ?_)
    unfold Qr
    refine N0 hs2 fun b w3 σ3 hk3 hb3 => ?_
    refine X7 hk3.sat (ha.up hk3) rfl ?_
    refine Z0 hk3.sat hb3 hl ?_
    refine hf σ3 x _ w3 _ (fun b o e => hk3.le b o (hk.le b o e)) hx hk3.sat (Rep.up hk3.le hr) hl fun w4 hb4 => ?_
    (try simp only [↓Mm, Mm, ↓Mr, Mr, Mb, reduceIte])
    exact hK w4 (bt hk3.bel hb4)
  · (try simp only [↓Mm, Mm, ↓Mr, Mr, Mb, reduceIte])
    rw [Zt]
    exact h w2 (bt hk.bel hb))
theorem Pl {xs : List Fld} {v : Value} {fn : Fn} {fs cps : Array Value} (p : Fld → Bool) (hs : X6 w σ) (hv : Sl 3 D5 σ v xs)
    (hf : ∀ (σ1 : Q6) x cs (w1 : World) (K : Value → World → Prop), σ.Le σ1 → x ∈ xs → X6 w1 σ1 → D5 σ1 x cs → cs.length = 3 → (∀ w', Below w1.heap.size w1 w' → K (.bool (p x)) w') → Z4 P (.func fn fs cps) [.agg cs.toArray] w1 K)
    (h : ∀ w', Below w.heap.size w w' → K (.bool (xs.all p)) w') : Q1 P F.an [v, .func fn fs cps] w K := De (by
  unfold Zg
  refine N0 hs fun a w1 σ1 hk ha => ?_
  simp only [Value.cells] at ha
  ((try simp only [↓Mm, Mm, ↓Mr, Mr, Mb, reduceIte]); repeat ((first | refine ld (by assumption) (by assumption) rfl ?_ | refine X7 (by assumption) (by assumption) rfl ?_ | refine Q7 (by assumption) ?_); (try simp only [↓Mm, Mm, ↓Mr, Mr, Mb, reduceIte])))
  refine Yd (fun x => !p x) hk.sat (hv.up hk) (fun x cs w2 K hx hs2 hr hl hK => ?_) fun w2 hb => ?_
  · refine Z9 (Nd ?_)
    unfold Xm
    refine N0 hs2 fun b w3 σ3 hk3 hb3 => ?_
    refine X7 hk3.sat (ha.up hk3) rfl ?_
    refine Z0 hk3.sat hb3 hl ?_
    refine hf σ3 x _ w3 _ (fun b o e => hk3.le b o (hk.le b o e)) hx hk3.sat (Rep.up hk3.le hr) hl fun w4 hb4 => ?_
    (try simp only [↓Mm, Mm, ↓Mr, Mr, Mb, reduceIte])
    exact hK w4 (bt hk3.bel hb4)
  · (try simp only [↓Mm, Mm, ↓Mr, Mr, Mb, reduceIte])
    rw [Zt]
    exact h w2 (bt hk.bel hb))
theorem Pn {xs : List Ins} {v : Value} {fn : Fn} {fs cps : Array Value} (p : Ins → Bool) (hs : X6 w σ) (hv : Sl 3 I5 σ v xs)
    (hf : ∀ (σ1 : Q6) x cs (w1 : World) (K : Value → World → Prop), σ.Le σ1 → x ∈ xs → X6 w1 σ1 → I5 σ1 x cs → cs.length = 3 → (∀ w', Below w1.heap.size w1 w' → K (.bool (p x)) w') → Z4 P (.func fn fs cps) [.agg cs.toArray] w1 K)
    (h : ∀ w', Below w.heap.size w w' → K (.bool (xs.all p)) w') : Q1 P F.ap [v, .func fn fs cps] w K := Dl (by
  unfold Zk
  refine N0 hs fun a w1 σ1 hk ha => ?_
  simp only [Value.cells] at ha
  ((try simp only [↓Mm, Mm, ↓Mr, Mr, Mb, reduceIte]); repeat ((first | refine ld (by assumption) (by assumption) rfl ?_ | refine X7 (by assumption) (by assumption) rfl ?_ | refine Q7 (by assumption) ?_); (try simp only [↓Mm, Mm, ↓Mr, Mr, Mb, reduceIte])))
  refine Oc (fun x => !p x) hk.sat (hv.up hk) (fun x cs w2 K hx hs2 hr hl hK => ?_) fun w2 hb => ?_
  · refine Z9 (Mz ?_)
    unfold Xi
    refine N0 hs2 fun b w3 σ3 hk3 hb3 => ?_
    refine X7 hk3.sat (ha.up hk3) rfl ?_
    refine Z0 hk3.sat hb3 hl ?_
    refine hf σ3 x _ w3 _ (fun b o e => hk3.le b o (hk.le b o e)) hx hk3.sat (Rep.up hk3.le hr) hl fun w4 hb4 => ?_
    (try simp only [↓Mm, Mm, ↓Mr, Mr, Mb, reduceIte])
    exact hK w4 (bt hk3.bel hb4)
  · (try simp only [↓Mm, Mm, ↓Mr, Mr, Mb, reduceIte])
    rw [Zt]
    exact h w2 (bt hk.bel hb))
theorem Pr {xs : List Cat} {v : Value} {fn : Fn} {fs cps : Array Value} (p : Cat → Bool) (hs : X6 w σ) (hv : Sl 4 Qt σ v xs)
    (hf : ∀ (σ1 : Q6) x cs (w1 : World) (K : Value → World → Prop), σ.Le σ1 → x ∈ xs → X6 w1 σ1 → Qt σ1 x cs → cs.length = 4 → (∀ w', Below w1.heap.size w1 w' → K (.bool (p x)) w') → Z4 P (.func fn fs cps) [.agg cs.toArray] w1 K)
    (h : ∀ w', Below w.heap.size w w' → K (.bool (xs.all p)) w') : Q1 P F.aq [v, .func fn fs cps] w K := Dh (by
  unfold Zi
  refine N0 hs fun a w1 σ1 hk ha => ?_
  simp only [Value.cells] at ha
  ((try simp only [↓Mm, Mm, ↓Mr, Mr, Mb, reduceIte]); repeat ((first | refine ld (by assumption) (by assumption) rfl ?_ | refine X7 (by assumption) (by assumption) rfl ?_ | refine Q7 (by assumption) ?_); (try simp only [↓Mm, Mm, ↓Mr, Mr, Mb, reduceIte])))
  refine Da (fun x => !p x) hk.sat (hv.up hk) (fun x cs w2 K hx hs2 hr hl hK => ?_) fun w2 hb => ?_
  · refine Z9 (Mu ?_)
    unfold Xo
    refine N0 hs2 fun b w3 σ3 hk3 hb3 => ?_
    refine X7 hk3.sat (ha.up hk3) rfl ?_
    refine Z0 hk3.sat hb3 hl ?_
    refine hf σ3 x _ w3 _ (fun b o e => hk3.le b o (hk.le b o e)) hx hk3.sat (Rep.up hk3.le hr) hl fun w4 hb4 => ?_
    (try simp only [↓Mm, Mm, ↓Mr, Mr, Mb, reduceIte])
    exact hK w4 (bt hk3.bel hb4)
  · (try simp only [↓Mm, Mm, ↓Mr, Mr, Mb, reduceIte])
    rw [Zt]
    exact h w2 (bt hk.bel hb))
theorem Hg {xs : List X0} {v : Value} {fn : Fn} {fs cps : Array Value} (p : X0 → Bool) (hs : X6 w σ) (hv : Sl 1 U9 σ v xs)
    (hf : ∀ (σ1 : Q6) x (w1 : World) (K : Value → World → Prop), σ.Le σ1 → x ∈ xs → X6 w1 σ1 → x.length ≤ V9 → (∀ w', Below w1.heap.size w1 w' → K (.bool (p x)) w') → Z4 P (.func fn fs cps) [S x] w1 K)
    (h : ∀ w', Below w.heap.size w w' → K (.bool (xs.all p)) w') : Q1 P F.a4 [v, .func fn fs cps] w K := Cu (by
  unfold We
  refine N0 hs fun a w1 σ1 hk ha => ?_
  simp only [Value.cells] at ha
  ((try simp only [↓Mm, Mm, ↓Mr, Mr, Mb, reduceIte]); repeat ((first | refine ld (by assumption) (by assumption) rfl ?_ | refine X7 (by assumption) (by assumption) rfl ?_ | refine Q7 (by assumption) ?_); (try simp only [↓Mm, Mm, ↓Mr, Mr, Mb, reduceIte])))
  refine C5 (fun x => !p x) hk.sat (hv.up hk) (fun x w2 K hx hs2 hr hK => ?_) fun w2 hb => ?_
  · refine Z9 (Hf ?_)
    unfold Je
    refine X7 hs2 ha rfl ?_
    refine hf σ1 x w2 _ hk.le hx hs2 hr fun w4 hb4 => ?_
    (try simp only [↓Mm, Mm, ↓Mr, Mr, Mb, reduceIte])
    exact hK w4 hb4
  · (try simp only [↓Mm, Mm, ↓Mr, Mr, Mb, reduceIte])
    rw [Zt]
    exact h w2 (bt hk.bel hb))
theorem Po {xs : List Hm.Met} {v : Value} {fn : Fn} {fs cps : Array Value} (f : Hm.Met → X0) (hs : X6 w σ) (hv : Sl 7 M8 σ v xs)
    (hf : ∀ (σ1 : Q6) x cs (w1 : World) (K : Value → World → Prop), σ.Le σ1 → X6 w1 σ1 → M8 σ1 x cs → cs.length = 7 → (∀ w', Below w1.heap.size w1 w' → K (S (f x)) w') → Z4 P (.func fn fs cps) [.agg cs.toArray] w1 K)
    (h : ∀ w', Below w.heap.size w w' → K (.bool (E4 f [] xs)) w') : Q1 P F.am [v, .func fn fs cps] w K := Df (by
  unfold Zl
  refine N0 hs fun a w1 σ1 hk ha => ?_
  simp only [Value.cells] at ha
  have hs1 := hk.sat
  replace hv := hv.up hk
  ((try simp only [↓Mm, Mm, ↓Mr, Mr, Mb, reduceIte]); repeat ((first | refine ld (by assumption) (by assumption) rfl ?_ | refine X7 (by assumption) (by assumption) rfl ?_ | refine Q7 (by assumption) ?_); (try simp only [↓Mm, Mm, ↓Mr, Mr, Mb, reduceIte])))
  refine V7 xs.length (fun n w' => Below w1.heap.size w1 w' ∧ E4 f [] xs = E4 f (xs.take n) (xs.drop n)) ⟨Below.refl _ _, rfl⟩ fun n w2 d hn hi => ?_
  obtain ⟨hb, he⟩ := hi
  have hs2 := hs1.below hb
  ((try simp only [↓Mm, Mm, ↓Mr, Mr, Mb, reduceIte]); repeat ((first | refine ld (by assumption) (by assumption) rfl ?_ | refine X7 (by assumption) (by assumption) rfl ?_ | refine Q7 (by assumption) ?_); (try simp only [↓Mm, Mm, ↓Mr, Mr, Mb, reduceIte])))
  refine Q4 (fun hc => ?_) (fun hc => ?_)
  · have hn' : n < xs.length := by simpa using hc
    rw [List.drop_eq_getElem_cons hn'] at he
    simp only [E4] at he
    refine L3 hv hn' fun p cs hl hlen hr => ?_
    refine Z0 hs2 hl hlen ?_
    refine Y2 hs2 (by rfl) hlen (Rep.one hr) fun q w3 σ3 hk3 hq => ?_
    refine Hw (hv.up hk3) none (some (I n)) 0 n (.inl ⟨rfl, rfl⟩) (.inr rfl) (by omega) (by omega) fun v' hv' => ?_
    ((try simp only [↓Mm, Mm, ↓Mr, Mr, Mb, reduceIte]); repeat ((first | refine ld (by assumption) (by assumption) rfl ?_ | refine X7 (by assumption) (by assumption) rfl ?_ | refine Q7 (by assumption) ?_); (try simp only [↓Mm, Mm, ↓Mr, Mr, Mb, reduceIte])))
    refine H2 (fun y => decide (f y = f xs[n])) hk3.sat hv' (fun y ys w4 K hy hs4 hry hyl hK => ?_) fun w4 hb4 => ?_
    · refine Z9 (Nb ?_)
      unfold Xh
      refine N0 hs4 fun b w5 σ5 hk5 hb5 => ?_
      have ha5 := (ha.up hk3).up hk5
      have hq5 := hq.up hk5
      have hle5 : σ.Le σ5 := fun b o e => hk5.le b o (hk3.le b o (hk.le b o e))
      refine Li (Below.refl _ _) ?_
      refine X2 (.func fn fs cps) (fun w hb => X7 (hk5.sat.below hb) ha5 rfl (X4 rfl)) ?_
      refine X2 (.agg ys.toArray) (fun w hb => Z0 (hk5.sat.below hb) hb5 hyl (X4 rfl)) ?_
      refine X2 (S (f y)) (fun t t' w hb e e' => by rw [e, e']; exact hf σ5 y ys w _ hle5 (hk5.sat.below hb) (Rep.up hk5.le hry) hyl fun w' hb' => Q0p hb' rfl) ?_
      refine X2 (.func fn fs cps) (fun w hb => X7 (hk5.sat.below hb) ha5 rfl (X4 rfl)) ?_
      refine X2 (.agg cs.toArray) (fun w hb => Z0 (hk5.sat.below hb) hq5 hlen (X4 rfl)) ?_
      rintro _ _ _ _ _ w6 hb6 rfl rfl rfl rfl rfl
      refine hf σ5 xs[n] cs w6 _ hle5 (hk5.sat.below hb6) (Rep.up (fun b o e => hk5.le b o (hk3.le b o e)) hr) hlen fun w7 hb7 => ?_
      (try simp only [↓Mm, Mm, ↓Mr, Mr, Mb, reduceIte])
      exact hK w7 (bt (bt hk5.bel hb6) hb7)
    · have hb4' := bt hb (bt hk3.bel hb4)
      simp only [List.drop_zero, Nat.sub_zero] at *
      refine Q4 (fun hh => ?_) (fun hh => ?_)
      · rw [hh] at he
        have := h w4 (bt hk.bel hb4')
        rw [he] at this; exact this
      · rw [hh] at he
        ((try simp only [↓Mm, Mm, ↓Mr, Mr, Mb, reduceIte]); repeat ((first | refine ld (by assumption) (by assumption) rfl ?_ | refine X7 (by assumption) (by assumption) rfl ?_ | refine Q7 (by assumption) ?_); (try simp only [↓Mm, Mm, ↓Mr, Mr, Mb, reduceIte])))
        refine Z2 hv.max hn' ⟨hb4', ?_⟩
        rw [he, List.take_add_one, List.getElem?_eq_getElem hn']; rfl
  · have hn' : ¬ n < xs.length := by simpa using hc
    rw [List.drop_eq_nil_of_le (by omega)] at he
    have := h w2 (bt hk.bel hb)
    rw [he] at this; exact this)
theorem Tz {xs : List Fld} {v : Value} {fn : Fn} {fs cps : Array Value} (f : Fld → X0) (hs : X6 w σ) (hv : Sl 3 D5 σ v xs)
    (hf : ∀ (σ1 : Q6) x cs (w1 : World) (K : Value → World → Prop), σ.Le σ1 → X6 w1 σ1 → D5 σ1 x cs → cs.length = 3 → (∀ w', Below w1.heap.size w1 w' → K (S (f x)) w') → Z4 P (.func fn fs cps) [.agg cs.toArray] w1 K)
    (h : ∀ w', Below w.heap.size w w' → K (.bool (E4 f [] xs)) w') : Q1 P F.av [v, .func fn fs cps] w K := Ex (by
  unfold Jc
  refine N0 hs fun a w1 σ1 hk ha => ?_
  simp only [Value.cells] at ha
  have hs1 := hk.sat
  replace hv := hv.up hk
  ((try simp only [↓Mm, Mm, ↓Mr, Mr, Mb, reduceIte]); repeat ((first | refine ld (by assumption) (by assumption) rfl ?_ | refine X7 (by assumption) (by assumption) rfl ?_ | refine Q7 (by assumption) ?_); (try simp only [↓Mm, Mm, ↓Mr, Mr, Mb, reduceIte])))
  refine V7 xs.length (fun n w' => Below w1.heap.size w1 w' ∧ E4 f [] xs = E4 f (xs.take n) (xs.drop n)) ⟨Below.refl _ _, rfl⟩ fun n w2 d hn hi => ?_
  obtain ⟨hb, he⟩ := hi
  have hs2 := hs1.below hb
  ((try simp only [↓Mm, Mm, ↓Mr, Mr, Mb, reduceIte]); repeat ((first | refine ld (by assumption) (by assumption) rfl ?_ | refine X7 (by assumption) (by assumption) rfl ?_ | refine Q7 (by assumption) ?_); (try simp only [↓Mm, Mm, ↓Mr, Mr, Mb, reduceIte])))
  refine Q4 (fun hc => ?_) (fun hc => ?_)
  · have hn' : n < xs.length := by simpa using hc
    rw [List.drop_eq_getElem_cons hn'] at he
    simp only [E4] at he
    refine L3 hv hn' fun p cs hl hlen hr => ?_
    refine Z0 hs2 hl hlen ?_
    refine Y2 hs2 (by rfl) hlen (Rep.one hr) fun q w3 σ3 hk3 hq => ?_
    refine Hw (hv.up hk3) none (some (I n)) 0 n (.inl ⟨rfl, rfl⟩) (.inr rfl) (by omega) (by omega) fun v' hv' => ?_
    ((try simp only [↓Mm, Mm, ↓Mr, Mr, Mb, reduceIte]); repeat ((first | refine ld (by assumption) (by assumption) rfl ?_ | refine X7 (by assumption) (by assumption) rfl ?_ | refine Q7 (by assumption) ?_); (try simp only [↓Mm, Mm, ↓Mr, Mr, Mb, reduceIte])))
    refine Yd (fun y => decide (f y = f xs[n])) hk3.sat hv' (fun y ys w4 K hy hs4 hry hyl hK => ?_) fun w4 hb4 => ?_
    · refine Z9 (Nq ?_)
      unfold Yk
      refine N0 hs4 fun b w5 σ5 hk5 hb5 => ?_
      have ha5 := (ha.up hk3).up hk5
      have hq5 := hq.up hk5
      have hle5 : σ.Le σ5 := fun b o e => hk5.le b o (hk3.le b o (hk.le b o e))
      refine Li (Below.refl _ _) ?_
      refine X2 (.func fn fs cps) (fun w hb => X7 (hk5.sat.below hb) ha5 rfl (X4 rfl)) ?_
      refine X2 (.agg ys.toArray) (fun w hb => Z0 (hk5.sat.below hb) hb5 hyl (X4 rfl)) ?_
      refine X2 (S (f y)) (fun t t' w hb e e' => by rw [e, e']; exact hf σ5 y ys w _ hle5 (hk5.sat.below hb) (Rep.up hk5.le hry) hyl fun w' hb' => Q0p hb' rfl) ?_
      refine X2 (.func fn fs cps) (fun w hb => X7 (hk5.sat.below hb) ha5 rfl (X4 rfl)) ?_
      refine X2 (.agg cs.toArray) (fun w hb => Z0 (hk5.sat.below hb) hq5 hlen (X4 rfl)) ?_
      rintro _ _ _ _ _ w6 hb6 rfl rfl rfl rfl rfl
      refine hf σ5 xs[n] cs w6 _ hle5 (hk5.sat.below hb6) (Rep.up (fun b o e => hk5.le b o (hk3.le b o e)) hr) hlen fun w7 hb7 => ?_
      (try simp only [↓Mm, Mm, ↓Mr, Mr, Mb, reduceIte])
      exact hK w7 (bt (bt hk5.bel hb6) hb7)
    · have hb4' := bt hb (bt hk3.bel hb4)
      simp only [List.drop_zero, Nat.sub_zero] at *
      refine Q4 (fun hh => ?_) (fun hh => ?_)
      · rw [hh] at he
        have := h w4 (bt hk.bel hb4')
        rw [he] at this; exact this
      · rw [hh] at he
        ((try simp only [↓Mm, Mm, ↓Mr, Mr, Mb, reduceIte]); repeat ((first | refine ld (by assumption) (by assumption) rfl ?_ | refine X7 (by assumption) (by assumption) rfl ?_ | refine Q7 (by assumption) ?_); (try simp only [↓Mm, Mm, ↓Mr, Mr, Mb, reduceIte])))
        refine Z2 hv.max hn' ⟨hb4', ?_⟩
        rw [he, List.take_add_one, List.getElem?_eq_getElem hn']; rfl
  · have hn' : ¬ n < xs.length := by simpa using hc
    rw [List.drop_eq_nil_of_le (by omega)] at he
    have := h w2 (bt hk.bel hb)
    rw [he] at this; exact this)
theorem Q1u {xs : List X0} {v : Value} {fn : Fn} {fs cps : Array Value} (f : X0 → X0) (hs : X6 w σ) (hv : Sl 1 U9 σ v xs)
    (hf : ∀ (σ1 : Q6) x (w1 : World) (K : Value → World → Prop), σ.Le σ1 → X6 w1 σ1 → x.length ≤ V9 → (∀ w', Below w1.heap.size w1 w' → K (S (f x)) w') → Z4 P (.func fn fs cps) [S x] w1 K)
    (h : ∀ w', Below w.heap.size w w' → K (.bool (E4 f [] xs)) w') : Q1 P F.aE [v, .func fn fs cps] w K := Ft (by
  unfold Wr
  refine N0 hs fun a w1 σ1 hk ha => ?_
  simp only [Value.cells] at ha
  have hs1 := hk.sat
  replace hv := hv.up hk
  ((try simp only [↓Mm, Mm, ↓Mr, Mr, Mb, reduceIte]); repeat ((first | refine ld (by assumption) (by assumption) rfl ?_ | refine X7 (by assumption) (by assumption) rfl ?_ | refine Q7 (by assumption) ?_); (try simp only [↓Mm, Mm, ↓Mr, Mr, Mb, reduceIte])))
  refine V7 xs.length (fun n w' => Below w1.heap.size w1 w' ∧ E4 f [] xs = E4 f (xs.take n) (xs.drop n)) ⟨Below.refl _ _, rfl⟩ fun n w2 d hn hi => ?_
  obtain ⟨hb, he⟩ := hi
  have hs2 := hs1.below hb
  ((try simp only [↓Mm, Mm, ↓Mr, Mr, Mb, reduceIte]); repeat ((first | refine ld (by assumption) (by assumption) rfl ?_ | refine X7 (by assumption) (by assumption) rfl ?_ | refine Q7 (by assumption) ?_); (try simp only [↓Mm, Mm, ↓Mr, Mr, Mb, reduceIte])))
  refine Q4 (fun hc => ?_) (fun hc => ?_)
  · have hn' : n < xs.length := by simpa using hc
    rw [List.drop_eq_getElem_cons hn'] at he
    simp only [E4] at he
    refine L3 hv hn' fun p cs hl hlen hr => ?_
    obtain ⟨rfl, hbig⟩ := hr
    refine X7 hs2 hl rfl ?_
    refine U2 hs2 (by rfl) rfl rfl fun q w3 σ3 hk3 hq => ?_
    refine Hw (hv.up hk3) none (some (I n)) 0 n (.inl ⟨rfl, rfl⟩) (.inr rfl) (by omega) (by omega) fun v' hv' => ?_
    ((try simp only [↓Mm, Mm, ↓Mr, Mr, Mb, reduceIte]); repeat ((first | refine ld (by assumption) (by assumption) rfl ?_ | refine X7 (by assumption) (by assumption) rfl ?_ | refine Q7 (by assumption) ?_); (try simp only [↓Mm, Mm, ↓Mr, Mr, Mb, reduceIte])))
    refine C5 (fun y => decide (f y = f xs[n])) hk3.sat hv' (fun y w4 K hy hs4 hry hK => ?_) fun w4 hb4 => ?_
    · refine Z9 (Hi ?_)
      unfold Uf
      have ha5 := ha.up hk3
      have hle5 : σ.Le σ3 := fun b o e => hk3.le b o (hk.le b o e)
      refine Li (Below.refl _ _) ?_
      refine X2 (.func fn fs cps) (fun w hb => X7 (hs4.below hb) ha5 rfl (X4 rfl)) ?_
      refine X2 (S (f y)) (fun t w hb e => by rw [e]; exact hf σ3 y w _ hle5 (hs4.below hb) hry fun w' hb' => Q0p hb' rfl) ?_
      refine X2 (.func fn fs cps) (fun w hb => X7 (hs4.below hb) ha5 rfl (X4 rfl)) ?_
      refine X2 (S xs[n]) (fun w hb => X7 (hs4.below hb) hq rfl (X4 rfl)) ?_
      rintro _ _ _ _ w6 hb6 rfl rfl rfl rfl
      refine hf σ3 xs[n] w6 _ hle5 (hs4.below hb6) hbig fun w7 hb7 => ?_
      (try simp only [↓Mm, Mm, ↓Mr, Mr, Mb, reduceIte])
      exact hK w7 (bt hb6 hb7)
    · have hb4' := bt hb (bt hk3.bel hb4)
      simp only [List.drop_zero, Nat.sub_zero] at *
      refine Q4 (fun hh => ?_) (fun hh => ?_)
      · rw [hh] at he
        have := h w4 (bt hk.bel hb4')
        rw [he] at this; exact this
      · rw [hh] at he
        ((try simp only [↓Mm, Mm, ↓Mr, Mr, Mb, reduceIte]); repeat ((first | refine ld (by assumption) (by assumption) rfl ?_ | refine X7 (by assumption) (by assumption) rfl ?_ | refine Q7 (by assumption) ?_); (try simp only [↓Mm, Mm, ↓Mr, Mr, Mb, reduceIte])))
        refine Z2 hv.max hn' ⟨hb4', ?_⟩
        rw [he, List.take_add_one, List.getElem?_eq_getElem hn']; rfl
  · have hn' : ¬ n < xs.length := by simpa using hc
    rw [List.drop_eq_nil_of_le (by omega)] at he
    have := h w2 (bt hk.bel hb)
    rw [he] at this; exact this)
theorem Q3H {P : Program} {w : World} (d : Nat) (t e : TypeId) (a : Option Addr) (n c : Nat) (h : P.underlying t = some (.slice e)) :
    (Op.equalIn (d + 1) t (.slice a n c) (.slice none 0 0)).run P w = .ok a.isNone w := by
  cases a <;> simp [Op.equalIn, run_underlying h]
theorem Ks {t e : TypeId} {ox oy : Operand} [ts : TS P t e] {a : Option Addr} {n cap : Nat} {b : Bool} (hb : a.isNone = b) (hk : K (.bool b) w) : Q3 P .eql t ox oy (.slice a n cap) (.slice none 0 0) w K := by
  have h1 : (Op.equal t (.slice a n cap) (.slice none 0 0)).run P w = .ok b w := by
    have := Q3H (P := P) (w := w) 9999 t e a n cap ts.h
    rw [hb] at this
    exact this
  unfold Q3
  rw [Y0 (v := .bool b) (w' := w) (by simp [eqGuard, Go.binOp, h1])]
  exact hk
theorem Ui {xs : List X0} {v : Value} (hs : X6 w σ) (hv : Sl 1 U9 σ v xs) (hl : xs.length ≤ 1000000)
    (h : ∀ v' w' σ', Stp w σ w' σ' → Sl 1 U9 σ' v' xs → K v' w') : Q1 P F.a2 [v] w K := Vt (by
  unfold I2
  have hv0 := hv
  obtain ⟨a, cap, rfl, h2, h3, h4, h5⟩ := hv
  refine Ks rfl ?_
  refine Q4 (fun hc => ?_) (fun hc => ?_)
  · have : a = none := by simpa using hc
    have h0 := h4 this
    have hx : xs = [] := List.eq_nil_of_length_eq_zero (by omega)
    subst hx
    exact h _ w σ (Stp.refl hs) Sl.nil
  · refine Qq (R := U9) (sz := 1) (Stp.refl hs) [] [] rfl rfl (by simp) (by rfl) trivial fun v1 w1 hk ha _ => ?_
    refine app hk ha hv0 (by rfl) (by simp only [List.length_nil]; omega) (by simp only [List.length_nil]; omega) fun v2 w2 hg hS ha2 _ => ?_
    obtain ⟨σ', q1, q2, _⟩ := ha2.keep hS
    exact h _ w2 σ' q1 q2)
theorem Md {xs : List Fld} {v : Value} (hs : X6 w σ) (hv : Sl 3 D5 σ v xs) (hl : xs.length ≤ 1000000)
    (h : ∀ v' w' σ', Stp w σ w' σ' → Sl 3 D5 σ' v' xs → K v' w') : Q1 P F.a7 [v] w K := Yg (by
  unfold C1
  have hv0 := hv
  obtain ⟨a, cap, rfl, h2, h3, h4, h5⟩ := hv
  refine Ks rfl ?_
  refine Q4 (fun hc => ?_) (fun hc => ?_)
  · have : a = none := by simpa using hc
    have h0 := h4 this
    have hx : xs = [] := List.eq_nil_of_length_eq_zero (by omega)
    subst hx
    exact h _ w σ (Stp.refl hs) Sl.nil
  · refine Qq (R := D5) (sz := 3) (Stp.refl hs) [] [] rfl rfl (by simp) (by rfl) trivial fun v1 w1 hk ha _ => ?_
    refine app hk ha hv0 (by rfl) (by simp only [List.length_nil]; omega) (by simp only [List.length_nil]; omega) fun v2 w2 hg hS ha2 _ => ?_
    obtain ⟨σ', q1, q2, _⟩ := ha2.keep hS
    exact h _ w2 σ' q1 q2)
theorem Mh {xs : List Ins} {v : Value} (hs : X6 w σ) (hv : Sl 3 I5 σ v xs) (hl : xs.length ≤ 1000000)
    (h : ∀ v' w' σ', Stp w σ w' σ' → Sl 3 I5 σ' v' xs → K v' w') : Q1 P F.a8 [v] w K := Ym (by
  unfold C3
  have hv0 := hv
  obtain ⟨a, cap, rfl, h2, h3, h4, h5⟩ := hv
  refine Ks rfl ?_
  refine Q4 (fun hc => ?_) (fun hc => ?_)
  · have : a = none := by simpa using hc
    have h0 := h4 this
    have hx : xs = [] := List.eq_nil_of_length_eq_zero (by omega)
    subst hx
    exact h _ w σ (Stp.refl hs) Sl.nil
  · refine Qq (R := I5) (sz := 3) (Stp.refl hs) [] [] rfl rfl (by simp) (by rfl) trivial fun v1 w1 hk ha _ => ?_
    refine app hk ha hv0 (by rfl) (by simp only [List.length_nil]; omega) (by simp only [List.length_nil]; omega) fun v2 w2 hg hS ha2 _ => ?_
    obtain ⟨σ', q1, q2, _⟩ := ha2.keep hS
    exact h _ w2 σ' q1 q2)
theorem Lt {xs : List Cat} {v : Value} (hs : X6 w σ) (hv : Sl 4 Qt σ v xs) (hl : xs.length ≤ 1000000)
    (h : ∀ v' w' σ', Stp w σ w' σ' → Sl 4 Qt σ' v' xs → K v' w') : Q1 P F.a9 [v] w K := Yb (by
  unfold C2
  have hv0 := hv
  obtain ⟨a, cap, rfl, h2, h3, h4, h5⟩ := hv
  refine Ks rfl ?_
  refine Q4 (fun hc => ?_) (fun hc => ?_)
  · have : a = none := by simpa using hc
    have h0 := h4 this
    have hx : xs = [] := List.eq_nil_of_length_eq_zero (by omega)
    subst hx
    exact h _ w σ (Stp.refl hs) Sl.nil
  · refine Qq (R := Qt) (sz := 4) (Stp.refl hs) [] [] rfl rfl (by simp) (by rfl) trivial fun v1 w1 hk ha _ => ?_
    refine app hk ha hv0 (by rfl) (by simp only [List.length_nil]; omega) (by simp only [List.length_nil]; omega) fun v2 w2 hg hS ha2 _ => ?_
    obtain ⟨σ', q1, q2, _⟩ := ha2.keep hS
    exact h _ w2 σ' q1 q2)
end Go.Proofs.YtdnfaboigajkhaaGreatDoor

namespace Go.Hm
open Go.Kd
structure Opr where
  name : X0
  number : Bool
  text : Bool
deriving DecidableEq
def Xr : List Opr := [
  ⟨[105, 110, 116], true, false⟩,
  ⟨[116, 114, 117, 101], false, false⟩,
  ⟨[102, 97, 108, 115, 101], false, false⟩,
  ⟨[119, 111, 114, 100], false, true⟩,
  ⟨[110, 117, 108, 108], false, false⟩,
  ⟨[108, 111, 97, 100], true, false⟩,
  ⟨[115, 116, 111, 114, 101], true, false⟩,
  ⟨[112, 111, 112], false, false⟩,
  ⟨[100, 117, 112], false, false⟩,
  ⟨[115, 119, 97, 112], false, false⟩,
  ⟨[97, 100, 100], false, false⟩,
  ⟨[115, 117, 98], false, false⟩,
  ⟨[109, 117, 108], false, false⟩,
  ⟨[100, 105, 118], false, false⟩,
  ⟨[114, 101, 109], false, false⟩,
  ⟨[110, 101, 103], false, false⟩,
  ⟨[108, 101, 115, 115], false, false⟩,
  ⟨[115, 97, 109, 101], false, false⟩,
  ⟨[110, 111, 116], false, false⟩,
  ⟨[98, 111, 116, 104], false, false⟩,
  ⟨[106, 111, 105, 110], false, false⟩,
  ⟨[115, 105, 122, 101], false, false⟩,
  ⟨[106, 117, 109, 112], true, false⟩,
  ⟨[98, 114, 97, 110, 99, 104], true, false⟩,
  ⟨[110, 101, 119], false, true⟩,
  ⟨[103, 101, 116], false, true⟩,
  ⟨[112, 117, 116], false, true⟩,
  ⟨[99, 97, 108, 108], false, true⟩,
  ⟨[97, 114, 114, 97, 121], false, true⟩,
  ⟨[97, 116], false, false⟩,
  ⟨[115, 101, 116], false, false⟩,
  ⟨[105, 115], false, true⟩,
  ⟨[99, 97, 115, 116], false, true⟩,
  ⟨[114, 101, 116, 117, 114, 110], false, false⟩,
  ⟨[116, 104, 114, 111, 119], false, false⟩,
  ⟨[111, 117, 116], false, false⟩,
  ⟨[101, 113, 117, 97, 108], false, false⟩,
  ⟨[97, 110, 100], false, false⟩,
  ⟨[111, 114], false, false⟩,
  ⟨[120, 111, 114], false, false⟩,
  ⟨[115, 104, 108], false, false⟩,
  ⟨[115, 104, 114], false, false⟩]
end Go.Hm
namespace Go.Emb
open Go.Hm
def ROp (_ : Q6) (o : Opr) (cs : List Value) : Prop := cs = [S o.name, .bool o.number, .bool o.text]
def Tk (o : Opr) : List Value := [S o.name, .bool o.number, .bool o.text]
instance : Rep ROp := ⟨fun _ h => h, fun h u hu => by rw [h] at hu; simp at hu; rcases hu with rfl | rfl | rfl <;> rfl⟩
end Go.Emb
namespace Go.Proofs.YtdnfaboigajkhaaGreatDoor
open Go.Emb Go.RowKit Go.Kd Go.Hm
variable {w : World} {K : Value → World → Prop} {σ : Q6}
theorem Q2y {a : X0} (ha : a.length ≤ V9) (h : ∀ w', Below w.heap.size w w' → K (.bool (M1 a)) w') : Q1 P F.bl [S a] w K := Q0S (by
  unfold Rp
  have ha' : a.length ≤ 140737488355328 := by simp only [V9] at ha; omega
  refine Q20 a ha' fun w1 h1 => ?_
  cases hn : name a
  · (try simp only [↓Mm, Mm, ↓Mr, Mr, Mb, reduceIte])
    have := h w1 h1
    rwa [show M1 a = false by cases a with | nil => rfl | cons c r => simp [M1, hn]] at this
  · (try simp only [↓Mm, Mm, ↓Mr, Mr, Mb, reduceIte])
    refine Nn a ha' fun w2 h2 => ?_
    (try simp only [↓Mm, Mm, ↓Mr, Mr, Mb, reduceIte])
    have := h w2 (bt h1 h2)
    rwa [show M1 a = !W7 a by
      cases a with
      | nil => simp [name] at hn
      | cons c r =>
        obtain ⟨q1, q2⟩ := Bd hn
        simp only [W7, M1, hn, Bool.true_and]
        simp only [D7, q2, Bool.or_false] at q1
        cases hg : P6 c.toNat <;> cases hs : G4 c.toNat
        · simp [hg, hs] at q1
        · rfl
        · rfl
        · exfalso
          simp only [P6, G4, Bool.and_eq_true, decide_eq_true_eq] at hg hs
          omega] at this)
theorem Q7H {t e : TypeId} {n sz by_ : Nat} {z : Value} [ta : TA P t n e] [tz : TZ P e sz by_ z] {a : Addr} (hk : K (.slice (some a) n n) w) : R4 P t (.pointer (some a)) none none none w K := by
  unfold R4
  have : (Instr.sliceAt t (.pointer (some a)) none none none).run P w = .ok (.slice (some (if n = 0 then a else a.add (0 * sz))) (n - 0) (n - 0)) w := by
    simp [Instr.sliceAt, run_underlying ta.h, Instr.sureAddr, Instr.sliceBounds, L9 tz]
  rw [Y0 this]
  have e1 : (if n = 0 then a else a.add (0 * sz)) = a := by
    by_cases h : n = 0
    · rw [if_pos h]
    · rw [if_neg h, Nat.zero_mul, add_zero]
  rw [e1]; exact hk
def Tu (σ : Q6) : Prop := J4 σ ⟨G.a, 0, none⟩ (Xr.flatMap Tk)
theorem Q40 (i : Nat) (o : Opr) (h : Xr[i]? = some o) : ((Xr.flatMap Tk).drop (i * 3)).take 3 = Tk o := by
  have hi : i < 42 := (List.getElem?_eq_some_iff.1 h).1
  have key : ∀ l : List Opr, ∀ i o, l[i]? = some o → ((l.flatMap Tk).drop (i * 3)).take 3 = Tk o := by
    intro l
    induction l with
    | nil => intro i o h; simp at h
    | cons a r ih =>
      intro i o h
      cases i with
      | zero => simp at h; subst h; rfl
      | succ i =>
        have := ih i o (by simpa using h)
        rw [List.flatMap_cons, show (i + 1) * 3 = (Tk a).length + i * 3 by simp [Tk]; omega, List.drop_append]
        simpa [List.drop_eq_nil_of_le] using this
  exact key _ i o h
theorem Q0k {σ : Q6} {a : Addr} {cs : List Value} (h : J4 σ a cs) (i n : Nat) : J4 σ (a.add i) ((cs.drop i).take n) := by
  obtain ⟨h1, N7, e, fr, h2, h3⟩ := h
  refine ⟨G2 h1 _, N7, e, fr, by rw [R6]; exact h2, fun j v hv => ?_⟩
  rw [List.getElem?_take] at hv
  split at hv
  · rw [List.getElem?_drop] at hv
    rw [Xa, Nat.add_assoc]; exact h3 _ _ hv
  · cases hv
theorem Q8o (h : Tu σ) : Sl 3 ROp σ (.slice (some ⟨G.a, 0, none⟩) 42 42) Xr := by
  refine ⟨_, 42, rfl, by decide, by decide, by simp, ?_⟩
  rintro _ ⟨⟩
  refine ⟨fun _ => rfl, fun i x hx => ⟨Tk x, ?_, rfl, rfl⟩⟩
  rw [← Q40 i x hx]
  exact Q0k h (i * 3) 3
theorem Fd {β : Type} {xs : List Opr} {v f : Value} (stp : β → Opr → Bool × β) (s0 : β) (Inv : β → World → Prop) (D : Nat → Prop) (hsat : ∀ s w, Inv s w → X6 w σ) (h0 : Inv s0 w) (hv : Sl 3 ROp σ v xs)
    (hf : ∀ s x cs (w1 : World) (K : Value → World → Prop), x ∈ xs → Kpt D w w1 → Inv s w1 → ROp σ x cs → cs.length = 3 → (∀ w', Kpt D w w' → Inv (stp s x).2 w' → K (.bool (stp s x).1) w') → Z4 P f [.agg cs.toArray] w1 K)
    (h : ∀ w', Kpt D w w' → Inv (U6 stp s0 xs 0).2 w' → K (I (W8 (U6 stp s0 xs 0).1)) w') : Q1 P F.s [v, f] w K := Yi (by
  unfold C0
  ((try simp only [↓Mm, Mm, ↓Mr, Mr, Mb, reduceIte]); repeat ((first | refine ld (by assumption) (by assumption) rfl ?_ | refine X7 (by assumption) (by assumption) rfl ?_ | refine Q7 (by assumption) ?_); (try simp only [↓Mm, Mm, ↓Mr, Mr, Mb, reduceIte])))
  refine V7 xs.length (fun n w' => Kpt D w w' ∧ ∃ s, Inv s w' ∧ U6 stp s0 xs 0 = U6 stp s (xs.drop n) n) ⟨Kpt.refl, s0, h0, rfl⟩ fun n w1 d hn hi => ?_
  obtain ⟨hk, s, hi, he⟩ := hi
  have hs1 := hsat s w1 hi
  ((try simp only [↓Mm, Mm, ↓Mr, Mr, Mb, reduceIte]); repeat ((first | refine ld (by assumption) (by assumption) rfl ?_ | refine X7 (by assumption) (by assumption) rfl ?_ | refine Q7 (by assumption) ?_); (try simp only [↓Mm, Mm, ↓Mr, Mr, Mb, reduceIte])))
  refine Q4 (fun hc => ?_) (fun hc => ?_)
  · have hn' : n < xs.length := by simpa using hc
    refine L3 hv hn' fun p cs hl hlen hr => ?_
    refine Z0 hs1 hl hlen ?_
    refine hf s xs[n] cs w1 _ (List.getElem_mem hn') hk hi hr hlen fun w2 hk2 hi2 => ?_
    rw [List.drop_eq_getElem_cons hn'] at he
    simp only [U6] at he
    refine Q4 (fun hb => ?_) (fun hb => ?_)
    · rw [hb] at he
      have := h w2 hk2
      rw [he] at this
      exact this hi2
    · rw [hb] at he
      ((try simp only [↓Mm, Mm, ↓Mr, Mr, Mb, reduceIte]); repeat ((first | refine ld (by assumption) (by assumption) rfl ?_ | refine X7 (by assumption) (by assumption) rfl ?_ | refine Q7 (by assumption) ?_); (try simp only [↓Mm, Mm, ↓Mr, Mr, Mb, reduceIte])))
      exact Z2 hv.max hn' ⟨hk2, _, hi2, by simpa using he⟩
  · have hn' : ¬ n < xs.length := by simpa using hc
    rw [List.drop_eq_nil_of_le (by omega)] at he
    have := h w1 hk
    rw [he] at this
    exact this hi)
theorem Bu {xs : List Opr} {v f : Value} (p : Opr → Bool) (hs : X6 w σ) (hv : Sl 3 ROp σ v xs)
    (hf : ∀ x cs (w1 : World) (K : Value → World → Prop), x ∈ xs → X6 w1 σ → ROp σ x cs → cs.length = 3 → (∀ w', Below w1.heap.size w1 w' → K (.bool (p x)) w') → Z4 P f [.agg cs.toArray] w1 K)
    (h : ∀ w', Below w.heap.size w w' → K (I (W8 (xs.findIdx? p))) w') : Q1 P F.s [v, f] w K := by
  refine Fd (fun (_ : Unit) x => (p x, ())) () (fun _ w' => Below w.heap.size w w') (fun _ => False) (fun _ w' hb => hs.below hb) (Below.refl _ _) hv (fun s x cs w1 K hx hk hi hr hl hK => hf x cs w1 K hx (hs.below hi) hr hl fun w' hb => hK w' (.of_below (bt hi hb)) (bt hi hb)) fun w' hk hi => ?_
  rw [I6]
  simpa using h w' hi
theorem Tu.le {σ σ' : Q6} (h : Tu σ) (hk : ∀ b o, σ b = some o → σ' b = some o) : Tu σ' := J4.le h hk
def G9 (n : X0) : Option Nat := Xr.findIdx? fun o => decide (o.name = n)
theorem Q8q {a : X0} (hs : X6 w σ) (hg : Tu σ) (h : ∀ w', Below w.heap.size w w' → K (I (W8 (G9 a))) w') : Q1 P F.c9 [S a] w K := Q3d (by
  unfold Tm
  refine N0 hs fun p w1 σ1 hk hp => ?_
  simp only [Value.cells] at hp
  refine Q7H ?_
  ((try simp only [↓Mm, Mm, ↓Mr, Mr, Mb, reduceIte]); repeat ((first | refine ld (by assumption) (by assumption) rfl ?_ | refine X7 (by assumption) (by assumption) rfl ?_ | refine Q7 (by assumption) ?_); (try simp only [↓Mm, Mm, ↓Mr, Mr, Mb, reduceIte])))
  refine Bu (fun o => decide (o.name = a)) hk.sat (Q8o (hg.le hk.le)) (fun x cs w2 K hx hs2 hr hl hK => ?_) fun w2 hb => ?_
  · refine Z9 (Q1y ?_)
    unfold Bi
    refine N0 hs2 fun q w3 σ3 hk3 hq => ?_
    have hr' : cs = [S x.name, .bool x.number, .bool x.text] := hr
    subst hr'
    have hs3 := hk3.sat
    have hp3 := hp.up hk3
    simp only [Value.cells] at hq
    ((try simp only [↓Mm, Mm, ↓Mr, Mr, Mb, reduceIte]); repeat ((first | refine ld (by assumption) (by assumption) rfl ?_ | refine X7 (by assumption) (by assumption) rfl ?_ | refine Q7 (by assumption) ?_); (try simp only [↓Mm, Mm, ↓Mr, Mr, Mb, reduceIte])))
    exact hK w3 hk3.bel
  · (try simp only [↓Mm, Mm, ↓Mr, Mr, Mb, reduceIte])
    exact h w2 (bt hk.bel hb))
def D4 (n : X0) : Bool × Bool × Bool := match G9 n with
  | none => (false, false, false)
  | some i => ((Xr.getD i ⟨[], false, false⟩).number, (Xr.getD i ⟨[], false, false⟩).text, true)
theorem Q7E {a : X0} (hs : X6 w σ) (hg : Tu σ) (h : ∀ w', Below w.heap.size w w' → K (.tuple #[.bool (D4 a).1, .bool (D4 a).2.1, .bool (D4 a).2.2]) w') : Q1 P F.bM [S a] w K := Q2D (by
  unfold Kg
  refine Q8q hs hg fun w1 hb => ?_
  have hs1 := hs.below hb
  unfold D4 at h
  cases hf : G9 a with
  | none =>
    rw [hf] at h
    simp only [W8]
    (try simp only [↓Mm, Mm, ↓Mr, Mr, Mb, reduceIte])
    simp only [show decide ((-1 : Int) < 0) = true from rfl, ↓Mm, Mm, ↓Mr, Mr, Mb, reduceIte]
    exact h w1 hb
  | some i =>
    rw [hf] at h
    simp only at h
    have hi : i < 42 := (List.findIdx?_eq_some_iff_getElem.1 hf).1
    have ho : Xr[i]? = some (Xr.getD i ⟨[], false, false⟩) := by
      rw [List.getD, List.getElem?_eq_getElem (by exact hi)]; rfl
    generalize Xr.getD i ⟨[], false, false⟩ = o at h ho
    have hl := Q0k hg (i * 3) 3
    rw [Q40 i o ho] at hl
    simp only [W8]
    have e1 : decide ((i : Int) < 0) = false := by simp
    simp only [e1, ↓Mm, Mm, ↓Mr, Mr, Mb, reduceIte]
    have A : ∀ {w : World} {K : Value → World → Prop}, K (.pointer (some ((⟨G.a, 0, none⟩ : Addr).add (i * 3)))) w → indexAddr P T.a5 (.pointer (some ⟨G.a, 0, none⟩)) (I i) w K := by
      intro w K h
      rw [Q5u (by omega) (by omega)]
      simpa using h
    refine Li (Below.refl _ _) ?_
    refine X2 (.pointer (some ((⟨G.a, 0, none⟩ : Addr).add (i * 3)))) (fun w hb => A (X4 rfl)) ?_
    refine X2 (.pointer (some (((⟨G.a, 0, none⟩ : Addr).add (i * 3)).add 1))) (fun t w hb e => by rw [e, fa]; exact X4 rfl) ?_
    refine X2 (.pointer (some ((⟨G.a, 0, none⟩ : Addr).add (i * 3)))) (fun w hb => A (X4 rfl)) ?_
    refine X2 (.pointer (some (((⟨G.a, 0, none⟩ : Addr).add (i * 3)).add 2))) (fun t w hb e => by rw [e, fa]; exact X4 rfl) ?_
    refine X2 (.bool o.number) (fun t w hb e => by rw [e]; exact ld (hs1.below hb) hl rfl (X4 rfl)) ?_
    refine X2 (.bool o.text) (fun t w hb e => by rw [e]; exact ld (hs1.below hb) hl rfl (X4 rfl)) ?_
    rintro _ _ _ _ _ _ w2 hb2 rfl rfl rfl rfl rfl rfl
    exact h w2 (bt hb hb2))
end Go.Proofs.YtdnfaboigajkhaaGreatDoor

namespace Go.Emb
open Go.RowKit Go.Hm
variable {P : Program} {w w0 w1 w' w'' : World} {K : Value → World → Prop} {σ σ0 σ1 σ' : Q6}
structure SLe (σ σ' : Q6) : Prop where
  le : ∀ b o, σ b = some o → σ' b = some o
theorem SLe.refl (σ : Q6) : SLe σ σ := ⟨fun _ _ h => h⟩
theorem SLe.step {w w' : World} (h : SLe σ0 σ) (k : Stp w σ w' σ') : SLe σ0 σ' := ⟨fun b o e => k.le b o (h.le b o e)⟩
theorem SLe.of (k : ∀ b o, σ b = some o → σ' b = some o) : SLe σ σ' := ⟨k⟩
theorem SLe.more (h : SLe σ0 σ) (k : SLe σ σ') : SLe σ0 σ' := ⟨fun b o e => k.le b o (h.le b o e)⟩
structure Hst (w : World) (σ : Q6) (w' : World) (σ' : Q6) : Prop where
  stp : Stp w σ w' σ'
theorem Hst.sat (h : Hst w σ w' σ') : X6 w' σ' := h.stp.sat
section lifts
variable {α : Type} {R : Q6 → α → List Value → Prop} {sz : Nat} {v : Value} {xs : List α} {a : Addr} {cs : List Value}
theorem Sl.lift [Rep R] (h : Sl sz R σ0 v xs) (k : SLe σ0 σ) : Sl sz R σ v xs := h.le k.le
theorem J4.lift (h : J4 σ0 a cs) (k : SLe σ0 σ) : J4 σ a cs := h.le k.le
theorem P7.lift {r : Nat} {m : List (List UInt8 × Value)} (h : P7 σ0 r m) (k : SLe σ0 σ) : P7 σ r m := h.le k.le
theorem S3 {x : Hm.Met} (h : M8 σ0 x cs) (k : SLe σ0 σ) : M8 σ x cs := Rep.up k.le h
theorem R2 {x : Cla} (h : V0 σ0 x cs) (k : SLe σ0 σ) : V0 σ x cs := Rep.up k.le h
theorem Q0F {x : Fld} (h : D5 σ0 x cs) : D5 σ x cs := h
theorem Q0N {x : Ins} (h : I5 σ0 x cs) : I5 σ x cs := h
theorem Q0z {x : Cat} (h : Qt σ0 x cs) : Qt σ x cs := h
theorem V1.step {b : Nat} (h : V1 σ w b cs) (k : Stp w σ w' σ') : V1 σ' w' b cs := h.up k
theorem N1.step {r : Nat} {m : List (List UInt8 × Value)} (h : N1 σ w r m) (k : Stp w σ w' σ') : N1 σ' w' r m := h.up k
theorem W3.step [Rep R] {B : Nat} {e : TypeId} (h : W3 B e sz R σ w v xs) (k : Stp w σ w' σ') : W3 B e sz R σ' w' v xs := h.up k
end lifts
theorem L1 {Q : World → Prop} (hs : X6 w σ) (h : ∀ w' σ', Stp w σ w' σ' → Q w') : ∀ w', Below w.heap.size w w' → Q w' := fun w' hb => h w' σ (Stp.of_below hs hb)
section plain
variable {k : IntKind} {t : TypeId} {ox oy : Operand} {a b : Int} {x y : Bool} {s u : List UInt8}
theorem O8 (h : K (.int k (k.wrap (a + b))) w) : Q3 P .add t ox oy (.int k a) (.int k b) w K := by rw [Rl]; exact h
theorem Ro (h0 : -9223372036854775808 ≤ a + b ∧ a + b ≤ 9223372036854775807) (h : K (I (a + b)) w) : Q3 P .add t ox oy (I a) (I b) w K := by rw [Rl, B9 h0.1 h0.2]; exact h
theorem Nl (h0 : -9223372036854775808 ≤ a - b ∧ a - b ≤ 9223372036854775807) (h : K (I (a - b)) w) : Q3 P .sub t ox oy (I a) (I b) w K := by rw [Q0v, B9 h0.1 h0.2]; exact h
theorem U0 (h : K (.bool (decide (a < b))) w) : Q3 P .lss t ox oy (.int k a) (.int k b) w K := by rw [Q0w]; exact h
theorem Q79 (h : K (.bool (decide (b < a))) w) : Q3 P .gtr t ox oy (.int k a) (.int k b) w K := by rw [Q0R]; exact h
theorem Yz (h : K (.bool (decide (b ≤ a))) w) : Q3 P .geq t ox oy (.int k a) (.int k b) w K := by rw [Pd]; exact h
theorem Q1P (h : K (.bool (decide (a = b))) w) : Q3 P .eql t ox oy (.int k a) (.int k b) w K := by rw [Ku]; exact h
theorem Ds (h : K (.bool (!decide (a = b))) w) : Q3 P .neq t ox oy (.int k a) (.int k b) w K := by rw [Q0u]; exact h
theorem U3 (h : K (.bool (!x)) w) : U8 P .not (.bool x) w K := by rw [Q0O]; exact h
theorem Ng (h : K (.bool (decide (s = u))) w) : Q3 P .eql t ox oy (S s) (S u) w K := by rw [Es]; exact h
theorem Ek (h : K (.bool (!decide (s = u))) w) : Q3 P .neq t ox oy (S s) (S u) w K := by rw [Hb]; exact h
theorem P8 (h0 : s.length + u.length ≤ 9223372036854775807) (h : K (S (s ++ u)) w) : Q3 P .add t ox oy (S s) (S u) w K := by rw [Q3u h0]; exact h
theorem Q5a {cs : List Bool} {r : TypeId} (hu : P.underlying t = some .string) (h : K (I s.length) w) : X5 P .len [t] r cs [S s] w K := by rw [D3 hu]; exact h
theorem Y6 {v u : Value} (h : K v w) : pick P (.bool true) v u w K := by rw [Dx]; exact h
theorem Y4 {v u : Value} (h : K u w) : pick P (.bool false) v u w K := by rw [Ms]; exact h
theorem M2 {v u : Value} (h : K (if x = true then v else u) w) : pick P (.bool x) v u w K := by rw [Lo]; exact h
theorem M4 {vs : List Value} {i : Nat} {v : Value} (hv : vs[i]? = some v) (h : K v w) : ext P (.tuple vs.toArray) i w K := by rw [Xy hv]; exact h
theorem F9 {t e : Prop} (h : t) : X1 (.bool true) t e := by rw [Cs]; exact h
theorem K1 {t e : Prop} (h : e) : X1 (.bool false) t e := by rw [Eh]; exact h
theorem Z6 {run : World → (Value → World → Prop) → Prop} (h : run w K) : Q0 (.bool true) true w run K := by rw [F5]; exact h
theorem Z5 {run : World → (Value → World → Prop) → Prop} (h : run w K) : Q0 (.bool false) false w run K := by rw [Ju]; exact h
theorem Y5 {run : World → (Value → World → Prop) → Prop} (h : K undef w) : Q0 (.bool true) false w run K := by rw [Kq]; exact h
theorem Y8 {run : World → (Value → World → Prop) → Prop} (h : K undef w) : Q0 (.bool false) true w run K := by rw [Zu]; exact h
end plain
section mem
variable {α : Type} {R : Q6 → α → List Value → Prop} {sz : Nat} {v : Value} {xs : List α} {a : Addr} {cs : List Value}
theorem Z8 {t : TypeId} (hs : X6 w σ) (h : ∀ a w' σ', Stp w σ w' σ' → J4 σ' a cs → K (.pointer (some a)) w') : box P t (.agg cs.toArray) w K :=
  N0 hs fun a w' σ' hk hl => h a w' σ' hk (by simpa [Value.cells] using hl)
theorem U4 {t : TypeId} (hs : X6 w σ) (hc : v.cells = #[v]) (h : ∀ a w' σ', Stp w σ w' σ' → J4 σ' a [v] → K (.pointer (some a)) w') : box P t v w K :=
  N0 hs fun a w' σ' hk hl => h a w' σ' hk (by rw [hc] at hl; exact hl)
theorem Jo (h : Sl sz R σ v xs) : v.cells = #[v] := by
  obtain ⟨a, cap, rfl, _⟩ := h; rfl
theorem W1 {t : TypeId} {k off : Nat} {ft : TypeId} {sz by_ : Nat} {z : Value} [tf : TF P t k off ft] [tz : TZ P ft sz by_ z] [nz : NZ sz] (h : K (.pointer (some (a.add off))) w) : fieldAddr P t (.pointer (some a)) k w K := by
  rw [fa]; exact h
theorem Z3 {t : TypeId} {k off : Nat} {ft : TypeId} [tf : TF P t k off ft] [tg : TG P ft false] {cs : List Value} {v : Value} (hv : cs[off]? = some v) (h : K v w) : R3 P t (.agg cs.toArray) k w K := by
  rw [Q7U (v := v) (by simpa using hv)]; exact h
end mem
theorem W9 {A : (World → World → Prop) → (World → Prop) → Prop} (hs : X6 w σ) (h : A (fun w w' => Below w.heap.size w w') (fun w' => Hst w σ w' σ)) : dr w A :=
  Q05 _ _ ⟨Stp.of_below hs (Below.refl _ _).drew⟩ (fun _ _ h1 h2 => ⟨h1.stp.trans (Stp.of_below h1.sat h2)⟩) h
theorem W5 {α : Type} {R : Q6 → α → List Value → Prop} {sz : Nat} {v : Value} {xs : List α} {t : TypeId} (hs : X6 w σ) (hv : Sl sz R σ v xs) (h : ∀ a w' σ', Stp w σ w' σ' → J4 σ' a [v] → K (.pointer (some a)) w') : box P t v w K :=
  U4 hs (Jo hv) h
section elems
variable {v : Value} {t e : TypeId} {by_ : Nat} {z : Value} {n : Nat}
theorem Q2f {xs : List Kd.X0} [TS P t e] [TZ P e 1 by_ z] (h : Sl 1 U9 σ v xs) (hn : n < xs.length) (hk : ∀ a, J4 σ a [S xs[n]] → xs[n].length ≤ V9 → K (.pointer (some a)) w) : indexAddr P t v (I n) w K :=
  L3 h hn fun a cs h1 h2 h3 => by obtain ⟨rfl, h4⟩ := h3; exact hk a h1 h4
theorem Q2l {xs : List Fld} [TS P t e] [TZ P e 3 by_ z] (h : Sl 3 D5 σ v xs) (hn : n < xs.length) (hk : ∀ a, J4 σ a [S xs[n].name, S xs[n].kind, .bool xs[n].tr] → D5 σ xs[n] [S xs[n].name, S xs[n].kind, .bool xs[n].tr] → K (.pointer (some a)) w) : indexAddr P t v (I n) w K :=
  L3 h hn fun a cs h1 h2 h3 => by obtain ⟨rfl, h4⟩ := h3; exact hk a h1 ⟨rfl, h4⟩
end elems
end Go.Emb

namespace Go.Proofs
open Go.Shelf
def Tryz.lays156_ren : Go.Shelf.Ren := ⟨fun | 156 => 72 | 165 => 104 | 166 => 105 | 169 => 106 | 240 => 137 | 241 => 138 | 276 => 161 | 277 => 162 | n => n, fun | 31 => 46 | 9 => 9 | 3 => 3 | 4 => 4 | 0 => 0 | 20 => 20 | 72 => 127 | 76 => 130 | 70 => 124 | 37 => 125 | 75 => 129 | 127 => 150 | 164 => 160 | 5 => 5 | 80 => 132 | n => n, fun | n => n⟩
theorem Tryz.lays156 : Go.Proofs.Lays.n156 Tryz.prog Tryz.lays156_ren := {
  mixed := by kernel_rfl
  f156 := Tryz.func72.trans (congrArg some (by kernel_rfl))
  f165 := Tryz.func104.trans (congrArg some (by kernel_rfl))
  f166 := Tryz.func105.trans (congrArg some (by kernel_rfl))
  f169 := Tryz.func106.trans (congrArg some (by kernel_rfl))
  f240 := Tryz.func137.trans (congrArg some (by kernel_rfl))
  f241 := Tryz.func138.trans (congrArg some (by kernel_rfl))
  f276 := Tryz.func161.trans (congrArg some (by kernel_rfl))
  f277 := Tryz.func162.trans (congrArg some (by kernel_rfl))
  t0 := Tryz.underlying0
  a0 := Tryz.isAgg0
  z0 := Tryz.sizeOf0
  v0 := Tryz.zeroValue0
  t3 := Tryz.underlying3
  a3 := Tryz.isAgg3
  z3 := Tryz.sizeOf3
  v3 := Tryz.zeroValue3
  t4 := Tryz.underlying4
  a4 := Tryz.isAgg4
  z4 := Tryz.sizeOf4
  v4 := Tryz.zeroValue4
  t9 := Tryz.underlying9
  a9 := Tryz.isAgg9
  z9 := Tryz.sizeOf9
  v9 := Tryz.zeroValue9
  t20 := Tryz.underlying20
  a20 := Tryz.isAgg20
  z20 := Tryz.sizeOf20
  v20 := Tryz.zeroValue20
  t31 := Tryz.underlying46
  a31 := Tryz.isAgg46
  z31 := Tryz.sizeOf46
  v31 := Tryz.zeroValue46
  t37 := Tryz.underlying125
  a37 := Tryz.isAgg125
  z37 := Tryz.sizeOf125
  v37 := Tryz.zeroValue125
  t70 := Tryz.underlying124
  a70 := Tryz.isAgg124
  z70 := Tryz.sizeOf124
  v70 := Tryz.zeroValue124
  t72 := Tryz.underlying127
  a72 := Tryz.isAgg127
  z72 := Tryz.sizeOf127
  v72 := Tryz.zeroValue127
  t75 := Tryz.underlying129
  a75 := Tryz.isAgg129
  z75 := Tryz.sizeOf129
  v75 := Tryz.zeroValue129
  t76 := Tryz.underlying130
  a76 := Tryz.isAgg130
  z76 := Tryz.sizeOf130
  v76 := Tryz.zeroValue130
  t127 := Tryz.underlying150
  a127 := Tryz.isAgg150
  z127 := Tryz.sizeOf150
  v127 := Tryz.zeroValue150
  t164 := Tryz.underlying160
  a164 := Tryz.isAgg160
  z164 := Tryz.sizeOf160
  v164 := Tryz.zeroValue160 }
theorem Tryz.Builder_Extra_156 : Builder.Extra Tryz.prog Tryz.lays156_ren := {
  sizeBuilder := by kernel_rfl
  liesBuilder := by kernel_rfl
  t5 := Tryz.underlying5
  a5 := Tryz.isAgg5
  z5 := Tryz.sizeOf5
  v5 := Tryz.zeroValue5
  infoByte := by kernel_rfl
  cellsByte := by kernel_rfl
  sizeByte := by kernel_rfl
  neB5 := by decide }
open Go.RowKit in
theorem Tryz.strings_Join_none (a : Option Addr) (c : Nat) (sep : ByteArray) (w : World) :
    Calls Tryz.prog 72 #[.slice a 0 c, .string sep] w fun e w' => e = .returned (.string ⟨#[]⟩) ∧ w' = w := Any.strings_Join_none Tryz.lays156 Tryz.Builder_Extra_156 a c sep w
open Go.RowKit in
theorem Tryz.strings_Join (bk o c : Nat) (xs : List ByteArray) (sep : ByteArray) (w : World) (hcells : ∀ (j : Nat) x, xs[j]? = some x → w.cell? ⟨bk, o + j, none⟩ = some (.string x)) (hbk : bk < w.heap.size) (hN : xs.length ≤ 140737488355328) (hcap : xs.length ≤ c) (hlen : (Lib.join (xs.map (·.data.toList)) sep.data.toList).length ≤ 140737488355328) :
    Calls Tryz.prog 72 #[.slice (some ⟨bk, o, none⟩) xs.length c, .string sep] w fun e w' => e = .returned (.string ⟨(Lib.join (xs.map (·.data.toList)) sep.data.toList).toArray⟩) ∧ Below w.heap.size w w' := Any.strings_Join Tryz.lays156 Tryz.Builder_Extra_156 bk o c xs sep w hcells hbk hN hcap hlen
def Tryz.lays232_ren : Go.Shelf.Ren := ⟨fun | 232 => 93 | n => n, fun | 9 => 9 | 5 => 5 | 3 => 3 | 4 => 4 | n => n, fun | n => n⟩
theorem Tryz.lays232 : Go.Proofs.Lays.n232 Tryz.prog Tryz.lays232_ren := {
  mixed := by kernel_rfl
  f232 := Tryz.func93.trans (congrArg some (by kernel_rfl))
  t3 := Tryz.underlying3
  a3 := Tryz.isAgg3
  z3 := Tryz.sizeOf3
  v3 := Tryz.zeroValue3
  t4 := Tryz.underlying4
  a4 := Tryz.isAgg4
  z4 := Tryz.sizeOf4
  v4 := Tryz.zeroValue4
  t5 := Tryz.underlying5
  a5 := Tryz.isAgg5
  z5 := Tryz.sizeOf5
  v5 := Tryz.zeroValue5
  t9 := Tryz.underlying9
  a9 := Tryz.isAgg9
  z9 := Tryz.sizeOf9
  v9 := Tryz.zeroValue9 }
open Go.RowKit in
theorem Tryz.strings_trimRightByte (s : ByteArray) (c : UInt8) (w : World) (hs : s.size ≤ 9223372036854775807) :
    Calls Tryz.prog 93 #[.string s, .int .u8 c.toNat] w fun e w' => e = .returned (.string ⟨(Lib.trimRightB s.data.toList c).toArray⟩) ∧ w' = w := Any.strings_trimRightByte Tryz.lays232 s c w hs
def Tryz.lays144_ren : Go.Shelf.Ren := ⟨fun | 144 => 178 | 143 => 189 | 219 => 194 | 217 => 185 | 225 => 174 | 224 => 173 | 267 => 198 | 266 => 193 | 314 => 199 | n => n, fun | 9 => 9 | 4 => 4 | 3 => 3 | 5 => 5 | 46 => 167 | 146 => 189 | 51 => 188 | n => n, fun | 1 => 1 | n => n⟩
theorem Tryz.lays144 : Go.Proofs.Lays.n144 Tryz.prog Tryz.lays144_ren := {
  mixed := by kernel_rfl
  f143 := Tryz.func189.trans (congrArg some (by kernel_rfl))
  f144 := Tryz.func178.trans (congrArg some (by kernel_rfl))
  f217 := Tryz.func185.trans (congrArg some (by kernel_rfl))
  f219 := Tryz.func194.trans (congrArg some (by kernel_rfl))
  f224 := Tryz.func173.trans (congrArg some (by kernel_rfl))
  f225 := Tryz.func174.trans (congrArg some (by kernel_rfl))
  f266 := Tryz.func193.trans (congrArg some (by kernel_rfl))
  f267 := Tryz.func198.trans (congrArg some (by kernel_rfl))
  f314 := Tryz.func199.trans (congrArg some (by kernel_rfl))
  t3 := Tryz.underlying3
  a3 := Tryz.isAgg3
  z3 := Tryz.sizeOf3
  v3 := Tryz.zeroValue3
  t4 := Tryz.underlying4
  a4 := Tryz.isAgg4
  z4 := Tryz.sizeOf4
  v4 := Tryz.zeroValue4
  t5 := Tryz.underlying5
  a5 := Tryz.isAgg5
  z5 := Tryz.sizeOf5
  v5 := Tryz.zeroValue5
  t9 := Tryz.underlying9
  a9 := Tryz.isAgg9
  z9 := Tryz.sizeOf9
  v9 := Tryz.zeroValue9
  t46 := Tryz.underlying167
  a46 := Tryz.isAgg167
  z46 := Tryz.sizeOf167
  v46 := Tryz.zeroValue167
  t51 := Tryz.underlying188
  a51 := Tryz.isAgg188
  z51 := Tryz.sizeOf188
  v51 := Tryz.zeroValue188
  t146 := Tryz.underlying189
  a146 := Tryz.isAgg189
  z146 := Tryz.sizeOf189
  v146 := Tryz.zeroValue189
  g1 := by kernel_rfl }
open Go.RowKit Go.Lib in
theorem Tryz.strings_Contains_one (s : ByteArray) (c : UInt8) (w : World) :
    Calls Tryz.prog 178 #[.string s, .string ⟨#[c]⟩] w fun e w' => e = .returned (.bool (decide (0 ≤ Lib.indexByte s.data.toList c))) ∧ w' = w := Any.strings_Contains_one Tryz.lays144 s c w
def Tryz.lays227_ren : Go.Shelf.Ren := ⟨fun | 227 => 94 | n => n, fun | 9 => 9 | 116 => 112 | 4 => 4 | 0 => 0 | 3 => 3 | 5 => 5 | n => n, fun | n => n⟩
theorem Tryz.lays227 : Go.Proofs.Lays.n227 Tryz.prog Tryz.lays227_ren := {
  mixed := by kernel_rfl
  f227 := Tryz.func94.trans (congrArg some (by kernel_rfl))
  t0 := Tryz.underlying0
  a0 := Tryz.isAgg0
  z0 := Tryz.sizeOf0
  v0 := Tryz.zeroValue0
  t3 := Tryz.underlying3
  a3 := Tryz.isAgg3
  z3 := Tryz.sizeOf3
  v3 := Tryz.zeroValue3
  t4 := Tryz.underlying4
  a4 := Tryz.isAgg4
  z4 := Tryz.sizeOf4
  v4 := Tryz.zeroValue4
  t5 := Tryz.underlying5
  a5 := Tryz.isAgg5
  z5 := Tryz.sizeOf5
  v5 := Tryz.zeroValue5
  t9 := Tryz.underlying9
  a9 := Tryz.isAgg9
  z9 := Tryz.sizeOf9
  v9 := Tryz.zeroValue9
  t116 := Tryz.underlying112
  a116 := Tryz.isAgg112
  z116 := Tryz.sizeOf112 }
open Go.RowKit Go.Lib in
theorem Tryz.strings_makeASCIISet (hv116 : ∀ w, (zeroValue 112).run Tryz.prog w = .ok (.agg (Array.replicate 256 (.bool false))) w) (chars : ByteArray) (w : World) (hs : chars.size < 4294967281) (hascii : ∀ (j : Nat) b, chars.data.toList[j]? = some b → b.toNat < 128) :
    Calls Tryz.prog 94 #[.string chars] w fun e w' => e = .returned (.tuple #[.agg (Lib.setCells chars.data.toList), .bool true]) ∧ w' = w.alloc (.cells (Lib.setCells chars.data.toList) 112) := Any.strings_makeASCIISet Tryz.lays227 hv116 (by kernel_rfl) chars w hs hascii
open Go.RowKit Go.Lib in
def Tryz.lays196_ren : Go.Shelf.Ren := ⟨fun | 196 => 177 | 259 => 188 | n => n, fun | 9 => 9 | 4 => 4 | 3 => 3 | 5 => 5 | 12 => 12 | 119 => 177 | 0 => 0 | 46 => 167 | 139 => 180 | 138 => 179 | 53 => 186 | n => n, fun | 3 => 3 | 4 => 4 | n => n⟩
theorem Tryz.lays196 : Go.Proofs.Lays.n196 Tryz.prog Tryz.lays196_ren := {
  mixed := by kernel_rfl
  f196 := Tryz.func177.trans (congrArg some (by kernel_rfl))
  f259 := Tryz.func188.trans (congrArg some (by kernel_rfl))
  t0 := Tryz.underlying0
  a0 := Tryz.isAgg0
  z0 := Tryz.sizeOf0
  v0 := Tryz.zeroValue0
  t3 := Tryz.underlying3
  a3 := Tryz.isAgg3
  z3 := Tryz.sizeOf3
  v3 := Tryz.zeroValue3
  t4 := Tryz.underlying4
  a4 := Tryz.isAgg4
  z4 := Tryz.sizeOf4
  v4 := Tryz.zeroValue4
  t5 := Tryz.underlying5
  a5 := Tryz.isAgg5
  z5 := Tryz.sizeOf5
  v5 := Tryz.zeroValue5
  t9 := Tryz.underlying9
  a9 := Tryz.isAgg9
  z9 := Tryz.sizeOf9
  v9 := Tryz.zeroValue9
  t12 := Tryz.underlying12
  a12 := Tryz.isAgg12
  z12 := Tryz.sizeOf12
  v12 := Tryz.zeroValue12
  t46 := Tryz.underlying167
  a46 := Tryz.isAgg167
  z46 := Tryz.sizeOf167
  v46 := Tryz.zeroValue167
  t53 := Tryz.underlying186
  a53 := Tryz.isAgg186
  z53 := Tryz.sizeOf186
  v53 := Tryz.zeroValue186
  t119 := Tryz.underlying177
  a119 := Tryz.isAgg177
  z119 := Tryz.sizeOf177
  t138 := Tryz.underlying179
  a138 := Tryz.isAgg179
  z138 := Tryz.sizeOf179
  v138 := Tryz.zeroValue179
  t139 := Tryz.underlying180
  a139 := Tryz.isAgg180
  z139 := Tryz.sizeOf180
  v139 := Tryz.zeroValue180
  g3 := by kernel_rfl
  g4 := by kernel_rfl }
end Go.Proofs

namespace Go.Hm
open Go.Kd
abbrev Xd := X0 → Option Cla
def Y3 (l : List Cla) (n : X0) : Option Nat := l.findIdx? fun c => decide (c.name = n)
def lk (l : List Cla) : Xd := fun n => (Y3 l n).bind (l[·]?)
def U5 (c : Cla) : List X0 := c.super :: c.like
def U1 : X0 := [79, 98, 106, 101, 99, 116]
def W6 : X0 := [70, 97, 117, 108, 116]
def B6 : X0 := [110, 117, 108, 108]
def C6 : X0 := [116, 101, 120, 116]
def K3 : X0 := [119, 104, 97, 116]
def U7 : List X0 := [[78, 117, 108, 108, 70, 97, 117, 108, 116], [73, 110, 100, 101, 120, 70, 97, 117, 108, 116], [67, 97, 115, 116, 70, 97, 117, 108, 116], [90, 101, 114, 111, 70, 97, 117, 108, 116], [82, 111, 111, 109, 70, 97, 117, 108, 116], [67, 97, 108, 108, 70, 97, 117, 108, 116]]
def R1 : List Cla := [⟨U1, [], [], false, false, false, [], []⟩, ⟨W6, U1, [], false, false, false, [⟨K3, C6, false⟩], []⟩] ++ U7.map fun n => ⟨n, W6, [], false, false, true, [], []⟩
def Zh (L : Xd) : Nat → List X0 → List X0 → List X0
  | 0, _, seen => seen
  | _, [], seen => seen
  | f + 1, n :: todo, seen => match L n with
    | none => Zh L f todo seen
    | some c => if n ∈ seen then Zh L f todo seen else Zh L f (todo ++ U5 c) (seen ++ [n])
def weigh (l : List Cla) (seen : List X0) : Nat := (l.map fun c => if c.name ∈ seen then 0 else (U5 c).length).sum
def visits (l : List Cla) (n : X0) : List X0 := Zh (lk l) (1 + weigh l []) [n] []
def hasM (l : List Cla) (n : X0) : Bool := (Y3 l n).isSome
def kindM (l : List Cla) (s : X0) : Bool := decide (s = B6) || (right s && (plain (V2 s).1 || hasM l (V2 s).1))
def subM (l : List Cla) (a b : X0) : Bool :=
  if !kindM l a || !kindM l b then false else if a = b then true else if plain a || plain b then false else if a = B6 then true
  else if Jr a ≠ [] then decide (b = U1) else (visits l a).contains b
def R9 (L : Xd) : Nat → X0 → List Cla
  | 0, _ => []
  | f + 1, n => match L n with
    | none => []
    | some c => c :: R9 L f c.super
def chain (l : List Cla) (n : X0) : List Cla := R9 (lk l) (l.length + 1) n
def Cz (l : List Cla) (a b : X0) : X0 :=
  if subM l a b then b else if subM l b a then a else if !kindM l a || !kindM l b || plain a || plain b then []
  else match (chain l a).find? fun c => subM l b c.name with
    | some c => c.name
    | none => U1
def fieldsM (l : List Cla) (n : X0) : List Fld := (chain l n).reverse.flatMap (·.fields)
def placeM (l : List Cla) (n f : X0) : Option Nat := (fieldsM l n).findIdx? fun x => decide (x.name = f)
def H3 (c : Cla) (n : X0) : Option Hm.Met := c.methods.find? fun m => decide (m.name = n)
def Oq (L : Xd) : Nat → Cla → X0 → Option (X0 × Hm.Met)
  | 0, _, _ => none
  | f + 1, c, n => c.like.findSome? fun u => match L u with
    | none => none
    | some d => match H3 d n with
      | some m => some (u, m)
      | none => Oq L f d n
def methodM (l : List Cla) (k n : X0) : Option (X0 × Hm.Met) :=
  match (chain l k).findSome? fun c => (H3 c n).map (c.name, ·) with
  | some r => some r
  | none => (chain l k).findSome? fun c => Oq (lk l) (l.length + 1) c n
def Aa (l : List Cla) (n : X0) : Bool := match lk l n with
  | some c => !c.abs
  | none => false
def F4 (f : Fld) : X0 := if f.tr then [] else [32] ++ f.name ++ [58] ++ f.kind
def B2 (L : Xd) : Nat → X0 → X0
  | 0, _ => []
  | f + 1, n => match L n with
    | none => []
    | some c => if n = U1 then [] else n ++ [40] ++ B2 L f c.super ++ [41] ++ c.fields.flatMap F4 ++ [46]
def printM (l : List Cla) (n : X0) : X0 := B2 (lk l) (l.length + 1) n
def O5 : List X0 → X0
  | [] => []
  | [a] => a
  | a :: b :: r => a ++ [44] ++ O5 (b :: r)
def K4 (m : Hm.Met) : X0 := [40] ++ O5 m.params ++ [41] ++ m.result
def thereM (l : List Cla) (s : X0) : Bool := !decide (s = B6) && kindM l s
def B0 (l : List Cla) (c : Cla) : Bool := c.fields.any fun f => (placeM l c.super f.name).isSome
def D9 (l : List Cla) (c : Cla) : Bool := c.fields.any (fun f => !thereM l f.kind) || c.methods.any fun m => (!thereM l m.result && !decide (m.result = [])) || m.params.any fun s => !thereM l s
def allMets (l : List Cla) (n : X0) : List Hm.Met := (visits l n).flatMap fun u => ((lk l u).map (·.methods)).getD []
def Wg (ms : List Hm.Met) : Bool := ms.any fun x => ms.any fun y => decide (x.name = y.name) && !decide (K4 x = K4 y)
def F0 (l : List Cla) (c : Cla) : Bool := Wg (allMets l c.name)
def G3 (l : List Cla) (k n : X0) : Bool := match methodM l k n with
  | none => true
  | some r => r.2.abs
def Qc (l : List Cla) (c : Cla) : Bool := !c.abs && (allMets l c.name).any fun m => G3 l c.name m.name
def membersM (l : List Cla) (c : Cla) : Nat := if B0 l c then 64 else if D9 l c then 65 else if F0 l c then 66 else if Qc l c then 67 else 0
def F8 (l : List Cla) (n : X0) : Bool := match lk l n with
  | none => true
  | some d => d.iface || d.fin
def M7 (l : List Cla) (n : X0) : Bool := match lk l n with
  | none => true
  | some d => !d.iface
def uppersM (l : List Cla) (c : Cla) : Nat := if F8 l c.super then 61 else if c.like.any (M7 l) then 62 else 0
def loopsM (l : List Cla) (c : Cla) : Bool := (U5 c).any fun n => (visits l n).contains c.name
def G1 (l : List Cla) (frm : Nat) : Nat → List Nat → Nat → List Nat
  | 0, out, _ => out
  | f + 1, out, i => if i < frm then out else if i ∈ out then out else ((U5 (l.getD i Cla.zero)).foldl (fun out n => G1 l frm f out ((Y3 l n).getD 0)) out) ++ [i]
def V8 (l : List Cla) (frm : Nat) : List Nat := ((List.range l.length).drop frm).foldl (fun out i => G1 l frm (l.length + 1) out i) []
end Go.Hm

namespace Go.Proofs.YtdnfaboigajkhaaGreatDoor
open Go.Emb Go.RowKit Go.Kd Go.Hm
variable {w : World} {K : Value → World → Prop} {σ : Q6}
theorem Q6S {f : FuncId} {fn : Func} {args : List Value} {V : Value} (hf : P.funcs[f]? = some fn) (hb : fn.body.isSome = true) (hn : (fn.name == "runtime.NumGoroutine") = false)
    (h : Calls P f args.toArray w fun e w' => e = .returned V ∧ Below w.heap.size w w') (hk : ∀ w', Below w.heap.size w w' → K V w') : Q1 P f args w K := by
  refine Jm hf hb hn (Calls.mono h ?_)
  rintro e w' ⟨rfl, hb⟩
  exact hk w' hb
theorem Q1z {a : X0} (ha : a.length ≤ V9) (ht : Lib.Utf8Tabs G.e G.d w) (h : ∀ w', Below w.heap.size w w' → K (.bool (Lib.validD a)) w') : Q1 P F.bn [S a] w K :=
  Q6S Tryz.func177 (by kernel_rfl) (by kernel_rfl) (by
    have := Any.utf8_ValidString Tryz.lays196 ⟨a.toArray⟩ w (by rw [S5]; simp only [V9] at ha; omega) ht
    simp only [List.toList_toArray] at this
    exact this) h
theorem Q3l {a : X0} {c : UInt8} (h : K (.bool (decide (0 ≤ Lib.indexByte a c))) w) : Q1 P F.c1 [S a, S [c]] w K := by
  refine Jm (fn := Tryz.f178) Tryz.func178 (by kernel_rfl) (by kernel_rfl) (Calls.mono (Tryz.strings_Contains_one ⟨a.toArray⟩ c w) ?_)
  rintro e w' ⟨rfl, rfl⟩
  exact h
structure Glb (σ : Q6) : Prop where
  ops : Tu σ
  tabs : ∀ w, X6 w σ → Lib.Utf8Tabs G.e G.d w
  flt : J4 σ ⟨G.b, 0, none⟩ (U7.map S)
theorem Glb.lift {σ0 : Q6} (h : Glb σ0) (k : SLe σ0 σ) : Glb σ := ⟨h.ops.le k.le, fun w hs => h.tabs w fun b o e => hs b o (k.le b o e), h.flt.le k.le⟩
def txt (n s : X0) : Bool :=
  if n = [119, 111, 114, 100] then decide (s.length ≤ 64) && Lib.validD s && !decide (0 ≤ Lib.indexByte s 10)
  else if n = [110, 101, 119] then W7 s
  else if n = [105, 115] ∨ n = [99, 97, 115, 116] then right s && !plain s
  else if n = [97, 114, 114, 97, 121] then right s && decide (Aj s < 3)
  else Qx s
theorem Q8p {n a : X0} (ha : a.length ≤ V9) (hs : X6 w σ) (hg : Glb σ) (h : ∀ w' σ', Stp w σ w' σ' → K (.bool (txt n a)) w') : Q1 P F.c8 [S n, S a] w K := Q3t (by
  unfold Tl
  have ha' : a.length ≤ 140737488355320 := by simp only [V9] at ha; omega
  have ha2 : a.length ≤ 140737488355328 := by simp only [V9] at ha; omega
  have hv : ∀ {w1 : World} {K : Value → World → Prop}, X6 w1 σ → (∀ w', Below w1.heap.size w1 w' → K (.bool (Lib.validD a)) w') → Q1 P F.bn [S a] w1 K := fun hk h => Q1z ha (hg.tabs _ hk) h
  unfold txt at h
  have e : decide ((a.length : Int) ≤ 64) = decide (a.length ≤ 64) := by rw [Bool.eq_iff_iff]; simp only [decide_eq_true_eq]; omega
  have e3 : decide ((Aj a : Int) < 3) = decide (Aj a < 3) := by rw [Bool.eq_iff_iff]; simp only [decide_eq_true_eq]; omega
  by_cases h1 : n = [119, 111, 114, 100]
  · rw [if_pos h1] at h
    simp only [decide_eq_true h1, ↓Mm, Mm, ↓Mr, Mr, Mb, reduceIte, e]
    by_cases h2 : a.length ≤ 64
    · simp only [decide_eq_true h2, ↓Mm, Mm, ↓Mr, Mr, Mb, reduceIte] at h ⊢
      refine hv hs (L1 hs ?_)
      intro w1 σ1 hk
      by_cases h3 : Lib.validD a = true
      · simp only [h3, ↓Mm, Mm, ↓Mr, Mr, Mb, reduceIte] at h ⊢
        refine Q3l ?_
        (repeat' (first | (with_reducible intro _) | (with_reducible refine V4 ?_) | (simp only [↓Mm, Mm, ↓Mp, Mp, Mb, reduceIte]) | (with_reducible first | refine ld aS aL aR ?_ | refine X7 aS aL aR ?_ | refine Z0 aS aL aR ?_ | refine Q7 aL ?_ | refine Z3 aR ?_ | refine Z8 aS ?_ | refine W5 aS aL ?_ | refine U4 aS aR ?_ | refine Y2 aS aR aR (Rep.one (by assumption)) ?_ | refine U2 aS aR aR aR ?_ | (refine Y1 (fun hh => ?_) (fun hh => ?_) <;> (try simp only [hh, Bool.not_true, Bool.not_false, ↓Mm, Mm, ↓Mp, Mp, Mb, reduceIte])) | (refine Q4 (fun hh => ?_) (fun hh => ?_) <;> (try simp only [hh, Bool.not_true, Bool.not_false, ↓Mm, Mm, ↓Mp, Mp, Mb, reduceIte])))))
        all_goals (refine Eq.subst (motive := fun b => K b _) ?_ (h _ _ (by (repeat (first | exact Stp.refl (by (first | assumption | exact Stp.sat (by assumption) | exact Hst.sat (by assumption))) | assumption | refine Stp.trans ?_ (by first | assumption | exact Hst.stp (by assumption)))))); clear h; (try clear hA); (try clear hB); (try clear hC); first | rfl | ((try simp only [Bool.not_eq_true', Bool.not_eq_false', Bool.not_true, Bool.not_false, Bool.not_eq_true] at *); simp only [*, Mb, reduceIte]; done) | (simp [*]; done) | simp_all)
      · simp only [eq_false_of_ne_true h3, ↓Mm, Mm, ↓Mr, Mr, Mb, reduceIte] at h ⊢
        (repeat' (first | (with_reducible intro _) | (with_reducible refine V4 ?_) | (simp only [↓Mm, Mm, ↓Mp, Mp, Mb, reduceIte]) | (with_reducible first | refine ld aS aL aR ?_ | refine X7 aS aL aR ?_ | refine Z0 aS aL aR ?_ | refine Q7 aL ?_ | refine Z3 aR ?_ | refine Z8 aS ?_ | refine W5 aS aL ?_ | refine U4 aS aR ?_ | refine Y2 aS aR aR (Rep.one (by assumption)) ?_ | refine U2 aS aR aR aR ?_ | (refine Y1 (fun hh => ?_) (fun hh => ?_) <;> (try simp only [hh, Bool.not_true, Bool.not_false, ↓Mm, Mm, ↓Mp, Mp, Mb, reduceIte])) | (refine Q4 (fun hh => ?_) (fun hh => ?_) <;> (try simp only [hh, Bool.not_true, Bool.not_false, ↓Mm, Mm, ↓Mp, Mp, Mb, reduceIte])))))
        all_goals (refine Eq.subst (motive := fun b => K b _) ?_ (h _ _ (by (repeat (first | exact Stp.refl (by (first | assumption | exact Stp.sat (by assumption) | exact Hst.sat (by assumption))) | assumption | refine Stp.trans ?_ (by first | assumption | exact Hst.stp (by assumption)))))); clear h; (try clear hA); (try clear hB); (try clear hC); first | rfl | ((try simp only [Bool.not_eq_true', Bool.not_eq_false', Bool.not_true, Bool.not_false, Bool.not_eq_true] at *); simp only [*, Mb, reduceIte]; done) | (simp [*]; done) | simp_all)
    · simp only [decide_eq_false h2, ↓Mm, Mm, ↓Mr, Mr, Mb, reduceIte] at h ⊢
      (repeat' (first | (with_reducible intro _) | (with_reducible refine V4 ?_) | (simp only [↓Mm, Mm, ↓Mp, Mp, Mb, reduceIte]) | (with_reducible first | refine ld aS aL aR ?_ | refine X7 aS aL aR ?_ | refine Z0 aS aL aR ?_ | refine Q7 aL ?_ | refine Z3 aR ?_ | refine Z8 aS ?_ | refine W5 aS aL ?_ | refine U4 aS aR ?_ | refine Y2 aS aR aR (Rep.one (by assumption)) ?_ | refine U2 aS aR aR aR ?_ | (refine Y1 (fun hh => ?_) (fun hh => ?_) <;> (try simp only [hh, Bool.not_true, Bool.not_false, ↓Mm, Mm, ↓Mp, Mp, Mb, reduceIte])) | (refine Q4 (fun hh => ?_) (fun hh => ?_) <;> (try simp only [hh, Bool.not_true, Bool.not_false, ↓Mm, Mm, ↓Mp, Mp, Mb, reduceIte])))))
      all_goals (refine Eq.subst (motive := fun b => K b _) ?_ (h _ _ (by (repeat (first | exact Stp.refl (by (first | assumption | exact Stp.sat (by assumption) | exact Hst.sat (by assumption))) | assumption | refine Stp.trans ?_ (by first | assumption | exact Hst.stp (by assumption)))))); clear h; (try clear hA); (try clear hB); (try clear hC); first | rfl | ((try simp only [Bool.not_eq_true', Bool.not_eq_false', Bool.not_true, Bool.not_false, Bool.not_eq_true] at *); simp only [*, Mb, reduceIte]; done) | (simp [*]; done) | simp_all)
  rw [if_neg h1] at h
  simp only [decide_eq_false h1, ↓Mm, Mm, ↓Mr, Mr, Mb, reduceIte]
  by_cases h2 : n = [110, 101, 119]
  · rw [if_pos h2] at h
    simp only [decide_eq_true h2, ↓Mm, Mm, ↓Mr, Mr, Mb, reduceIte]
    (repeat' (first | (with_reducible intro _) | (with_reducible refine V4 ?_) | (simp only [↓Mm, Mm, ↓Mp, Mp, Mb, reduceIte]) | (with_reducible first | refine ld aS aL aR ?_ | refine X7 aS aL aR ?_ | refine Z0 aS aL aR ?_ | refine Q7 aL ?_ | refine Z3 aR ?_ | refine Z8 aS ?_ | refine W5 aS aL ?_ | refine U4 aS aR ?_ | refine Y2 aS aR aR (Rep.one (by assumption)) ?_ | refine U2 aS aR aR aR ?_ | refine Nn _ au (L1 aS ?_) | (refine Y1 (fun hh => ?_) (fun hh => ?_) <;> (try simp only [hh, Bool.not_true, Bool.not_false, ↓Mm, Mm, ↓Mp, Mp, Mb, reduceIte])) | (refine Q4 (fun hh => ?_) (fun hh => ?_) <;> (try simp only [hh, Bool.not_true, Bool.not_false, ↓Mm, Mm, ↓Mp, Mp, Mb, reduceIte])))))
    all_goals (refine Eq.subst (motive := fun b => K b _) ?_ (h _ _ (by (repeat (first | exact Stp.refl (by (first | assumption | exact Stp.sat (by assumption) | exact Hst.sat (by assumption))) | assumption | refine Stp.trans ?_ (by first | assumption | exact Hst.stp (by assumption)))))); clear h; (try clear hA); (try clear hB); (try clear hC); first | rfl | ((try simp only [Bool.not_eq_true', Bool.not_eq_false', Bool.not_true, Bool.not_false, Bool.not_eq_true] at *); simp only [*, Mb, reduceIte]; done) | (simp [*]; done) | simp_all)
  rw [if_neg h2] at h
  simp only [decide_eq_false h2, ↓Mm, Mm, ↓Mr, Mr, Mb, reduceIte]
  by_cases h3 : n = [105, 115] ∨ n = [99, 97, 115, 116]
  · rw [if_pos h3] at h
    have e4 : (decide (n = [105, 115]) || decide (n = [99, 97, 115, 116])) = true := by simpa using h3
    refine V4 ?_
    refine Q4 (fun h4 => ?_) (fun h4 => ?_)
    · simp only [h4, ↓Mm, Mm, ↓Mr, Mr, Mb, reduceIte]
      (repeat' (first | (with_reducible intro _) | (with_reducible refine V4 ?_) | (simp only [↓Mm, Mm, ↓Mp, Mp, Mb, reduceIte]) | (with_reducible first | refine ld aS aL aR ?_ | refine X7 aS aL aR ?_ | refine Z0 aS aL aR ?_ | refine Q7 aL ?_ | refine Z3 aR ?_ | refine Z8 aS ?_ | refine W5 aS aL ?_ | refine U4 aS aR ?_ | refine Y2 aS aR aR (Rep.one (by assumption)) ?_ | refine U2 aS aR aR aR ?_ | refine Yy _ au (L1 aS ?_) | refine Uk _ ?_ | (refine Y1 (fun hh => ?_) (fun hh => ?_) <;> (try simp only [hh, Bool.not_true, Bool.not_false, ↓Mm, Mm, ↓Mp, Mp, Mb, reduceIte])) | (refine Q4 (fun hh => ?_) (fun hh => ?_) <;> (try simp only [hh, Bool.not_true, Bool.not_false, ↓Mm, Mm, ↓Mp, Mp, Mb, reduceIte])))))
      all_goals (refine Eq.subst (motive := fun b => K b _) ?_ (h _ _ (by (repeat (first | exact Stp.refl (by (first | assumption | exact Stp.sat (by assumption) | exact Hst.sat (by assumption))) | assumption | refine Stp.trans ?_ (by first | assumption | exact Hst.stp (by assumption)))))); clear h; (try clear hA); (try clear hB); (try clear hC); first | rfl | ((try simp only [Bool.not_eq_true', Bool.not_eq_false', Bool.not_true, Bool.not_false, Bool.not_eq_true] at *); simp only [*, Mb, reduceIte]; done) | (simp [*]; done) | simp_all)
    · rw [h4, Bool.false_or] at e4
      simp only [e4, ↓Mm, Mm, ↓Mr, Mr, Mb, reduceIte]
      (repeat' (first | (with_reducible intro _) | (with_reducible refine V4 ?_) | (simp only [↓Mm, Mm, ↓Mp, Mp, Mb, reduceIte]) | (with_reducible first | refine ld aS aL aR ?_ | refine X7 aS aL aR ?_ | refine Z0 aS aL aR ?_ | refine Q7 aL ?_ | refine Z3 aR ?_ | refine Z8 aS ?_ | refine W5 aS aL ?_ | refine U4 aS aR ?_ | refine Y2 aS aR aR (Rep.one (by assumption)) ?_ | refine U2 aS aR aR aR ?_ | refine Yy _ au (L1 aS ?_) | refine Uk _ ?_ | (refine Y1 (fun hh => ?_) (fun hh => ?_) <;> (try simp only [hh, Bool.not_true, Bool.not_false, ↓Mm, Mm, ↓Mp, Mp, Mb, reduceIte])) | (refine Q4 (fun hh => ?_) (fun hh => ?_) <;> (try simp only [hh, Bool.not_true, Bool.not_false, ↓Mm, Mm, ↓Mp, Mp, Mb, reduceIte])))))
      all_goals (refine Eq.subst (motive := fun b => K b _) ?_ (h _ _ (by (repeat (first | exact Stp.refl (by (first | assumption | exact Stp.sat (by assumption) | exact Hst.sat (by assumption))) | assumption | refine Stp.trans ?_ (by first | assumption | exact Hst.stp (by assumption)))))); clear h; (try clear hA); (try clear hB); (try clear hC); first | rfl | ((try simp only [Bool.not_eq_true', Bool.not_eq_false', Bool.not_true, Bool.not_false, Bool.not_eq_true] at *); simp only [*, Mb, reduceIte]; done) | (simp [*]; done) | simp_all)
  rw [if_neg h3] at h
  obtain ⟨h3, h4⟩ := not_or.1 h3
  refine V4 ?_
  simp only [decide_eq_false h3, decide_eq_false h4, ↓Mm, Mm, ↓Mr, Mr, Mb, reduceIte]
  by_cases h5 : n = [97, 114, 114, 97, 121]
  · rw [if_pos h5] at h
    simp only [decide_eq_true h5, ↓Mm, Mm, ↓Mr, Mr, Mb, reduceIte]
    (repeat' (first | (with_reducible intro _) | (with_reducible refine V4 ?_) | (simp only [↓Mm, Mm, ↓Mp, Mp, Mb, reduceIte]) | (with_reducible first | refine ld aS aL aR ?_ | refine X7 aS aL aR ?_ | refine Z0 aS aL aR ?_ | refine Q7 aL ?_ | refine Z3 aR ?_ | refine Z8 aS ?_ | refine W5 aS aL ?_ | refine U4 aS aR ?_ | refine Y2 aS aR aR (Rep.one (by assumption)) ?_ | refine U2 aS aR aR aR ?_ | refine Yy _ au (L1 aS ?_) | refine Q8I _ au (L1 aS ?_) | (refine Y1 (fun hh => ?_) (fun hh => ?_) <;> (try simp only [hh, Bool.not_true, Bool.not_false, ↓Mm, Mm, ↓Mp, Mp, Mb, reduceIte])) | (refine Q4 (fun hh => ?_) (fun hh => ?_) <;> (try simp only [hh, Bool.not_true, Bool.not_false, ↓Mm, Mm, ↓Mp, Mp, Mb, reduceIte])))))
    all_goals (try rw [e3])
    all_goals (refine Eq.subst (motive := fun b => K b _) ?_ (h _ _ (by (repeat (first | exact Stp.refl (by (first | assumption | exact Stp.sat (by assumption) | exact Hst.sat (by assumption))) | assumption | refine Stp.trans ?_ (by first | assumption | exact Hst.stp (by assumption)))))); clear h; (try clear hA); (try clear hB); (try clear hC); first | rfl | ((try simp only [Bool.not_eq_true', Bool.not_eq_false', Bool.not_true, Bool.not_false, Bool.not_eq_true] at *); simp only [*, Mb, reduceIte]; done) | (simp [*]; done) | simp_all)
  rw [if_neg h5] at h
  simp only [decide_eq_false h5, ↓Mm, Mm, ↓Mr, Mr, Mb, reduceIte]
  intro _
  refine Q7J a ha2 (L1 hs fun w1 σ1 hk => ?_)
  by_cases hp : Qx a = true
  · simp only [hp, if_true] at h ⊢
    (repeat' (first | (with_reducible intro _) | (with_reducible refine V4 ?_) | (simp only [↓Mm, Mm, ↓Mp, Mp, Mb, reduceIte]) | (with_reducible first | refine ld aS aL aR ?_ | refine X7 aS aL aR ?_ | refine Z0 aS aL aR ?_ | refine Q7 aL ?_ | refine Z3 aR ?_ | refine Z8 aS ?_ | refine W5 aS aL ?_ | refine U4 aS aR ?_ | refine Y2 aS aR aR (Rep.one (by assumption)) ?_ | refine U2 aS aR aR aR ?_ | (refine Y1 (fun hh => ?_) (fun hh => ?_) <;> (try simp only [hh, Bool.not_true, Bool.not_false, ↓Mm, Mm, ↓Mp, Mp, Mb, reduceIte])) | (refine Q4 (fun hh => ?_) (fun hh => ?_) <;> (try simp only [hh, Bool.not_true, Bool.not_false, ↓Mm, Mm, ↓Mp, Mp, Mb, reduceIte])))))
    all_goals (refine Eq.subst (motive := fun b => K b _) ?_ (h _ _ (by (repeat (first | exact Stp.refl (by (first | assumption | exact Stp.sat (by assumption) | exact Hst.sat (by assumption))) | assumption | refine Stp.trans ?_ (by first | assumption | exact Hst.stp (by assumption)))))); clear h; (try clear hA); (try clear hB); (try clear hC); first | rfl | ((try simp only [Bool.not_eq_true', Bool.not_eq_false', Bool.not_true, Bool.not_false, Bool.not_eq_true] at *); simp only [*, Mb, reduceIte]; done) | (simp [*]; done) | simp_all)
  · simp only [eq_false_of_ne_true hp, Bool.false_eq_true, if_false] at h ⊢
    (repeat' (first | (with_reducible intro _) | (with_reducible refine V4 ?_) | (simp only [↓Mm, Mm, ↓Mp, Mp, Mb, reduceIte]) | (with_reducible first | refine ld aS aL aR ?_ | refine X7 aS aL aR ?_ | refine Z0 aS aL aR ?_ | refine Q7 aL ?_ | refine Z3 aR ?_ | refine Z8 aS ?_ | refine W5 aS aL ?_ | refine U4 aS aR ?_ | refine Y2 aS aR aR (Rep.one (by assumption)) ?_ | refine U2 aS aR aR aR ?_ | (refine Y1 (fun hh => ?_) (fun hh => ?_) <;> (try simp only [hh, Bool.not_true, Bool.not_false, ↓Mm, Mm, ↓Mp, Mp, Mb, reduceIte])) | (refine Q4 (fun hh => ?_) (fun hh => ?_) <;> (try simp only [hh, Bool.not_true, Bool.not_false, ↓Mm, Mm, ↓Mp, Mp, Mb, reduceIte])))))
    all_goals (refine Eq.subst (motive := fun b => K b _) ?_ (h _ _ (by (repeat (first | exact Stp.refl (by (first | assumption | exact Stp.sat (by assumption) | exact Hst.sat (by assumption))) | assumption | refine Stp.trans ?_ (by first | assumption | exact Hst.stp (by assumption)))))); clear h; (try clear hA); (try clear hB); (try clear hC); first | rfl | ((try simp only [Bool.not_eq_true', Bool.not_eq_false', Bool.not_true, Bool.not_false, Bool.not_eq_true] at *); simp only [*, Mb, reduceIte]; done) | (simp [*]; done) | simp_all))
def N6 (i : Ins) : Int := if !(D4 i.op).2.2 then 40 else if (!(D4 i.op).1 && decide (i.n ≠ 0)) || (!(D4 i.op).2.1 && decide (i.s ≠ [])) || ((D4 i.op).2.1 && !txt i.op i.s) then 41 else 0
theorem Q6T {a : X0} (hs : X6 w σ) (hg : Glb σ) (h : ∀ w', Below w.heap.size w w' → K (.tuple #[.bool (D4 a).1, .bool (D4 a).2.1, .bool (D4 a).2.2]) w') : Q1 P F.bM [S a] w K := Q7E hs hg.ops h
theorem Q3A {i : Ins} {cs : List Value} (hs : X6 w σ) (hg : Glb σ) (hi : I5 σ i cs) (h : ∀ w' σ', Stp w σ w' σ' → K (I (N6 i)) w') : Q1 P F.c3 [.agg cs.toArray] w K := Q1U (by
  obtain ⟨rfl, h1, h2, h3⟩ := hi
  unfold Ki
  unfold N6 at h
  (repeat' (first | (with_reducible intro _) | (with_reducible refine V4 ?_) | (simp only [↓Mm, Mm, ↓Mp, Mp, Mb, reduceIte]) | (with_reducible first | refine ld aS aL aR ?_ | refine X7 aS aL aR ?_ | refine Z0 aS aL aR ?_ | refine Q7 aL ?_ | refine Z3 aR ?_ | refine Z8 aS ?_ | refine W5 aS aL ?_ | refine U4 aS aR ?_ | refine Y2 aS aR aR (Rep.one (by assumption)) ?_ | refine U2 aS aR aR aR ?_ | refine Q6T au au (L1 aS ?_) | refine Q8p au au au ?_ | (refine Y1 (fun hh => ?_) (fun hh => ?_) <;> (try simp only [hh, Bool.not_true, Bool.not_false, ↓Mm, Mm, ↓Mp, Mp, Mb, reduceIte])) | (refine Q4 (fun hh => ?_) (fun hh => ?_) <;> (try simp only [hh, Bool.not_true, Bool.not_false, ↓Mm, Mm, ↓Mp, Mp, Mb, reduceIte])))))
  all_goals (refine Eq.subst (motive := fun b => K b _) ?_ (h _ _ (by (repeat (first | exact Stp.refl (by (first | assumption | exact Stp.sat (by assumption) | exact Hst.sat (by assumption))) | assumption | refine Stp.trans ?_ (by first | assumption | exact Hst.stp (by assumption)))))); clear h; (try clear hA); (try clear hB); (try clear hC); first | rfl | ((try simp only [Bool.not_eq_true', Bool.not_eq_false', Bool.not_true, Bool.not_false, Bool.not_eq_true] at *); simp only [*, Mb, reduceIte]; done) | (simp [*]; done) | simp_all))
end Go.Proofs.YtdnfaboigajkhaaGreatDoor

namespace Go.Emb
open Go.RowKit Go.Hm
variable {P : Program} {W : World}
theorem Af {w : World} (hs : X6 w (I9 W)) {a : Addr} {v : Value} (h : W.cell? a = some v) : w.cell? a = some v := by
  unfold World.cell? at h ⊢
  cases hb : W.heap[a.block]? with
  | none => rw [hb] at h; cases h
  | some o => rw [hb] at h; rw [hs _ o hb]; exact h
theorem Q87 {α : Type} {f : α → List Value} {sz : Nat} (hf : ∀ a, (f a).length = sz) : ∀ (l : List α) (cs : List Value), cs.length = l.length * sz → (∀ i a, l[i]? = some a → (cs.drop (i * sz)).take sz = f a) → cs = l.flatMap f := by
  intro l
  induction l with
  | nil => intro cs h _; simp at h; simp [h]
  | cons a r ih =>
    intro cs h hh
    have h0 := hh 0 a rfl
    have h1 := ih (cs.drop sz) (by rw [List.length_drop, h, List.length_cons, Nat.succ_mul]; omega) (fun i b hb => by
      have := hh (i + 1) b (by simpa using hb)
      rw [List.drop_drop]
      rwa [Nat.succ_mul, Nat.add_comm] at this)
    rw [List.flatMap_cons, ← h1, ← h0]
    simp
theorem Q0Z {α H : Type} {enc : TypeId × Value → H} {V2 : Nat} {sp : Nat → Bool} {held : Bool} {f : α → List Value} {fd : α → DataW H} {n sz : Nat} {t e : TypeId} {fuel : Nat} {cs : List Value} {p : List MemPlace} (ht : P.underlying t = some (.array n e)) (hc : P.cellsOf e = sz) (hct : P.cellsOf t = n * sz)
    (l : List α) (hf : ∀ a, (f a).length = sz) (hel : ∀ m cs a q, DataW.trod enc P W V2 sp held m e cs = some (fd a, q) → cs = f a)
    (h : DataW.trod enc P W V2 sp held fuel t cs = some (.agg (l.map fd), p)) : cs = l.flatMap f := by
  obtain ⟨xs, m, _, he, h1, h2, h3⟩ := DataW.trod_array ht h
  simp only [Prod.mk.injEq, DataW.agg.injEq] at he
  have hl : l.length = n := by have := congrArg List.length he.1; simp at this; omega
  refine Q87 hf l cs (by rw [h1, hct, hl]) fun i a ha => ?_
  have hi : i < l.length := (List.getElem?_eq_some_iff.1 ha).1
  have h4 := h3 i (by omega)
  have hx : i < xs.length := by omega
  rw [List.getElem?_eq_getElem hx, hc] at h4
  have h5 : (xs[i]).1 = fd a := by
    have := congrArg (·[i]?) he.1
    simp only [List.getElem?_map, ha, List.getElem?_eq_getElem hx, Option.map_some, Option.some.injEq] at this
    exact this.symm
  exact hel m _ a _ (by rw [h4]; congr 1; exact Prod.ext h5 rfl)
theorem Q2O {n : String} {g : Nat} {cs : Array Value} {l : List Value} (hg : P.globalNamed n = some g) (hv : W.var? P n = some cs) (hl : cs.toList = l) : J4 (I9 W) ⟨g, 0, none⟩ l := by
  unfold World.var? at hv
  rw [hg] at hv
  simp only [Option.bind_some] at hv
  cases hb : W.heap[g]? with
  | none => rw [hb] at hv; cases hv
  | some o =>
    rw [hb] at hv
    cases o with
    | cells N7 e fr =>
      cases hv
      refine ⟨rfl, cs, e, fr, hb, fun i v hi => ?_⟩
      subst hl
      simpa using hi
    | _ => cases hv
end Go.Emb
namespace Go.Proofs.YtdnfaboigajkhaaGreatDoor
open Go.Emb Go.RowKit Go.Kd Go.Hm
variable {W : World}
def laidAll : List (String × DataW Unit) := [("unicode/utf8.acceptRanges", Rows.laid_unicode_utf8_acceptRanges), ("squinch/code.ops", Rows.laid_squinch_code_ops), ("squinch/hier.faults", Rows.laid_squinch_hier_faults), ("unicode/utf8.first", Rows.laid_unicode_utf8_first)]
theorem Q9c : Rows.laid_squinch_code_ops = (.agg (Xr.map fun o => .agg [.lit (.string o.name), .lit (.bool o.number), .lit (.bool o.text)]) : DataW Unit) := by rfl
theorem Q6U : Rows.laid_squinch_hier_faults = (.agg (U7.map fun s => .lit (.string s)) : DataW Unit) := by rfl
theorem Q99 : (Rows.laid_unicode_utf8_acceptRanges : DataW Unit) = Lib.acceptData := by rfl
theorem Q7v : Rows.laid_unicode_utf8_first = Lib.firstData := by kernel_rfl
def Q9l : Array Field := #[⟨"name", T.b, 0, false, "", "squinch/code", 0⟩, ⟨"number", T.m, 1, false, "", "squinch/code", 16⟩, ⟨"text", T.m, 2, false, "", "squinch/code", 17⟩]
theorem Q9k : P.underlying T.a3 = some (.struct Q9l) := by kernel_rfl
theorem Q8H (h : laidMetH P laidAll W) : Glb (I9 W) := by
  rw [Go.MakeChecks.laidMetH_plain _ _ _ (by kernel_rfl)] at h
  refine ⟨?_, fun w hs => ?_, ?_⟩
  · obtain ⟨g, t, cs, fuel, p, hg, hty, hvar, hd⟩ := Lib.laidMet.reads h (.tail _ (.head _))
    obtain rfl := Option.some.inj ((show P.globalNamed "squinch/code.ops" = some G.a by kernel_rfl).symm.trans hg)
    obtain rfl := Option.some.inj ((show (P.globals[G.a]?).map (·.type) = some T.a5 by kernel_rfl).symm.trans hty)
    rw [Q9c] at hd
    refine Q2O hg hvar (Q0Z (f := Tk) (sz := 3) (n := 42) (e := T.a3) (by kernel_rfl) (by kernel_rfl) (by kernel_rfl) Xr (fun _ => rfl) (fun m cs a q h => by
    obtain ⟨xs, n, _, he, h1, h2, h3⟩ := DataW.trod_struct Q9k h
    simp only [Prod.mk.injEq, DataW.agg.injEq] at he
    have hlen : cs.length = 3 := by rw [h1]; kernel_rfl
    obtain ⟨c0, c1, c2, rfl⟩ := Q1O hlen
    obtain ⟨x0, x1, x2, rfl⟩ := Q1O (show xs.length = 3 by rw [h2]; rfl)
    have he := he.1
    simp only [List.map_cons, List.map_nil, List.cons.injEq, and_true] at he
    obtain ⟨e0, e1, e2⟩ := he
    have h0 : DataW.trod (fun _ => ()) P W 0 (fun _ => true) false n T.b (List.take (P.cellsOf T.b) (List.drop 0 [c0, c1, c2])) = some x0 := h3 0 _ rfl
    have h4 : DataW.trod (fun _ => ()) P W 0 (fun _ => true) false n T.m (List.take (P.cellsOf T.m) (List.drop 1 [c0, c1, c2])) = some x1 := h3 1 _ rfl
    have h5 : DataW.trod (fun _ => ()) P W 0 (fun _ => true) false n T.m (List.take (P.cellsOf T.m) (List.drop 2 [c0, c1, c2])) = some x2 := h3 2 _ rfl
    rw [S6] at h0
    rw [Rc] at h4 h5
    obtain ⟨⟨⟨s0⟩⟩, q0, r0, _⟩ := DataW.trod_string X8 h0
    obtain ⟨b1, q1, r1⟩ := DataW.trod_bool Uo h4
    obtain ⟨b2, q2, r2⟩ := DataW.trod_bool Uo h5
    simp at q0 q1 q2
    subst q0 q1 q2 r0 r1 r2
    simp at e0 e1 e2
    simp [Tk, ← e0, ← e1, ← e2]) hd)
  · have := utf8Tabs_of_readsT (U8Types.of196 Tryz.lays196) ⟨by kernel_rfl, by kernel_rfl, by kernel_rfl, by kernel_rfl, by kernel_rfl, by kernel_rfl, by kernel_rfl⟩ (Q7v ▸ Lib.laidMet.reads h (.tail _ (.tail _ (.tail _ (.head _))))) (Q99 ▸ Lib.laidMet.reads h (.head _))
    exact ⟨fun c hc => Af hs (this.1 c hc), fun i hi => ⟨Af hs (this.2 i hi).1, Af hs (this.2 i hi).2⟩⟩
  · obtain ⟨g, t, cs, fuel, p, hg, hty, hvar, hd⟩ := Lib.laidMet.reads h (.tail _ (.tail _ (.head _)))
    obtain rfl := Option.some.inj ((show P.globalNamed "squinch/hier.faults" = some G.b by kernel_rfl).symm.trans hg)
    obtain rfl := Option.some.inj ((show (P.globals[G.b]?).map (·.type) = some T.ad by kernel_rfl).symm.trans hty)
    rw [Q6U] at hd
    have := Q0Z (f := fun s => [S s]) (sz := 1) (n := 6) (e := T.b) (by kernel_rfl) S6 (by kernel_rfl) U7 (fun _ => rfl) (fun m cs a q h => by
      obtain ⟨⟨⟨s⟩⟩, rfl, he, _⟩ := DataW.trod_string X8 h
      cases he; rfl) hd
    exact Q2O hg hvar (this.trans (by rfl))
end Go.Proofs.YtdnfaboigajkhaaGreatDoor
namespace Go.Emb
open Go.RowKit Go.Hm
theorem Q21 {H : Type} {P : Program} {ts : List TypeId} {ds : List (DataW H)} (h : (DataW.weightsEach P ts ds).all (· ≤ reachBytes) = true) {j : Nat} {t : TypeId} {d : DataW H} (ht : ts[j]? = some t) (hd : ds[j]? = some d) : Wt P t d := fun n hn => by
  have := List.all_eq_true.1 h _ (DataW.weights_mem_each ht hd n hn)
  simpa using this
end Go.Emb
namespace Go.Proofs.YtdnfaboigajkhaaGreatDoor
open Go.Emb Go.RowKit Go.Kd Go.Hm
section
variable {H : Type} {enc : TypeId × Value → H} {W : World} {v : Value} {d : DataW H} {p : List MemPlace}
set_option maxRecDepth 100000 in
theorem Q7F {V2 : Nat} (hv : Value.okWide P W .any V2 T.f v) (h : DataW.Trod enc P W 0 (fun _ => true) true T.f v d p) (hw : Wt P T.f d) : ∃ l, Sl 8 V0 (I9 W) v l := by
  obtain ⟨a, n, c, rfl⟩ := WideShapes.okWide_slice Q68 hv
  unfold DataW.Trod at h
  obtain ⟨fuel, h⟩ := h
  obtain ⟨u, l, e, hl⟩ := Q7p h hw
  simp [Value.cells] at e
  subst e
  exact ⟨l, hl⟩
set_option maxRecDepth 100000 in
theorem Q5D {V2 : Nat} (hv : Value.okWide P W .any V2 T.b v) (h : DataW.Trod enc P W 0 (fun _ => true) true T.b v d p) (hw : Wt P T.b d) : ∃ s : X0, v = S s ∧ s.length ≤ V9 := by
  obtain ⟨s, rfl⟩ := WideShapes.okWide_string X8 hv
  unfold DataW.Trod at h
  obtain ⟨fuel, h⟩ := h
  obtain ⟨s, e, hl⟩ := Yu X8 h hw
  simp [Value.cells] at e
  exact ⟨s, by rw [e], hl⟩
end
end Go.Proofs.YtdnfaboigajkhaaGreatDoor

namespace Go.Emb
open Go.RowKit Go.Hm
variable {P : Program} {w w0 w1 w' w'' : World} {K : Value → World → Prop} {σ σ0 σ1 σ' : Q6}
def L5 {α : Type} (B : Nat) (e : TypeId) (sz : Nat) (R : Q6 → α → List Value → Prop) (σ : Q6) (w : World) (v : Value) (xs : List α) : Prop :=
  ∃ a cap, v = .slice a xs.length cap ∧ xs.length ≤ cap ∧ cap ≤ maxLen ∧ (∀ b, a = some b → b.spot = none ∧ B ≤ b.block ∧ b.block < w.heap.size ∧ σ b.block = none) ∧ (0 < cap → ∃ g off cur, a = some ⟨g, off, none⟩ ∧ B ≤ g ∧ σ g = none ∧ w.heap[g]? = some (.cells cur e (0, 0)) ∧ off + cap * sz ≤ cur.size ∧ ∀ i x, xs[i]? = some x → R σ x ((cur.toList.drop (off + i * sz)).take sz))
section
variable {α : Type} {R : Q6 → α → List Value → Prop} {B sz : Nat} {e : TypeId} {v u : Value} {xs ys : List α}
theorem L5.of_acc (h : W3 B e sz R σ w v xs) : L5 B e sz R σ w v xs := by
  obtain ⟨cells, h1, h2, h3⟩ := h
  rcases h1.2 with ⟨rfl, h0⟩ | ⟨g, cap, cur, rfl, hb, hg, hle, hmax, hsz, htk⟩
  · exact ⟨none, 0, by rw [h0], by omega, by simp, by simp, fun h => by omega⟩
  · refine ⟨_, cap, rfl, hle, hmax, by rintro _ ⟨⟩; exact ⟨rfl, hb, (Array.getElem?_eq_some_iff.1 hg).1, h2 g rfl⟩, fun _ => ⟨g, 0, cur, rfl, hb, h2 g rfl, hg, by omega, fun i x hx => ?_⟩⟩
    have hi : i < xs.length := (List.getElem?_eq_some_iff.1 hx).1
    have hh : i * sz + sz ≤ xs.length * sz := by rw [← Nat.succ_mul]; exact Nat.mul_le_mul_right _ hi
    have := h3 i x hx
    rw [← htk, List.drop_take, List.take_take] at this
    rw [Nat.zero_add]
    rwa [show min sz (xs.length * sz - i * sz) = sz by omega] at this
theorem L5.mem (h : L5 B e sz R σ w v xs) {k : Nat} (hv : v.ownBlock = some k) : B ≤ k ∧ k < w.heap.size ∧ σ k = none := by
  obtain ⟨a, cap, rfl, h1, h2, hsp, h3⟩ := h
  cases a with
  | none => cases hv
  | some a => cases hv; exact (hsp a rfl).2
theorem L5.lt (h : L5 B e sz R σ w v xs) {k : Nat} (hv : v.ownBlock = some k) (hx : 0 < xs.length) : B ≤ k ∧ k < w.heap.size ∧ σ k = none := h.mem hv
theorem L5.up [hr : Rep R] (h : L5 B e sz R σ w v xs) (hk : Stp w σ w' σ') : L5 B e sz R σ' w' v xs := by
  obtain ⟨a, cap, rfl, h1, h2, hsp, h3⟩ := h
  refine ⟨a, cap, rfl, h1, h2, fun b hb => ⟨(hsp b hb).1, (hsp b hb).2.1, Nat.lt_of_lt_of_le (hsp b hb).2.2.1 hk.bel.size, (hk.old _ (hsp b hb).2.2.1).trans (hsp b hb).2.2.2⟩, fun hc => ?_⟩
  obtain ⟨g, off, cur, rfl, q1, q2, q3, q4, q5⟩ := h3 hc
  have hl := (Array.getElem?_eq_some_iff.1 q3).1
  exact ⟨g, off, cur, rfl, q1, (hk.old g hl).trans q2, (hk.bel.block g hl).trans q3, q4, fun i x hx => hr.up hk.le (q5 i x hx)⟩
theorem L5.step [hr : Rep R] (h : L5 B e sz R σ w v xs) (hk : Stp w σ w' σ') : L5 B e sz R σ' w' v xs := h.up hk
theorem L5.kp {D : Nat → Prop} (h : L5 B e sz R σ w v xs) (hk : Kpt D w w') (hne : ∀ k, v.ownBlock = some k → ¬ D k) : L5 B e sz R σ w' v xs := by
  obtain ⟨a, cap, rfl, h1, h2, hsp, h3⟩ := h
  refine ⟨a, cap, rfl, h1, h2, fun b hb => ⟨(hsp b hb).1, (hsp b hb).2.1, Nat.lt_of_lt_of_le (hsp b hb).2.2.1 hk.size, (hsp b hb).2.2.2⟩, fun hc => ?_⟩
  obtain ⟨g, off, cur, rfl, q1, q2, q3, q4, q5⟩ := h3 hc
  have hl := (Array.getElem?_eq_some_iff.1 q3).1
  exact ⟨g, off, cur, rfl, q1, q2, (hk.block g hl (hne g rfl)).trans q3, q4, q5⟩
theorem Q1F {t0 t : TypeId} {cs : List Bool} [ts : TS P t0 e] (h : L5 B e sz R σ w v xs) (hk : K (I xs.length) w) : X5 P .len [t0] t cs [v] w K := by
  obtain ⟨a, cap, rfl, _⟩ := h
  rw [Q4c]; exact hk
theorem Q2g {t : TypeId} {by_ : Nat} {z : Value} [TS P t e] [TZ P e sz by_ z] (h : L5 B e sz R σ w v xs) {n : Nat} (hn : n < xs.length)
    (hk : ∀ a cs, (∀ j u, cs[j]? = some u → w.cell? (a.add j) = some u) → cs.length = sz → R σ xs[n] cs → K (.pointer (some a)) w) : indexAddr P t v (I n) w K := by
  obtain ⟨a, cap, rfl, h1, h2, hsp, h3⟩ := h
  obtain ⟨g, off, cur, rfl, q1, q2, q3, q4, q5⟩ := h3 (by omega)
  rw [Rf (by omega) (by omega)]
  have hh : n * sz + sz ≤ cap * sz := by rw [← Nat.succ_mul]; exact Nat.mul_le_mul_right _ (by omega)
  refine hk _ ((cur.toList.drop (off + n * sz)).take sz) ?_ ?_ (q5 n _ (by simp [hn]))
  · intro j u hu
    rw [List.getElem?_take] at hu
    split at hu
    · rw [List.getElem?_drop] at hu
      unfold World.cell?
      rw [R6, R6, Xa, Xa, G2 (G2 rfl _)]
      simp only [q3]
      simpa using hu
    · cases hu
  · rw [List.length_take, List.length_drop, Array.length_toList]; omega
theorem Q9b {t : TypeId} {by_ : Nat} {z : Value} [ts : TS P t e] [tz : TZ P e sz by_ z] (h : L5 B e sz R σ w v xs) (l : Nat) (hl : l ≤ xs.length)
    (hk : ∀ v', L5 B e sz R σ w v' (xs.drop l) → (v'.ownBlock = v.ownBlock ∨ v'.ownBlock = none) → K v' w) : R4 P t v (some (I l)) none none w K := by
  obtain ⟨a, cap, rfl, h1, h2, hsp, h3⟩ := h
  have hh : ∀ w : World, (Instr.sliceBounds true xs.length cap (some (I l)) none none).run P w = .ok (l, xs.length, cap) w := by
    intro w
    have c1 : (l : Int) ≤ xs.length := by omega
    simp [Instr.sliceBounds, Instr.sliceBound, asIntOf, h1, c1]
    intros; omega
  unfold R4
  have : (Instr.sliceAt t (.slice a xs.length cap) (some (I l)) none none).run P w = .ok (.slice (if cap = l then a else a.map (·.add (l * sz))) (xs.length - l) (cap - l)) w := by
    simp [Instr.sliceAt, run_underlying ts.h, Instr.slice, hh, L9 tz]
  rw [Y0 this]
  refine hk _ ⟨_, cap - l, by rw [List.length_drop], by rw [List.length_drop]; omega, by omega, ?_, fun hc => ?_⟩ ?_
  · intro b hb
    split at hb
    · exact hsp b hb
    · cases a with
      | none => cases hb
      | some a => cases hb; exact ⟨G2 (hsp a rfl).1 _, by rw [R6]; exact (hsp a rfl).2⟩
  · have h4 := h3 (by omega)
    clear h3
    obtain ⟨g, off, cur, rfl, q1, q2, q3, q4, q5⟩ := h4
    refine ⟨g, off + l * sz, cur, ?_, q1, q2, q3, ?_, fun i x hx => ?_⟩
    · rw [if_neg (by omega)]; simp only [Option.map_some]; congr 1; unfold Addr.add; split <;> simp_all
    · have : l * sz + (cap - l) * sz = cap * sz := by rw [← Nat.add_mul]; congr 1; omega
      omega
    · rw [List.getElem?_drop] at hx
      have := q5 _ _ hx
      rwa [Nat.add_mul, ← Nat.add_assoc] at this
  · left
    by_cases hcl : cap = l
    · rw [if_pos hcl]; cases a <;> rfl
    · rw [if_neg hcl]
      cases a with
      | none => rfl
      | some a => simp only [Option.map_some, Value.ownBlock, R6]
theorem Q6Y {t ty : TypeId} {by_ : Nat} {z : Value} {cs : List Bool} [ts : TS P t e] [tz : TZ P e sz by_ z] [hr : Rep R] (hs : X6 w σ) (hB : B ≤ w.heap.size) (ha : L5 B e sz R σ w v xs) (hu : Sl sz R σ u ys) (hz : (z.cells.size == sz && decide (0 < sz)) = true)
    (hb : (xs.length + ys.length) * by_ ≤ 140737488355328) (hm : xs.length + ys.length ≤ 1000000000000)
    (h : ∀ v' w', Kpt (fun k => v.ownBlock = some k ∧ B ≤ k ∧ σ k = none) w w' → X6 w' σ → L5 B e sz R σ w' v' (xs ++ ys) → ((∃ a cap, v = .slice a xs.length cap ∧ v' = .slice a (xs.length + ys.length) cap) ∨ (Below w.heap.size w w' ∧ ∀ k, v'.ownBlock = some k → w.heap.size ≤ k)) → K v' w') : X5 P .append [t, t] ty cs [v, u] w K := by
  obtain ⟨ac, acap, rfl, c1, c2, csp, c3⟩ := ha
  obtain ⟨a, cap, news, rfl, n1, n2, n3, n4, n5⟩ := hu.cells hs
  obtain ⟨i, hi, hsz, hby, hzero⟩ := tz.info
  simp only [Bool.and_eq_true, beq_iff_eq, decide_eq_true_eq] at hz
  obtain ⟨hz1, hz2⟩ := hz
  have fin : ∀ v' w', (Builtin.append_ #[t, t] ty #[.slice ac xs.length acap, .slice a ys.length cap]).run P w = .ok v' w' → Kpt (fun k => (Value.slice ac xs.length acap).ownBlock = some k ∧ B ≤ k ∧ σ k = none) w w' → L5 B e sz R σ w' v' (xs ++ ys) → ((∃ a cap, (Value.slice ac xs.length acap) = .slice a xs.length cap ∧ v' = .slice a (xs.length + ys.length) cap) ∨ (Below w.heap.size w w' ∧ ∀ k, v'.ownBlock = some k → w.heap.size ≤ k)) → X5 P .append [t, t] ty cs [.slice ac xs.length acap, .slice a ys.length cap] w K := by
    intro v' w' hrun hk hq hat
    have hrun' : (builtin .append #[t, t] ty cs.toArray #[.slice ac xs.length acap, .slice a ys.length cap]).run P w = .ok (.value v') w' := by
      simp [builtin, hrun]
    unfold X5
    rw [Ze]; unfold Xk
    rw [hrun']
    exact h v' w' hk (fun k o ho => by rw [hk.block k (hs.lt ho) fun e => by rw [e.2.2] at ho; cases ho]; exact hs k o ho) hq hat
  have hsrc : Src P i.size t (.slice a ys.length cap) ys.length news w := by
    cases a with
    | some b => exact Src.ofSlice w ts.h b ys.length cap news (by rw [hsz]; exact n2) (n3 b rfl) n4
    | none =>
      have hy : ys.length = 0 := by
        obtain ⟨a', cap', e', q1, _, q3, _⟩ := hu; injection e' with e1 e2 e3; have := n1 rfl; omega
      have hn : news = [] := List.eq_nil_of_length_eq_zero (by rw [n2, hy]; simp)
      subst hn
      rw [hy]; exact Src.ofNil w ts.h cap
  by_cases hroom : xs.length + ys.length ≤ acap
  · by_cases hc0 : acap = 0
    · -- nothing at all
      subst hc0
      have hx : xs = [] := List.eq_nil_of_length_eq_zero (by omega)
      have hy : ys = [] := List.eq_nil_of_length_eq_zero (by omega)
      subst hx hy
      have hn : news = [] := List.eq_nil_of_length_eq_zero (by simpa using n2)
      subst hn
      refine fin (.slice ac 0 0) w ?_ Kpt.refl ⟨ac, 0, rfl, by simp, by simp, csp, fun h => by omega⟩ (.inl ⟨_, _, rfl, rfl⟩)
      have hl := hsrc.len w
      have hcs := hsrc.cells
      simp only [List.length_nil] at hl hcs ⊢
      cases ac <;> simp [Builtin.append_, run_underlying ts.h, sizeOf, typeInfo, hi, hl, hcs, storeCells]
    · obtain ⟨g, off, cur, rfl, q1, q2, q3, q4, q5⟩ := c3 (by omega)
      have e1 : (xs.length + ys.length) * sz ≤ acap * sz := Nat.mul_le_mul_right _ hroom
      rw [Nat.add_mul] at e1
      have hst := run_storeCells_at P g (off + xs.length * sz) e news 0 cur w q3 (by omega) n4
      simp only [Nat.add_zero] at hst
      obtain ⟨hu1, hu2⟩ := Nj (cs := (cur.toList.take (off + xs.length * sz) ++ news ++ cur.toList.drop (off + xs.length * sz + news.length)).toArray) q3
      refine fin (.slice (some ⟨g, off, none⟩) (xs.length + ys.length) acap) _ ?_ (Kpt.of_upd hu1 ⟨rfl, q1, q2⟩) ?_ (.inl ⟨_, _, rfl, rfl⟩)
      · have hl := hsrc.len w
        have hcs := hsrc.cells
        rw [hsz] at hcs
        simp [Builtin.append_, run_underlying ts.h, sizeOf, typeInfo, hi, hl, hcs, hsz, hroom, Addr.add_lit, hst]
      · refine ⟨_, acap, by rw [List.length_append], by rw [List.length_append]; exact hroom, c2, fun b hb => ⟨(csp b hb).1, (csp b hb).2.1, by rw [hu1.size]; exact (csp b hb).2.2.1, (csp b hb).2.2.2⟩, fun _ => ⟨g, off, _, rfl, q1, q2, hu2, ?_, fun j x hx => ?_⟩⟩
        · simp; omega
        · by_cases hj : j < xs.length
          · rw [List.getElem?_append_left hj] at hx
            have := q5 j x hx
            have hh : j * sz + sz ≤ xs.length * sz := by rw [← Nat.succ_mul]; exact Nat.mul_le_mul_right _ hj
            have e2 : ((cur.toList.take (off + xs.length * sz) ++ news ++ cur.toList.drop (off + xs.length * sz + news.length)).toArray.toList.drop (off + j * sz)).take sz = (cur.toList.drop (off + j * sz)).take sz := by
              rw [List.toList_toArray, List.append_assoc]
              rw [List.drop_append_of_le_length (by rw [List.length_take, Array.length_toList (xs := cur)]; omega), List.take_append_of_le_length (by rw [List.length_drop, List.length_take, Array.length_toList (xs := cur)]; omega), List.drop_take, List.take_take]
              congr 1; omega
            rw [e2]; exact this
          · rw [List.getElem?_append_right (by omega)] at hx
            have := n5 _ _ hx
            have hjl : j - xs.length < ys.length := (List.getElem?_eq_some_iff.1 hx).1
            have hh : (j - xs.length) * sz + sz ≤ ys.length * sz := by rw [← Nat.succ_mul]; exact Nat.mul_le_mul_right _ hjl
            have hjs : j * sz = xs.length * sz + (j - xs.length) * sz := by rw [← Nat.add_mul]; congr 1; omega
            have e2 : ((cur.toList.take (off + xs.length * sz) ++ news ++ cur.toList.drop (off + xs.length * sz + news.length)).toArray.toList.drop (off + j * sz)).take sz = (news.drop ((j - xs.length) * sz)).take sz := by
              rw [List.toList_toArray, List.append_assoc]
              rw [List.drop_append, List.drop_eq_nil_of_le (by rw [List.length_take, Array.length_toList (xs := cur)]; omega), List.nil_append, List.length_take, Array.length_toList (xs := cur),
                show off + j * sz - min (off + xs.length * sz) cur.size = (j - xs.length) * sz by omega,
                List.drop_append_of_le_length (by omega), List.take_append_of_le_length (by rw [List.length_drop]; omega)]
            rw [e2]; exact this
  · -- a new row
    have holds : ∃ olds : List Value, olds.length = xs.length * sz ∧ (Builtin.firstCells i.size xs.length (.slice ac xs.length acap)).run P w.drew = .ok olds.toArray w.drew ∧ ∀ j x, xs[j]? = some x → R σ x ((olds.drop (j * sz)).take sz) := by
      by_cases hc0 : acap = 0
      · subst hc0
        have hx : xs = [] := List.eq_nil_of_length_eq_zero (by omega)
        subst hx
        refine ⟨[], by simp, ?_, by simp⟩
        cases ac with
        | none => exact run_firstCells_none w.drew i.size 0 0 0
        | some a' => exact run_firstCells_some w.drew i.size 0 a' 0 0 [] (by simp) (by intro _ _ h'; simp at h')
      · obtain ⟨g, off, cur, rfl, q1, q2, q3, q4, q5⟩ := c3 (by omega)
        have e1 : xs.length * sz ≤ acap * sz := Nat.mul_le_mul_right _ c1
        refine ⟨(cur.toList.drop off).take (xs.length * sz), by rw [List.length_take, List.length_drop, Array.length_toList (xs := cur)]; omega, ?_, fun j x hx => ?_⟩
        · refine run_firstCells_some w.drew i.size xs.length ⟨g, off, none⟩ xs.length acap _ (by rw [List.length_take, List.length_drop, Array.length_toList (xs := cur), hsz]; omega) (fun j u hu => ?_)
          rw [List.getElem?_take] at hu
          split at hu
          · rw [List.getElem?_drop] at hu
            have q3' : w.drew.heap[g]? = some (.cells cur e (0, 0)) := q3
            unfold World.cell?
            rw [R6, Xa, G2 rfl]
            simp only [q3']
            simpa using hu
          · cases hu
        · have hj : j < xs.length := (List.getElem?_eq_some_iff.1 hx).1
          have hh : j * sz + sz ≤ xs.length * sz := by rw [← Nat.succ_mul]; exact Nat.mul_le_mul_right _ hj
          have := q5 j x hx
          rw [List.drop_take, List.take_take, List.drop_drop, show min sz (xs.length * sz - j * sz) = sz by omega]
          exact this
    obtain ⟨olds, o1, o2, o3⟩ := holds
    have hg : acap < xs.length + ys.length := by omega
    have hrun := run_append_grow_src (P := P) w t t ty e i z ts.h hi hzero ac xs.length acap olds o2 (.slice a ys.length cap) ys.length news hsrc hg (by omega) (growslice_fits hg (by rw [hby]; exact hb))
    have hcm := grownCap_le_maxLen w (xs.length + ys.length) acap e (by simp only [maxLen]; omega)
    have hge := grownCap_ge w (xs.length + ys.length) acap e
    have hL : (olds ++ news).length = (xs.length + ys.length) * sz := by rw [List.length_append, o1, n2, Nat.add_mul]
    refine fin _ _ hrun ?_ ?_ (.inr ⟨(Below.refl _ _).drew.alloc (Nat.le_refl _) _, by intro k hk; cases hk; exact Nat.le_refl _⟩)
    · exact Kpt.of_below ((Below.refl _ _).drew.alloc (Nat.le_refl _) _)
    · refine ⟨_, _, by rw [List.length_append], by rw [List.length_append]; exact hge, hcm, by rintro _ ⟨⟩; exact ⟨rfl, hB, (Array.getElem?_eq_some_iff.1 (heap_alloc_new w.drew _)).1, hs.none (Nat.le_refl _)⟩, fun _ => ⟨w.heap.size, 0, _, rfl, hB, hs.none (Nat.le_refl _), heap_alloc_new w.drew _, ?_, fun j x hx => ?_⟩⟩
      · rw [Array.size_append, List.size_toArray, hL, size_zeroCells, hz1, ← Nat.add_mul]
        rw [Nat.zero_add]; exact Nat.mul_le_mul_right _ (by omega)
      · rw [Nat.zero_add, Array.toList_append]
        have hj : j < xs.length + ys.length := by have := (List.getElem?_eq_some_iff.1 hx).1; rwa [List.length_append] at this
        have hh : j * sz + sz ≤ (xs.length + ys.length) * sz := by rw [← Nat.succ_mul]; exact Nat.mul_le_mul_right _ hj
        rw [List.drop_append_of_le_length (by simp only [List.toList_toArray]; omega), List.take_append_of_le_length (by rw [List.length_drop]; simp only [List.toList_toArray]; omega)]
        simp only [List.toList_toArray]
        by_cases hjx : j < xs.length
        · rw [List.getElem?_append_left hjx] at hx
          rw [Oy olds news xs.length j o1 hjx]
          exact o3 j x hx
        · rw [List.getElem?_append_right (by omega)] at hx
          have := n5 _ _ hx
          rw [show j * sz = olds.length + (j - xs.length) * sz by rw [o1, ← Nat.add_mul]; congr 1; omega, List.drop_append]
          simpa [List.drop_eq_nil_of_le] using this
end
theorem Xx {b : Nat} (h : w1.heap.size ≤ b) (k : Stp w σ w1 σ1) : w.heap.size ≤ b := Nat.le_trans k.bel.size h
theorem Qu {t : TypeId} {sz by_ : Nat} {z : Value} [tz : TZ P t sz by_ z] (hs : X6 w σ) (h : ∀ b w' σ', w.heap.size ≤ b → Stp w σ w' σ' → V1 σ' w' b z.cells.toList → K (.pointer (some ⟨b, 0, none⟩)) w') : M3 P t w K :=
  Ct hs fun b w' hb hk hm => h b w' σ hb hk hm
theorem Q2Q {t : TypeId} {cs : List Value} (hs : X6 w σ) (h : ∀ b w' σ', w.heap.size ≤ b → Stp w σ w' σ' → V1 σ' w' b cs → K (.pointer (some ⟨b, 0, none⟩)) w') : box P t (.agg cs.toArray) w K :=
  Q6J hs fun b w' hb hk hm => h b w' σ hb hk (by simpa [Value.cells] using hm)
theorem Qf {t : TypeId} {sz by_ : Nat} {z : Value} [tz : TZ P t sz by_ z] {b : Nat} {cs ds : List Value} (hm : V1 σ w b cs) (hS : Stp w0 σ0 w σ) (hb : w0.heap.size ≤ b) (hl : cs.length = sz) (hd : ds.length = sz) (h1 : ∀ u ∈ ds, u.oneCell' = true)
    (h : ∀ w', Hst w0 σ0 w' σ → V1 σ w' b ds → K undef w') : V6 P t (.pointer (some ⟨b, 0, none⟩)) (.agg ds.toArray) w K :=
  sta hm hl hd (by rw [List.all_toArray]; exact List.all_eq_true.2 h1) fun w' hu hm' => h w' ⟨hu.stp hS hb hm.1⟩ hm'
structure Nxt (D : Nat → Prop) (w : World) (σ : Q6) (w' : World) (σ' : Q6) : Prop where
  kp : Kpt D w w'
  le : SLe σ σ'
  old : ∀ k, k < w.heap.size → σ' k = σ k
  sat : X6 w' σ'
theorem Nxt.of_stp {D : Nat → Prop} (h : Stp w σ w' σ') : Nxt D w σ w' σ' := ⟨Kpt.of_below h.bel, ⟨h.le⟩, h.old, h.sat⟩
theorem Nxt.mono {D D' : Nat → Prop} (h : Nxt D w σ w' σ') (hd : ∀ k, k < w.heap.size → D k → D' k) : Nxt D' w σ w' σ' := ⟨h.kp.mono hd, h.le, h.old, h.sat⟩
theorem Nxt.trans {D : Nat → Prop} (h : Nxt D w σ w' σ') (k : Nxt D w' σ' w'' σ1) : Nxt D w σ w'' σ1 :=
  ⟨h.kp.trans k.kp, h.le.more k.le, fun i hi => (k.old i (Nat.lt_of_lt_of_le hi h.kp.size)).trans (h.old i hi), k.sat⟩
theorem V1.nx {D : Nat → Prop} {b : Nat} {cs : List Value} (h : V1 σ w b cs) (k : Nxt D w σ w' σ') (hd : ¬ D b) : V1 σ' w' b cs := by
  have hl := h.lt
  obtain ⟨h1, e, h2⟩ := h
  exact ⟨(k.old b hl).trans h1, e, (k.kp.block b hl hd).trans h2⟩
theorem N1.nx {D : Nat → Prop} {r : Nat} {m : List (List UInt8 × Value)} (h : N1 σ w r m) (k : Nxt D w σ w' σ') (hd : ¬ D r) : N1 σ' w' r m :=
  ⟨(k.old r h.lt).trans h.1, (k.kp.block r h.lt hd).symm ▸ h.2⟩
section
variable {α : Type} {R : Q6 → α → List Value → Prop} {B sz : Nat} {e : TypeId} {v u : Value} {xs : List α} {x : α}
theorem W3.nx [hr : Rep R] {D : Nat → Prop} (h : W3 B e sz R σ w v xs) (k : Nxt D w σ w' σ') (hd : ∀ k, v.ownBlock = some k → ¬ D k) : W3 B e sz R σ' w' v xs := by
  have h' := h.kp k.kp hd
  obtain ⟨cells, h1, h2, h3⟩ := h'
  refine ⟨cells, h1, fun i hi => (k.old i (h.mem i hi).2.1).trans (h2 i hi), fun i x hx => hr.up k.le.le (h3 i x hx)⟩
theorem L5.nx [hr : Rep R] {D : Nat → Prop} (h : L5 B e sz R σ w v xs) (k : Nxt D w σ w' σ') (hd : ∀ k, v.ownBlock = some k → ¬ D k) : L5 B e sz R σ' w' v xs := by
  obtain ⟨a, cap, rfl, h1, h2, hsp, h3⟩ := h
  refine ⟨a, cap, rfl, h1, h2, fun b hb => ⟨(hsp b hb).1, (hsp b hb).2.1, Nat.lt_of_lt_of_le (hsp b hb).2.2.1 k.kp.size, (k.old _ (hsp b hb).2.2.1).trans (hsp b hb).2.2.2⟩, fun hc => ?_⟩
  obtain ⟨g, off, cur, rfl, q1, q2, q3, q4, q5⟩ := h3 hc
  have hl := (Array.getElem?_eq_some_iff.1 q3).1
  exact ⟨g, off, cur, rfl, q1, (k.old g hl).trans q2, (k.kp.block g hl (hd g rfl)).trans q3, q4, fun i x hx => hr.up k.le.le (q5 i x hx)⟩
theorem Jb {t ty : TypeId} {by_ : Nat} {z : Value} {cs : List Bool} {A : Value → Value → World → Prop} [ts : TS P t e] [tz : TZ P e sz by_ z] [hr : Rep R] (hS : Stp w0 σ0 w σ) (ha : W3 w0.heap.size e sz R σ w v xs) (hu : R σ x u.cells.toList) (hc : u.cells.size = sz) (hz : (z.cells.size == sz && decide (0 < sz)) = true) (hz2 : (decide (0 < sz) && decide ([u].length * sz ≤ 16777216)) = true)
    (hb : (xs.length + 1) * by_ ≤ 140737488355328) (hm : xs.length + 1 ≤ 9223372036854775807)
    (h : ∀ s v' w' σ', Nxt (fun k => v.ownBlock = some k) w σ w' σ' → Stp w0 σ0 w' σ' → W3 w0.heap.size e sz R σ' w' v' (xs ++ [x]) → (v'.ownBlock = v.ownBlock ∨ ∀ k, v'.ownBlock = some k → w.heap.size ≤ k) → A s v' w') :
    buildSlice P t 1 [(0, u)] w (fun s w => X5 P .append [t, t] ty cs [v, s] w (fun v' w => A s v' w)) := by
  refine Mw hS.sat [u] [x] rfl rfl (by simpa using hc) hz2 ⟨hu, trivial⟩ fun s w1 σ1 hk hsl => ?_
  refine app (hS.trans hk) (ha.up hk) hsl hz (by simpa using hb) (by simpa using hm) fun v' w2 hg hS2 ha2 hat => ?_
  have hkp : Kpt (fun k => v.ownBlock = some k) w w2 := (Kpt.of_below hk.bel).trans (Kpt.of_grown hg fun k hk => hk)
  refine h s v' w2 σ1 ⟨hkp, ⟨hk.le⟩, hk.old, hS2.sat⟩ hS2 ha2 ?_
  rcases hat with hat | hat
  · exact .inl hat
  · exact .inr fun k hk' => Nat.le_trans hk.bel.size (hat k hk')
theorem Nh {t ty : TypeId} {by_ : Nat} {z : Value} {cs : List Bool} {ys : List α} [ts : TS P t e] [tz : TZ P e sz by_ z] [hr : Rep R] (hS : Stp w0 σ0 w σ) (ha : W3 w0.heap.size e sz R σ w v xs) (hu : Sl sz R σ u ys) (hz : (z.cells.size == sz && decide (0 < sz)) = true)
    (hb : (xs.length + ys.length) * by_ ≤ 140737488355328) (hm : xs.length + ys.length ≤ 9223372036854775807)
    (h : ∀ v' w', Nxt (fun k => v.ownBlock = some k) w σ w' σ → Stp w0 σ0 w' σ → W3 w0.heap.size e sz R σ w' v' (xs ++ ys) → (v'.ownBlock = v.ownBlock ∨ ∀ k, v'.ownBlock = some k → w.heap.size ≤ k) → K v' w') : X5 P .append [t, t] ty cs [v, u] w K :=
  app hS ha hu hz hb hm fun v' w2 hg hS2 ha2 hat => h v' w2 ⟨Kpt.of_grown hg fun k hk => hk, SLe.refl _, fun _ _ => rfl, hS2.sat⟩ hS2 ha2 hat
end
section
variable {α : Type} {R : Q6 → α → List Value → Prop} {B sz : Nat} {e : TypeId} {v u : Value} {xs : List α} {x : α}
theorem L5.mono {B' : Nat} (h : L5 B e sz R σ w v xs) (hb : B' ≤ B) : L5 B' e sz R σ w v xs := by
  obtain ⟨a, cap, rfl, h1, h2, hsp, h3⟩ := h
  refine ⟨a, cap, rfl, h1, h2, fun b hb' => ⟨(hsp b hb').1, Nat.le_trans hb (hsp b hb').2.1, (hsp b hb').2.2⟩, fun hc => ?_⟩
  obtain ⟨g, off, cur, rfl, q1, q⟩ := h3 hc
  exact ⟨g, off, cur, rfl, Nat.le_trans hb q1, q⟩
theorem L5.own (h : L5 B e sz R σ w v xs) {k : Nat} (hv : v.ownBlock = some k) : B ≤ k := (h.mem hv).1
theorem L5.keep [hr : Rep R] (h : L5 w0.heap.size e sz R σ w v xs) (hS : Stp w0 σ0 w σ) : ∃ σ', Stp w0 σ0 w σ' ∧ Sl sz R σ' v xs ∧ SLe σ σ' ∧ (∀ k, some k ≠ v.ownBlock → σ' k = σ k) := by
  obtain ⟨a, cap, rfl, h1, h2, hsp, h3⟩ := h
  by_cases hc : cap = 0
  · have hx : xs = [] := List.eq_nil_of_length_eq_zero (by omega)
    subst hc hx
    exact ⟨σ, hS, ⟨a, 0, rfl, by simp, by simp, fun _ => rfl, fun b hb => ⟨fun _ => (hsp b hb).1, by simp⟩⟩, SLe.refl _, fun _ _ => rfl⟩
  · obtain ⟨g, off, cur, rfl, q1, q2, q3, q4, q5⟩ := h3 (by omega)
    have hle' := Q6.put_le hS.sat q2 (.cells cur e (0, 0))
    refine ⟨σ.put g (.cells cur e (0, 0)), hS.put q2 q1 q3, ⟨_, cap, rfl, h1, h2, by simp, ?_⟩, ⟨hle'⟩, ?_⟩
    · rintro _ ⟨⟩
      refine ⟨fun _ => rfl, fun i x hx => ⟨(cur.toList.drop (off + i * sz)).take sz, ⟨G2 rfl _, cur, e, (0, 0), by rw [R6]; simp [Q6.put], ?_⟩, ?_, hr.up hle' (q5 i x hx)⟩⟩
      · intro j u hu
        rw [Xa]
        rw [List.getElem?_take] at hu
        split at hu
        · rw [List.getElem?_drop] at hu; simpa using hu
        · cases hu
      · have hi : i < xs.length := (List.getElem?_eq_some_iff.1 hx).1
        have h : i * sz + sz ≤ cap * sz := by rw [← Nat.succ_mul]; exact Nat.mul_le_mul_right _ (by omega)
        rw [List.length_take, List.length_drop, Array.length_toList (xs := cur)]; omega
    · intro k hk
      have : k ≠ g := by intro e; subst e; exact hk rfl
      simp only [Q6.put, if_neg this]
theorem Q72 {t t' : TypeId} {by_ : Nat} {z : Value} {A : Value → Value → World → Prop} {ds : List Value} [ts : TS P t e] [tz : TZ P e sz by_ z] {by' : Nat} {z' : Value} [tz' : TZ P t' sz by' z'] (hS : Stp w0 σ0 w σ) (ha : L5 w0.heap.size e sz R σ w v xs) {n : Nat} (hn : n < xs.length) (hd : ds.length = sz) (hx : R σ x ds) (h1 : ∀ u ∈ ds, u.oneCell' = true)
    (h : ∀ p u w', Kpt (fun k => v.ownBlock = some k) w w' → Hst w0 σ0 w' σ → L5 w0.heap.size e sz R σ w' v (xs.set n x) → A p u w') :
    indexAddr P t v (I n) w (fun p w => V6 P t' p (.agg ds.toArray) w (fun u w => A p u w)) := by
  obtain ⟨a, cap, rfl, c1, c2, hsp, c3⟩ := ha
  obtain ⟨g, off, cur, rfl, q1, q2, q3, q4, q5⟩ := c3 (by omega)
  rw [Rf (by omega) (by omega)]
  have hh : n * sz + sz ≤ cap * sz := by rw [← Nat.succ_mul]; exact Nat.mul_le_mul_right _ (by omega)
  have hadd : (⟨g, off, none⟩ : Addr).add ((n : Int).toNat * sz) = ⟨g, off + n * sz, none⟩ := by unfold Addr.add; split <;> simp_all
  rw [hadd]
  have hst := run_storeCells_at P g (off + n * sz) e ds 0 cur w q3 (by omega) h1
  simp only [Nat.add_zero] at hst
  obtain ⟨hu1, hu2⟩ := Nj (cs := (cur.toList.take (off + n * sz) ++ ds ++ cur.toList.drop (off + n * sz + ds.length)).toArray) q3
  unfold V6
  rw [Ln (w' := w.setRow g (cur.toList.take (off + n * sz) ++ ds ++ cur.toList.drop (off + n * sz + ds.length)).toArray) (by
    simp [Instr.storeAt, Instr.sureAddr, storeVar, L9 tz', Value.cells, hd]
    simpa [hd] using hst)]
  have hk : Kpt (fun k => (Value.slice (some ⟨g, off, none⟩) xs.length cap).ownBlock = some k) w (w.setRow g (cur.toList.take (off + n * sz) ++ ds ++ cur.toList.drop (off + n * sz + ds.length)).toArray) := Kpt.of_upd hu1 rfl
  refine h _ _ _ hk ⟨hu1.stp hS q1 q2⟩ ⟨_, cap, by rw [List.length_set], by rw [List.length_set]; exact c1, c2, fun b hb => ⟨(hsp b hb).1, (hsp b hb).2.1, by rw [hu1.size]; exact (hsp b hb).2.2.1, (hsp b hb).2.2.2⟩, fun _ => ⟨g, off, _, rfl, q1, q2, hu2, ?_, fun j y hy => ?_⟩⟩
  · simp; omega
  · rw [List.toList_toArray]
    have hcl := Array.length_toList (xs := cur)
    have hjl : j < xs.length := by have := (List.getElem?_eq_some_iff.1 hy).1; simpa using this
    have hj2 : j * sz + sz ≤ cap * sz := by rw [← Nat.succ_mul]; exact Nat.mul_le_mul_right _ (by omega)
    by_cases hj : j = n
    · subst hj
      rw [List.getElem?_set_self hjl] at hy
      cases hy
      rw [List.append_assoc, List.drop_append, List.drop_eq_nil_of_le (by rw [List.length_take]; omega), List.nil_append, List.length_take, show off + j * sz - min (off + j * sz) cur.toList.length = 0 by omega, List.drop_zero, List.take_append_of_le_length (by omega), List.take_of_length_le (by omega)]
      exact hx
    · rw [List.getElem?_set_ne (by omega)] at hy
      have := q5 j y hy
      rcases Nat.lt_or_gt_of_ne hj with hlt | hgt
      · have hh3 : j * sz + sz ≤ n * sz := by rw [← Nat.succ_mul]; exact Nat.mul_le_mul_right _ hlt
        rw [List.append_assoc, List.drop_append_of_le_length (by rw [List.length_take]; omega), List.take_append_of_le_length (by rw [List.length_drop, List.length_take]; omega), List.drop_take, List.take_take]
        rwa [show min sz (off + n * sz - (off + j * sz)) = sz by omega]
      · have hh3 : n * sz + sz ≤ j * sz := by rw [← Nat.succ_mul]; exact Nat.mul_le_mul_right _ hgt
        rw [List.drop_append, List.drop_eq_nil_of_le (by rw [List.length_append, List.length_take]; omega), List.nil_append, List.length_append, List.length_take, List.drop_drop, hd]
        rwa [show off + n * sz + sz + (off + j * sz - (min (off + n * sz) cur.toList.length + sz)) = off + j * sz by omega]
end
theorem Q2x (p : Nat → Prop) : ∀ n, p n → ∃ m, p m ∧ ∀ k, p k → m ≤ k := by
  intro n
  induction n using Nat.strongRecOn with
  | _ n ih =>
    intro h
    by_cases hk : ∃ k, k < n ∧ p k
    · obtain ⟨k, h1, h2⟩ := hk; exact ih k h1 h2
    · exact ⟨n, h, fun k hp => Nat.le_of_not_lt fun hlt => hk ⟨k, hlt, hp⟩⟩
noncomputable def Ky (p : Nat → Prop) : Nat := open Classical in if h : ∃ m, p m ∧ ∀ k, p k → m ≤ k then Classical.choose h else 0
theorem Kb {p : Nat → Prop} {n : Nat} (h : p n) : p (Ky p) ∧ Ky p ≤ n := by
  have he := Q2x p n h
  unfold Ky
  rw [dif_pos he]
  exact ⟨(Classical.choose_spec he).1, (Classical.choose_spec he).2 n h⟩
theorem Dq {α : Type} {x0 : α} {A : (α → World → Prop) → α → (Nat → Value) → World → Prop} (I : Nat → α → World → Prop) (n : Nat) (h0 : I n x0 w)
    (hr : ∀ again n x d w, I n x w → (∀ n' x' w', n' < n → I n' x' w' → again x' w') → A again x d w) : lp x0 w A := by
  refine Jk (fun x w => ∃ n, I n x w) (fun x w => Ky fun n => I n x w) ⟨n, h0⟩ ?_
  rintro x d w ⟨n, hn⟩
  obtain ⟨h1, h2⟩ := Kb (p := fun n => I n x w) hn
  refine hr _ _ x d w h1 fun n' x' w' hlt h' => ⟨⟨n', h'⟩, ?_⟩
  exact Nat.lt_of_le_of_lt (Kb (p := fun n => I n x' w') h').2 hlt
section
variable {α : Type} {R : Q6 → α → List Value → Prop} {B sz : Nat} {e : TypeId} {v u : Value} {xs ys : List α} {x : α}
theorem L5.below (h : L5 B e sz R σ w v xs) (hb : Below w.heap.size w w') : L5 B e sz R σ w' v xs := h.kp (D := fun _ => False) (.of_below hb) fun _ _ => id
theorem L5.pre {a : Option Addr} {n m cap : Nat} (h : L5 B e sz R σ w (.slice a m cap) (xs ++ ys)) (hn : n = xs.length) : L5 B e sz R σ w (.slice a n cap) xs := by
  obtain ⟨a', cap', he, h1, h2, hsp, h3⟩ := h
  injection he with e1 e2 e3
  subst e1 e3 hn
  rw [List.length_append] at h1
  refine ⟨a, cap, rfl, by omega, h2, hsp, fun hc => ?_⟩
  obtain ⟨g, off, cur, q0, q1, q2, q3, q4, q5⟩ := h3 hc
  exact ⟨g, off, cur, q0, q1, q2, q3, q4, fun i x hx => q5 i x (by rw [List.getElem?_append_left (List.getElem?_eq_some_iff.1 hx).1]; exact hx)⟩
def Ht (B : Nat) (e : TypeId) (sz : Nat) (R : Q6 → α → List Value → Prop) (σ : Q6) (v : Value) (xs : List α) (x : α) (w1 w2 : World) : Prop :=
  Kpt (fun k => v.ownBlock = some k) w1 w2 ∧ (L5 B e sz R σ w1 v xs → L5 B e sz R σ w2 v xs) ∧
    ∀ a cap, v = .slice a xs.length cap → L5 B e sz R σ w1 (.slice a (xs.length + 1) cap) (xs ++ [x]) → L5 B e sz R σ w2 (.slice a (xs.length + 1) cap) (xs ++ [x])
theorem Ht.below (hb : Below w.heap.size w w') : Ht B e sz R σ v xs x w w' := ⟨.of_below hb, fun h => h.below hb, fun _ _ _ h => h.below hb⟩
theorem Ht.refl : Ht B e sz R σ v xs x w w := Ht.below (Below.refl _ _)
def VQa (N B : Nat) (e : TypeId) (sz : Nat) (R : Q6 → α → List Value → Prop) (σ : Q6) (v : Value) (xs : List α) (x : α) (v' : Value) (w : World) : Prop :=
  L5 B e sz R σ w v' (xs ++ [x]) ∧ ((∃ a cap, v = .slice a xs.length cap ∧ v' = .slice a (xs.length + 1) cap) ∨ ((∀ k, v'.ownBlock = some k → N ≤ k) ∧ ∀ k, v.ownBlock = some k → k < N))
theorem VQa.stable {N : Nat} {v' : Value} (h : VQa N B e sz R σ v xs x v' w) (ht : Ht B e sz R σ v xs x w w') : VQa N B e sz R σ v xs x v' w' := by
  obtain ⟨h1, h2⟩ := h
  refine ⟨?_, h2⟩
  rcases h2 with ⟨a, cap, h3, rfl⟩ | ⟨h2, h3⟩
  · exact ht.2.2 a cap h3 h1
  · exact h1.kp ht.1 fun k hk hk' => by have := h2 k hk; have := h3 k hk'; omega
theorem Kpt.more {D E : Nat → Prop} (h : Kpt D w w') (k : Kpt E w' w'') (hE : ∀ j, E j → w.heap.size ≤ j) : Kpt D w w'' :=
  ⟨k.os.trans h.os, k.tape.trans h.tape, k.output.trans h.output, Nat.le_trans h.size k.size, fun i hi hd => (k.block i (Nat.lt_of_lt_of_le hi h.size) fun e => by have := hE i e; omega).trans (h.block i hi hd)⟩
end
end Go.Emb

namespace Go.Proofs.YtdnfaboigajkhaaGreatDoor
open Go.Emb Go.RowKit Go.Kd Go.Hm
variable {w : World} {K : Value → World → Prop} {σ : Q6}
def R8 (n : Int) (x : Cat) : Bool := decide (0 ≤ x.frm) && decide (x.frm < x.to) && decide (x.to ≤ n) && decide (0 ≤ x.at_) && decide (x.at_ < n) && W7 x.cls
theorem Q4G {cs : List Value} {c : Cat} {q : Addr} {n : Int} (hs : X6 w σ) (hc : Qt σ c cs) (hq : J4 σ q [I n]) (h : ∀ w' σ', Stp w σ w' σ' → K (.bool (R8 n c)) w') : Q1 P F.aW [.agg cs.toArray, .pointer (some q)] w K := Ah (by
  obtain ⟨rfl, h1, h2, h3, h4⟩ := hc
  unfold Ot
  unfold R8 at h
  (repeat' (first | (with_reducible intro _) | (with_reducible refine V4 ?_) | (simp only [↓Mm, Mm, ↓Mp, Mp, Mb, reduceIte]) | (with_reducible first | refine ld aS aL aR ?_ | refine X7 aS aL aR ?_ | refine Z0 aS aL aR ?_ | refine Q7 aL ?_ | refine Z3 aR ?_ | refine Z8 aS ?_ | refine W5 aS aL ?_ | refine U4 aS aR ?_ | refine Y2 aS aR aR (Rep.one (by assumption)) ?_ | refine U2 aS aR aR aR ?_ | refine Nn _ au (L1 aS ?_) | (refine Y1 (fun hh => ?_) (fun hh => ?_) <;> (try simp only [hh, Bool.not_true, Bool.not_false, ↓Mm, Mm, ↓Mp, Mp, Mb, reduceIte])) | (refine Q4 (fun hh => ?_) (fun hh => ?_) <;> (try simp only [hh, Bool.not_true, Bool.not_false, ↓Mm, Mm, ↓Mp, Mp, Mb, reduceIte])))))
  all_goals (refine Eq.subst (motive := fun b => K b _) ?_ (h _ _ (by (repeat (first | exact Stp.refl (by (first | assumption | exact Stp.sat (by assumption) | exact Hst.sat (by assumption))) | assumption | refine Stp.trans ?_ (by first | assumption | exact Hst.stp (by assumption)))))); clear h; (try clear hA); (try clear hB); (try clear hC); first | rfl | ((try simp only [Bool.not_eq_true', Bool.not_eq_false', Bool.not_true, Bool.not_false, Bool.not_eq_true] at *); simp only [*, Mb, reduceIte]; done) | (simp [*]; done) | simp_all))
theorem Q4e {cs : List Value} {i : Ins} (hs : X6 w σ) (hg : Glb σ) (hc : I5 σ i cs) (h : ∀ w' σ', Stp w σ w' σ' → K (.bool (decide (N6 i = 0))) w') : Q1 P F.aX [.agg cs.toArray] w K := Ad (by
  obtain ⟨rfl, h1, h2, h3⟩ := hc
  have hc : I5 σ i [S i.op, I i.n, S i.s] := ⟨rfl, h1, h2, h3⟩
  unfold Ob
  (repeat' (first | (with_reducible intro _) | (with_reducible refine V4 ?_) | (simp only [↓Mm, Mm, ↓Mp, Mp, Mb, reduceIte]) | (with_reducible first | refine ld aS aL aR ?_ | refine X7 aS aL aR ?_ | refine Z0 aS aL aR ?_ | refine Q7 aL ?_ | refine Z3 aR ?_ | refine Z8 aS ?_ | refine W5 aS aL ?_ | refine U4 aS aR ?_ | refine Y2 aS aR aR (Rep.one (by assumption)) ?_ | refine U2 aS aR aR aR ?_ | refine Q3A au au au ?_ | (refine Y1 (fun hh => ?_) (fun hh => ?_) <;> (try simp only [hh, Bool.not_true, Bool.not_false, ↓Mm, Mm, ↓Mp, Mp, Mb, reduceIte])) | (refine Q4 (fun hh => ?_) (fun hh => ?_) <;> (try simp only [hh, Bool.not_true, Bool.not_false, ↓Mm, Mm, ↓Mp, Mp, Mb, reduceIte])))))
  all_goals (refine Eq.subst (motive := fun b => K b _) ?_ (h _ _ (by (repeat (first | exact Stp.refl (by (first | assumption | exact Stp.sat (by assumption) | exact Hst.sat (by assumption))) | assumption | refine Stp.trans ?_ (by first | assumption | exact Hst.stp (by assumption)))))); clear h; (try clear hA); (try clear hB); (try clear hC); first | rfl | ((try simp only [Bool.not_eq_true', Bool.not_eq_false', Bool.not_true, Bool.not_false, Bool.not_eq_true] at *); simp only [*, Mb, reduceIte]; done) | (simp [*]; done) | simp_all))
def S7 (m : Hm.Met) : Bool := M1 m.name && m.params.all right && (decide (m.result = []) || right m.result) &&
  if m.abs then decide (m.locals = 0) && decide (m.code = []) && decide (m.catches = [])
  else decide (m.code ≠ []) && decide ((m.params.length : Int) < m.locals) && m.code.all (fun i => decide (N6 i = 0)) && m.catches.all (R8 m.code.length)
theorem Q6o {cs : List Value} {m : Hm.Met} (hs : X6 w σ) (hg : Glb σ) (hm : M8 σ m cs) (h : ∀ w' σ', Stp w σ w' σ' → K (.bool (S7 m)) w') : Q1 P F.aP [.agg cs.toArray] w K := Q0P (by
  obtain ⟨pv, cv, hv, rfl, g1, g2, g3, g4, g5, g6⟩ := hm
  unfold Rq
  unfold S7 at h
  have e1 : decide ((0 : Int) < m.code.length) = decide (m.code ≠ []) := by cases m.code <;> simp
  have e2 : decide ((m.code.length : Int) = 0) = decide (m.code = []) := by cases m.code <;> simp; omega
  have e3 : decide ((m.catches.length : Int) = 0) = decide (m.catches = []) := by cases m.catches <;> simp; omega
  have hA : ∀ {w1 : World} {σ1 : Q6} {K : Value → World → Prop}, X6 w1 σ1 → Sl 1 U9 σ1 pv m.params → (∀ w' σ', Stp w1 σ1 w' σ' → K (.bool (m.params.all right)) w') → Q1 P F.a4 [pv, .func (.func F.a3) #[] #[]] w1 K :=
    fun hs hv h => Hg right hs hv (fun σ1 x w1 K _ _ hs hl hK => Z9 (Yy x (Nat.le_trans hl (by decide)) hK)) (L1 hs h)
  have hB : ∀ {w1 : World} {σ1 : Q6} {K : Value → World → Prop}, X6 w1 σ1 → Glb σ1 → Sl 3 I5 σ1 cv m.code → (∀ w' σ', Stp w1 σ1 w' σ' → K (.bool (m.code.all fun i => decide (N6 i = 0))) w') → Q1 P F.ap [cv, .func (.func F.aX) #[] #[]] w1 K :=
    fun hs hg hv h => Pn (fun i => decide (N6 i = 0)) hs hv (fun σ1 x cs w1 K le _ hs hr hl hK => Z9 (Q4e hs (hg.lift ⟨le⟩) hr fun w' σ' hk => hK w' hk.bel)) (L1 hs h)
  have hC : ∀ {w1 : World} {σ1 : Q6} {K : Value → World → Prop} {q : Addr}, X6 w1 σ1 → Sl 4 Qt σ1 hv m.catches → J4 σ1 q [I m.code.length] → (∀ w' σ', Stp w1 σ1 w' σ' → K (.bool (m.catches.all (R8 m.code.length))) w') → Q1 P F.aq [hv, .func (.func F.aW) #[] #[.pointer (some q)]] w1 K :=
    fun hs hv hq h => Pr (R8 m.code.length) hs hv (fun σ1 x cs w1 K le _ hs hr hl hK => Z9 (Q4G hs hr (hq.le le) fun w' σ' hk => hK w' hk.bel)) (L1 hs h)
  refine Z8 hs fun a w1 σ1 hk1 ha1 => ?_
  (repeat' (first | (with_reducible intro _) | (with_reducible refine V4 ?_) | (simp only [↓Mm, Mm, ↓Mp, Mp, Mb, reduceIte]) | (with_reducible first | refine ld aS aL aR ?_ | refine X7 aS aL aR ?_ | refine Z0 aS aL aR ?_ | refine Q7 aL ?_ | refine Z3 aR ?_ | refine Z8 aS ?_ | refine W5 aS aL ?_ | refine U4 aS aR ?_ | refine Y2 aS aR aR (Rep.one (by assumption)) ?_ | refine U2 aS aR aR aR ?_ | refine Q2y au (L1 aS ?_) | refine Yy _ au (L1 aS ?_) | refine hA au au ?_ | refine hB au au au ?_ | refine hC au au au ?_ | (refine Y1 (fun hh => ?_) (fun hh => ?_) <;> (try simp only [hh, Bool.not_true, Bool.not_false, ↓Mm, Mm, ↓Mp, Mp, Mb, reduceIte])) | (refine Q4 (fun hh => ?_) (fun hh => ?_) <;> (try simp only [hh, Bool.not_true, Bool.not_false, ↓Mm, Mm, ↓Mp, Mp, Mb, reduceIte])))))
  all_goals (simp only [← e1, ← e2, ← e3] at h; clear e1 e2 e3; (refine Eq.subst (motive := fun b => K b _) ?_ (h _ _ (by (repeat (first | exact Stp.refl (by (first | assumption | exact Stp.sat (by assumption) | exact Hst.sat (by assumption))) | assumption | refine Stp.trans ?_ (by first | assumption | exact Hst.stp (by assumption)))))); clear h; (try clear hA); (try clear hB); (try clear hC); first | rfl | ((try simp only [Bool.not_eq_true', Bool.not_eq_false', Bool.not_true, Bool.not_false, Bool.not_eq_true] at *); simp only [*, Mb, reduceIte]; done) | (simp [*]; done) | simp_all)))
theorem Q5z {cs : List Value} {m : Hm.Met} (hs : X6 w σ) (hg : Glb σ) (hm : M8 σ m cs) (h : ∀ w' σ', Stp w σ w' σ' → K (.bool (S7 m)) w') : Z4 P (.func (.func F.aP) #[] #[]) [.agg cs.toArray] w K := Z9 (Q6o hs hg hm h)
def Ls (f : Fld) : Bool := M1 f.name && right f.kind
def Uu (c : Cla) : Bool := (c.name :: c.super :: c.like).all W7 && !((c.super :: c.like).any fun y => decide (c.name = y)) && E4 id [] c.like &&
  !(c.iface && (!c.abs || !decide (c.super = U1) || !decide (c.fields = []) || c.methods.any (fun m => !m.abs))) &&
  !((c.abs && c.fin) || (c.methods.any (·.abs) && !c.abs)) && E4 Fld.name [] c.fields && E4 Hm.Met.name [] c.methods && c.fields.all Ls && c.methods.all S7
def L2 (c : Cla) : Int := if Xe c then 51 else if Uu c then 0 else 50
theorem Q5L {cs : List Value} {f : Fld} (hs : X6 w σ) (hf : D5 σ f cs) (h : ∀ w' σ', Stp w σ w' σ' → K (.bool (Ls f)) w') : Q1 P F.bc [.agg cs.toArray] w K := Q0s (by
  obtain ⟨rfl, h1, h2⟩ := hf
  unfold Ec
  unfold Ls at h
  (repeat' (first | (with_reducible intro _) | (with_reducible refine V4 ?_) | (simp only [↓Mm, Mm, ↓Mp, Mp, Mb, reduceIte]) | (with_reducible first | refine ld aS aL aR ?_ | refine X7 aS aL aR ?_ | refine Z0 aS aL aR ?_ | refine Q7 aL ?_ | refine Z3 aR ?_ | refine Z8 aS ?_ | refine W5 aS aL ?_ | refine U4 aS aR ?_ | refine Y2 aS aR aR (Rep.one (by assumption)) ?_ | refine U2 aS aR aR aR ?_ | refine Q2y au (L1 aS ?_) | refine Yy _ au (L1 aS ?_) | (refine Y1 (fun hh => ?_) (fun hh => ?_) <;> (try simp only [hh, Bool.not_true, Bool.not_false, ↓Mm, Mm, ↓Mp, Mp, Mb, reduceIte])) | (refine Q4 (fun hh => ?_) (fun hh => ?_) <;> (try simp only [hh, Bool.not_true, Bool.not_false, ↓Mm, Mm, ↓Mp, Mp, Mb, reduceIte])))))
  all_goals (refine Eq.subst (motive := fun b => K b _) ?_ (h _ _ (by (repeat (first | exact Stp.refl (by (first | assumption | exact Stp.sat (by assumption) | exact Hst.sat (by assumption))) | assumption | refine Stp.trans ?_ (by first | assumption | exact Hst.stp (by assumption)))))); clear h; (try clear hA); (try clear hB); (try clear hC); first | rfl | ((try simp only [Bool.not_eq_true', Bool.not_eq_false', Bool.not_true, Bool.not_false, Bool.not_eq_true] at *); simp only [*, Mb, reduceIte]; done) | (simp [*]; done) | simp_all))
set_option maxHeartbeats 1600000 in
theorem Q7C {cs : List Value} {c : Cla} (hs : X6 w σ) (hg : Glb σ) (hc : V0 σ c cs) (hl : c.like.length ≤ 1000000) (h : ∀ w' σ', Stp w σ w' σ' → K (.bool (Uu c)) w') : Q1 P F.bX [.agg cs.toArray] w K := Q1B (by
  obtain ⟨lv, fv, mv, rfl, g1, g2, g3, g4, g5⟩ := hc
  unfold Bn
  unfold Uu at h
  refine Z8 hs fun a w1 σ1 hk1 ha1 => ?_
  rw [fa]
  refine ld hk1.sat ha1 rfl ?_
  rw [fa]
  refine ld hk1.sat ha1 rfl ?_
  refine Qq (R := U9) (sz := 1) (xs := [c.name, c.super]) hk1 [_, _] rfl rfl (by simp; exact ⟨rfl, rfl⟩) rfl ⟨⟨rfl, g4⟩, ⟨rfl, g5⟩, trivial⟩ fun v w2 hk2 hacc _ => ?_
  rw [fa]
  refine ld hk2.sat ha1 rfl ?_
  refine Nh (hk1.trans hk2) hacc (g1.up hk1) rfl (by simp; omega) (by simp; omega) fun v' w3 hn3 hS3 hacc3 _ => ?_
  obtain ⟨σ3, hS3, hv3, le3, _⟩ := hacc3.keep hS3
  have hv3 : Sl 1 U9 σ3 v' (c.name :: c.super :: c.like) := hv3
  have ha3 := ha1.le le3
  have le13 : SLe σ σ3 := ⟨hS3.le⟩
  have g1 := g1.lift le13
  have g2 := g2.lift le13
  have g3 := g3.lift le13
  have hg := hg.lift le13
  refine W9 hS3.sat ?_
  refine N9 (fun v _ => Sl 1 U9 σ3 v (c.super :: c.like)) (fun _ _ _ h _ => h) (fun w hb => ?_) ?_
  · refine Hw hv3 (some (I 1)) none 1 (c.like.length + 2) (.inr rfl) (.inl ⟨rfl, by simp⟩) (by omega) (by simp) fun v' hv' => ⟨Below.refl _ _, ?_⟩
    simpa using hv'
  refine X2 (.pointer (some (a.add 0))) (fun w hb => by rw [fa]; exact X4 rfl) ?_
  refine X2 (S c.name) (fun t w hb e => by rw [e]; exact ld hb.sat ha3 rfl (X4 rfl)) ?_
  rintro t16 t17 t18 w4 hb4 f16 rfl rfl
  have hS4 := hS3.trans hb4.stp
  clear hb4 hk1 hk2 hn3
  have hs4 := hS4.sat
  refine Ps hs4 f16 ?_
  have hA : ∀ {w1 : World} {σ1 : Q6} {K : Value → World → Prop}, X6 w1 σ1 → Sl 7 M8 σ1 mv c.methods → (∀ w' σ', Stp w1 σ1 w' σ' → K (.bool (c.methods.any (·.abs))) w') → Q1 P F.a [mv, .func (.func F.bN) #[] #[]] w1 K :=
    fun hs hv h => H2 (·.abs) hs hv (fun x cs w1 K _ hs hr hl hK => Z9 (Q06 (by
      obtain ⟨pv, cv, hv, rfl, _⟩ := hr
      unfold Du
      refine Z8 hs fun a w1 σ1 hk1 ha1 => ?_
      (repeat' (first | (with_reducible intro _) | (with_reducible refine V4 ?_) | (simp only [↓Mm, Mm, ↓Mp, Mp, Mb, reduceIte]) | (with_reducible first | refine ld aS aL aR ?_ | refine X7 aS aL aR ?_ | refine Z0 aS aL aR ?_ | refine Q7 aL ?_ | refine Z3 aR ?_ | refine Z8 aS ?_ | refine W5 aS aL ?_ | refine U4 aS aR ?_ | refine Y2 aS aR aR (Rep.one (by assumption)) ?_ | refine U2 aS aR aR aR ?_ | (refine Y1 (fun hh => ?_) (fun hh => ?_) <;> (try simp only [hh, Bool.not_true, Bool.not_false, ↓Mm, Mm, ↓Mp, Mp, Mb, reduceIte])) | (refine Q4 (fun hh => ?_) (fun hh => ?_) <;> (try simp only [hh, Bool.not_true, Bool.not_false, ↓Mm, Mm, ↓Mp, Mp, Mb, reduceIte])))))
      exact hK _ hk1.bel))) (L1 hs h)
  have hB : ∀ {w1 : World} {σ1 : Q6} {K : Value → World → Prop}, X6 w1 σ1 → Sl 7 M8 σ1 mv c.methods → (∀ w' σ', Stp w1 σ1 w' σ' → K (.bool (c.methods.any fun m => !m.abs)) w') → Q1 P F.a [mv, .func (.func F.bO) #[] #[]] w1 K :=
    fun hs hv h => H2 (fun m => !m.abs) hs hv (fun x cs w1 K _ hs hr hl hK => Z9 (Q0g (by
      obtain ⟨pv, cv, hv, rfl, _⟩ := hr
      unfold Dw
      refine Z8 hs fun a w1 σ1 hk1 ha1 => ?_
      (repeat' (first | (with_reducible intro _) | (with_reducible refine V4 ?_) | (simp only [↓Mm, Mm, ↓Mp, Mp, Mb, reduceIte]) | (with_reducible first | refine ld aS aL aR ?_ | refine X7 aS aL aR ?_ | refine Z0 aS aL aR ?_ | refine Q7 aL ?_ | refine Z3 aR ?_ | refine Z8 aS ?_ | refine W5 aS aL ?_ | refine U4 aS aR ?_ | refine Y2 aS aR aR (Rep.one (by assumption)) ?_ | refine U2 aS aR aR aR ?_ | (refine Y1 (fun hh => ?_) (fun hh => ?_) <;> (try simp only [hh, Bool.not_true, Bool.not_false, ↓Mm, Mm, ↓Mp, Mp, Mb, reduceIte])) | (refine Q4 (fun hh => ?_) (fun hh => ?_) <;> (try simp only [hh, Bool.not_true, Bool.not_false, ↓Mm, Mm, ↓Mp, Mp, Mb, reduceIte])))))
      exact hK _ hk1.bel))) (L1 hs h)
  have hC : ∀ {w1 : World} {σ1 : Q6} {K : Value → World → Prop}, X6 w1 σ1 → Sl 1 U9 σ1 v' (c.name :: c.super :: c.like) → (∀ w' σ', Stp w1 σ1 w' σ' → K (.bool ((c.name :: c.super :: c.like).all W7)) w') → Q1 P F.a4 [v', .func (.func F.ag) #[] #[]] w1 K :=
    fun hs hv h => Hg W7 hs hv (fun σ1 x w1 K _ _ hs hl hK => Z9 (Nn x (Nat.le_trans hl (by decide)) hK)) (L1 hs h)
  have hD : ∀ {w1 : World} {σ1 : Q6} {K : Value → World → Prop}, X6 w1 σ1 → Sl 1 U9 σ1 lv c.like → (∀ w' σ', Stp w1 σ1 w' σ' → K (.bool (E4 id [] c.like)) w') → Q1 P F.aE [lv, .func (.func F.bP) #[] #[]] w1 K :=
    fun hs hv h => Q1u id hs hv (fun σ1 x w1 K _ hs hl hK => Z9 (Q07 (hK _ (Below.refl _ _)))) (L1 hs h)
  have hE : ∀ {w1 : World} {σ1 : Q6} {K : Value → World → Prop}, X6 w1 σ1 → Sl 3 D5 σ1 fv c.fields → (∀ w' σ', Stp w1 σ1 w' σ' → K (.bool (E4 Fld.name [] c.fields)) w') → Q1 P F.av [fv, .func (.func F.bQ) #[] #[]] w1 K :=
    fun hs hv h => Tz Fld.name hs hv (fun σ1 x cs w1 K _ hs hr hl hK => Z9 (Q0i (by
      obtain ⟨rfl, _⟩ := hr
      unfold Dy
      refine Z8 hs fun a w1 σ1 hk1 ha1 => ?_
      (repeat' (first | (with_reducible intro _) | (with_reducible refine V4 ?_) | (simp only [↓Mm, Mm, ↓Mp, Mp, Mb, reduceIte]) | (with_reducible first | refine ld aS aL aR ?_ | refine X7 aS aL aR ?_ | refine Z0 aS aL aR ?_ | refine Q7 aL ?_ | refine Z3 aR ?_ | refine Z8 aS ?_ | refine W5 aS aL ?_ | refine U4 aS aR ?_ | refine Y2 aS aR aR (Rep.one (by assumption)) ?_ | refine U2 aS aR aR aR ?_ | (refine Y1 (fun hh => ?_) (fun hh => ?_) <;> (try simp only [hh, Bool.not_true, Bool.not_false, ↓Mm, Mm, ↓Mp, Mp, Mb, reduceIte])) | (refine Q4 (fun hh => ?_) (fun hh => ?_) <;> (try simp only [hh, Bool.not_true, Bool.not_false, ↓Mm, Mm, ↓Mp, Mp, Mb, reduceIte])))))
      exact hK _ hk1.bel))) (L1 hs h)
  have hF : ∀ {w1 : World} {σ1 : Q6} {K : Value → World → Prop}, X6 w1 σ1 → Sl 7 M8 σ1 mv c.methods → (∀ w' σ', Stp w1 σ1 w' σ' → K (.bool (E4 Hm.Met.name [] c.methods)) w') → Q1 P F.am [mv, .func (.func F.bR) #[] #[]] w1 K :=
    fun hs hv h => Po Hm.Met.name hs hv (fun σ1 x cs w1 K _ hs hr hl hK => Z9 (Av (by
      obtain ⟨pv, cv, hv, rfl, _⟩ := hr
      unfold Ef
      refine Z8 hs fun a w1 σ1 hk1 ha1 => ?_
      (repeat' (first | (with_reducible intro _) | (with_reducible refine V4 ?_) | (simp only [↓Mm, Mm, ↓Mp, Mp, Mb, reduceIte]) | (with_reducible first | refine ld aS aL aR ?_ | refine X7 aS aL aR ?_ | refine Z0 aS aL aR ?_ | refine Q7 aL ?_ | refine Z3 aR ?_ | refine Z8 aS ?_ | refine W5 aS aL ?_ | refine U4 aS aR ?_ | refine Y2 aS aR aR (Rep.one (by assumption)) ?_ | refine U2 aS aR aR aR ?_ | (refine Y1 (fun hh => ?_) (fun hh => ?_) <;> (try simp only [hh, Bool.not_true, Bool.not_false, ↓Mm, Mm, ↓Mp, Mp, Mb, reduceIte])) | (refine Q4 (fun hh => ?_) (fun hh => ?_) <;> (try simp only [hh, Bool.not_true, Bool.not_false, ↓Mm, Mm, ↓Mp, Mp, Mb, reduceIte])))))
      exact hK _ hk1.bel))) (L1 hs h)
  have hG : ∀ {w1 : World} {σ1 : Q6} {K : Value → World → Prop}, X6 w1 σ1 → Sl 3 D5 σ1 fv c.fields → (∀ w' σ', Stp w1 σ1 w' σ' → K (.bool (c.fields.all Ls)) w') → Q1 P F.an [fv, .func (.func F.bc) #[] #[]] w1 K :=
    fun hs hv h => Pl Ls hs hv (fun σ1 x cs w1 K _ _ hs hr hl hK => Z9 (Q5L hs hr fun w' σ' hk => hK w' hk.bel)) (L1 hs h)
  have hH : ∀ {w1 : World} {σ1 : Q6} {K : Value → World → Prop}, X6 w1 σ1 → Glb σ1 → Sl 7 M8 σ1 mv c.methods → (∀ w' σ', Stp w1 σ1 w' σ' → K (.bool (c.methods.all S7)) w') → Q1 P F.ak [mv, .func (.func F.aP) #[] #[]] w1 K :=
    fun hs hg hv h => Gf S7 hs hv (fun σ1 x cs w1 K le _ hs hr hl hK => Q5z hs (hg.lift ⟨le⟩) hr fun w' σ' hk => hK w' hk.bel) (L1 hs h)
  have e1 : decide ((0 : Int) < c.fields.length) = !decide (c.fields = []) := by cases c.fields <;> simp
  have e2 : decide (c.super = [79, 98, 106, 101, 99, 116]) = decide (c.super = U1) := rfl
  (repeat' (first | (with_reducible intro _) | (with_reducible refine V4 ?_) | (simp only [↓Mm, Mm, ↓Mp, Mp, Mb, reduceIte]) | (with_reducible first | refine ld aS aL aR ?_ | refine X7 aS aL aR ?_ | refine Z0 aS aL aR ?_ | refine Q7 aL ?_ | refine Z3 aR ?_ | refine Z8 aS ?_ | refine W5 aS aL ?_ | refine U4 aS aR ?_ | refine Y2 aS aR aR (Rep.one (by assumption)) ?_ | refine U2 aS aR aR aR ?_ | refine hA au au ?_ | refine hB au au ?_ | refine hC au au ?_ | refine hD au au ?_ | refine hE au au ?_ | refine hF au au ?_ | refine hG au au ?_ | refine hH au au au ?_ | (refine Y1 (fun hh => ?_) (fun hh => ?_) <;> (try simp only [hh, Bool.not_true, Bool.not_false, ↓Mm, Mm, ↓Mp, Mp, Mb, reduceIte])) | (refine Q4 (fun hh => ?_) (fun hh => ?_) <;> (try simp only [hh, Bool.not_true, Bool.not_false, ↓Mm, Mm, ↓Mp, Mp, Mb, reduceIte])))))
  all_goals (simp only [← e1, ← e2] at h; clear hA hB hC hD hE hF hG hH e1 e2; (refine Eq.subst (motive := fun b => K b _) ?_ (h _ _ (by (repeat (first | exact Stp.refl (by (first | assumption | exact Stp.sat (by assumption) | exact Hst.sat (by assumption))) | assumption | refine Stp.trans ?_ (by first | assumption | exact Hst.stp (by assumption)))))); clear h; (try clear hA); (try clear hB); (try clear hC); first | rfl | ((try simp only [Bool.not_eq_true', Bool.not_eq_false', Bool.not_true, Bool.not_false, Bool.not_eq_true] at *); simp only [*, Mb, reduceIte]; done) | (simp [*]; done) | simp_all)))
theorem Q80 {cs : List Value} {c : Cla} (hs : X6 w σ) (hg : Glb σ) (hc : V0 σ c cs) (hl : c.like.length ≤ 1000000) (h : ∀ w' σ', Stp w σ w' σ' → K (I (L2 c)) w') : Q1 P F.bV [.agg cs.toArray] w K := Q1v (by
  have hc0 := hc
  obtain ⟨lv, fv, mv, rfl, g1, g2, g3, g4, g5⟩ := hc
  unfold Bl
  unfold L2 at h
  (repeat' (first | (with_reducible intro _) | (with_reducible refine V4 ?_) | (simp only [↓Mm, Mm, ↓Mp, Mp, Mb, reduceIte]) | (with_reducible first | refine ld aS aL aR ?_ | refine X7 aS aL aR ?_ | refine Z0 aS aL aR ?_ | refine Q7 aL ?_ | refine Z3 aR ?_ | refine Z8 aS ?_ | refine W5 aS aL ?_ | refine U4 aS aR ?_ | refine Y2 aS aR aR (Rep.one (by assumption)) ?_ | refine U2 aS aR aR aR ?_ | refine Q8h au au (L1 aS ?_) | refine Q7C au au au au ?_ | (refine Y1 (fun hh => ?_) (fun hh => ?_) <;> (try simp only [hh, Bool.not_true, Bool.not_false, ↓Mm, Mm, ↓Mp, Mp, Mb, reduceIte])) | (refine Q4 (fun hh => ?_) (fun hh => ?_) <;> (try simp only [hh, Bool.not_true, Bool.not_false, ↓Mm, Mm, ↓Mp, Mp, Mb, reduceIte])))))
  all_goals (refine Eq.subst (motive := fun b => K b _) ?_ (h _ _ (by (repeat (first | exact Stp.refl (by (first | assumption | exact Stp.sat (by assumption) | exact Hst.sat (by assumption))) | assumption | refine Stp.trans ?_ (by first | assumption | exact Hst.stp (by assumption)))))); clear h; (try clear hA); (try clear hB); (try clear hC); first | rfl | ((try simp only [Bool.not_eq_true', Bool.not_eq_false', Bool.not_true, Bool.not_false, Bool.not_eq_true] at *); simp only [*, Mb, reduceIte]; done) | (simp [*]; done) | simp_all))
end Go.Proofs.YtdnfaboigajkhaaGreatDoor

namespace Go.Hm
open Go.Kd
theorem V3 {l : List Cla} {n : X0} {c : Cla} (h : lk l n = some c) : c.name = n ∧ c ∈ l ∧ ∃ i, Y3 l n = some i ∧ l[i]? = some c := by
  unfold lk at h
  cases hf : Y3 l n with
  | none => rw [hf] at h; cases h
  | some i =>
    rw [hf] at h
    obtain ⟨hi, hp, _⟩ := List.findIdx?_eq_some_iff_getElem.1 hf
    have h' : l[i]? = some c := h
    rw [List.getElem?_eq_getElem hi] at h'
    cases h'
    exact ⟨by simpa using hp, List.getElem_mem hi, i, rfl, List.getElem?_eq_getElem hi⟩
theorem Xc {l : List Cla} {n : X0} {i : Nat} (h : Y3 l n = some i) : ∃ c, lk l n = some c ∧ l[i]? = some c ∧ c.name = n := by
  obtain ⟨hi, hp, _⟩ := List.findIdx?_eq_some_iff_getElem.1 h
  refine ⟨l[i], ?_, List.getElem?_eq_getElem hi, by simpa using hp⟩
  unfold lk; rw [h]; simp [hi]
theorem Np {l : List Cla} {n : X0} : hasM l n = (lk l n).isSome := by
  unfold hasM
  cases hf : Y3 l n with
  | none => simp [lk, hf]
  | some i => obtain ⟨c, h, _⟩ := Xc hf; simp [h]
theorem Q6f {l : List Cla} {c : Cla} (h : c ∈ l) : ∃ d, lk l c.name = some d := by
  cases hf : Y3 l c.name with
  | none =>
    have := List.findIdx?_eq_none_iff.1 hf c h
    simp at this
  | some i => obtain ⟨d, h, _⟩ := Xc hf; exact ⟨d, h⟩
inductive Reach (L : Xd) : X0 → X0 → Prop
  | refl {a : X0} {c : Cla} : L a = some c → Reach L a a
  | step {a u b : X0} {c : Cla} : L a = some c → u ∈ U5 c → Reach L u b → Reach L a b
theorem Reach.trans {L : Xd} {a b d : X0} (h : Reach L a b) (k : Reach L b d) : Reach L a d := by
  induction h with
  | refl _ => exact k
  | step h1 h2 _ ih => exact .step h1 h2 (ih k)
theorem Reach.right {L : Xd} {a b : X0} (h : Reach L a b) : ∃ c, L b = some c := by
  induction h with
  | refl h => exact ⟨_, h⟩
  | step _ _ _ ih => exact ih
theorem Reach.left {L : Xd} {a b : X0} (h : Reach L a b) : ∃ c, L a = some c := by
  cases h with
  | refl h => exact ⟨_, h⟩
  | step h _ _ => exact ⟨_, h⟩
theorem Reach.snoc {L : Xd} {a b u : X0} {c d : Cla} (h : Reach L a b) (hb : L b = some c) (hu : u ∈ U5 c) (hd : L u = some d) : Reach L a u :=
  h.trans (.step hb hu (.refl hd))
theorem Pc (L : Xd) : ∀ (f : Nat) (todo seen : List X0), ∃ r, Zh L f todo seen = seen ++ r := by
  intro f
  induction f with
  | zero => intro todo seen; exact ⟨[], by simp [Zh]⟩
  | succ f ih =>
    intro todo seen
    cases todo with
    | nil => exact ⟨[], by simp [Zh]⟩
    | cons n todo =>
      simp only [Zh]
      split
      · exact ih _ _
      · split
        · exact ih _ _
        · obtain ⟨r, hr⟩ := ih (todo ++ U5 ‹_›) (seen ++ [n])
          exact ⟨n :: r, by rw [hr]; simp⟩
theorem Q5S (L : Xd) : ∀ (f : Nat) (todo seen : List X0) (x : X0), x ∈ Zh L f todo seen → x ∈ seen ∨ ∃ t ∈ todo, Reach L t x := by
  intro f
  induction f with
  | zero => intro todo seen x h; exact .inl h
  | succ f ih =>
    intro todo seen x h
    cases todo with
    | nil => exact .inl h
    | cons n todo =>
      simp only [Zh] at h
      split at h
      · rcases ih _ _ _ h with h | ⟨t, ht, h⟩
        · exact .inl h
        · exact .inr ⟨t, by simp [ht], h⟩
      · rename_i c hc
        split at h
        · rcases ih _ _ _ h with h | ⟨t, ht, h⟩
          · exact .inl h
          · exact .inr ⟨t, by simp [ht], h⟩
        · rcases ih _ _ _ h with h | ⟨t, ht, h⟩
          · rcases List.mem_append.1 h with h | h
            · exact .inl h
            · simp at h; subst h; exact .inr ⟨x, by simp, .refl hc⟩
          · rcases List.mem_append.1 ht with ht | ht
            · exact .inr ⟨t, by simp [ht], h⟩
            · exact .inr ⟨n, by simp, .step hc ht h⟩
theorem Q6v (l : List Cla) (seen seen' : List X0) (h : ∀ x ∈ seen, x ∈ seen') : weigh l seen' ≤ weigh l seen := by
  unfold weigh
  induction l with
  | nil => simp
  | cons c r ih =>
    simp only [List.map_cons, List.sum_cons]
    by_cases h1 : c.name ∈ seen
    · rw [if_pos h1, if_pos (h _ h1)]; omega
    · rw [if_neg h1]; split <;> omega
theorem Sk (l : List Cla) (seen : List X0) (c : Cla) (hc : c ∈ l) (hn : c.name ∉ seen) : weigh l (seen ++ [c.name]) + (U5 c).length ≤ weigh l seen := by
  unfold weigh
  induction l with
  | nil => simp at hc
  | cons d r ih =>
    simp only [List.map_cons, List.sum_cons]
    have hle : weigh r (seen ++ [c.name]) ≤ weigh r seen := Q6v _ _ _ (by simp; intro x hx; exact .inl hx)
    unfold weigh at hle
    rcases List.mem_cons.1 hc with rfl | hc
    · rw [if_pos (by simp), if_neg hn]; omega
    · have := ih hc
      by_cases h1 : d.name ∈ seen
      · rw [if_pos (by simp [h1]), if_pos h1]; omega
      · rw [if_neg h1]; split <;> omega
theorem Q6B (l : List Cla) : ∀ (f : Nat) (todo seen : List X0), todo.length + weigh l seen ≤ f →
    (∀ x ∈ seen, ∀ c, lk l x = some c → ∀ u ∈ U5 c, ∀ d, lk l u = some d → u ∈ seen ∨ u ∈ todo) →
    (∀ t ∈ todo, ∀ d, lk l t = some d → t ∈ Zh (lk l) f todo seen) ∧ ∀ x ∈ Zh (lk l) f todo seen, ∀ c, lk l x = some c → ∀ u ∈ U5 c, ∀ d, lk l u = some d → u ∈ Zh (lk l) f todo seen := by
  intro f
  induction f with
  | zero =>
    intro todo seen hf hs
    have : todo = [] := List.eq_nil_of_length_eq_zero (by omega)
    subst this
    refine ⟨by simp, fun x hx c hc u hu d hd => ?_⟩
    rcases hs x hx c hc u hu d hd with h | h
    · exact h
    · simp at h
  | succ f ih =>
    intro todo seen hf hs
    cases todo with
    | nil =>
      refine ⟨by simp, fun x hx c hc u hu d hd => ?_⟩
      rcases hs x hx c hc u hu d hd with h | h
      · exact h
      · simp at h
    | cons n todo =>
      simp only [List.length_cons] at hf
      simp only [Zh]
      split
      · rename_i hn
        obtain ⟨h1, h2⟩ := ih todo seen (by omega) (fun x hx c hc u hu d hd => by
          rcases hs x hx c hc u hu d hd with h | h
          · exact .inl h
          · rcases List.mem_cons.1 h with rfl | h
            · rw [hn] at hd; cases hd
            · exact .inr h)
        refine ⟨fun t ht d hd => ?_, h2⟩
        rcases List.mem_cons.1 ht with rfl | ht
        · rw [hn] at hd; cases hd
        · exact h1 t ht d hd
      · rename_i c hc
        split
        · rename_i hin
          obtain ⟨r, hr⟩ := Pc (lk l) f todo seen
          obtain ⟨h1, h2⟩ := ih todo seen (by omega) (fun x hx c hc u hu d hd => by
            rcases hs x hx c hc u hu d hd with h | h
            · exact .inl h
            · rcases List.mem_cons.1 h with rfl | h
              · exact .inl hin
              · exact .inr h)
          refine ⟨fun t ht d hd => ?_, h2⟩
          rcases List.mem_cons.1 ht with rfl | ht
          · rw [hr]; simp [hin]
          · exact h1 t ht d hd
        · rename_i hin
          obtain ⟨e, hm, _⟩ := V3 hc
          have hw := Sk l seen c hm (by rw [e]; exact hin)
          rw [e] at hw
          obtain ⟨h1, h2⟩ := ih (todo ++ U5 c) (seen ++ [n]) (by rw [List.length_append]; omega) (fun x hx c' hc' u hu d hd => by
            rcases List.mem_append.1 hx with hx | hx
            · rcases hs x hx c' hc' u hu d hd with h | h
              · exact .inl (by simp [h])
              · rcases List.mem_cons.1 h with rfl | h
                · exact .inl (by simp)
                · exact .inr (by simp [h])
            · simp at hx; subst hx
              rw [hc] at hc'; cases hc'
              exact .inr (by simp [hu]))
          refine ⟨fun t ht d hd => ?_, h2⟩
          rcases List.mem_cons.1 ht with rfl | ht
          · obtain ⟨r, hr⟩ := Pc (lk l) f (todo ++ U5 c) (seen ++ [t])
            rw [hr]; simp
          · exact h1 t (by simp [ht]) d hd
theorem Zc {l : List Cla} {a b : X0} : b ∈ visits l a ↔ Reach (lk l) a b := by
  obtain ⟨h1, h2⟩ := Q6B l (1 + weigh l []) [a] [] (by simp) (by simp)
  constructor
  · intro h
    rcases Q5S _ _ _ _ _ h with h | ⟨t, ht, h'⟩
    · simp at h
    · simp at ht; subst ht; exact h'
  · intro h
    have key : ∀ {x y : X0}, Reach (lk l) x y → x ∈ visits l a → y ∈ visits l a := by
      intro x y h
      induction h with
      | refl _ => exact id
      | step hc hu hr ih =>
        intro hx
        obtain ⟨d, hd⟩ := hr.left
        exact ih (h2 _ hx _ hc _ hu _ hd)
    obtain ⟨d, hd⟩ := h.left
    exact key h (h1 a (by simp) d hd)
theorem Q6n (l : List Cla) : ∀ (f : Nat) (todo seen : List X0), todo.length + weigh l seen ≤ f → ∀ k, Zh (lk l) (f + k) todo seen = Zh (lk l) f todo seen := by
  intro f
  induction f with
  | zero =>
    intro todo seen hf k
    have : todo = [] := List.eq_nil_of_length_eq_zero (by omega)
    subst this
    cases k <;> rfl
  | succ f ih =>
    intro todo seen hf k
    cases todo with
    | nil => rw [Nat.succ_add]; rfl
    | cons n todo =>
      simp only [List.length_cons] at hf
      rw [Nat.succ_add]
      simp only [Zh]
      split
      · exact ih _ _ (by omega) k
      · rename_i c hc
        split
        · exact ih _ _ (by omega) k
        · rename_i hin
          obtain ⟨e, hm, _⟩ := V3 hc
          have hw := Sk l seen c hm (by rw [e]; exact hin)
          rw [e] at hw
          exact ih _ _ (by rw [List.length_append]; omega) k
end Go.Hm

namespace Go.Hm
open Go.Kd
def Yf (L : Xd) (a b : X0) : Prop := ∃ c, L a = some c ∧ ∃ u ∈ U5 c, Reach L u b
def Qw (l : List Cla) : Prop := ∀ a, ¬ Yf (lk l) a a
theorem Yf.reach {L : Xd} {a b : X0} (h : Yf L a b) : Reach L a b := by
  obtain ⟨c, hc, u, hu, hr⟩ := h; exact .step hc hu hr
theorem Yf.trans {L : Xd} {a b d : X0} (h : Yf L a b) (k : Reach L b d) : Yf L a d := by
  obtain ⟨c, hc, u, hu, hr⟩ := h; exact ⟨c, hc, u, hu, hr.trans k⟩
theorem Reach.over {L : Xd} {a b d : X0} (h : Reach L a b) (k : Yf L b d) : Yf L a d := by
  cases h with
  | refl _ => exact k
  | step h1 h2 h3 => exact ⟨_, h1, _, h2, h3.trans k.reach⟩
theorem Iu {L : Xd} {a b : X0} : Reach L a b ↔ (a = b ∧ (∃ c, L a = some c)) ∨ Yf L a b := by
  constructor
  · intro h
    cases h with
    | refl h => exact .inl ⟨rfl, _, h⟩
    | step h1 h2 h3 => exact .inr ⟨_, h1, _, h2, h3⟩
  · rintro (⟨rfl, c, h⟩ | h)
    · exact .refl h
    · exact h.reach
def P5 (l : List Cla) (a b : X0) : Bool := match lk l a with
  | none => false
  | some c => (U5 c).any fun u => (visits l u).contains b
theorem Yo {l : List Cla} {a b : X0} : P5 l a b = true ↔ Yf (lk l) a b := by
  unfold P5 Yf
  cases h : lk l a with
  | none => simp
  | some c =>
    simp only [List.any_eq_true, List.contains_iff_mem, Zc]
    constructor
    · rintro ⟨u, hu, hr⟩; exact ⟨c, rfl, u, hu, hr⟩
    · rintro ⟨_, ⟨⟩, u, hu, hr⟩; exact ⟨u, hu, hr⟩
def H9 (l : List Cla) (n : X0) : Nat := l.countP fun m => P5 l n m.name
theorem Ra (l : List Cla) (n : X0) : H9 l n ≤ l.length := List.countP_le_length
theorem Q17 {α : Type} {p q : α → Bool} : ∀ {l : List α}, (∀ x ∈ l, p x = true → q x = true) → (∃ x ∈ l, q x = true ∧ p x = false) → l.countP p < l.countP q := by
  intro l
  induction l with
  | nil => rintro _ ⟨x, hx, _⟩; simp at hx
  | cons a r ih =>
    rintro h ⟨x, hx, hq, hp⟩
    have hle : r.countP p ≤ r.countP q := List.countP_mono_left fun x hx => h x (by simp [hx])
    rw [List.countP_cons, List.countP_cons]
    rcases List.mem_cons.1 hx with rfl | hx
    · rw [hq, hp]; simp; omega
    · have := ih (fun x hx => h x (by simp [hx])) ⟨x, hx, hq, hp⟩
      have ha := h a (by simp)
      cases hpa : p a
      · simp; split <;> omega
      · rw [ha hpa]; simp; omega
theorem Q7I {l : List Cla} (ha : Qw l) {a b : X0} (h : Yf (lk l) a b) : H9 l b < H9 l a := by
  unfold H9
  refine Q17 (fun x _ hx => ?_) ?_
  · rw [Yo] at *
    exact h.trans hx.reach
  · obtain ⟨d, hd⟩ := (Reach.right (h.reach))
    obtain ⟨e, hm, _⟩ := V3 hd
    refine ⟨d, hm, ?_, ?_⟩
    · rw [Yo, e]; exact h
    · cases hb : P5 l b d.name with
      | false => rfl
      | true => rw [Yo, e] at hb; exact absurd hb (ha b)
theorem F3 {l : List Cla} (ha : Qw l) {a u : X0} {c d : Cla} (hc : lk l a = some c) (hu : u ∈ U5 c) (hd : lk l u = some d) : H9 l u < H9 l a :=
  Q7I ha ⟨c, hc, u, hu, .refl hd⟩
theorem Q3F {l : List Cla} (ha : Qw l) : ∀ (f g : Nat) (n : X0), H9 l n < f → H9 l n < g → R9 (lk l) f n = R9 (lk l) g n := by
  intro f
  induction f with
  | zero => intro g n h; omega
  | succ f ih =>
    intro g n hf hg
    obtain ⟨g, rfl⟩ : ∃ m, g = m + 1 := ⟨g - 1, by omega⟩
    simp only [R9]
    cases hc : lk l n with
    | none => rfl
    | some c =>
      simp only
      congr 1
      cases hd : lk l c.super with
      | none => cases f <;> cases g <;> simp [R9, hd]
      | some d =>
        have := F3 ha hc (by simp [U5]) hd
        exact ih g c.super (by omega) (by omega)
theorem C9 {l : List Cla} (ha : Qw l) (n : X0) : chain l n = match lk l n with | none => [] | some c => c :: chain l c.super := by
  have := Ra l n
  unfold chain
  rw [R9]
  cases hc : lk l n with
  | none => rfl
  | some c =>
    simp only
    congr 1
    cases hd : lk l c.super with
    | none => cases l.length <;> simp [R9, hd]
    | some d =>
      have := F3 ha hc (by simp [U5]) hd
      exact Q3F ha _ _ _ (by omega) (by omega)
theorem I3 {l : List Cla} {n : X0} (h : lk l n = none) : chain l n = [] := by simp [chain, R9, h]
theorem Lk {α β : Type} {f g : α → Option β} : ∀ {l : List α}, (∀ x ∈ l, f x = g x) → l.findSome? f = l.findSome? g
  | [], _ => rfl
  | a :: r, h => by
    rw [List.findSome?_cons, List.findSome?_cons, h a (by simp), Lk fun x hx => h x (by simp [hx])]
theorem Q3j {l : List Cla} (ha : Qw l) (n : X0) : ∀ (f g : Nat) (c : Cla), lk l c.name = some c → H9 l c.name < f → H9 l c.name < g → Oq (lk l) f c n = Oq (lk l) g c n := by
  intro f
  induction f with
  | zero => intro g c _ h; omega
  | succ f ih =>
    intro g c hc hf hg
    obtain ⟨g, rfl⟩ : ∃ m, g = m + 1 := ⟨g - 1, by omega⟩
    simp only [Oq]
    refine Lk fun u hu => ?_
    cases hd : lk l u with
    | none => rfl
    | some d =>
      simp only
      cases H3 d n with
      | some m => rfl
      | none =>
        simp only
        have := F3 ha hc (by simp [U5, hu]) hd
        have e := (V3 hd).1
        exact ih g d (by rw [e]; exact hd) (by rw [e]; omega) (by rw [e]; omega)
def V5 (l : List Cla) (c : Cla) (n : X0) : Option (X0 × Hm.Met) := Oq (lk l) (l.length + 1) c n
theorem Q1m {l : List Cla} (ha : Qw l) {c : Cla} (hc : lk l c.name = some c) (n : X0) : V5 l c n = c.like.findSome? fun u => match lk l u with
    | none => none
    | some d => match H3 d n with
      | some m => some (u, m)
      | none => V5 l d n := by
  have := Ra l c.name
  unfold V5
  rw [Oq]
  refine Lk fun u hu => ?_
  cases hd : lk l u with
  | none => rfl
  | some d =>
    simp only
    cases H3 d n with
    | some m => rfl
    | none =>
      have := F3 ha hc (by simp [U5, hu]) hd
      have e := (V3 hd).1
      exact Q3j ha n _ _ d (by rw [e]; exact hd) (by rw [e]; omega) (by rw [e]; omega)
theorem Q34 {l : List Cla} (ha : Qw l) : ∀ (f g : Nat) (n : X0), H9 l n < f → H9 l n < g → B2 (lk l) f n = B2 (lk l) g n := by
  intro f
  induction f with
  | zero => intro g n h; omega
  | succ f ih =>
    intro g n hf hg
    obtain ⟨g, rfl⟩ : ∃ m, g = m + 1 := ⟨g - 1, by omega⟩
    simp only [B2]
    cases hc : lk l n with
    | none => rfl
    | some c =>
      simp only
      have : B2 (lk l) f c.super = B2 (lk l) g c.super := by
        cases hd : lk l c.super with
        | none => cases f <;> cases g <;> simp [B2, hd]
        | some d =>
          have := F3 ha hc (by simp [U5]) hd
          exact ih g c.super (by omega) (by omega)
      rw [this]
theorem Q5E {l : List Cla} (ha : Qw l) (n : X0) : printM l n = match lk l n with
    | none => []
    | some c => if n = U1 then [] else n ++ [40] ++ printM l c.super ++ [41] ++ c.fields.flatMap F4 ++ [46] := by
  have := Ra l n
  unfold printM
  rw [B2]
  cases hc : lk l n with
  | none => rfl
  | some c =>
    simp only
    have : B2 (lk l) l.length c.super = B2 (lk l) (l.length + 1) c.super := by
      cases hd : lk l c.super with
      | none => cases l.length <;> simp [B2, hd]
      | some d =>
        have := F3 ha hc (by simp [U5]) hd
        exact Q34 ha _ _ _ (by omega) (by omega)
    rw [this]
theorem Te {l : List Cla} {n : X0} (h : lk l n = none) : printM l n = [] := by simp [printM, B2, h]
def B8 (l : List Cla) : Prop := (l.map (·.name)).Nodup
theorem B8.lk {l : List Cla} (h : B8 l) {c : Cla} (hc : c ∈ l) : Go.Hm.lk l c.name = some c := by
  obtain ⟨d, hd⟩ := Q6f hc
  obtain ⟨e, hm, i, hi, hd'⟩ := V3 hd
  obtain ⟨j, hj, rfl⟩ := List.getElem_of_mem hc
  obtain ⟨hil, he⟩ := List.getElem?_eq_some_iff.1 hd'
  have : i = j := by
    have h1 : (l.map (·.name))[i]'(by simpa using hil) = (l.map (·.name))[j]'(by simpa using hj) := by simp [he, e]
    exact (List.getElem_inj h).1 h1
  subst this
  rw [hd, ← he]
theorem B8.find {l : List Cla} (h : B8 l) {i : Nat} {c : Cla} (hc : l[i]? = some c) : Y3 l c.name = some i := by
  obtain ⟨hi, rfl⟩ := List.getElem?_eq_some_iff.1 hc
  have := h.lk (List.getElem_mem hi)
  obtain ⟨e, hm, j, hj, hd⟩ := V3 this
  obtain ⟨hjl, he⟩ := List.getElem?_eq_some_iff.1 hd
  have : j = i := by
    have h1 : (l.map (·.name))[j]'(by simpa using hjl) = (l.map (·.name))[i]'(by simpa using hi) := by simp [he]
    exact (List.getElem_inj h).1 h1
  rw [hj, this]
end Go.Hm

namespace Go.Emb
open Go.RowKit Go.Hm
variable {P : Program} {w w0 w1 w' w'' : World} {K : Value → World → Prop} {σ σ0 σ1 σ2 σ' : Q6}
theorem Stp.join (h1 : Stp w σ w' σ1) (h2 : Stp w σ w' σ2) : ∃ σ3, Stp w σ w' σ3 ∧ SLe σ1 σ3 ∧ SLe σ2 σ3 := by
  have l1 : ∀ b o, σ1 b = some o → (fun b => (σ1 b).or (σ2 b)) b = some o := fun b o e => by simp [e]
  have l2 : ∀ b o, σ2 b = some o → (fun b => (σ1 b).or (σ2 b)) b = some o := by
    intro b o e
    cases hb : σ1 b with
    | none => simp [hb, e]
    | some p =>
      have a1 := h1.sat b p hb
      have a2 := h2.sat b o e
      rw [a1] at a2; cases a2; simp only [hb, Option.some_or]
  refine ⟨fun b => (σ1 b).or (σ2 b), ⟨h1.bel, ?_, fun b o e => l1 b o (h1.le b o e), ?_⟩, ⟨l1⟩, ⟨l2⟩⟩
  · intro b o e
    cases hb : σ1 b with
    | none => simp only [hb, Option.none_or] at e; exact h2.sat b o e
    | some p => simp only [hb, Option.some_or] at e; cases e; exact h1.sat b _ hb
  · intro b hb
    simp only [h1.old b hb, h2.old b hb]; cases σ b <;> rfl
theorem Dn {Φ : Q6 → Value → Prop} {A rest : (Value → World → Prop) → Prop} (h : A (fun v w' => ∃ σ', Stp w σ w' σ' ∧ Φ σ' v)) (hr : rest (fun v w' => ∃ σ', Stp w σ w' σ' ∧ Φ σ' v)) : Q8 (fun w w' => Below w.heap.size w w') A rest :=
  N9 _ (fun _ _ _ ⟨σ', h1, h2⟩ hb => ⟨σ', h1.trans (Stp.of_below h1.sat hb), h2⟩) h hr
theorem Tv {Φ : Q6 → Value → Prop} {v : Value} (h0 : Hst w σ w1 σ) (h : Stp w1 σ w' σ') (hv : Φ σ' v) : dk (fun w w' => Below w.heap.size w w') (fun v w' => ∃ σ', Stp w σ w' σ' ∧ Φ σ' v) w1 v w' :=
  ⟨h.bel, σ', h0.stp.trans h, hv⟩
theorem M8.mk {m : Hm.Met} {pv cv hv : Value} (h1 : Sl 1 U9 σ pv m.params) (h2 : Sl 3 I5 σ cv m.code) (h3 : Sl 4 Qt σ hv m.catches) (h4 : m.name.length ≤ V9) (h5 : m.result.length ≤ V9) (h6 : Gp m.locals) : M8 σ m [S m.name, pv, S m.result, .bool m.abs, I m.locals, cv, hv] :=
  ⟨pv, cv, hv, rfl, h1, h2, h3, h4, h5, h6⟩
theorem V0.mk {c : Cla} {lv fv mv : Value} (h1 : Sl 1 U9 σ lv c.like) (h2 : Sl 3 D5 σ fv c.fields) (h3 : Sl 7 M8 σ mv c.methods) (h4 : c.name.length ≤ V9) (h5 : c.super.length ≤ V9) : V0 σ c [S c.name, S c.super, lv, .bool c.iface, .bool c.abs, .bool c.fin, fv, mv] :=
  ⟨lv, fv, mv, rfl, h1, h2, h3, h4, h5⟩
end Go.Emb
namespace Go.Hm
def SmM (m : Hm.Met) : Prop := m.params.length ≤ 1000000 ∧ m.code.length ≤ 1000000 ∧ m.catches.length ≤ 1000000
def K2 (c : Cla) : Prop := c.like.length ≤ 1000000 ∧ c.fields.length ≤ 1000000 ∧ c.methods.length ≤ 1000000 ∧ ∀ m ∈ c.methods, SmM m
end Go.Hm
namespace Go.Proofs.YtdnfaboigajkhaaGreatDoor
open Go.Emb Go.RowKit Go.Kd Go.Hm
variable {w : World} {K : Value → World → Prop} {σ : Q6}
theorem Q19 {m : Hm.Met} {cs : List Value} (hs : X6 w σ) (hm : M8 σ m cs) (hsm : SmM m)
    (h : ∀ pv cv hv w' σ', Stp w σ w' σ' → M8 σ' m [S m.name, pv, S m.result, .bool m.abs, I m.locals, cv, hv] → K (.agg [S m.name, pv, S m.result, .bool m.abs, I m.locals, cv, hv].toArray) w') : Q1 P F.bv [.agg cs.toArray] w K := Q1D (by
  obtain ⟨pv, cv, hv, rfl, g1, g2, g3, g4, g5, g6⟩ := hm
  obtain ⟨s1, s2, s3⟩ := hsm
  unfold Bm
  refine Q2Q hs fun b w1 σ1 hb hk1 hm1 => ?_
  refine Qu hk1.sat fun b2 w2 σ2 hb2 hk2 hm2 => ?_
  have hlt := hm1.lt
  replace hm1 := hm1.step hk2
  have hs2 := hk2.sat
  have g1 := (g1.up hk1).up hk2
  have g2 := (g2.up hk1).up hk2
  have g3 := (g3.up hk1).up hk2
  have L : ∀ {w' : World} (i : Nat) (v : Value), [S m.name, pv, S m.result, .bool m.abs, I m.locals, cv, hv][i]? = some v → Hst w2 σ2 w' σ2 → w'.cell? ((⟨b, 0, none⟩ : Addr).add i) = some v := fun i v hv hh => (hm1.step hh.stp).cell hv
  refine W9 hs2 ?_
  refine X2 (.pointer (some ((⟨b, 0, none⟩ : Addr).add 1))) (fun w hb => by rw [fa]; exact X4 rfl) ?_
  refine X2 (.pointer (some ((⟨b, 0, none⟩ : Addr).add 5))) (fun w hb => by rw [fa]; exact X4 rfl) ?_
  refine X2 (.pointer (some ((⟨b, 0, none⟩ : Addr).add 6))) (fun w hb => by rw [fa]; exact X4 rfl) ?_
  refine X2 pv (fun t w hb e => by rw [e]; exact T8 (L 1 pv rfl hb) (X4 rfl)) ?_
  refine Dn (Φ := fun σ' v => Sl 1 U9 σ' v m.params) (fun t w hb e => by rw [e]; exact Ui hb.sat g1 s1 fun v' w' σ' hk hv => Tv hb hk hv) ?_
  refine X2 cv (fun t w hb e => by rw [e]; exact T8 (L 5 cv rfl hb) (X4 rfl)) ?_
  refine Dn (Φ := fun σ' v => Sl 3 I5 σ' v m.code) (fun t w hb e => by rw [e]; exact Mh hb.sat g2 s2 fun v' w' σ' hk hv => Tv hb hk hv) ?_
  refine X2 hv (fun t w hb e => by rw [e]; exact T8 (L 6 hv rfl hb) (X4 rfl)) ?_
  refine X2 (.pointer (some ((⟨b, 0, none⟩ : Addr).add 1))) (fun w hb => by rw [fa]; exact X4 rfl) ?_
  refine Dn (Φ := fun σ' v => Sl 4 Qt σ' v m.catches) (fun t w hb e => by rw [e]; exact Lt hb.sat g3 s3 fun v' w' σ' hk hv => Tv hb hk hv) ?_
  rintro t1 t2 t3 t4 t5 t6 t8 t9 t10 t11 w3 hb3 e1 e2 e3 e4 ⟨σ5, k5, f5⟩ e6 ⟨σ8, k8, f8⟩ e9 e10 ⟨σ11, k11, f11⟩
  subst e10
  obtain ⟨σa, ka, la1, la2⟩ := k5.join k8
  obtain ⟨σ3, k3, l1, l2⟩ := ka.join k11
  have f5 := (f5.lift la1).lift l1
  have f8 := (f8.lift la2).lift l1
  have f11 := f11.lift l2
  have hm1 := hm1.step k3
  have hm2 := hm2.step k3
  have hne : b2 ≠ b := by omega
  have hS := (hk1.trans hk2).trans k3
  refine Gb hm1 (by simp) (Jo f5) (Qs f5) fun w4 u4 hm1 => ?_
  rw [fa]
  have hS := u4.stp hS hb hm1.1
  have hm2 := hm2.upd u4 hne
  refine Gb hm1 (by simp) (Jo f8) (Qs f8) fun w5 u5 hm1 => ?_
  rw [fa]
  have hS := u5.stp hS hb hm1.1
  have hm2 := hm2.upd u5 hne
  refine Gb hm1 (by simp) (Jo f11) (Qs f11) fun w6 u6 hm1 => ?_
  have hS := u6.stp hS hb hm1.1
  have hm2 := hm2.upd u6 hne
  refine Q8w hm1 rfl ?_
  have hr := M8.mk f5 f8 f11 g4 g5 g6
  have hb2' := Xx hb2 hk1
  refine sta hm2 rfl rfl (by rw [List.all_toArray]; exact List.all_eq_true.2 (Rep.one hr)) fun w7 u7 hm2 => ?_
  have hS := u7.stp hS hb2' hm2.1
  refine M9 hm2 rfl ?_
  exact h t5 t8 t11 w7 σ3 hS hr)
theorem Q6V {c : Cla} {cs : List Value} (hs : X6 w σ) (hc : V0 σ c cs) (hsm : K2 c)
    (h : ∀ lv fv mv w' σ', Stp w σ w' σ' → V0 σ' c [S c.name, S c.super, lv, .bool c.iface, .bool c.abs, .bool c.fin, fv, mv] → K (.agg [S c.name, S c.super, lv, .bool c.iface, .bool c.abs, .bool c.fin, fv, mv].toArray) w') : Q1 P F.bW [.agg cs.toArray] w K := Q1t (by
  obtain ⟨lv, fv, mv, rfl, g1, g2, g3, g4, g5⟩ := hc
  obtain ⟨s1, s2, s3, s4⟩ := hsm
  unfold Bj
  refine Q2Q hs fun b w1 σ1 hb hk1 hm1 => ?_
  refine Qu hk1.sat fun b2 w2 σ2 hb2 hk2 hm2 => ?_
  have hlt := hm1.lt
  replace hm1 := hm1.step hk2
  have hs2 := hk2.sat
  have g1 := (g1.up hk1).up hk2
  have g2 := (g2.up hk1).up hk2
  have g3 := (g3.up hk1).up hk2
  have L : ∀ {w' : World} (i : Nat) (v : Value), [S c.name, S c.super, lv, .bool c.iface, .bool c.abs, .bool c.fin, fv, mv][i]? = some v → Hst w2 σ2 w' σ2 → w'.cell? ((⟨b, 0, none⟩ : Addr).add i) = some v := fun i v hv hh => (hm1.step hh.stp).cell hv
  refine W9 hs2 ?_
  refine X2 (.pointer (some ((⟨b, 0, none⟩ : Addr).add 2))) (fun w hb => by rw [fa]; exact X4 rfl) ?_
  refine X2 (.pointer (some ((⟨b, 0, none⟩ : Addr).add 6))) (fun w hb => by rw [fa]; exact X4 rfl) ?_
  refine X2 lv (fun t w hb e => by rw [e]; exact T8 (L 2 lv rfl hb) (X4 rfl)) ?_
  refine Dn (Φ := fun σ' v => Sl 1 U9 σ' v c.like) (fun t w hb e => by rw [e]; exact Ui hb.sat g1 s1 fun v' w' σ' hk hv => Tv hb hk hv) ?_
  refine X2 fv (fun t w hb e => by rw [e]; exact T8 (L 6 fv rfl hb) (X4 rfl)) ?_
  refine X2 (.pointer (some ((⟨b, 0, none⟩ : Addr).add 2))) (fun w hb => by rw [fa]; exact X4 rfl) ?_
  refine Dn (Φ := fun σ' v => Sl 3 D5 σ' v c.fields) (fun t w hb e => by rw [e]; exact Md hb.sat g2 s2 fun v' w' σ' hk hv => Tv hb hk hv) ?_
  rintro t6 t9 t7 t8 t10 t12 t11 w3 hb3 e6 e9 e7 ⟨σ8, k8, f8⟩ e10 e12 ⟨σ11, k11, f11⟩
  subst e12
  obtain ⟨σ3, k3, l1, l2⟩ := k8.join k11
  have f8 := f8.lift l1
  have f11 := f11.lift l2
  have g3 := g3.up k3
  have hm1 := hm1.step k3
  have hm2 := hm2.step k3
  have hne : b2 ≠ b := by omega
  have hS := (hk1.trans hk2).trans k3
  refine Gb hm1 (by simp) (Jo f8) (Qs f8) fun w4 u4 hm1 => ?_
  rw [fa]
  have hS := u4.stp hS hb hm1.1
  have hm2 := hm2.upd u4 hne
  refine Gb hm1 (by simp) (Jo f11) (Qs f11) fun w5 u5 hm1 => ?_
  rw [fa]
  have hS := u5.stp hS hb hm1.1
  have hm2 := hm2.upd u5 hne
  refine ldm hm1 rfl ?_
  refine Q7 g3 ?_
  refine O4 c.methods.length (fun n a w' => ∃ σ', Stp w σ w' σ' ∧ SLe σ3 σ' ∧ W3 w.heap.size T.c 7 M8 σ' w' a (c.methods.take n) ∧ V1 σ' w' b [S c.name, S c.super, t8, .bool c.iface, .bool c.abs, .bool c.fin, t11, mv] ∧ V1 σ' w' b2 [S [], S [], .slice none 0 0, .bool false, .bool false, .bool false, .slice none 0 0, .slice none 0 0] ∧ ∀ k, a.ownBlock = some k → k ≠ b ∧ k ≠ b2)
    ⟨σ3, hS, SLe.refl _, W3.nil, hm1, hm2, fun k hk => by cases hk⟩ fun n a w6 d hn hi => ?_
  obtain ⟨σ6, hS6, le6, ha, hm1, hm2, hne6⟩ := hi
  refine U0 ?_
  refine Q4 (fun hh => ?_) (fun hh => ?_)
  · have hn' : n < c.methods.length := by simpa using hh
    have hmax : c.methods.length ≤ 9223372036854775807 := by omega
    refine L3 (g3.lift le6) hn' fun p cs hl hlen hr => ?_
    refine Z0 hS6.sat hl hlen ?_
    refine Y2 hS6.sat (by rfl) hlen (Rep.one hr) fun q w7 σ7 hk7 hq => ?_
    refine Z0 hk7.sat hq hlen ?_
    refine Q19 hk7.sat (Rep.up hk7.le hr) (s4 _ (List.getElem_mem hn')) fun pv cv hv w8 σ8 hk8 hr8 => ?_
    have hn8 := (Nxt.of_stp (D := fun k => a.ownBlock = some k) hk7).trans (Nxt.of_stp hk8)
    have ha8 := (ha.up hk7).up hk8
    have hlt1 := (hm1.nx hn8 fun e => (hne6 _ e).1 rfl).lt
    have hlt2 := (hm2.nx hn8 fun e => (hne6 _ e).2 rfl).lt
    refine Jb ((hS6.trans hk7).trans hk8) ha8 hr8 rfl rfl rfl (by rw [List.length_take]; omega) (by rw [List.length_take]; omega) fun s v' w9 σ9 hnx hS9 ha9 hat => ?_
    refine O8 ?_
    have hnx := hn8.trans hnx
    refine J0 hmax hn' ⟨σ9, hS9, le6.more hnx.le, ?_, hm1.nx hnx fun e => (hne6 _ e).1 rfl, hm2.nx hnx fun e => (hne6 _ e).2 rfl, ?_⟩
    · rw [List.take_add_one, List.getElem?_eq_getElem hn']; exact ha9
    · intro k hk
      rcases hat with hat | hat
      · exact hne6 k (hat ▸ hk)
      · have := hat k hk
        constructor <;> omega
  · have hn' : ¬ n < c.methods.length := by simpa using hh
    rw [List.take_of_length_le (by omega)] at ha
    obtain ⟨σ7, hS7, ha7, le7, old7⟩ := ha.keep hS6
    have hm1 : V1 σ7 w6 b _ := ⟨(old7 b fun e => (hne6 b e.symm).1 rfl).trans hm1.1, hm1.2⟩
    have hm2 : V1 σ7 w6 b2 _ := ⟨(old7 b2 fun e => (hne6 b2 e.symm).2 rfl).trans hm2.1, hm2.2⟩
    rw [fa]
    refine Gb hm1 (by simp) (Jo ha7) (Qs ha7) fun w7 u7 hm1 => ?_
    have hS7 := u7.stp hS7 hb hm1.1
    have hm2 := hm2.upd u7 hne
    refine Q8w hm1 rfl ?_
    have hr := V0.mk (f8.lift (le6.more ⟨le7⟩)) (f11.lift (le6.more ⟨le7⟩)) ha7 g4 g5
    have hb2' := Xx hb2 hk1
    refine sta hm2 rfl rfl (by rw [List.all_toArray]; exact List.all_eq_true.2 (Rep.one hr)) fun w8 u8 hm2 => ?_
    have hS8 := u8.stp hS7 hb2' hm2.1
    refine M9 hm2 rfl ?_
    exact h t8 t11 a w8 σ7 hS8 hr)
end Go.Proofs.YtdnfaboigajkhaaGreatDoor

namespace Go.Emb
open Go.RowKit Go.Hm
structure Tab (σ : Q6) (v : Value) (l : List Cla) : Prop where
  ex : ∃ a lv r m, v = .pointer (some a) ∧ J4 σ a [lv, .map (some r)] ∧ Sl 8 V0 σ lv l ∧ P7 σ r m ∧ ∀ n, E5 m n = (Y3 l n).map (fun i : Nat => I (i : Int))
theorem Tab.lift {σ0 σ : Q6} {v : Value} {l : List Cla} (h : Tab σ0 v l) (k : SLe σ0 σ) : Tab σ v l := by
  obtain ⟨a, lv, r, m, h0, h1, h2, h3, h4⟩ := h.ex
  exact ⟨a, lv, r, m, h0, h1.lift k, h2.lift k, h3.lift k, h4⟩
end Go.Emb
namespace Go.Proofs.YtdnfaboigajkhaaGreatDoor
open Go.Emb Go.RowKit Go.Kd Go.Hm
variable {w : World} {K : Value → World → Prop} {σ : Q6} {v : Value} {l : List Cla}
theorem Q4X {n : X0} (hs : X6 w σ) (ht : Tab σ v l) (h : K (.bool (hasM l n)) w) : Q1 P F.f [v, S n] w K := Ma (by
  obtain ⟨a, lv, r, m, rfl, t1, t2, t3, t4⟩ := ht.ex
  unfold Yw
  rw [S2, fa]
  refine ld hs t1 rfl ?_
  rw [Ac X8 (t3.is hs) n, t4 n]
  unfold hasM at h
  cases hf : Y3 l n <;> rw [hf] at h <;> ((try simp only [Option.map_some, Option.map_none]); (try simp only [↓Mm, Mm, ↓Mr, Mr, Mb, reduceIte]); exact h))
theorem G8 {n : X0} {c : Cla} (hs : X6 w σ) (ht : Tab σ v l) (hc : lk l n = some c)
    (h : ∀ lv fv mv w' σ', Stp w σ w' σ' → Sl 1 U9 σ' lv c.like → Sl 3 D5 σ' fv c.fields → Sl 7 M8 σ' mv c.methods → c.name.length ≤ V9 → c.super.length ≤ V9 → V0 σ' c [S c.name, S c.super, lv, .bool c.iface, .bool c.abs, .bool c.fin, fv, mv] →
      K (.agg [S c.name, S c.super, lv, .bool c.iface, .bool c.abs, .bool c.fin, fv, mv].toArray) w') : Q1 P F.d [v, S n] w K := Rt (by
  obtain ⟨a, lv, r, m, rfl, t1, t2, t3, t4⟩ := ht.ex
  obtain ⟨_, _, i, hi, hli⟩ := V3 hc
  obtain ⟨hil, rfl⟩ := List.getElem?_eq_some_iff.1 hli
  unfold Vs
  refine Qu hs fun b w1 σ1 hb hk1 hm1 => ?_
  refine W9 hk1.sat ?_
  refine X2 (.pointer (some a)) (fun w hb => by rw [S2]; exact X4 rfl) ?_
  refine X2 (.pointer (some (a.add 0))) (fun t w hb e => by rw [e, fa]; exact X4 rfl) ?_
  refine X2 (.pointer (some a)) (fun w hb => by rw [S2]; exact X4 rfl) ?_
  refine X2 (.pointer (some (a.add 1))) (fun t w hb e => by rw [e, fa]; exact X4 rfl) ?_
  refine X2 lv (fun t w hb e => by rw [e]; exact ld hb.sat (t1.up hk1) rfl (X4 rfl)) ?_
  refine X2 (.map (some r)) (fun t w hb e => by rw [e]; exact ld hb.sat (t1.up hk1) rfl (X4 rfl)) ?_
  refine X2 (I i) (fun t w hb e => by rw [e, Q1n X8 ((t3.up hk1).is hb.sat) n, t4 n, hi]; exact X4 rfl) ?_
  rintro t6 t7 t10 t11 t8 t12 t14 w2 hb2 rfl rfl rfl rfl e8 rfl rfl
  subst e8
  have hm2 := hm1.step hb2.stp
  refine L3 (t2.up hk1) hil fun p cs hl hlen hr => ?_
  refine Z0 hb2.sat hl hlen ?_
  have hr0 := hr
  obtain ⟨lv', fv, mv, rfl, g1, g2, g3, g4, g5⟩ := hr
  refine Qf hm2 (hk1.trans hb2.stp) hb rfl rfl (Rep.one hr0) fun w3 hS3 hm3 => ?_
  refine M9 hm3 rfl ?_
  exact h _ _ _ w3 σ1 hS3.stp g1 g2 g3 g4 g5 hr0)
theorem Lx {n : X0} (hs : X6 w σ) (ht : Tab σ v l) (hd : lk l n = none) (h : K (.bool false) w) : Q1 P F.f [v, S n] w K := Q4X hs ht (by rw [Np, hd]; exact h)
theorem Wa {n : X0} {d : Cla} (hs : X6 w σ) (ht : Tab σ v l) (hd : lk l n = some d) (h : K (.bool true) w) : Q1 P F.f [v, S n] w K := Q4X hs ht (by rw [Np, hd]; exact h)
theorem Q6W {c : Cla} {cs : List Value} (hs : X6 w σ) (ht : Tab σ v l) (hc : V0 σ c cs) (h : ∀ w' σ', Stp w σ w' σ' → K (I (uppersM l c)) w') : Q1 P F.aT [v, .agg cs.toArray] w K := Hs (by
  obtain ⟨lv, fv, mv, rfl, g1, g2, g3, g4, g5⟩ := hc
  unfold Ul
  unfold uppersM at h
  cases hd : lk l c.super with
  | none =>
    simp only [F8, hd, if_true] at h
    (repeat' (first | (with_reducible intro _) | (with_reducible refine V4 ?_) | (simp only [↓Mm, Mm, ↓Mp, Mp, Mb, reduceIte]) | (with_reducible first | refine ld aS aL aR ?_ | refine X7 aS aL aR ?_ | refine Z0 aS aL aR ?_ | refine Q7 aL ?_ | refine Z3 aR ?_ | refine Z8 aS ?_ | refine W5 aS aL ?_ | refine U4 aS aR ?_ | refine Y2 aS aR aR (Rep.one (by assumption)) ?_ | refine U2 aS aR aR aR ?_ | refine Lx au au au ?_ | (refine Y1 (fun hh => ?_) (fun hh => ?_) <;> (try simp only [hh, Bool.not_true, Bool.not_false, ↓Mm, Mm, ↓Mp, Mp, Mb, reduceIte])) | (refine Q4 (fun hh => ?_) (fun hh => ?_) <;> (try simp only [hh, Bool.not_true, Bool.not_false, ↓Mm, Mm, ↓Mp, Mp, Mb, reduceIte])))))
    all_goals (refine Eq.subst (motive := fun b => K b _) ?_ (h _ _ (by (repeat (first | exact Stp.refl (by (first | assumption | exact Stp.sat (by assumption) | exact Hst.sat (by assumption))) | assumption | refine Stp.trans ?_ (by first | assumption | exact Hst.stp (by assumption)))))); clear h; (try clear hA); (try clear hB); (try clear hC); first | rfl | ((try simp only [Bool.not_eq_true', Bool.not_eq_false', Bool.not_true, Bool.not_false, Bool.not_eq_true] at *); simp only [*, Mb, reduceIte]; done) | (simp [*]; done) | simp_all)
  | some d =>
    simp only [F8, hd] at h
    obtain ⟨dn, ds, dl, di, da, df, dfs, dms⟩ := d
    cases di <;> cases df
    · simp only [Bool.or_self, Bool.false_eq_true, if_false] at h
      (repeat' (first | (with_reducible intro _) | (with_reducible refine V4 ?_) | (simp only [↓Mm, Mm, ↓Mp, Mp, Mb, reduceIte]) | (with_reducible first | refine ld aS aL aR ?_ | refine X7 aS aL aR ?_ | refine Z0 aS aL aR ?_ | refine Q7 aL ?_ | refine Z3 aR ?_ | refine Z8 aS ?_ | refine W5 aS aL ?_ | refine U4 aS aR ?_ | refine Y2 aS aR aR (Rep.one (by assumption)) ?_ | refine U2 aS aR aR aR ?_ | refine Wa au au au ?_ | refine G8 au au au ?_ | (refine Y1 (fun hh => ?_) (fun hh => ?_) <;> (try simp only [hh, Bool.not_true, Bool.not_false, ↓Mm, Mm, ↓Mp, Mp, Mb, reduceIte])) | (refine Q4 (fun hh => ?_) (fun hh => ?_) <;> (try simp only [hh, Bool.not_true, Bool.not_false, ↓Mm, Mm, ↓Mp, Mp, Mb, reduceIte])))))
      rename_i w3 σ3 hk3 _ _ _ _ _ _
      have hS : Stp w σ w3 σ3 := by (repeat (first | exact Stp.refl (by (first | assumption | exact Stp.sat (by assumption) | exact Hst.sat (by assumption))) | assumption | refine Stp.trans ?_ (by first | assumption | exact Hst.stp (by assumption))))
      refine V7 c.like.length (fun n w' => ∃ σ', Stp w σ w' σ' ∧ SLe σ3 σ' ∧ ((c.like.take n).any (M7 l)) = false) ⟨σ3, hS, SLe.refl _, by simp⟩ fun n w4 d hn hi => ?_
      obtain ⟨σ4, hS4, le4, hq⟩ := hi
      clear hk3
      refine U0 ?_
      refine Q4 (fun hh => ?_) (fun hh => ?_)
      · have hn' : n < c.like.length := by simpa using hh
        have hmax : c.like.length ≤ 9223372036854775807 := g1.max
        refine Q2f (by (first | assumption | exact Sl.lift (by assumption) (by (repeat (first | exact SLe.refl _ | refine SLe.more ?_ (by assumption) | refine SLe.more ?_ (Nxt.le (by assumption)) | refine SLe.step ?_ (by assumption)))) | exact J4.lift (by assumption) (by (repeat (first | exact SLe.refl _ | refine SLe.more ?_ (by assumption) | refine SLe.more ?_ (Nxt.le (by assumption)) | refine SLe.step ?_ (by assumption)))) | exact P7.lift (by assumption) (by (repeat (first | exact SLe.refl _ | refine SLe.more ?_ (by assumption) | refine SLe.more ?_ (Nxt.le (by assumption)) | refine SLe.step ?_ (by assumption)))) | exact R2 (by assumption) (by (repeat (first | exact SLe.refl _ | refine SLe.more ?_ (by assumption) | refine SLe.more ?_ (Nxt.le (by assumption)) | refine SLe.step ?_ (by assumption)))) | exact S3 (by assumption) (by (repeat (first | exact SLe.refl _ | refine SLe.more ?_ (by assumption) | refine SLe.more ?_ (Nxt.le (by assumption)) | refine SLe.step ?_ (by assumption)))) | exact Glb.lift (by assumption) (by (repeat (first | exact SLe.refl _ | refine SLe.more ?_ (by assumption) | refine SLe.more ?_ (Nxt.le (by assumption)) | refine SLe.step ?_ (by assumption)))) | exact Tab.lift (by assumption) (by (repeat (first | exact SLe.refl _ | refine SLe.more ?_ (by assumption) | refine SLe.more ?_ (Nxt.le (by assumption)) | refine SLe.step ?_ (by assumption)))) | exact Q0N (by assumption) | exact Q0F (by assumption) | exact Q0z (by assumption))) hn' fun p hl hbig => ?_
        have hq' := M5 (p := M7 l) hn'
        rw [hq] at hq'
        cases hx : lk l c.like[n] with
        | none =>
          simp only [R5 (p := M7 l) hn' (by simp only [M7, hx]), if_true] at h
          (repeat' (first | (with_reducible intro _) | (with_reducible refine V4 ?_) | (simp only [↓Mm, Mm, ↓Mp, Mp, Mb, reduceIte]) | (with_reducible first | refine ld aS aL aR ?_ | refine X7 aS aL aR ?_ | refine Z0 aS aL aR ?_ | refine Q7 aL ?_ | refine Z3 aR ?_ | refine Z8 aS ?_ | refine W5 aS aL ?_ | refine U4 aS aR ?_ | refine Y2 aS aR aR (Rep.one (by assumption)) ?_ | refine U2 aS aR aR aR ?_ | refine Lx au au au ?_ | (refine Y1 (fun hh => ?_) (fun hh => ?_) <;> (try simp only [hh, Bool.not_true, Bool.not_false, ↓Mm, Mm, ↓Mp, Mp, Mb, reduceIte])) | (refine Q4 (fun hh => ?_) (fun hh => ?_) <;> (try simp only [hh, Bool.not_true, Bool.not_false, ↓Mm, Mm, ↓Mp, Mp, Mb, reduceIte])))))
          all_goals (refine Eq.subst (motive := fun b => K b _) ?_ (h _ _ (by (repeat (first | exact Stp.refl (by (first | assumption | exact Stp.sat (by assumption) | exact Hst.sat (by assumption))) | assumption | refine Stp.trans ?_ (by first | assumption | exact Hst.stp (by assumption)))))); clear h; (try clear hA); (try clear hB); (try clear hC); first | rfl | ((try simp only [Bool.not_eq_true', Bool.not_eq_false', Bool.not_true, Bool.not_false, Bool.not_eq_true] at *); simp only [*, Mb, reduceIte]; done) | (simp [*]; done) | simp_all)
        | some x =>
          obtain ⟨xn, xs, xl, xi, xa, xf, xfs, xms⟩ := x
          cases xi
          · simp only [R5 (p := M7 l) hn' (by simp only [M7, hx]; rfl), if_true] at h
            (repeat' (first | (with_reducible intro _) | (with_reducible refine V4 ?_) | (simp only [↓Mm, Mm, ↓Mp, Mp, Mb, reduceIte]) | (with_reducible first | refine ld aS aL aR ?_ | refine X7 aS aL aR ?_ | refine Z0 aS aL aR ?_ | refine Q7 aL ?_ | refine Z3 aR ?_ | refine Z8 aS ?_ | refine W5 aS aL ?_ | refine U4 aS aR ?_ | refine Y2 aS aR aR (Rep.one (by assumption)) ?_ | refine U2 aS aR aR aR ?_ | refine Wa au au au ?_ | refine G8 au au au ?_ | (refine Y1 (fun hh => ?_) (fun hh => ?_) <;> (try simp only [hh, Bool.not_true, Bool.not_false, ↓Mm, Mm, ↓Mp, Mp, Mb, reduceIte])) | (refine Q4 (fun hh => ?_) (fun hh => ?_) <;> (try simp only [hh, Bool.not_true, Bool.not_false, ↓Mm, Mm, ↓Mp, Mp, Mb, reduceIte])))))
            all_goals (refine Eq.subst (motive := fun b => K b _) ?_ (h _ _ (by (repeat (first | exact Stp.refl (by (first | assumption | exact Stp.sat (by assumption) | exact Hst.sat (by assumption))) | assumption | refine Stp.trans ?_ (by first | assumption | exact Hst.stp (by assumption)))))); clear h; (try clear hA); (try clear hB); (try clear hC); first | rfl | ((try simp only [Bool.not_eq_true', Bool.not_eq_false', Bool.not_true, Bool.not_false, Bool.not_eq_true] at *); simp only [*, Mb, reduceIte]; done) | (simp [*]; done) | simp_all)
          · (repeat' (first | (with_reducible intro _) | (with_reducible refine V4 ?_) | (simp only [↓Mm, Mm, ↓Mp, Mp, Mb, reduceIte]) | (with_reducible first | refine ld aS aL aR ?_ | refine X7 aS aL aR ?_ | refine Z0 aS aL aR ?_ | refine Q7 aL ?_ | refine Z3 aR ?_ | refine Z8 aS ?_ | refine W5 aS aL ?_ | refine U4 aS aR ?_ | refine Y2 aS aR aR (Rep.one (by assumption)) ?_ | refine U2 aS aR aR aR ?_ | refine Wa au au au ?_ | refine G8 au au au ?_ | (refine Y1 (fun hh => ?_) (fun hh => ?_) <;> (try simp only [hh, Bool.not_true, Bool.not_false, ↓Mm, Mm, ↓Mp, Mp, Mb, reduceIte])) | (refine Q4 (fun hh => ?_) (fun hh => ?_) <;> (try simp only [hh, Bool.not_true, Bool.not_false, ↓Mm, Mm, ↓Mp, Mp, Mb, reduceIte])))))
            refine Z2 hmax hn' ⟨_, by (repeat (first | exact Stp.refl (by (first | assumption | exact Stp.sat (by assumption) | exact Hst.sat (by assumption))) | assumption | refine Stp.trans ?_ (by first | assumption | exact Hst.stp (by assumption)))), by (repeat (first | exact SLe.refl _ | refine SLe.more ?_ (by assumption) | refine SLe.more ?_ (Nxt.le (by assumption)) | refine SLe.step ?_ (by assumption))), by rw [hq']; simp only [M7, hx]; rfl⟩
      · have hn' : ¬ n < c.like.length := by simpa using hh
        rw [D0 hn'] at hq
        simp only [hq, Bool.false_eq_true, if_false] at h
        exact h _ _ hS4
    all_goals
      simp only [Bool.or_self, Bool.or_true, Bool.true_or, if_true] at h
      (repeat' (first | (with_reducible intro _) | (with_reducible refine V4 ?_) | (simp only [↓Mm, Mm, ↓Mp, Mp, Mb, reduceIte]) | (with_reducible first | refine ld aS aL aR ?_ | refine X7 aS aL aR ?_ | refine Z0 aS aL aR ?_ | refine Q7 aL ?_ | refine Z3 aR ?_ | refine Z8 aS ?_ | refine W5 aS aL ?_ | refine U4 aS aR ?_ | refine Y2 aS aR aR (Rep.one (by assumption)) ?_ | refine U2 aS aR aR aR ?_ | refine Wa au au au ?_ | refine G8 au au au ?_ | (refine Y1 (fun hh => ?_) (fun hh => ?_) <;> (try simp only [hh, Bool.not_true, Bool.not_false, ↓Mm, Mm, ↓Mp, Mp, Mb, reduceIte])) | (refine Q4 (fun hh => ?_) (fun hh => ?_) <;> (try simp only [hh, Bool.not_true, Bool.not_false, ↓Mm, Mm, ↓Mp, Mp, Mb, reduceIte])))))
      all_goals (refine Eq.subst (motive := fun b => K b _) ?_ (h _ _ (by (repeat (first | exact Stp.refl (by (first | assumption | exact Stp.sat (by assumption) | exact Hst.sat (by assumption))) | assumption | refine Stp.trans ?_ (by first | assumption | exact Hst.stp (by assumption)))))); clear h; (try clear hA); (try clear hB); (try clear hC); first | rfl | ((try simp only [Bool.not_eq_true', Bool.not_eq_false', Bool.not_true, Bool.not_false, Bool.not_eq_true] at *); simp only [*, Mb, reduceIte]; done) | (simp [*]; done) | simp_all))
end Go.Proofs.YtdnfaboigajkhaaGreatDoor

namespace Go.Hm
open Go.Kd
def E3 {α : Type} : Nat → List α → List α
  | 0, xs => xs
  | i + 1, xs => match (E3 i xs)[i]?, (E3 i xs)[xs.length - 1 - i]? with
    | some a, some b => ((E3 i xs).set i b).set (xs.length - 1 - i) a
    | _, _ => E3 i xs
theorem Ij {α : Type} (xs : List α) : ∀ i, 2 * i ≤ xs.length → (E3 i xs).length = xs.length ∧ ∀ k, k < xs.length → (E3 i xs)[k]? = if k < i ∨ xs.length - 1 - k < i then xs[xs.length - 1 - k]? else xs[k]?
  | 0, _ => ⟨rfl, fun k hk => by simp [E3]⟩
  | i + 1, h => by
    obtain ⟨hl, hg⟩ := Ij xs i (by omega)
    have h1 := hg i (by omega)
    have h2 := hg (xs.length - 1 - i) (by omega)
    rw [if_neg (by omega)] at h1 h2
    have hi : i < xs.length := by omega
    have hi2 : xs.length - 1 - i < xs.length := by omega
    rw [List.getElem?_eq_getElem (l := xs) hi] at h1
    rw [List.getElem?_eq_getElem (l := xs) hi2] at h2
    simp only [E3, h1, h2]
    refine ⟨by simp [hl], fun k hk => ?_⟩
    by_cases hk1 : k = xs.length - 1 - i
    · subst hk1
      rw [List.getElem?_set_self (by simp [hl]; omega), if_pos (by omega)]
      rw [show xs.length - 1 - (xs.length - 1 - i) = i by omega, List.getElem?_eq_getElem (by omega)]
    · rw [List.getElem?_set_ne (by omega)]
      by_cases hk2 : k = i
      · subst hk2
        rw [List.getElem?_set_self (by omega), if_pos (by omega), List.getElem?_eq_getElem (by omega)]
      · rw [List.getElem?_set_ne (by omega), hg k hk]
        by_cases hc : k < i ∨ xs.length - 1 - k < i
        · rw [if_pos hc, if_pos (by omega)]
        · rw [if_neg hc, if_neg (by omega)]
theorem Q5j {α : Type} (xs : List α) (i : Nat) (h1 : 2 * i ≤ xs.length) (h2 : xs.length ≤ 2 * i + 1) : E3 i xs = xs.reverse := by
  obtain ⟨hl, hg⟩ := Ij xs i h1
  apply List.ext_getElem?
  intro k
  by_cases hk : k < xs.length
  · rw [hg k hk, List.getElem?_reverse hk]
    by_cases hc : k < i ∨ xs.length - 1 - k < i
    · rw [if_pos hc]
    · rw [if_neg hc]; congr 1; omega
  · rw [List.getElem?_eq_none (by omega), List.getElem?_eq_none (by simp; omega)]
theorem Sz (L : Xd) : ∀ (f : Nat) (n : X0), (R9 L f n).length ≤ f
  | 0, _ => by simp [R9]
  | f + 1, n => by
    simp only [R9]
    split
    · simp
    · have := Sz L f (by rename_i c _; exact c.super)
      simp only [List.length_cons]; rename_i c _ ; have := Sz L f c.super; omega
theorem Dt (l : List Cla) (n : X0) : (chain l n).length ≤ l.length + 1 := Sz _ _ _
theorem Gu {l : List Cla} {n : X0} {c : Cla} (h : c ∈ chain l n) : c ∈ l := by
  have key : ∀ (f : Nat) (n : X0), c ∈ R9 (lk l) f n → c ∈ l := by
    intro f
    induction f with
    | zero => intro n h; simp [R9] at h
    | succ f ih =>
      intro n h
      simp only [R9] at h
      split at h
      · simp at h
      · rename_i d hd
        rcases List.mem_cons.1 h with rfl | h
        · exact (V3 hd).2.1
        · exact ih _ h
  exact key _ _ h
theorem K5 {α β : Type} (f : α → List β) (k : Nat) : ∀ (xs : List α), (∀ x ∈ xs, (f x).length ≤ k) → (xs.flatMap f).length ≤ xs.length * k
  | [], _ => by simp
  | x :: r, h => by
    have h1 := h x (by simp)
    have h2 := K5 f k r fun y hy => h y (by simp [hy])
    simp only [List.flatMap_cons, List.length_append, List.length_cons, Nat.add_mul]; omega
end Go.Hm

namespace Go.Emb
open Go.RowKit Go.Hm
variable {P : Program} {w w0 w1 w' w'' : World} {K : Value → World → Prop} {σ σ0 σ1 σ' : Q6}
theorem Q4E {a : Addr} {v : Value} (h : w.cell? a = some v) (hb : Below w.heap.size w w') : w'.cell? a = some v := by
  rw [← h]; exact World.cell?_of_block (hb.block a.block (World.block_lt_of_cell? _ _ h))
def Ptr {α : Type} (sz : Nat) (R : Q6 → α → List Value → Prop) (σ : Q6) (x : α) (p : Value) (w : World) : Prop :=
  ∃ a cs, p = .pointer (some a) ∧ (∀ j u, cs[j]? = some u → w.cell? (a.add j) = some u) ∧ cs.length = sz ∧ R σ x cs
theorem Ptr.below {α : Type} {sz : Nat} {R : Q6 → α → List Value → Prop} {x : α} {p : Value} (h : Ptr sz R σ x p w) (hb : Below w.heap.size w w') : Ptr sz R σ x p w' := by
  obtain ⟨a, cs, h1, h2, h3⟩ := h
  exact ⟨a, cs, h1, fun j u hu => Q4E (h2 j u hu) hb, h3⟩
end Go.Emb
namespace Go.Proofs.YtdnfaboigajkhaaGreatDoor
open Go.Emb Go.RowKit Go.Kd Go.Hm
variable {w : World} {K : Value → World → Prop} {σ : Q6} {v : Value} {l : List Cla}
theorem Q0W {w0 : World} {σ0 : Q6} {xs : List Cla} (hS : Stp w0 σ0 w σ) (ha : L5 w0.heap.size T.a 8 V0 σ w v xs)
    (h : ∀ w', Kpt (fun k => v.ownBlock = some k) w w' → Stp w0 σ0 w' σ → L5 w0.heap.size T.a 8 V0 σ w' v xs.reverse → K (.tuple #[]) w') : Q1 P F.p [v] w K := Xg (by
  unfold R7
  have hmax : xs.length ≤ 9223372036854775807 := by
    obtain ⟨a, cap, _, h1, h2, _⟩ := ha
    simp only [maxLen] at h2; omega
  refine Q1F ha ?_
  refine Nl ⟨by omega, by omega⟩ ?_
  refine Jk (fun x w' => ∃ i : Nat, x = (I i, I ((xs.length : Int) - 1 - i)) ∧ 2 * i ≤ xs.length ∧ Kpt (fun k => v.ownBlock = some k) w w' ∧ Stp w0 σ0 w' σ ∧ L5 w0.heap.size T.a 8 V0 σ w' v (E3 i xs)) (fun x _ => match x.2 with | .int _ n => (n + 1).toNat | _ => 0) ⟨0, by simp, by omega, Kpt.refl, hS, ha⟩ ?_
  rintro _ d w1 ⟨i, rfl, hi, hk, hS1, ha1⟩
  obtain ⟨hlen, hget⟩ := Ij xs i hi
  refine U0 ?_
  refine Q4 (fun hh => ?_) (fun hh => ?_)
  · have hlt : (i : Int) < (xs.length : Int) - 1 - i := by simpa using hh
    have ej : ((xs.length : Int) - 1 - i) = ((xs.length - 1 - i : Nat) : Int) := by omega
    have hil : i < (E3 i xs).length := by omega
    have hjl : xs.length - 1 - i < (E3 i xs).length := by omega
    refine W9 hS1.sat ?_
    refine N9 (Ptr 8 V0 σ (E3 i xs)[xs.length - 1 - i]) (fun _ _ _ h hb => h.below hb) (fun w hb => ?_) ?_
    · simp only [ej]
      exact Q2g (ha1.step hb.stp) hjl fun a cs h1 h2 h3 => ⟨Below.refl _ _, a, cs, rfl, h1, h2, h3⟩
    refine N9 (Ptr 8 V0 σ (E3 i xs)[i]) (fun _ _ _ h hb => h.below hb) (fun w hb => ?_) ?_
    · exact Q2g (ha1.step hb.stp) hil fun a cs h1 h2 h3 => ⟨Below.refl _ _, a, cs, rfl, h1, h2, h3⟩
    refine N9 (fun v _ => ∃ cs : List Value, v = .agg cs.toArray ∧ cs.length = 8 ∧ V0 σ (E3 i xs)[xs.length - 1 - i] cs) (fun _ _ _ h _ => h) (fun t w hb e => ?_) ?_
    · obtain ⟨a, cs, rfl, h1, h2, h3⟩ := e
      exact Sb h2 h1 ⟨Below.refl _ _, cs, rfl, h2, h3⟩
    refine N9 (fun v _ => ∃ cs : List Value, v = .agg cs.toArray ∧ cs.length = 8 ∧ V0 σ (E3 i xs)[i] cs) (fun _ _ _ h _ => h) (fun t w hb e => ?_) ?_
    · obtain ⟨a, cs, rfl, h1, h2, h3⟩ := e
      exact Sb h2 h1 ⟨Below.refl _ _, cs, rfl, h2, h3⟩
    rintro t20 t24 t21 t25 w2 hb2 _ _ ⟨cs, rfl, hc1, hc2⟩ ⟨ds, rfl, hd1, hd2⟩
    refine Q72 (hS1.trans hb2.stp) (ha1.step hb2.stp) hil hc1 hc2 (Rep.one hc2) fun p u w3 hk3 hS3 ha3 => ?_
    simp only [ej]
    refine Q72 hS3.stp ha3 (by simpa using hjl) hd1 hd2 (Rep.one hd2) fun p u w4 hk4 hS4 ha4 => ?_
    refine Ro ⟨by omega, by omega⟩ ?_
    refine Nl ⟨by omega, by omega⟩ ?_
    refine ⟨⟨i + 1, by congr 1 <;> congr 1 <;> omega, by omega, ?_, hS4.stp, ?_⟩, ?_⟩
    · exact ((hk.trans (Kpt.of_below hb2.stp.bel)).trans hk3).trans hk4
    · have e1 : (E3 i xs)[i]? = some (E3 i xs)[i] := List.getElem?_eq_getElem hil
      have e2 : (E3 i xs)[xs.length - 1 - i]? = some (E3 i xs)[xs.length - 1 - i] := List.getElem?_eq_getElem hjl
      have : E3 (i + 1) xs = ((E3 i xs).set i (E3 i xs)[xs.length - 1 - i]).set (xs.length - 1 - i) (E3 i xs)[i] := by
        simp only [E3, e1, e2]
      rw [this]; exact ha4
    · simp only; omega
  · have hge : ¬ (i : Int) < (xs.length : Int) - 1 - i := by simpa using hh
    rw [Q5j xs i hi (by omega)] at ha1
    exact h w1 hk hS1 ha1)
def Px : Value → X0 | .string b => b.data.toList | _ => []
theorem Q5f {n : X0} (hs : X6 w σ) (ht : Tab σ v l) (ha : Qw l) (hl : l.length ≤ 100000) (h : ∀ v' w' σ', Stp w σ w' σ' → L5 w.heap.size T.a 8 V0 σ' w' v' (chain l n).reverse → K v' w') : Q1 P F.aB [v, S n] w K := Bv (by
  unfold Ld
  refine Jk (fun x w' => ∃ (s : X0) (dn : List Cla) (σ' : Q6), x.2 = S s ∧ chain l n = dn ++ chain l s ∧ Stp w σ w' σ' ∧ W3 w.heap.size T.a 8 V0 σ' w' x.1 dn) (fun x _ => (chain l (Px x.2)).length)
    ⟨n, [], σ, rfl, rfl, Stp.refl hs, W3.nil⟩ ?_
  rintro ⟨x1, _⟩ d w1 ⟨s, dn, σ1, rfl, he, hS1, ha1⟩
  have ht1 := ht.lift ⟨hS1.le⟩
  have hlen := Dt l n
  have hs1 : Px (S s) = s := by simp [Px]
  simp only [hs1]
  cases hd : lk l s with
  | none =>
    refine Lx hS1.sat ht1 hd ?_
    refine K1 ?_
    rw [I3 hd, List.append_nil] at he
    rw [← he] at ha1
    refine Q0W hS1 (L5.of_acc ha1) fun w2 hk2 hS2 ha2 => ?_
    exact h _ _ _ hS2 ha2
  | some c =>
    refine Wa hS1.sat ht1 hd ?_
    refine F9 ?_
    refine G8 hS1.sat ht1 hd fun lv fv mv w2 σ2 hk2 f1 f2 f3 f4 f5 hr => ?_
    have hch := C9 ha s
    rw [hd] at hch
    simp only at hch
    have hdl : dn.length + 1 ≤ l.length + 1 := by
      have := congrArg List.length he
      rw [List.length_append, hch, List.length_cons] at this; omega
    refine Jb (hS1.trans hk2) (ha1.up hk2) hr rfl rfl rfl (by omega) (by omega) fun u v' w3 σ3 hn3 hS3 ha3 _ => ?_
    refine G8 hS3.sat (ht.lift ⟨hS3.le⟩) hd fun lv fv mv w4 σ4 hk4 f1 f2 f3 f4 f5 hr => ?_
    refine Z3 (v := S c.super) rfl ?_
    refine ⟨⟨c.super, dn ++ [c], σ4, rfl, ?_, hS3.trans hk4, ha3.up hk4⟩, ?_⟩
    · rw [he, hch]; simp
    · have : Px (S c.super) = c.super := by simp [Px]
      simp only [this, hch, List.length_cons]; omega)
theorem Q6p {n : X0} (hs : X6 w σ) (ht : Tab σ v l) (ha : Qw l) (hl : l.length ≤ 100000) (hsm : ∀ c ∈ l, K2 c) (h : ∀ v' w' σ', Stp w σ w' σ' → Sl 3 D5 σ' v' (fieldsM l n) → K v' w') : Q1 P F.aQ [v, S n] w K := Hl (by
  unfold Ub
  refine Q5f hs ht ha hl fun v1 w1 σ1 hk1 ha1 => ?_
  obtain ⟨σ2, hS2, hv2, le2, _⟩ := ha1.keep hk1
  generalize hcs : (chain l n).reverse = cs at *
  have hlen : cs.length ≤ l.length + 1 := by rw [← hcs, List.length_reverse]; exact Dt l n
  have hcf : ∀ c ∈ cs, c.fields.length ≤ 1000000 := fun c hc => (hsm c (Gu (by rw [← hcs] at hc; simpa using hc))).2.1
  refine Q7 hv2 ?_
  refine O4 cs.length (fun i a w' => ∃ σ', Stp w σ w' σ' ∧ SLe σ2 σ' ∧ W3 w.heap.size T.i 3 D5 σ' w' a ((cs.take i).flatMap (·.fields))) ⟨σ2, hS2, SLe.refl _, W3.nil⟩ fun i a w3 d hi hinv => ?_
  obtain ⟨σ3, hS3, le3, ha3⟩ := hinv
  refine U0 ?_
  refine Q4 (fun hh => ?_) (fun hh => ?_)
  · have hi' : i < cs.length := by simpa using hh
    refine L3 (hv2.lift le3) hi' fun p cells hl1 hl2 hr => ?_
    refine Z0 hS3.sat hl1 hl2 ?_
    refine Y2 hS3.sat (by rfl) hl2 (Rep.one hr) fun q w4 σ4 hk4 hq => ?_
    obtain ⟨lv, fv, mv, rfl, f1, f2, f3, f4, f5⟩ := hr
    rw [fa]
    refine ld hk4.sat hq rfl ?_
    have hfl := K5 (fun c : Cla => c.fields) 1000000 (cs.take i) fun c hc => hcf c (List.mem_of_mem_take hc)
    rw [List.length_take] at hfl
    have hci := hcf cs[i] (List.getElem_mem hi')
    have hmul : min i cs.length * 1000000 ≤ 100000 * 1000000 := Nat.mul_le_mul_right _ (by omega)
    refine Nh (hS3.trans hk4) (ha3.up hk4) (f2.up hk4) rfl (by omega) (by omega) fun v' w5 hn5 hS5 ha5 _ => ?_
    refine O8 ?_
    refine J0 (by omega) hi' ⟨σ4, hS5, le3.more ⟨hk4.le⟩, ?_⟩
    rw [List.take_add_one, List.getElem?_eq_getElem hi', List.flatMap_append]
    simpa using ha5
  · have hi' : ¬ i < cs.length := by simpa using hh
    rw [List.take_of_length_le (by omega)] at ha3
    obtain ⟨σ4, hS4, hv4, le4, _⟩ := ha3.keep hS3
    refine h _ _ _ hS4 ?_
    unfold fieldsM
    rw [hcs]; exact hv4)
theorem Q3W {n f : X0} (hs : X6 w σ) (ht : Tab σ v l) (ha : Qw l) (hl : l.length ≤ 100000) (hsm : ∀ c ∈ l, K2 c) (h : ∀ w' σ', Stp w σ w' σ' → K (I (W8 (placeM l n f))) w') : Q1 P F.ax [v, S n, S f] w K := Bc (by
  unfold Vd
  refine U4 hs rfl fun q w1 σ1 hk1 hq => ?_
  refine Q6p hk1.sat (ht.lift ⟨hk1.le⟩) ha hl hsm fun v' w2 σ2 hk2 hv2 => ?_
  rw [Qz]
  refine Hj (fun x => decide (x.name = f)) hk2.sat hv2 (fun x cs w3 K _ hs3 hr hl hK => Z9 (Ep ?_)) fun w3 hb => ?_
  · obtain ⟨rfl, _⟩ := hr
    unfold Zx
    have hq2 := hq.up hk2
    refine Z8 hs3 fun a w4 σ4 hk4 ha4 => ?_
    (repeat' (first | (with_reducible intro _) | (with_reducible refine V4 ?_) | (simp only [↓Mm, Mm, ↓Mp, Mp, Mb, reduceIte]) | (with_reducible first | refine ld aS aL aR ?_ | refine X7 aS aL aR ?_ | refine Z0 aS aL aR ?_ | refine Q7 aL ?_ | refine Z3 aR ?_ | refine Z8 aS ?_ | refine W5 aS aL ?_ | refine U4 aS aR ?_ | refine Y2 aS aR aR (Rep.one (by assumption)) ?_ | refine U2 aS aR aR aR ?_ | (refine Y1 (fun hh => ?_) (fun hh => ?_) <;> (try simp only [hh, Bool.not_true, Bool.not_false, ↓Mm, Mm, ↓Mp, Mp, Mb, reduceIte])) | (refine Q4 (fun hh => ?_) (fun hh => ?_) <;> (try simp only [hh, Bool.not_true, Bool.not_false, ↓Mm, Mm, ↓Mp, Mp, Mb, reduceIte])))))
    exact hK _ hk4.bel
  · exact h _ _ ((hk1.trans hk2).trans (Stp.of_below hk2.sat hb)))
end Go.Proofs.YtdnfaboigajkhaaGreatDoor

namespace Go.Hm
open Go.Kd
theorem Q25 {α : Type} (p : α → Bool) : ∀ xs : List α, xs.find? p = (xs.findIdx? p).bind (xs[·]?)
  | [] => rfl
  | x :: r => by
    rw [List.find?_cons, List.findIdx?_cons]
    cases p x with
    | true => rfl
    | false =>
      simp only [Bool.false_eq_true, if_false]
      rw [Q25 p r]
      cases r.findIdx? p <;> simp
def Q6m (l : List Cla) : Prop := ∀ c ∈ l, ∀ u ∈ c.like, ∃ d, lk l u = some d
def Nm (c : Cla) : Prop := c.name.length ≤ 100 ∧ (∀ f ∈ c.fields, f.name.length ≤ 100 ∧ f.kind.length ≤ 100) ∧ ∀ m ∈ c.methods, m.result.length ≤ 100 ∧ ∀ p ∈ m.params, p.length ≤ 100
structure Ok (l : List Cla) : Prop where
  acy : Qw l
  len : l.length ≤ 100000
  sm : ∀ c ∈ l, K2 c
  full : Q6m l
  nm : ∀ c ∈ l, Nm c
abbrev oM (o : Option Hm.Met) : Hm.Met := o.getD Hm.Met.zero
abbrev o1 (o : Option (X0 × Hm.Met)) : X0 := (o.map (·.1)).getD []
abbrev o2 (o : Option (X0 × Hm.Met)) : Hm.Met := (o.map (·.2)).getD Hm.Met.zero
theorem T3 {α β : Type} {xs : List α} {f : α → Option β} {n : Nat} (h : n < xs.length) (hn : (xs.take n).findSome? f = none) : (xs.take (n + 1)).findSome? f = f xs[n] := by
  rw [List.take_add_one, List.getElem?_eq_getElem h, List.findSome?_append, hn]; simp
theorem T0 {α β : Type} {xs : List α} {f : α → Option β} {n : Nat} {y : β} (h : n < xs.length) (hn : (xs.take n).findSome? f = none) (hy : f xs[n] = some y) : xs.findSome? f = some y := by
  have := T3 h hn
  rw [hy] at this
  rw [← List.take_append_drop (n + 1) xs, List.findSome?_append, this]; rfl
end Go.Hm
namespace Go.Proofs.YtdnfaboigajkhaaGreatDoor
open Go.Emb Go.RowKit Go.Kd Go.Hm
variable {w : World} {K : Value → World → Prop} {σ : Q6} {v : Value} {l : List Cla}
theorem K8 : M8 σ Hm.Met.zero [S [], .slice none 0 0, S [], .bool false, I 0, .slice none 0 0, .slice none 0 0] :=
  ⟨_, _, _, rfl, Sl.nil, Sl.nil, Sl.nil, by decide, by decide, by decide, by decide⟩
theorem Hv (h : K (.agg [S [], .slice none 0 0, S [], .bool false, I 0, .slice none 0 0, .slice none 0 0].toArray) w) : Yn P T.c [] w K := G0 (by kernel_rfl) h
theorem Q7e {c : Cla} {cs : List Value} {n : X0} (hs : X6 w σ) (hc : V0 σ c cs) (hsm : K2 c)
    (h : ∀ pv cv hv w' σ', Stp w σ w' σ' → M8 σ' (oM (H3 c n)) [S (oM (H3 c n)).name, pv, S (oM (H3 c n)).result, .bool (oM (H3 c n)).abs, I (oM (H3 c n)).locals, cv, hv] →
      K (.tuple #[.agg [S (oM (H3 c n)).name, pv, S (oM (H3 c n)).result, .bool (oM (H3 c n)).abs, I (oM (H3 c n)).locals, cv, hv].toArray, .bool (H3 c n).isSome]) w') : Q1 P F.bZ [.agg cs.toArray, S n] w K := Q55 (by
  obtain ⟨lv, fv, mv, rfl, g1, g2, g3, g4, g5⟩ := hc
  unfold Aw
  refine Z8 hs fun a w1 σ1 hk1 ha1 => ?_
  refine U4 hk1.sat rfl fun q w2 σ2 hk2 hq => ?_
  refine Qu hk2.sat fun b w3 σ3 hb hk3 hm => ?_
  rw [fa]
  have ha3 := (ha1.up hk2).up hk3
  have g3 := ((g3.up hk1).up hk2).up hk3
  have hq3 := hq.up hk3
  refine ld hk3.sat ha3 rfl ?_
  rw [Qz]
  have hS3 := (hk1.trans hk2).trans hk3
  have hb0 : w.heap.size ≤ b := Xx hb (hk1.trans hk2)
  refine Et (fun x => decide (x.name = n)) hk3.sat g3 (fun x cs w4 K _ hs4 hr hl hK => Z9 (Q2m ?_)) fun w4 hb4 => ?_
  · obtain ⟨pv, cv, hv, rfl, _⟩ := hr
    unfold Is
    refine Z8 hs4 fun a w5 σ5 hk5 ha5 => ?_
    (repeat' (first | (with_reducible intro _) | (with_reducible refine V4 ?_) | (simp only [↓Mm, Mm, ↓Mp, Mp, Mb, reduceIte]) | (with_reducible first | refine ld aS aL aR ?_ | refine X7 aS aL aR ?_ | refine Z0 aS aL aR ?_ | refine Q7 aL ?_ | refine Z3 aR ?_ | refine Z8 aS ?_ | refine W5 aS aL ?_ | refine U4 aS aR ?_ | refine Y2 aS aR aR (Rep.one (by assumption)) ?_ | refine U2 aS aR aR aR ?_ | (refine Y1 (fun hh => ?_) (fun hh => ?_) <;> (try simp only [hh, Bool.not_true, Bool.not_false, ↓Mm, Mm, ↓Mp, Mp, Mb, reduceIte])) | (refine Q4 (fun hh => ?_) (fun hh => ?_) <;> (try simp only [hh, Bool.not_true, Bool.not_false, ↓Mm, Mm, ↓Mp, Mp, Mb, reduceIte])))))
    exact hK _ hk5.bel
  have hk4 : Stp w3 σ3 w4 σ3 := Stp.of_below hk3.sat hb4
  have hm := hm.step hk4
  have hS4 := hS3.trans hk4
  unfold H3 at h
  rw [Q25] at h
  refine U0 ?_
  cases hf : c.methods.findIdx? fun x => decide (x.name = n) with
  | none =>
    rw [hf] at h
    simp only [W8]
    refine F9 ?_
    refine Hv ?_
    refine Qf hm hS4 hb0 rfl rfl (Rep.one (K8 (σ := σ3))) fun w5 hS5 hm5 => ?_
    refine M9 hm5 rfl ?_
    exact h _ _ _ w5 σ3 hS5.stp K8
  | some i =>
    rw [hf] at h
    have hi : i < c.methods.length := (List.findIdx?_eq_some_iff_getElem.1 hf).1
    simp only [Option.bind_some, List.getElem?_eq_getElem hi] at h
    simp only [W8]
    refine Q4 (fun hh => absurd (of_decide_eq_true hh) (by omega)) (fun _ => ?_)
    rw [fa]
    refine ld hk4.sat ha3 rfl ?_
    refine L3 g3 hi fun p cells hl1 hl2 hr => ?_
    refine Z0 hk4.sat hl1 hl2 ?_
    refine Q19 hk4.sat hr (hsm.2.2.2 _ (List.getElem_mem hi)) fun pv cv hv w5 σ5 hk5 hr5 => ?_
    refine Qf (hm.step hk5) (hS4.trans hk5) hb0 rfl rfl (Rep.one hr5) fun w6 hS6 hm6 => ?_
    refine M9 hm6 rfl ?_
    exact h _ _ _ w6 σ5 hS6.stp hr5)
theorem Q8c {n : X0} (ok : Ok l) : ∀ (k : Nat) {c : Cla} {cs : List Value} {w : World} {σ : Q6} {K : Value → World → Prop}, H9 l c.name < k → lk l c.name = some c → X6 w σ → Tab σ v l → V0 σ c cs →
    (∀ pv cv hv w' σ', Stp w σ w' σ' → M8 σ' (o2 (V5 l c n)) [S (o2 (V5 l c n)).name, pv, S (o2 (V5 l c n)).result, .bool (o2 (V5 l c n)).abs, I (o2 (V5 l c n)).locals, cv, hv] →
      K (.tuple #[S (o1 (V5 l c n)), .agg [S (o2 (V5 l c n)).name, pv, S (o2 (V5 l c n)).result, .bool (o2 (V5 l c n)).abs, I (o2 (V5 l c n)).locals, cv, hv].toArray, .bool (V5 l c n).isSome]) w') →
    Q1 P F.aC [v, .agg cs.toArray, S n] w K := by
  intro k
  induction k with
  | zero =>
    intro c cs w σ K hk
    omega
  | succ k ih =>
    intro c cs w σ K hk hc hs ht hr h
    refine Fo ?_
    obtain ⟨lv, fv, mv, rfl, g1, g2, g3, g4, g5⟩ := hr
    have heq := Q1m ok.acy hc n
    generalize hf : (fun u => match lk l u with | none => none | some d => match H3 d n with | some m => some (u, m) | none => V5 l d n) = f at heq
    unfold Wz
    refine Z8 hs fun a w1 σ1 hk1 ha1 => ?_
    refine Qu hk1.sat fun b w2 σ2 hb hk2 hm2 => ?_
    have hb0 : w.heap.size ≤ b := Xx hb hk1
    have ha2 := ha1.up hk2
    rw [fa]
    refine ld hk2.sat ha2 rfl ?_
    have g1 := (g1.up hk1).up hk2
    refine Q7 g1 ?_
    refine V7 c.like.length (fun i w' => ∃ σ', Stp w σ w' σ' ∧ SLe σ2 σ' ∧ V1 σ' w' b [S [], .slice none 0 0, S [], .bool false, I 0, .slice none 0 0, .slice none 0 0] ∧ (c.like.take i).findSome? f = none) ⟨σ2, hk1.trans hk2, SLe.refl _, hm2, rfl⟩ fun i w3 d hi hinv => ?_
    obtain ⟨σ3, hS3, le3, hm3, hno⟩ := hinv
    have ht3 := ht.lift ⟨hS3.le⟩
    refine U0 ?_
    refine Q4 (fun hh => ?_) (fun hh => ?_)
    · have hi' : i < c.like.length := by simpa using hh
      refine Q2f (g1.lift le3) hi' fun p hl1 hl2 => ?_
      refine X7 hS3.sat hl1 rfl ?_
      obtain ⟨d, hd⟩ := ok.full c (V3 hc).2.1 _ (List.getElem_mem hi')
      obtain ⟨hdn, hdm, _⟩ := V3 hd
      have hfx : f c.like[i] = match H3 d n with | some m => some (c.like[i], m) | none => V5 l d n := by rw [← hf]; simp only [hd]
      refine G8 hS3.sat ht3 hd fun lv' fv' mv' w4 σ4 hk4 f1 f2 f3 f4 f5 hr4 => ?_
      refine Q7e hk4.sat hr4 (ok.sm d hdm) fun pv cv hv w5 σ5 hk5 hr5 => ?_
      refine M4 (vs := [_, _]) rfl ?_
      refine M4 (vs := [_, _]) rfl ?_
      refine Y2 hk5.sat (by rfl) rfl (Rep.one hr5) fun q w6 σ6 hk6 hq6 => ?_
      have hS6 := ((hS3.trans hk4).trans hk5).trans hk6
      have hm6 := ((hm3.step hk4).step hk5).step hk6
      have hr6 := S3 hr5 ⟨hk6.le⟩
      cases ho : H3 d n with
      | some m =>
        rw [ho] at hfx hr6 hq6
        (try simp only [ho])
        refine F9 ?_
        refine W9 hS6.sat ?_
        refine N9 (fun v _ => v = .agg [S m.name, pv, S m.result, .bool m.abs, I m.locals, cv, hv].toArray) (fun _ _ _ h _ => h) (fun w hb => Z0 hb.sat hq6 rfl ⟨Below.refl _ _, rfl⟩) ?_
        rintro _ w7 hb7 rfl
        refine Qf (hm6.step hb7.stp) (hS6.trans hb7.stp) hb0 rfl rfl (Rep.one hr6) fun w8 hS8 hm8 => ?_
        refine M9 hm8 rfl ?_
        have hl := heq.trans (T0 hi' hno hfx)
        rw [hl] at h
        exact h _ _ _ w8 σ6 hS8.stp hr6
      | none =>
        rw [ho] at hfx
        (try simp only [Option.isSome_none])
        refine K1 ?_
        refine G8 hS6.sat (ht.lift ⟨hS6.le⟩) hd fun lv' fv' mv' w7 σ7 hk7 f1 f2 f3 f4 f5 hr7 => ?_
        have hrk := F3 ok.acy hc (by simp [U5, List.getElem_mem hi'] : c.like[i] ∈ U5 c) hd
        refine ih (by rw [hdn]; omega) (by rw [hdn]; exact hd) hk7.sat (ht.lift ⟨(hS6.trans hk7).le⟩) hr7 fun pv cv hv w8 σ8 hk8 hr8 => ?_
        refine M4 (vs := [_, _, _]) rfl ?_
        refine M4 (vs := [_, _, _]) rfl ?_
        refine M4 (vs := [_, _, _]) rfl ?_
        refine Y2 hk8.sat (by rfl) rfl (Rep.one hr8) fun q w9 σ9 hk9 hq9 => ?_
        have hS9 := ((hS6.trans hk7).trans hk8).trans hk9
        have hm9 := ((hm6.step hk7).step hk8).step hk9
        have hr9 := S3 hr8 ⟨hk9.le⟩
        cases hl : V5 l d n with
        | some r =>
          obtain ⟨s, m⟩ := r
          rw [hl] at hfx hr9 hq9
          (try simp only [hl])
          refine F9 ?_
          refine W9 hS9.sat ?_
          refine N9 (fun v _ => v = .agg [S m.name, pv, S m.result, .bool m.abs, I m.locals, cv, hv].toArray) (fun _ _ _ h _ => h) (fun w hb => Z0 hb.sat hq9 rfl ⟨Below.refl _ _, rfl⟩) ?_
          rintro _ w10 hb10 rfl
          refine Qf (hm9.step hb10.stp) (hS9.trans hb10.stp) hb0 rfl rfl (Rep.one hr9) fun w11 hS11 hm11 => ?_
          refine M9 hm11 rfl ?_
          have hl2 := heq.trans (T0 hi' hno hfx)
          rw [hl2] at h
          exact h _ _ _ w11 σ9 hS11.stp hr9
        | none =>
          rw [hl] at hfx
          (try simp only [Option.isSome_none])
          refine K1 ?_
          refine O8 ?_
          refine Z2 (by have := g1.max; omega) hi' ⟨σ9, hS9, ?_, hm9, ?_⟩
          · exact le3.more ⟨fun b o e => hk9.le _ _ (hk8.le _ _ (hk7.le _ _ (hk6.le _ _ (hk5.le _ _ (hk4.le _ _ e)))))⟩
          · rw [T3 hi' hno]; exact hfx
    · have hi' : ¬ i < c.like.length := by simpa using hh
      rw [List.take_of_length_le (by omega)] at hno
      refine Hv ?_
      refine Qf hm3 hS3 hb0 rfl rfl (Rep.one (K8 (σ := σ3))) fun w5 hS5 hm5 => ?_
      refine M9 hm5 rfl ?_
      have hl := heq.trans hno
      rw [hl] at h
      exact h _ _ _ w5 σ3 hS5.stp K8
end Go.Proofs.YtdnfaboigajkhaaGreatDoor
