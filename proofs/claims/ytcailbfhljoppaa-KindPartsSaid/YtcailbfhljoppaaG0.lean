import Derived.Test.YtcailbfhljoppaaN
/-! each Go function as a continuation-passing text; printed by gen.py -/
set_option linter.unusedVariables false
set_option maxRecDepth 100000
namespace Go.Proofs.Ytcailbfhljoppaa
open Go.Emb

/-- squinch/kind.Plain -/
def g_kind_Plain (a0 : Value) (w : World) (K : Value → World → Prop) : Prop :=
  bin P .eql T.string (.tmp 3) (.const (.string ⟨#[105, 110, 116]⟩)) a0 (.string ⟨#[105, 110, 116]⟩) w fun t4 w =>
  gop t4 false w (fun w J => J a0 w) fun t6 w =>
  gop t4 false w (bin P .eql T.string (.tmp 6) (.const (.string ⟨#[98, 111, 111, 108]⟩)) t6 (.string ⟨#[98, 111, 111, 108]⟩)) fun t7 w =>
  pick P t4 (.bool true) t7 w fun t8 w =>
  gop t8 false w (fun w J => J a0 w) fun t10 w =>
  gop t8 false w (bin P .eql T.string (.tmp 10) (.const (.string ⟨#[116, 101, 120, 116]⟩)) t10 (.string ⟨#[116, 101, 120, 116]⟩)) fun t11 w =>
  pick P t8 (.bool true) t11 w fun t12 w =>
  K t12 w
theorem r_kind_Plain {a0 : Value} {w : World} {K : Value → World → Prop} (h : g_kind_Plain a0 w K) : callF P F.kind_Plain [a0] w K :=
  rule_of [none, none] Try.func14 rfl (by decide) ((by kernel_rfl : g_kind_Plain a0 w K = denC P [none, none] (Ann.slots [none, none]) 0 (Try.f14.body.getD .skip) (retQ P Try.f14 K) (frame0 Try.f14 [a0]) w) ▸ h)

/-- squinch/kind.all -/
def g_kind_all (a0 a1 : Value) (w : World) (K : Value → World → Prop) : Prop :=
  rng P T.string a0 w fun t8 w =>
  lp (α := Unit) () w fun again3 x3 d_ w =>
    nxt P t8 true T.x w fun t9 w =>
    ext P t9 0 w fun t10 w =>
    cnd t10 (
      ext P t9 2 w fun t11 w =>
      callV P a1 [t11] w fun t14 w =>
      una P .not t14 w fun t15 w =>
      cnd t15 (
        K (.bool false) w) (
        again3 () w)) (
      K (.bool true) w)
theorem r_kind_all {a0 a1 : Value} {w : World} {K : Value → World → Prop} (h : g_kind_all a0 a1 w K) : callF P F.kind_all [a0, a1] w K :=
  rule_of [none, none, none, some ([], [4, 6, 9, 10, 11, 12, 13, 14, 15]), none, none, none, none, none, none] Try.func26 rfl (by decide) ((by kernel_rfl : g_kind_all a0 a1 w K = denC P [none, none, none, some ([], [4, 6, 9, 10, 11, 12, 13, 14, 15]), none, none, none, none, none, none] (Ann.slots [none, none, none, some ([], [4, 6, 9, 10, 11, 12, 13, 14, 15]), none, none, none, none, none, none]) 0 (Try.f26.body.getD .skip) (retQ P Try.f26 K) (frame0 Try.f26 [a0, a1]) w) ▸ h)

/-- squinch/kind.great -/
def g_kind_great (a0 : Value) (w : World) (K : Value → World → Prop) : Prop :=
  bin P .geq T.int32 (.tmp 3) (.const (.int .i32 65)) a0 (.int .i32 65) w fun t4 w =>
  gop t4 true w (fun w J => J a0 w) fun t6 w =>
  gop t4 true w (bin P .leq T.int32 (.tmp 6) (.const (.int .i32 90)) t6 (.int .i32 90)) fun t7 w =>
  pick P t4 t7 (.bool false) w fun t8 w =>
  K t8 w
theorem r_kind_great {a0 : Value} {w : World} {K : Value → World → Prop} (h : g_kind_great a0 w K) : callF P F.kind_great [a0] w K :=
  rule_of [none, none] Try.func28 rfl (by decide) ((by kernel_rfl : g_kind_great a0 w K = denC P [none, none] (Ann.slots [none, none]) 0 (Try.f28.body.getD .skip) (retQ P Try.f28 K) (frame0 Try.f28 [a0]) w) ▸ h)

/-- squinch/kind.small -/
def g_kind_small (a0 : Value) (w : World) (K : Value → World → Prop) : Prop :=
  bin P .geq T.int32 (.tmp 3) (.const (.int .i32 97)) a0 (.int .i32 97) w fun t4 w =>
  gop t4 true w (fun w J => J a0 w) fun t6 w =>
  gop t4 true w (bin P .leq T.int32 (.tmp 6) (.const (.int .i32 122)) t6 (.int .i32 122)) fun t7 w =>
  pick P t4 t7 (.bool false) w fun t8 w =>
  K t8 w
theorem r_kind_small {a0 : Value} {w : World} {K : Value → World → Prop} (h : g_kind_small a0 w K) : callF P F.kind_small [a0] w K :=
  rule_of [none, none] Try.func29 rfl (by decide) ((by kernel_rfl : g_kind_small a0 w K = denC P [none, none] (Ann.slots [none, none]) 0 (Try.f29.body.getD .skip) (retQ P Try.f29 K) (frame0 Try.f29 [a0]) w) ▸ h)

/-- squinch/kind.Name$1 -/
def g_kind_Name_1 (a0 : Value) (w : World) (K : Value → World → Prop) : Prop :=
  callF P F.kind_great [a0] w fun t4 w =>
  gop t4 false w (fun w J => J a0 w) fun t6 w =>
  gop t4 false w (callF P F.kind_small [t6]) fun t7 w =>
  pick P t4 (.bool true) t7 w fun t8 w =>
  gop t8 false w (fun w J => J a0 w) fun t10 w =>
  gop t8 false w (bin P .geq T.int32 (.tmp 10) (.const (.int .i32 48)) t10 (.int .i32 48)) fun t11 w =>
  gop t8 false w (fun w J => J t11 w) fun t12 w =>
  gop t12 true w (fun w J => J a0 w) fun t13 w =>
  gop t12 true w (bin P .leq T.int32 (.tmp 13) (.const (.int .i32 57)) t13 (.int .i32 57)) fun t14 w =>
  gop t8 false w (pick P t12 t14 (.bool false)) fun t15 w =>
  pick P t8 (.bool true) t15 w fun t16 w =>
  K t16 w
theorem r_kind_Name_1 {a0 : Value} {w : World} {K : Value → World → Prop} (h : g_kind_Name_1 a0 w K) : callF P F.kind_Name_1 [a0] w K :=
  rule_of [none, none] Try.func27 rfl (by decide) ((by kernel_rfl : g_kind_Name_1 a0 w K = denC P [none, none] (Ann.slots [none, none]) 0 (Try.f27.body.getD .skip) (retQ P Try.f27 K) (frame0 Try.f27 [a0]) w) ▸ h)

/-- squinch/kind.Name -/
def g_kind_Name (a0 : Value) (w : World) (K : Value → World → Prop) : Prop :=
  bin P .eql T.string (.tmp 3) (.const (.string ⟨#[]⟩)) a0 (.string ⟨#[]⟩) w fun t4 w =>
  gop t4 false w (fun w J => J a0 w) fun t6 w =>
  gop t4 false w (blt P .len [T.string] T.int [false] [t6]) fun t7 w =>
  gop t4 false w (bin P .gtr T.int (.tmp 7) (.const (.int .i64 32)) t7 (.int .i64 32)) fun t8 w =>
  pick P t4 (.bool true) t8 w fun t9 w =>
  gop t9 false w (fun w J => J a0 w) fun t11 w =>
  gop t9 false w (idx P T.string t11 (.int .i64 0)) fun t12 w =>
  gop t9 false w (bin P .geq T.uint8 (.tmp 12) (.const (.int .u8 48)) t12 (.int .u8 48)) fun t13 w =>
  gop t9 false w (fun w J => J t13 w) fun t14 w =>
  gop t14 true w (fun w J => J a0 w) fun t15 w =>
  gop t14 true w (idx P T.string t15 (.int .i64 0)) fun t16 w =>
  gop t14 true w (bin P .leq T.uint8 (.tmp 16) (.const (.int .u8 57)) t16 (.int .u8 57)) fun t17 w =>
  gop t9 false w (pick P t14 t17 (.bool false)) fun t18 w =>
  pick P t9 (.bool true) t18 w fun t19 w =>
  cnd t19 (
    K (.bool false) w) (
    callF P F.kind_all [a0, (.func (.func F.kind_Name_1) #[] #[])] w fun t21 w =>
    K t21 w)
theorem r_kind_Name {a0 : Value} {w : World} {K : Value → World → Prop} (h : g_kind_Name a0 w K) : callF P F.kind_Name [a0] w K :=
  rule_of [none, none, none, none, none] Try.func12 rfl (by decide) ((by kernel_rfl : g_kind_Name a0 w K = denC P [none, none, none, none, none] (Ann.slots [none, none, none, none, none]) 0 (Try.f12.body.getD .skip) (retQ P Try.f12 K) (frame0 Try.f12 [a0]) w) ▸ h)

/-- squinch/kind.Class -/
def g_kind_Class (a0 : Value) (w : World) (K : Value → World → Prop) : Prop :=
  callF P F.kind_Name [a0] w fun t4 w =>
  gop t4 true w (fun w J => J a0 w) fun t6 w =>
  gop t4 true w (idx P T.string t6 (.int .i64 0)) fun t7 w =>
  gop t4 true w (conv P T.uint8 T.int32 t7) fun t8 w =>
  gop t4 true w (callF P F.kind_great [t8]) fun t9 w =>
  pick P t4 t9 (.bool false) w fun t10 w =>
  K t10 w
theorem r_kind_Class {a0 : Value} {w : World} {K : Value → World → Prop} (h : g_kind_Class a0 w K) : callF P F.kind_Class [a0] w K :=
  rule_of [none, none] Try.func16 rfl (by decide) ((by kernel_rfl : g_kind_Class a0 w K = denC P [none, none] (Ann.slots [none, none]) 0 (Try.f16.body.getD .skip) (retQ P Try.f16 K) (frame0 Try.f16 [a0]) w) ▸ h)

/-- internal/stringslite.HasSuffix -/
def g_stringslite_HasSuffix (a0 a1 : Value) (w : World) (K : Value → World → Prop) : Prop :=
  blt P .len [T.string] T.int [false] [a0] w fun t6 w =>
  blt P .len [T.string] T.int [false] [a1] w fun t8 w =>
  bin P .geq T.int (.tmp 6) (.tmp 8) t6 t8 w fun t9 w =>
  gop t9 true w (fun w J => J a0 w) fun t11 w =>
  gop t9 true w (fun w J => J a0 w) fun t12 w =>
  gop t9 true w (blt P .len [T.string] T.int [false] [t12]) fun t13 w =>
  gop t9 true w (fun w J => J a1 w) fun t14 w =>
  gop t9 true w (blt P .len [T.string] T.int [false] [t14]) fun t15 w =>
  gop t9 true w (bin P .sub T.int (.tmp 13) (.tmp 15) t13 t15) fun t16 w =>
  gop t9 true w (slc P T.string t11 (some t16) none none) fun t17 w =>
  gop t9 true w (fun w J => J a1 w) fun t18 w =>
  gop t9 true w (bin P .eql T.string (.tmp 17) (.tmp 18) t17 t18) fun t19 w =>
  pick P t9 t19 (.bool false) w fun t20 w =>
  K t20 w
theorem r_stringslite_HasSuffix {a0 a1 : Value} {w : World} {K : Value → World → Prop} (h : g_stringslite_HasSuffix a0 a1 w K) : callF P F.stringslite_HasSuffix [a0, a1] w K :=
  rule_of [none, none] Try.func37 rfl (by decide) ((by kernel_rfl : g_stringslite_HasSuffix a0 a1 w K = denC P [none, none] (Ann.slots [none, none]) 0 (Try.f37.body.getD .skip) (retQ P Try.f37 K) (frame0 Try.f37 [a0, a1]) w) ▸ h)

/-- strings.HasSuffix -/
def g_strings_HasSuffix (a0 a1 : Value) (w : World) (K : Value → World → Prop) : Prop :=
  callF P F.stringslite_HasSuffix [a0, a1] w fun t7 w =>
  K t7 w
theorem r_strings_HasSuffix {a0 a1 : Value} {w : World} {K : Value → World → Prop} (h : g_strings_HasSuffix a0 a1 w K) : callF P F.strings_HasSuffix [a0, a1] w K :=
  rule_of [none, none] Try.func33 rfl (by decide) ((by kernel_rfl : g_strings_HasSuffix a0 a1 w K = denC P [none, none] (Ann.slots [none, none]) 0 (Try.f33.body.getD .skip) (retQ P Try.f33 K) (frame0 Try.f33 [a0, a1]) w) ▸ h)

/-- internal/stringslite.TrimSuffix -/
def g_stringslite_TrimSuffix (a0 a1 : Value) (w : World) (K : Value → World → Prop) : Prop :=
  callF P F.stringslite_HasSuffix [a0, a1] w fun t7 w =>
  cnd t7 (
    blt P .len [T.string] T.int [false] [a0] w fun t10 w =>
    blt P .len [T.string] T.int [false] [a1] w fun t12 w =>
    bin P .sub T.int (.tmp 10) (.tmp 12) t10 t12 w fun t13 w =>
    slc P T.string a0 none (some t13) none w fun t14 w =>
    K t14 w) (
    K a0 w)
theorem r_stringslite_TrimSuffix {a0 a1 : Value} {w : World} {K : Value → World → Prop} (h : g_stringslite_TrimSuffix a0 a1 w K) : callF P F.stringslite_TrimSuffix [a0, a1] w K :=
  rule_of [none, none, none, none, none] Try.func38 rfl (by decide) ((by kernel_rfl : g_stringslite_TrimSuffix a0 a1 w K = denC P [none, none, none, none, none] (Ann.slots [none, none, none, none, none]) 0 (Try.f38.body.getD .skip) (retQ P Try.f38 K) (frame0 Try.f38 [a0, a1]) w) ▸ h)

/-- strings.TrimSuffix -/
def g_strings_TrimSuffix (a0 a1 : Value) (w : World) (K : Value → World → Prop) : Prop :=
  callF P F.stringslite_TrimSuffix [a0, a1] w fun t7 w =>
  K t7 w
theorem r_strings_TrimSuffix {a0 a1 : Value} {w : World} {K : Value → World → Prop} (h : g_strings_TrimSuffix a0 a1 w K) : callF P F.strings_TrimSuffix [a0, a1] w K :=
  rule_of [none, none] Try.func34 rfl (by decide) ((by kernel_rfl : g_strings_TrimSuffix a0 a1 w K = denC P [none, none] (Ann.slots [none, none]) 0 (Try.f34.body.getD .skip) (retQ P Try.f34 K) (frame0 Try.f34 [a0, a1]) w) ▸ h)

/-- squinch/kind.base -/
def g_kind_base (a0 : Value) (w : World) (K : Value → World → Prop) : Prop :=
  lp (α := Value × Value) (a0, (.int .i64 0)) w fun again3 x3 d_ w =>
    callF P F.strings_HasSuffix [x3.1, (.string ⟨#[91, 93]⟩)] w fun t6 w =>
    cnd t6 (
      callF P F.strings_TrimSuffix [x3.1, (.string ⟨#[91, 93]⟩)] w fun t8 w =>
      bin P .add T.int (.tmp 9) (.const (.int .i64 1)) x3.2 (.int .i64 1) w fun t10 w =>
      again3 (t8, t10) w) (
      K (.tuple #[x3.1, x3.2]) w)
theorem r_kind_base {a0 : Value} {w : World} {K : Value → World → Prop} (h : g_kind_base a0 w K) : callF P F.kind_base [a0] w K :=
  rule_of [none, none, none, some ([0, 4], [0, 4, 5, 6, 7, 8, 9, 10]), none, none, none] Try.func25 rfl (by decide) ((by kernel_rfl : g_kind_base a0 w K = denC P [none, none, none, some ([0, 4], [0, 4, 5, 6, 7, 8, 9, 10]), none, none, none] (Ann.slots [none, none, none, some ([0, 4], [0, 4, 5, 6, 7, 8, 9, 10]), none, none, none]) 0 (Try.f25.body.getD .skip) (retQ P Try.f25 K) (frame0 Try.f25 [a0]) w) ▸ h)

/-- squinch/kind.Right -/
def g_kind_Right (a0 : Value) (w : World) (K : Value → World → Prop) : Prop :=
  callF P F.kind_base [a0] w fun t7 w =>
  ext P t7 0 w fun t8 w =>
  ext P t7 1 w fun t9 w =>
  bin P .leq T.int (.tmp 10) (.const (.int .i64 3)) t9 (.int .i64 3) w fun t11 w =>
  gop t11 true w (fun w J => J t8 w) fun t13 w =>
  gop t11 true w (callF P F.kind_Plain [t13]) fun t14 w =>
  gop t11 true w (fun w J => J t14 w) fun t15 w =>
  gop t15 false w (fun w J => J t8 w) fun t16 w =>
  gop t15 false w (callF P F.kind_Class [t16]) fun t17 w =>
  gop t11 true w (pick P t15 (.bool true) t17) fun t18 w =>
  pick P t11 t18 (.bool false) w fun t19 w =>
  K t19 w
theorem r_kind_Right {a0 : Value} {w : World} {K : Value → World → Prop} (h : g_kind_Right a0 w K) : callF P F.kind_Right [a0] w K :=
  rule_of [none, none, none] Try.func10 rfl (by decide) ((by kernel_rfl : g_kind_Right a0 w K = denC P [none, none, none] (Ann.slots [none, none, none]) 0 (Try.f10.body.getD .skip) (retQ P Try.f10 K) (frame0 Try.f10 [a0]) w) ▸ h)

/-- internal/stringslite.CutSuffix -/
def g_stringslite_CutSuffix (a0 a1 : Value) (w : World) (K : Value → World → Prop) : Prop :=
  callF P F.stringslite_HasSuffix [a0, a1] w fun t8 w =>
  una P .not t8 w fun t9 w =>
  cnd t9 (
    K (.tuple #[a0, (.bool false)]) w) (
    blt P .len [T.string] T.int [false] [a0] w fun t13 w =>
    blt P .len [T.string] T.int [false] [a1] w fun t15 w =>
    bin P .sub T.int (.tmp 13) (.tmp 15) t13 t15 w fun t16 w =>
    slc P T.string a0 none (some t16) none w fun t17 w =>
    K (.tuple #[t17, (.bool true)]) w)
theorem r_stringslite_CutSuffix {a0 a1 : Value} {w : World} {K : Value → World → Prop} (h : g_stringslite_CutSuffix a0 a1 w K) : callF P F.stringslite_CutSuffix [a0, a1] w K :=
  rule_of [none, none, none, none, none] Try.func35 rfl (by decide) ((by kernel_rfl : g_stringslite_CutSuffix a0 a1 w K = denC P [none, none, none, none, none] (Ann.slots [none, none, none, none, none]) 0 (Try.f35.body.getD .skip) (retQ P Try.f35 K) (frame0 Try.f35 [a0, a1]) w) ▸ h)

/-- strings.CutSuffix -/
def g_strings_CutSuffix (a0 a1 : Value) (w : World) (K : Value → World → Prop) : Prop :=
  callF P F.stringslite_CutSuffix [a0, a1] w fun t8 w =>
  ext P t8 0 w fun t9 w =>
  ext P t8 1 w fun t10 w =>
  K (.tuple #[t9, t10]) w
theorem r_strings_CutSuffix {a0 a1 : Value} {w : World} {K : Value → World → Prop} (h : g_strings_CutSuffix a0 a1 w K) : callF P F.strings_CutSuffix [a0, a1] w K :=
  rule_of [none, none] Try.func30 rfl (by decide) ((by kernel_rfl : g_strings_CutSuffix a0 a1 w K = denC P [none, none] (Ann.slots [none, none]) 0 (Try.f30.body.getD .skip) (retQ P Try.f30 K) (frame0 Try.f30 [a0, a1]) w) ▸ h)

/-- squinch/kind.Elem -/
def g_kind_Elem (a0 : Value) (w : World) (K : Value → World → Prop) : Prop :=
  callF P F.strings_CutSuffix [a0, (.string ⟨#[91, 93]⟩)] w fun t7 w =>
  ext P t7 0 w fun t8 w =>
  ext P t7 1 w fun t9 w =>
  una P .not t9 w fun t11 w =>
  gop t11 false w (fun w J => J a0 w) fun t13 w =>
  gop t11 false w (callF P F.kind_Right [t13]) fun t14 w =>
  gop t11 false w (una P .not t14) fun t15 w =>
  pick P t11 (.bool true) t15 w fun t16 w =>
  cnd t16 (
    K (.string ⟨#[]⟩) w) (
    K t8 w)
theorem r_kind_Elem {a0 : Value} {w : World} {K : Value → World → Prop} (h : g_kind_Elem a0 w K) : callF P F.kind_Elem [a0] w K :=
  rule_of [none, none, none, none, none, none] Try.func19 rfl (by decide) ((by kernel_rfl : g_kind_Elem a0 w K = denC P [none, none, none, none, none, none] (Ann.slots [none, none, none, none, none, none]) 0 (Try.f19.body.getD .skip) (retQ P Try.f19 K) (frame0 Try.f19 [a0]) w) ▸ h)

/-- squinch/kind.Deep -/
def g_kind_Deep (a0 : Value) (w : World) (K : Value → World → Prop) : Prop :=
  callF P F.kind_base [a0] w fun t7 w =>
  ext P t7 0 w fun t8 w =>
  ext P t7 1 w fun t9 w =>
  callF P F.kind_Right [a0] w fun t11 w =>
  una P .not t11 w fun t12 w =>
  cnd t12 (
    K (.int .i64 0) w) (
    K t9 w)
theorem r_kind_Deep {a0 : Value} {w : World} {K : Value → World → Prop} (h : g_kind_Deep a0 w K) : callF P F.kind_Deep [a0] w K :=
  rule_of [none, none, none, none, none, none] Try.func21 rfl (by decide) ((by kernel_rfl : g_kind_Deep a0 w K = denC P [none, none, none, none, none, none] (Ann.slots [none, none, none, none, none, none]) 0 (Try.f21.body.getD .skip) (retQ P Try.f21 K) (frame0 Try.f21 [a0]) w) ▸ h)

/-- internal/stringslite.IndexByte -/
def g_stringslite_IndexByte (a0 a1 : Value) (w : World) (K : Value → World → Prop) : Prop :=
  callF P F.bytealg_IndexByteString [a0, a1] w fun t7 w =>
  K t7 w
theorem r_stringslite_IndexByte {a0 a1 : Value} {w : World} {K : Value → World → Prop} (h : g_stringslite_IndexByte a0 a1 w K) : callF P F.stringslite_IndexByte [a0, a1] w K :=
  rule_of [none, none] Try.func40 rfl (by decide) ((by kernel_rfl : g_stringslite_IndexByte a0 a1 w K = denC P [none, none] (Ann.slots [none, none]) 0 (Try.f40.body.getD .skip) (retQ P Try.f40 K) (frame0 Try.f40 [a0, a1]) w) ▸ h)

/-- internal/bytealg.Cutover -/
def g_bytealg_Cutover (a0 : Value) (w : World) (K : Value → World → Prop) : Prop :=
  bin P .add T.int (.tmp 3) (.const (.int .i64 16)) a0 (.int .i64 16) w fun t4 w =>
  bin P .quo T.int (.tmp 4) (.const (.int .i64 8)) t4 (.int .i64 8) w fun t5 w =>
  K t5 w
theorem r_bytealg_Cutover {a0 : Value} {w : World} {K : Value → World → Prop} (h : g_bytealg_Cutover a0 w K) : callF P F.bytealg_Cutover [a0] w K :=
  rule_of [none, none] Try.func42 rfl (by decide) ((by kernel_rfl : g_bytealg_Cutover a0 w K = denC P [none, none] (Ann.slots [none, none]) 0 (Try.f42.body.getD .skip) (retQ P Try.f42 K) (frame0 Try.f42 [a0]) w) ▸ h)

/-- internal/bytealg.hashStr[string] -/
def g_bytealg_hashStr_string (a0 : Value) (w : World) (K : Value → World → Prop) : Prop :=
  lp (α := Value × Value) ((.int .u32 0), (.int .i64 0)) w fun again4 x4 d_ w =>
    blt P .len [T.string] T.int [false] [a0] w fun t11 w =>
    bin P .lss T.int (.tmp 9) (.tmp 11) x4.2 t11 w fun t12 w =>
    cnd t12 (
      bin P .mul T.uint32 (.tmp 15) (.const (.int .u32 16777619)) x4.1 (.int .u32 16777619) w fun t16 w =>
      idx P T.string a0 x4.2 w fun t19 w =>
      conv P T.uint8 T.uint32 t19 w fun t20 w =>
      bin P .add T.uint32 (.tmp 16) (.tmp 20) t16 t20 w fun t21 w =>
      bin P .add T.int (.tmp 13) (.const (.int .i64 1)) x4.2 (.int .i64 1) w fun t14 w =>
      again4 (t21, t14) w) (
      blt P .len [T.string] T.int [false] [a0] w fun t23 w =>
      lp (α := Value × Value × Value) ((.int .u32 1), (.int .u32 16777619), t23) w fun again11 x11 d_ w =>
        bin P .gtr T.int (.tmp 24) (.const (.int .i64 0)) x11.2.2 (.int .i64 0) w fun t25 w =>
        cnd t25 (
          jn (α := Value) w (fun J15 w =>
            bin P .and T.int (.tmp 28) (.const (.int .i64 1)) x11.2.2 (.int .i64 1) w fun t29 w =>
            bin P .neq T.int (.tmp 29) (.const (.int .i64 0)) t29 (.int .i64 0) w fun t30 w =>
            cnd t30 (
              bin P .mul T.uint32 (.tmp 31) (.tmp 32) x11.1 x11.2.1 w fun t33 w =>
              J15 t33 w) (
              J15 x11.1 w)) fun z15 d_ w =>
          bin P .mul T.uint32 (.tmp 34) (.tmp 35) x11.2.1 x11.2.1 w fun t36 w =>
          bin P .shr T.int (.tmp 26) (.const (.int .u64 1)) x11.2.2 (.int .u64 1) w fun t27 w =>
          again11 (z15, t36, t27) w) (
          K (.tuple #[x4.1, x11.1]) w))
theorem r_bytealg_hashStr_string {a0 : Value} {w : World} {K : Value → World → Prop} (h : g_bytealg_hashStr_string a0 w K) : callF P F.bytealg_hashStr_string [a0] w K :=
  rule_of [none, none, none, none, some ([4, 5], [4, 5, 9, 10, 11, 12, 13, 14, 15, 16, 17, 18, 19, 20, 21]), none, none, none, none, none, none, some ([6, 7, 8], [6, 7, 8, 24, 25, 26, 27, 28, 29, 30, 31, 32, 33, 34, 35, 36]), none, none, none, some ([6], [6, 28, 29, 30, 31, 32, 33]), none, none] Try.func45 rfl (by decide) ((by kernel_rfl : g_bytealg_hashStr_string a0 w K = denC P [none, none, none, none, some ([4, 5], [4, 5, 9, 10, 11, 12, 13, 14, 15, 16, 17, 18, 19, 20, 21]), none, none, none, none, none, none, some ([6, 7, 8], [6, 7, 8, 24, 25, 26, 27, 28, 29, 30, 31, 32, 33, 34, 35, 36]), none, none, none, some ([6], [6, 28, 29, 30, 31, 32, 33]), none, none] (Ann.slots [none, none, none, none, some ([4, 5], [4, 5, 9, 10, 11, 12, 13, 14, 15, 16, 17, 18, 19, 20, 21]), none, none, none, none, none, none, some ([6, 7, 8], [6, 7, 8, 24, 25, 26, 27, 28, 29, 30, 31, 32, 33, 34, 35, 36]), none, none, none, some ([6], [6, 28, 29, 30, 31, 32, 33]), none, none]) 0 (Try.f45.body.getD .skip) (retQ P Try.f45 K) (frame0 Try.f45 [a0]) w) ▸ h)

/-- internal/bytealg.IndexRabinKarp[string] -/
def g_bytealg_IndexRabinKarp_string (a0 a1 : Value) (w : World) (K : Value → World → Prop) : Prop :=
  callF P F.bytealg_hashStr_string [a1] w fun t13 w =>
  ext P t13 0 w fun t14 w =>
  ext P t13 1 w fun t15 w =>
  blt P .len [T.string] T.int [false] [a1] w fun t17 w =>
  lp (α := Value × Value) ((.int .u32 0), (.int .i64 0)) w fun again6 x6 d_ w =>
    bin P .lss T.int (.tmp 18) (.tmp 19) x6.2 t17 w fun t20 w =>
    cnd t20 (
      bin P .mul T.uint32 (.tmp 23) (.const (.int .u32 16777619)) x6.1 (.int .u32 16777619) w fun t24 w =>
      idx P T.string a0 x6.2 w fun t27 w =>
      conv P T.uint8 T.uint32 t27 w fun t28 w =>
      bin P .add T.uint32 (.tmp 24) (.tmp 28) t24 t28 w fun t29 w =>
      bin P .add T.int (.tmp 21) (.const (.int .i64 1)) x6.2 (.int .i64 1) w fun t22 w =>
      again6 (t29, t22) w) (
      bin P .eql T.uint32 (.tmp 30) (.tmp 31) x6.1 t14 w fun t32 w =>
      gop t32 true w (fun w J => J a0 w) fun t34 w =>
      gop t32 true w (fun w J => J t17 w) fun t35 w =>
      gop t32 true w (slc P T.string t34 none (some t35) none) fun t36 w =>
      gop t32 true w (fun w J => J a1 w) fun t37 w =>
      gop t32 true w (bin P .eql T.string (.tmp 36) (.tmp 37) t36 t37) fun t38 w =>
      pick P t32 t38 (.bool false) w fun t39 w =>
      cnd t39 (
        K (.int .i64 0) w) (
        lp (α := Value × Value) (x6.1, t17) w fun again15 x15 d_ w =>
          blt P .len [T.string] T.int [false] [a0] w fun t43 w =>
          bin P .lss T.int (.tmp 41) (.tmp 43) x15.2 t43 w fun t44 w =>
          cnd t44 (
            bin P .mul T.uint32 (.tmp 45) (.const (.int .u32 16777619)) x15.1 (.int .u32 16777619) w fun t46 w =>
            idx P T.string a0 x15.2 w fun t50 w =>
            conv P T.uint8 T.uint32 t50 w fun t51 w =>
            bin P .add T.uint32 (.tmp 47) (.tmp 51) t46 t51 w fun t52 w =>
            bin P .sub T.int (.tmp 56) (.tmp 57) x15.2 t17 w fun t58 w =>
            idx P T.string a0 t58 w fun t59 w =>
            conv P T.uint8 T.uint32 t59 w fun t60 w =>
            bin P .mul T.uint32 (.tmp 54) (.tmp 60) t15 t60 w fun t61 w =>
            bin P .sub T.uint32 (.tmp 53) (.tmp 61) t52 t61 w fun t62 w =>
            bin P .add T.int (.tmp 63) (.const (.int .i64 1)) x15.2 (.int .i64 1) w fun t64 w =>
            bin P .eql T.uint32 (.tmp 65) (.tmp 66) t62 t14 w fun t67 w =>
            gop t67 true w (fun w J => J a0 w) fun t69 w =>
            gop t67 true w (fun w J => J t64 w) fun t70 w =>
            gop t67 true w (fun w J => J t17 w) fun t71 w =>
            gop t67 true w (bin P .sub T.int (.tmp 70) (.tmp 71) t70 t71) fun t72 w =>
            gop t67 true w (fun w J => J t64 w) fun t73 w =>
            gop t67 true w (slc P T.string t69 (some t72) (some t73) none) fun t74 w =>
            gop t67 true w (fun w J => J a1 w) fun t75 w =>
            gop t67 true w (bin P .eql T.string (.tmp 74) (.tmp 75) t74 t75) fun t76 w =>
            pick P t67 t76 (.bool false) w fun t77 w =>
            cnd t77 (
              bin P .sub T.int (.tmp 78) (.tmp 79) t64 t17 w fun t80 w =>
              K t80 w) (
              again15 (t62, t64) w)) (
            K (.int .i64 (-1)) w)))
theorem r_bytealg_IndexRabinKarp_string {a0 a1 : Value} {w : World} {K : Value → World → Prop} (h : g_bytealg_IndexRabinKarp_string a0 a1 w K) : callF P F.bytealg_IndexRabinKarp_string [a0, a1] w K :=
  rule_of [none, none, none, none, none, none, some ([8, 9], [8, 9, 18, 19, 20, 21, 22, 23, 24, 25, 26, 27, 28, 29]), none, none, none, none, none, none, none, none, some ([8, 10], [4, 8, 10, 41, 42, 43, 44, 45, 46, 47, 48, 49, 50, 51, 52, 53, 54, 55, 56, 57, 58, 59, 60, 61, 62, 63, 64, 65, 66, 67, 68, 69, 70, 71, 72, 73, 74, 75, 76, 77, 78, 79, 80]), none, none, none, none, none, none, none, none, none] Try.func43 rfl (by decide) ((by kernel_rfl : g_bytealg_IndexRabinKarp_string a0 a1 w K = denC P [none, none, none, none, none, none, some ([8, 9], [8, 9, 18, 19, 20, 21, 22, 23, 24, 25, 26, 27, 28, 29]), none, none, none, none, none, none, none, none, some ([8, 10], [4, 8, 10, 41, 42, 43, 44, 45, 46, 47, 48, 49, 50, 51, 52, 53, 54, 55, 56, 57, 58, 59, 60, 61, 62, 63, 64, 65, 66, 67, 68, 69, 70, 71, 72, 73, 74, 75, 76, 77, 78, 79, 80]), none, none, none, none, none, none, none, none, none] (Ann.slots [none, none, none, none, none, none, some ([8, 9], [8, 9, 18, 19, 20, 21, 22, 23, 24, 25, 26, 27, 28, 29]), none, none, none, none, none, none, none, none, some ([8, 10], [4, 8, 10, 41, 42, 43, 44, 45, 46, 47, 48, 49, 50, 51, 52, 53, 54, 55, 56, 57, 58, 59, 60, 61, 62, 63, 64, 65, 66, 67, 68, 69, 70, 71, 72, 73, 74, 75, 76, 77, 78, 79, 80]), none, none, none, none, none, none, none, none, none]) 0 (Try.f43.body.getD .skip) (retQ P Try.f43 K) (frame0 Try.f43 [a0, a1]) w) ▸ h)

/-- internal/stringslite.Index -/
def g_stringslite_Index (a0 a1 : Value) (w : World) (K : Value → World → Prop) : Prop :=
  blt P .len [T.string] T.int [false] [a1] w fun t15 w =>
  bin P .eql T.int (.tmp 17) (.const (.int .i64 0)) t15 (.int .i64 0) w fun t18 w =>
  gop t18 false w (fun w J => J a1 w) fun t20 w =>
  gop t18 false w (fun w J => J a0 w) fun t21 w =>
  gop t18 false w (bin P .eql T.string (.tmp 20) (.tmp 21) t20 t21) fun t22 w =>
  pick P t18 (.bool true) t22 w fun t23 w =>
  cnd t23 (
    K (.int .i64 0) w) (
    bin P .eql T.int (.tmp 25) (.const (.int .i64 1)) t15 (.int .i64 1) w fun t26 w =>
    cnd t26 (
      idx P T.string a1 (.int .i64 0) w fun t29 w =>
      callF P F.stringslite_IndexByte [a0, t29] w fun t30 w =>
      K t30 w) (
      blt P .len [T.string] T.int [false] [a0] w fun t34 w =>
      bin P .geq T.int (.tmp 32) (.tmp 34) t15 t34 w fun t35 w =>
      cnd t35 (
        K (.int .i64 (-1)) w) (
        ldv P T.int (.pointer (some ⟨G.bytealg_MaxLen, 0, none⟩)) w fun t38 w =>
        bin P .leq T.int (.tmp 37) (.tmp 38) t15 t38 w fun t39 w =>
        gop t39 true w (fun w J => J a0 w) fun t41 w =>
        gop t39 true w (blt P .len [T.string] T.int [false] [t41]) fun t42 w =>
        gop t39 true w (bin P .leq T.int (.tmp 42) (.const (.int .i64 64)) t42 (.int .i64 64)) fun t43 w =>
        pick P t39 t43 (.bool false) w fun t44 w =>
        cnd t44 (
          callF P F.bytealg_IndexString [a0, a1] w fun t47 w =>
          K t47 w) (
          idx P T.string a1 (.int .i64 0) w fun t49 w =>
          idx P T.string a1 (.int .i64 1) w fun t51 w =>
          blt P .len [T.string] T.int [false] [a0] w fun t53 w =>
          bin P .sub T.int (.tmp 53) (.tmp 54) t53 t15 w fun t55 w =>
          bin P .add T.int (.tmp 55) (.const (.int .i64 1)) t55 (.int .i64 1) w fun t56 w =>
          lp (α := Value × Value) ((.int .i64 0), (.int .i64 0)) w fun again17 x17 d_ w =>
            bin P .lss T.int (.tmp 57) (.tmp 58) x17.1 t56 w fun t59 w =>
            cnd t59 (
              jn (α := Value) w (fun J20 w =>
                idx P T.string a0 x17.1 w fun t62 w =>
                bin P .neq T.uint8 (.tmp 62) (.tmp 63) t62 t49 w fun t64 w =>
                cnd t64 (
                  bin P .add T.int (.tmp 66) (.const (.int .i64 1)) x17.1 (.int .i64 1) w fun t67 w =>
                  slc P T.string a0 (some t67) (some t56) none w fun t69 w =>
                  callF P F.stringslite_IndexByte [t69, t49] w fun t71 w =>
                  bin P .lss T.int (.tmp 72) (.const (.int .i64 0)) t71 (.int .i64 0) w fun t73 w =>
                  cnd t73 (
                    K (.int .i64 (-1)) w) (
                    bin P .add T.int (.tmp 75) (.const (.int .i64 1)) t71 (.int .i64 1) w fun t76 w =>
                    bin P .add T.int (.tmp 74) (.tmp 76) x17.1 t76 w fun t77 w =>
                    J20 t77 w)) (
                  J20 x17.1 w)) fun z20 d_ w =>
              bin P .add T.int (.tmp 79) (.const (.int .i64 1)) z20 (.int .i64 1) w fun t80 w =>
              idx P T.string a0 t80 w fun t81 w =>
              bin P .eql T.uint8 (.tmp 81) (.tmp 82) t81 t51 w fun t83 w =>
              gop t83 true w (fun w J => J a0 w) fun t85 w =>
              gop t83 true w (fun w J => J z20 w) fun t86 w =>
              gop t83 true w (fun w J => J z20 w) fun t87 w =>
              gop t83 true w (fun w J => J t15 w) fun t88 w =>
              gop t83 true w (bin P .add T.int (.tmp 87) (.tmp 88) t87 t88) fun t89 w =>
              gop t83 true w (slc P T.string t85 (some t86) (some t89) none) fun t90 w =>
              gop t83 true w (fun w J => J a1 w) fun t91 w =>
              gop t83 true w (bin P .eql T.string (.tmp 90) (.tmp 91) t90 t91) fun t92 w =>
              pick P t83 t92 (.bool false) w fun t93 w =>
              cnd t93 (
                K z20 w) (
                bin P .add T.int (.tmp 95) (.const (.int .i64 1)) z20 (.int .i64 1) w fun t96 w =>
                bin P .add T.int (.tmp 97) (.const (.int .i64 1)) x17.2 (.int .i64 1) w fun t98 w =>
                ldv P T.int (.pointer (some ⟨G.bytealg_MaxLen, 0, none⟩)) w fun t100 w =>
                bin P .leq T.int (.tmp 99) (.tmp 100) t15 t100 w fun t101 w =>
                gop t101 true w (fun w J => J t98 w) fun t103 w =>
                gop t101 true w (fun w J => J t96 w) fun t104 w =>
                gop t101 true w (callF P F.bytealg_Cutover [t104]) fun t105 w =>
                gop t101 true w (bin P .gtr T.int (.tmp 103) (.tmp 105) t103 t105) fun t106 w =>
                pick P t101 t106 (.bool false) w fun t107 w =>
                cnd t107 (
                  slc P T.string a0 (some t96) none none w fun t110 w =>
                  callF P F.bytealg_IndexString [t110, a1] w fun t112 w =>
                  bin P .geq T.int (.tmp 113) (.const (.int .i64 0)) t112 (.int .i64 0) w fun t114 w =>
                  cnd t114 (
                    bin P .add T.int (.tmp 115) (.tmp 116) t112 t96 w fun t117 w =>
                    K t117 w) (
                    K (.int .i64 (-1)) w)) (
                  ldv P T.int (.pointer (some ⟨G.bytealg_MaxLen, 0, none⟩)) w fun t119 w =>
                  bin P .gtr T.int (.tmp 118) (.tmp 119) t15 t119 w fun t120 w =>
                  gop t120 true w (fun w J => J t98 w) fun t122 w =>
                  gop t120 true w (fun w J => J t96 w) fun t123 w =>
                  gop t120 true w (bin P .shr T.int (.tmp 123) (.const (.int .u64 4)) t123 (.int .u64 4)) fun t124 w =>
                  gop t120 true w (bin P .add T.int (.const (.int .i64 4)) (.tmp 124) (.int .i64 4) t124) fun t125 w =>
                  gop t120 true w (bin P .geq T.int (.tmp 122) (.tmp 125) t122 t125) fun t126 w =>
                  pick P t120 t126 (.bool false) w fun t127 w =>
                  gop t127 true w (fun w J => J t96 w) fun t129 w =>
                  gop t127 true w (fun w J => J t56 w) fun t130 w =>
                  gop t127 true w (bin P .lss T.int (.tmp 129) (.tmp 130) t129 t130) fun t131 w =>
                  pick P t127 t131 (.bool false) w fun t132 w =>
                  cnd t132 (
                    slc P T.string a0 (some t96) none none w fun t135 w =>
                    callF P F.bytealg_IndexRabinKarp_string [t135, a1] w fun t137 w =>
                    bin P .lss T.int (.tmp 138) (.const (.int .i64 0)) t137 (.int .i64 0) w fun t139 w =>
                    cnd t139 (
                      K (.int .i64 (-1)) w) (
                      bin P .add T.int (.tmp 140) (.tmp 141) t96 t137 w fun t142 w =>
                      K t142 w)) (
                    again17 (t96, t98) w)))) (
              K (.int .i64 (-1)) w)))))
theorem r_stringslite_Index {a0 a1 : Value} {w : World} {K : Value → World → Prop} (h : g_stringslite_Index a0 a1 w K) : callF P F.stringslite_Index [a0, a1] w K :=
  rule_of [none, none, none, none, none, none, none, none, none, none, none, none, none, none, none, none, none, some ([8, 10], [4, 8, 10, 11, 12, 13, 57, 58, 59, 60, 61, 62, 63, 64, 65, 66, 67, 68, 69, 70, 71, 72, 73, 74, 75, 76, 77, 78, 79, 80, 81, 82, 83, 84, 85, 86, 87, 88, 89, 90, 91, 92, 93, 94, 95, 96, 97, 98, 99, 100, 101, 102, 103, 104, 105, 106, 107, 108, 109, 110, 111, 112, 113, 114, 115, 116, 117, 118, 119, 120, 121, 122, 123, 124, 125, 126, 127, 128, 129, 130, 131, 132, 133, 134, 135, 136, 137, 138, 139, 140, 141, 142]), none, none, some ([8], [4, 8, 11, 60, 61, 62, 63, 64, 65, 66, 67, 68, 69, 70, 71, 72, 73, 74, 75, 76, 77]), none, none, none, none, none, none, none, none, none, none, none, none, none, none, none, none, none, none, none, none, none, none, none] Try.func39 rfl (by decide) ((by kernel_rfl : g_stringslite_Index a0 a1 w K = denC P [none, none, none, none, none, none, none, none, none, none, none, none, none, none, none, none, none, some ([8, 10], [4, 8, 10, 11, 12, 13, 57, 58, 59, 60, 61, 62, 63, 64, 65, 66, 67, 68, 69, 70, 71, 72, 73, 74, 75, 76, 77, 78, 79, 80, 81, 82, 83, 84, 85, 86, 87, 88, 89, 90, 91, 92, 93, 94, 95, 96, 97, 98, 99, 100, 101, 102, 103, 104, 105, 106, 107, 108, 109, 110, 111, 112, 113, 114, 115, 116, 117, 118, 119, 120, 121, 122, 123, 124, 125, 126, 127, 128, 129, 130, 131, 132, 133, 134, 135, 136, 137, 138, 139, 140, 141, 142]), none, none, some ([8], [4, 8, 11, 60, 61, 62, 63, 64, 65, 66, 67, 68, 69, 70, 71, 72, 73, 74, 75, 76, 77]), none, none, none, none, none, none, none, none, none, none, none, none, none, none, none, none, none, none, none, none, none, none, none] (Ann.slots [none, none, none, none, none, none, none, none, none, none, none, none, none, none, none, none, none, some ([8, 10], [4, 8, 10, 11, 12, 13, 57, 58, 59, 60, 61, 62, 63, 64, 65, 66, 67, 68, 69, 70, 71, 72, 73, 74, 75, 76, 77, 78, 79, 80, 81, 82, 83, 84, 85, 86, 87, 88, 89, 90, 91, 92, 93, 94, 95, 96, 97, 98, 99, 100, 101, 102, 103, 104, 105, 106, 107, 108, 109, 110, 111, 112, 113, 114, 115, 116, 117, 118, 119, 120, 121, 122, 123, 124, 125, 126, 127, 128, 129, 130, 131, 132, 133, 134, 135, 136, 137, 138, 139, 140, 141, 142]), none, none, some ([8], [4, 8, 11, 60, 61, 62, 63, 64, 65, 66, 67, 68, 69, 70, 71, 72, 73, 74, 75, 76, 77]), none, none, none, none, none, none, none, none, none, none, none, none, none, none, none, none, none, none, none, none, none, none, none]) 0 (Try.f39.body.getD .skip) (retQ P Try.f39 K) (frame0 Try.f39 [a0, a1]) w) ▸ h)

/-- internal/stringslite.Cut -/
def g_stringslite_Cut (a0 a1 : Value) (w : World) (K : Value → World → Prop) : Prop :=
  callF P F.stringslite_Index [a0, a1] w fun t10 w =>
  bin P .geq T.int (.tmp 11) (.const (.int .i64 0)) t10 (.int .i64 0) w fun t12 w =>
  cnd t12 (
    dr w fun Tr Br =>
    dop Tr (fun φ15 => ∀ w : World, Br w → slc P T.string a0 none (some t10) none w (dk Tr φ15 w)) fun φ15 =>
    dop Tr (fun φ19 => ∀ w : World, Br w → blt P .len [T.string] T.int [false] [a1] w (dk Tr φ19 w)) fun φ19 =>
    dop Tr (fun φ20 => ∀ t19 : Value, ∀ w : World, Br w → φ19 t19 w → bin P .add T.int (.tmp 17) (.tmp 19) t10 t19 w (dk Tr φ20 w)) fun φ20 =>
    dop Tr (fun φ21 => ∀ t20 : Value, ∀ w : World, Br w → φ20 t20 w → slc P T.string a0 (some t20) none none w (dk Tr φ21 w)) fun φ21 =>
    ∀ t15 : Value, ∀ t19 : Value, ∀ t20 : Value, ∀ t21 : Value, ∀ w : World, Br w → φ15 t15 w → φ19 t19 w → φ20 t20 w → φ21 t21 w → 
    K (.tuple #[t15, t21, (.bool true)]) w) (
    K (.tuple #[a0, (.string ⟨#[]⟩), (.bool false)]) w)
theorem r_stringslite_Cut {a0 a1 : Value} {w : World} {K : Value → World → Prop} (h : g_stringslite_Cut a0 a1 w K) : callF P F.stringslite_Cut [a0, a1] w K :=
  rule_of [none, none, none, none, none, none] Try.func36 rfl (by decide) ((by kernel_rfl : g_stringslite_Cut a0 a1 w K = denC P [none, none, none, none, none, none] (Ann.slots [none, none, none, none, none, none]) 0 (Try.f36.body.getD .skip) (retQ P Try.f36 K) (frame0 Try.f36 [a0, a1]) w) ▸ h)

/-- strings.Cut -/
def g_strings_Cut (a0 a1 : Value) (w : World) (K : Value → World → Prop) : Prop :=
  callF P F.stringslite_Cut [a0, a1] w fun t9 w =>
  ext P t9 0 w fun t10 w =>
  ext P t9 1 w fun t11 w =>
  ext P t9 2 w fun t12 w =>
  K (.tuple #[t10, t11, t12]) w
theorem r_strings_Cut {a0 a1 : Value} {w : World} {K : Value → World → Prop} (h : g_strings_Cut a0 a1 w K) : callF P F.strings_Cut [a0, a1] w K :=
  rule_of [none, none] Try.func31 rfl (by decide) ((by kernel_rfl : g_strings_Cut a0 a1 w K = denC P [none, none] (Ann.slots [none, none]) 0 (Try.f31.body.getD .skip) (retQ P Try.f31 K) (frame0 Try.f31 [a0, a1]) w) ▸ h)

/-- squinch/kind.Parts -/
def g_kind_Parts (a0 : Value) (w : World) (K : Value → World → Prop) : Prop :=
  callF P F.strings_Cut [a0, (.string ⟨#[46]⟩)] w fun t10 w =>
  ext P t10 0 w fun t11 w =>
  ext P t10 1 w fun t12 w =>
  ext P t10 2 w fun t13 w =>
  una P .not t13 w fun t15 w =>
  gop t15 false w (fun w J => J t11 w) fun t17 w =>
  gop t15 false w (callF P F.kind_Class [t17]) fun t18 w =>
  gop t15 false w (una P .not t18) fun t19 w =>
  pick P t15 (.bool true) t19 w fun t20 w =>
  gop t20 false w (fun w J => J t12 w) fun t22 w =>
  gop t20 false w (callF P F.kind_Name [t22]) fun t23 w =>
  gop t20 false w (una P .not t23) fun t24 w =>
  pick P t20 (.bool true) t24 w fun t25 w =>
  gop t25 false w (fun w J => J t12 w) fun t27 w =>
  gop t25 false w (idx P T.string t27 (.int .i64 0)) fun t28 w =>
  gop t25 false w (conv P T.uint8 T.int32 t28) fun t29 w =>
  gop t25 false w (callF P F.kind_small [t29]) fun t30 w =>
  gop t25 false w (una P .not t30) fun t31 w =>
  pick P t25 (.bool true) t31 w fun t32 w =>
  cnd t32 (
    K (.tuple #[(.string ⟨#[]⟩), (.string ⟨#[]⟩), (.int .i64 30)]) w) (
    K (.tuple #[t11, t12, (.int .i64 0)]) w)
theorem r_kind_Parts {a0 : Value} {w : World} {K : Value → World → Prop} (h : g_kind_Parts a0 w K) : callF P F.kind_Parts [a0] w K :=
  rule_of [none, none, none, none, none, none] Try.func22 rfl (by decide) ((by kernel_rfl : g_kind_Parts a0 w K = denC P [none, none, none, none, none, none] (Ann.slots [none, none, none, none, none, none]) 0 (Try.f22.body.getD .skip) (retQ P Try.f22 K) (frame0 Try.f22 [a0]) w) ▸ h)

/-- squinch/squinchlaw03.awake -/
def g_squinchlaw03_awake (w : World) (K : Value → World → Prop) : Prop :=
  callF P F.kind_Parts [(.string ⟨#[78, 111, 100, 101, 46, 110, 101, 120, 116]⟩)] w fun t5 w =>
  ext P t5 0 w fun t6 w =>
  ext P t5 1 w fun t7 w =>
  ext P t5 2 w fun t8 w =>
  callF P F.kind_Right [(.string ⟨#[78, 111, 100, 101, 91, 93, 91, 93]⟩)] w fun t9 w =>
  gop t9 true w (callF P F.kind_Elem [(.string ⟨#[78, 111, 100, 101, 91, 93, 91, 93]⟩)]) fun t11 w =>
  gop t9 true w (bin P .eql T.string (.tmp 11) (.const (.string ⟨#[78, 111, 100, 101, 91, 93]⟩)) t11 (.string ⟨#[78, 111, 100, 101, 91, 93]⟩)) fun t12 w =>
  pick P t9 t12 (.bool false) w fun t13 w =>
  gop t13 true w (callF P F.kind_Deep [(.string ⟨#[78, 111, 100, 101, 91, 93, 91, 93]⟩)]) fun t15 w =>
  gop t13 true w (bin P .eql T.int (.tmp 15) (.const (.int .i64 2)) t15 (.int .i64 2)) fun t16 w =>
  pick P t13 t16 (.bool false) w fun t17 w =>
  gop t17 true w (fun w J => J t6 w) fun t19 w =>
  gop t17 true w (bin P .eql T.string (.tmp 19) (.const (.string ⟨#[78, 111, 100, 101]⟩)) t19 (.string ⟨#[78, 111, 100, 101]⟩)) fun t20 w =>
  pick P t17 t20 (.bool false) w fun t21 w =>
  gop t21 true w (fun w J => J t7 w) fun t23 w =>
  gop t21 true w (bin P .eql T.string (.tmp 23) (.const (.string ⟨#[110, 101, 120, 116]⟩)) t23 (.string ⟨#[110, 101, 120, 116]⟩)) fun t24 w =>
  pick P t21 t24 (.bool false) w fun t25 w =>
  gop t25 true w (fun w J => J t8 w) fun t27 w =>
  gop t25 true w (bin P .eql T.api_Errno (.tmp 27) (.const (.int .i64 0)) t27 (.int .i64 0)) fun t28 w =>
  pick P t25 t28 (.bool false) w fun t29 w =>
  gop t29 true w (callF P F.kind_Right [(.string ⟨#[110, 111, 100, 101]⟩)]) fun t31 w =>
  gop t29 true w (una P .not t31) fun t32 w =>
  pick P t29 t32 (.bool false) w fun t33 w =>
  gop t33 true w (callF P F.kind_Plain [(.string ⟨#[105, 110, 116]⟩)]) fun t35 w =>
  pick P t33 t35 (.bool false) w fun t36 w =>
  K t36 w
theorem r_squinchlaw03_awake {w : World} {K : Value → World → Prop} (h : g_squinchlaw03_awake  w K) : callF P F.squinchlaw03_awake [] w K :=
  rule_of [none, none, none] Try.func9 rfl (by decide) ((by kernel_rfl : g_squinchlaw03_awake  w K = denC P [none, none, none] (Ann.slots [none, none, none]) 0 (Try.f9.body.getD .skip) (retQ P Try.f9 K) (frame0 Try.f9 []) w) ▸ h)

/-- squinch/squinchref03.Plain -/
def g_squinchref03_Plain (a0 : Value) (w : World) (K : Value → World → Prop) : Prop :=
  jn (α := Value) w (fun J3 w =>
    bin P .eql T.string (.tmp 3) (.const (.string ⟨#[105, 110, 116]⟩)) a0 (.string ⟨#[105, 110, 116]⟩) w fun t5 w =>
    cnd t5 (
      J3 t5 w) (
      bin P .eql T.string (.tmp 3) (.const (.string ⟨#[98, 111, 111, 108]⟩)) a0 (.string ⟨#[98, 111, 111, 108]⟩) w fun t6 w =>
      cnd t6 (
        J3 t6 w) (
        bin P .eql T.string (.tmp 3) (.const (.string ⟨#[116, 101, 120, 116]⟩)) a0 (.string ⟨#[116, 101, 120, 116]⟩) w fun t7 w =>
        J3 t7 w))) fun z3 d_ w =>
  cnd z3 (
    K (.bool true) w) (
    K (.bool false) w)
theorem r_squinchref03_Plain {a0 : Value} {w : World} {K : Value → World → Prop} (h : g_squinchref03_Plain a0 w K) : callF P F.squinchref03_Plain [a0] w K :=
  rule_of [none, none, none, some ([4], [4, 5, 6, 7]), none, none, none, none] Try.func15 rfl (by decide) ((by kernel_rfl : g_squinchref03_Plain a0 w K = denC P [none, none, none, some ([4], [4, 5, 6, 7]), none, none, none, none] (Ann.slots [none, none, none, some ([4], [4, 5, 6, 7]), none, none, none, none]) 0 (Try.f15.body.getD .skip) (retQ P Try.f15 K) (frame0 Try.f15 [a0]) w) ▸ h)

/-- squinch/squinchref03.Name -/
def g_squinchref03_Name (a0 : Value) (w : World) (K : Value → World → Prop) : Prop :=
  lp (α := Value) (.int .i64 0) w fun again3 x3 d_ w =>
    blt P .len [T.string] T.int [false] [a0] w fun t7 w =>
    bin P .lss T.int (.tmp 5) (.tmp 7) x3 t7 w fun t8 w =>
    cnd t8 (
      idx P T.string a0 x3 w fun t13 w =>
      bin P .geq T.uint8 (.tmp 13) (.const (.int .u8 97)) t13 (.int .u8 97) w fun t14 w =>
      gop t14 true w (fun w J => J a0 w) fun t16 w =>
      gop t14 true w (fun w J => J x3 w) fun t17 w =>
      gop t14 true w (idx P T.string t16 t17) fun t18 w =>
      gop t14 true w (bin P .leq T.uint8 (.tmp 18) (.const (.int .u8 122)) t18 (.int .u8 122)) fun t19 w =>
      pick P t14 t19 (.bool false) w fun t20 w =>
      gop t20 false w (fun w J => J a0 w) fun t22 w =>
      gop t20 false w (fun w J => J x3 w) fun t23 w =>
      gop t20 false w (idx P T.string t22 t23) fun t24 w =>
      gop t20 false w (bin P .geq T.uint8 (.tmp 24) (.const (.int .u8 65)) t24 (.int .u8 65)) fun t25 w =>
      gop t20 false w (fun w J => J t25 w) fun t26 w =>
      gop t26 true w (fun w J => J a0 w) fun t27 w =>
      gop t26 true w (fun w J => J x3 w) fun t28 w =>
      gop t26 true w (idx P T.string t27 t28) fun t29 w =>
      gop t26 true w (bin P .leq T.uint8 (.tmp 29) (.const (.int .u8 90)) t29 (.int .u8 90)) fun t30 w =>
      gop t20 false w (pick P t26 t30 (.bool false)) fun t31 w =>
      pick P t20 (.bool true) t31 w fun t32 w =>
      una P .not t32 w fun t34 w =>
      gop t34 true w (fun w J => J x3 w) fun t36 w =>
      gop t34 true w (bin P .eql T.int (.tmp 36) (.const (.int .i64 0)) t36 (.int .i64 0)) fun t37 w =>
      gop t34 true w (fun w J => J t37 w) fun t38 w =>
      gop t38 false w (fun w J => J a0 w) fun t39 w =>
      gop t38 false w (fun w J => J x3 w) fun t40 w =>
      gop t38 false w (idx P T.string t39 t40) fun t41 w =>
      gop t38 false w (bin P .lss T.uint8 (.tmp 41) (.const (.int .u8 48)) t41 (.int .u8 48)) fun t42 w =>
      gop t34 true w (pick P t38 (.bool true) t42) fun t43 w =>
      gop t34 true w (fun w J => J t43 w) fun t44 w =>
      gop t44 false w (fun w J => J a0 w) fun t45 w =>
      gop t44 false w (fun w J => J x3 w) fun t46 w =>
      gop t44 false w (idx P T.string t45 t46) fun t47 w =>
      gop t44 false w (bin P .gtr T.uint8 (.tmp 47) (.const (.int .u8 57)) t47 (.int .u8 57)) fun t48 w =>
      gop t34 true w (pick P t44 (.bool true) t48) fun t49 w =>
      pick P t34 t49 (.bool false) w fun t50 w =>
      cnd t50 (
        K (.bool false) w) (
        bin P .add T.int (.tmp 9) (.const (.int .i64 1)) x3 (.int .i64 1) w fun t10 w =>
        again3 t10 w)) (
      blt P .len [T.string] T.int [false] [a0] w fun t52 w =>
      bin P .geq T.int (.tmp 52) (.const (.int .i64 1)) t52 (.int .i64 1) w fun t53 w =>
      gop t53 true w (fun w J => J a0 w) fun t55 w =>
      gop t53 true w (blt P .len [T.string] T.int [false] [t55]) fun t56 w =>
      gop t53 true w (bin P .leq T.int (.tmp 56) (.const (.int .i64 32)) t56 (.int .i64 32)) fun t57 w =>
      pick P t53 t57 (.bool false) w fun t58 w =>
      K t58 w)
theorem r_squinchref03_Name {a0 : Value} {w : World} {K : Value → World → Prop} (h : g_squinchref03_Name a0 w K) : callF P F.squinchref03_Name [a0] w K :=
  rule_of [none, none, none, some ([3], [2, 3, 4, 5, 6, 7, 8, 9, 10, 11, 12, 13, 14, 15, 16, 17, 18, 19, 20, 21, 22, 23, 24, 25, 26, 27, 28, 29, 30, 31, 32, 33, 34, 35, 36, 37, 38, 39, 40, 41, 42, 43, 44, 45, 46, 47, 48, 49, 50]), none, none, none, none, none, none, none] Try.func13 rfl (by decide) ((by kernel_rfl : g_squinchref03_Name a0 w K = denC P [none, none, none, some ([3], [2, 3, 4, 5, 6, 7, 8, 9, 10, 11, 12, 13, 14, 15, 16, 17, 18, 19, 20, 21, 22, 23, 24, 25, 26, 27, 28, 29, 30, 31, 32, 33, 34, 35, 36, 37, 38, 39, 40, 41, 42, 43, 44, 45, 46, 47, 48, 49, 50]), none, none, none, none, none, none, none] (Ann.slots [none, none, none, some ([3], [2, 3, 4, 5, 6, 7, 8, 9, 10, 11, 12, 13, 14, 15, 16, 17, 18, 19, 20, 21, 22, 23, 24, 25, 26, 27, 28, 29, 30, 31, 32, 33, 34, 35, 36, 37, 38, 39, 40, 41, 42, 43, 44, 45, 46, 47, 48, 49, 50]), none, none, none, none, none, none, none]) 0 (Try.f13.body.getD .skip) (retQ P Try.f13 K) (frame0 Try.f13 [a0]) w) ▸ h)

/-- squinch/squinchref03.Class -/
def g_squinchref03_Class (a0 : Value) (w : World) (K : Value → World → Prop) : Prop :=
  callF P F.squinchref03_Name [a0] w fun t4 w =>
  gop t4 true w (fun w J => J a0 w) fun t6 w =>
  gop t4 true w (idx P T.string t6 (.int .i64 0)) fun t7 w =>
  gop t4 true w (bin P .leq T.uint8 (.tmp 7) (.const (.int .u8 90)) t7 (.int .u8 90)) fun t8 w =>
  pick P t4 t8 (.bool false) w fun t9 w =>
  K t9 w
theorem r_squinchref03_Class {a0 : Value} {w : World} {K : Value → World → Prop} (h : g_squinchref03_Class a0 w K) : callF P F.squinchref03_Class [a0] w K :=
  rule_of [none, none] Try.func17 rfl (by decide) ((by kernel_rfl : g_squinchref03_Class a0 w K = denC P [none, none] (Ann.slots [none, none]) 0 (Try.f17.body.getD .skip) (retQ P Try.f17 K) (frame0 Try.f17 [a0]) w) ▸ h)

/-- squinch/squinchref03.Deep -/
def g_squinchref03_Deep (a0 : Value) (w : World) (K : Value → World → Prop) : Prop :=
  lp (α := Value × Value) (a0, (.int .i64 0)) w fun again3 x3 d_ w =>
    blt P .len [T.string] T.int [false] [x3.1] w fun t5 w =>
    bin P .geq T.int (.tmp 5) (.const (.int .i64 2)) t5 (.int .i64 2) w fun t6 w =>
    gop t6 true w (fun w J => J x3.1 w) fun t8 w =>
    gop t6 true w (fun w J => J x3.1 w) fun t9 w =>
    gop t6 true w (blt P .len [T.string] T.int [false] [t9]) fun t10 w =>
    gop t6 true w (bin P .sub T.int (.tmp 10) (.const (.int .i64 2)) t10 (.int .i64 2)) fun t11 w =>
    gop t6 true w (slc P T.string t8 (some t11) none none) fun t12 w =>
    gop t6 true w (bin P .eql T.string (.tmp 12) (.const (.string ⟨#[91, 93]⟩)) t12 (.string ⟨#[91, 93]⟩)) fun t13 w =>
    pick P t6 t13 (.bool false) w fun t14 w =>
    cnd t14 (
      bin P .add T.int (.tmp 15) (.const (.int .i64 1)) x3.2 (.int .i64 1) w fun t16 w =>
      blt P .len [T.string] T.int [false] [x3.1] w fun t19 w =>
      bin P .sub T.int (.tmp 19) (.const (.int .i64 2)) t19 (.int .i64 2) w fun t20 w =>
      slc P T.string x3.1 none (some t20) none w fun t21 w =>
      again3 (t21, t16) w) (
      K x3.2 w)
theorem r_squinchref03_Deep {a0 : Value} {w : World} {K : Value → World → Prop} (h : g_squinchref03_Deep a0 w K) : callF P F.squinchref03_Deep [a0] w K :=
  rule_of [none, none, none, some ([0, 3], [0, 3, 4, 5, 6, 7, 8, 9, 10, 11, 12, 13, 14, 15, 16, 17, 18, 19, 20, 21]), none, none, none, none] Try.func18 rfl (by decide) ((by kernel_rfl : g_squinchref03_Deep a0 w K = denC P [none, none, none, some ([0, 3], [0, 3, 4, 5, 6, 7, 8, 9, 10, 11, 12, 13, 14, 15, 16, 17, 18, 19, 20, 21]), none, none, none, none] (Ann.slots [none, none, none, some ([0, 3], [0, 3, 4, 5, 6, 7, 8, 9, 10, 11, 12, 13, 14, 15, 16, 17, 18, 19, 20, 21]), none, none, none, none]) 0 (Try.f18.body.getD .skip) (retQ P Try.f18 K) (frame0 Try.f18 [a0]) w) ▸ h)

/-- squinch/squinchref03.Right -/
def g_squinchref03_Right (a0 : Value) (w : World) (K : Value → World → Prop) : Prop :=
  callF P F.squinchref03_Deep [a0] w fun t6 w =>
  blt P .len [T.string] T.int [false] [a0] w fun t9 w =>
  bin P .mul T.int (.const (.int .i64 2)) (.tmp 10) (.int .i64 2) t6 w fun t11 w =>
  bin P .sub T.int (.tmp 9) (.tmp 11) t9 t11 w fun t12 w =>
  slc P T.string a0 none (some t12) none w fun t13 w =>
  bin P .leq T.int (.tmp 14) (.const (.int .i64 3)) t6 (.int .i64 3) w fun t15 w =>
  gop t15 true w (fun w J => J t13 w) fun t17 w =>
  gop t15 true w (callF P F.squinchref03_Plain [t17]) fun t18 w =>
  gop t15 true w (fun w J => J t18 w) fun t19 w =>
  gop t19 false w (fun w J => J t13 w) fun t20 w =>
  gop t19 false w (callF P F.squinchref03_Class [t20]) fun t21 w =>
  gop t15 true w (pick P t19 (.bool true) t21) fun t22 w =>
  pick P t15 t22 (.bool false) w fun t23 w =>
  K t23 w
theorem r_squinchref03_Right {a0 : Value} {w : World} {K : Value → World → Prop} (h : g_squinchref03_Right a0 w K) : callF P F.squinchref03_Right [a0] w K :=
  rule_of [none, none, none, none] Try.func11 rfl (by decide) ((by kernel_rfl : g_squinchref03_Right a0 w K = denC P [none, none, none, none] (Ann.slots [none, none, none, none]) 0 (Try.f11.body.getD .skip) (retQ P Try.f11 K) (frame0 Try.f11 [a0]) w) ▸ h)

/-- squinch/squinchlaw03.KindRight -/
def g_squinchlaw03_KindRight (a0 : Value) (w : World) (K : Value → World → Prop) : Prop :=
  blt P .len [T.string] T.int [false] [a0] w fun t4 w =>
  bin P .gtr T.int (.tmp 4) (.const (.int .i64 300)) t4 (.int .i64 300) w fun t5 w =>
  cnd t5 (
    callF P F.squinchlaw03_awake [] w fun t6 w =>
    K t6 w) (
    callF P F.squinchlaw03_awake [] w fun t7 w =>
    gop t7 true w (fun w J => J a0 w) fun t9 w =>
    gop t7 true w (callF P F.kind_Right [t9]) fun t10 w =>
    gop t7 true w (fun w J => J a0 w) fun t11 w =>
    gop t7 true w (callF P F.squinchref03_Right [t11]) fun t12 w =>
    gop t7 true w (bin P .eql T.bool (.tmp 10) (.tmp 12) t10 t12) fun t13 w =>
    pick P t7 t13 (.bool false) w fun t14 w =>
    gop t14 true w (fun w J => J a0 w) fun t16 w =>
    gop t14 true w (callF P F.kind_Name [t16]) fun t17 w =>
    gop t14 true w (fun w J => J a0 w) fun t18 w =>
    gop t14 true w (callF P F.squinchref03_Name [t18]) fun t19 w =>
    gop t14 true w (bin P .eql T.bool (.tmp 17) (.tmp 19) t17 t19) fun t20 w =>
    pick P t14 t20 (.bool false) w fun t21 w =>
    gop t21 true w (fun w J => J a0 w) fun t23 w =>
    gop t21 true w (callF P F.kind_Plain [t23]) fun t24 w =>
    gop t21 true w (fun w J => J a0 w) fun t25 w =>
    gop t21 true w (callF P F.squinchref03_Plain [t25]) fun t26 w =>
    gop t21 true w (bin P .eql T.bool (.tmp 24) (.tmp 26) t24 t26) fun t27 w =>
    pick P t21 t27 (.bool false) w fun t28 w =>
    gop t28 true w (fun w J => J a0 w) fun t30 w =>
    gop t28 true w (callF P F.kind_Class [t30]) fun t31 w =>
    gop t28 true w (fun w J => J a0 w) fun t32 w =>
    gop t28 true w (callF P F.squinchref03_Class [t32]) fun t33 w =>
    gop t28 true w (bin P .eql T.bool (.tmp 31) (.tmp 33) t31 t33) fun t34 w =>
    pick P t28 t34 (.bool false) w fun t35 w =>
    K t35 w)
theorem r_squinchlaw03_KindRight {a0 : Value} {w : World} {K : Value → World → Prop} (h : g_squinchlaw03_KindRight a0 w K) : callF P F.squinchlaw03_KindRight [a0] w K :=
  rule_of [none, none, none, none, none] Try.func3 rfl (by decide) ((by kernel_rfl : g_squinchlaw03_KindRight a0 w K = denC P [none, none, none, none, none] (Ann.slots [none, none, none, none, none]) 0 (Try.f3.body.getD .skip) (retQ P Try.f3 K) (frame0 Try.f3 [a0]) w) ▸ h)

/-- squinch/squinchref03.Elem -/
def g_squinchref03_Elem (a0 : Value) (w : World) (K : Value → World → Prop) : Prop :=
  blt P .len [T.string] T.int [false] [a0] w fun t5 w =>
  bin P .lss T.int (.tmp 6) (.const (.int .i64 3)) t5 (.int .i64 3) w fun t7 w =>
  gop t7 false w (fun w J => J a0 w) fun t9 w =>
  gop t7 false w (fun w J => J t5 w) fun t10 w =>
  gop t7 false w (bin P .sub T.int (.tmp 10) (.const (.int .i64 2)) t10 (.int .i64 2)) fun t11 w =>
  gop t7 false w (slc P T.string t9 (some t11) none none) fun t12 w =>
  gop t7 false w (bin P .neq T.string (.tmp 12) (.const (.string ⟨#[91, 93]⟩)) t12 (.string ⟨#[91, 93]⟩)) fun t13 w =>
  pick P t7 (.bool true) t13 w fun t14 w =>
  gop t14 false w (fun w J => J a0 w) fun t16 w =>
  gop t14 false w (callF P F.squinchref03_Deep [t16]) fun t17 w =>
  gop t14 false w (bin P .gtr T.int (.tmp 17) (.const (.int .i64 3)) t17 (.int .i64 3)) fun t18 w =>
  pick P t14 (.bool true) t18 w fun t19 w =>
  gop t19 false w (fun w J => J a0 w) fun t21 w =>
  gop t19 false w (callF P F.squinchref03_Right [t21]) fun t22 w =>
  gop t19 false w (una P .not t22) fun t23 w =>
  pick P t19 (.bool true) t23 w fun t24 w =>
  cnd t24 (
    K (.string ⟨#[]⟩) w) (
    bin P .sub T.int (.tmp 26) (.const (.int .i64 2)) t5 (.int .i64 2) w fun t27 w =>
    slc P T.string a0 none (some t27) none w fun t28 w =>
    K t28 w)
theorem r_squinchref03_Elem {a0 : Value} {w : World} {K : Value → World → Prop} (h : g_squinchref03_Elem a0 w K) : callF P F.squinchref03_Elem [a0] w K :=
  rule_of [none, none, none, none, none, none] Try.func20 rfl (by decide) ((by kernel_rfl : g_squinchref03_Elem a0 w K = denC P [none, none, none, none, none, none] (Ann.slots [none, none, none, none, none, none]) 0 (Try.f20.body.getD .skip) (retQ P Try.f20 K) (frame0 Try.f20 [a0]) w) ▸ h)

/-- squinch/squinchlaw03.KindElems -/
def g_squinchlaw03_KindElems (a0 : Value) (w : World) (K : Value → World → Prop) : Prop :=
  blt P .len [T.string] T.int [false] [a0] w fun t5 w =>
  bin P .gtr T.int (.tmp 5) (.const (.int .i64 300)) t5 (.int .i64 300) w fun t6 w =>
  cnd t6 (
    callF P F.squinchlaw03_awake [] w fun t7 w =>
    K t7 w) (
    jn (α := Value) w (fun J5 w =>
      callF P F.squinchref03_Right [a0] w fun t9 w =>
      cnd t9 (
        callF P F.squinchref03_Deep [a0] w fun t11 w =>
        J5 t11 w) (
        J5 (.int .i64 0) w)) fun z5 d_ w =>
    callF P F.squinchlaw03_awake [] w fun t12 w =>
    gop t12 true w (fun w J => J a0 w) fun t14 w =>
    gop t12 true w (callF P F.kind_Elem [t14]) fun t15 w =>
    gop t12 true w (fun w J => J a0 w) fun t16 w =>
    gop t12 true w (callF P F.squinchref03_Elem [t16]) fun t17 w =>
    gop t12 true w (bin P .eql T.string (.tmp 15) (.tmp 17) t15 t17) fun t18 w =>
    pick P t12 t18 (.bool false) w fun t19 w =>
    gop t19 true w (fun w J => J a0 w) fun t21 w =>
    gop t19 true w (callF P F.kind_Deep [t21]) fun t22 w =>
    gop t19 true w (fun w J => J z5 w) fun t23 w =>
    gop t19 true w (bin P .eql T.int (.tmp 22) (.tmp 23) t22 t23) fun t24 w =>
    pick P t19 t24 (.bool false) w fun t25 w =>
    K t25 w)
theorem r_squinchlaw03_KindElems {a0 : Value} {w : World} {K : Value → World → Prop} (h : g_squinchlaw03_KindElems a0 w K) : callF P F.squinchlaw03_KindElems [a0] w K :=
  rule_of [none, none, none, none, none, some ([3], [3, 8, 9, 10, 11]), none, none] Try.func4 rfl (by decide) ((by kernel_rfl : g_squinchlaw03_KindElems a0 w K = denC P [none, none, none, none, none, some ([3], [3, 8, 9, 10, 11]), none, none] (Ann.slots [none, none, none, none, none, some ([3], [3, 8, 9, 10, 11]), none, none]) 0 (Try.f4.body.getD .skip) (retQ P Try.f4 K) (frame0 Try.f4 [a0]) w) ▸ h)

/-- squinch/squinchref03.Member -/
def g_squinchref03_Member (a0 : Value) (w : World) (K : Value → World → Prop) : Prop :=
  callF P F.squinchref03_Name [a0] w fun t4 w =>
  gop t4 true w (fun w J => J a0 w) fun t6 w =>
  gop t4 true w (idx P T.string t6 (.int .i64 0)) fun t7 w =>
  gop t4 true w (bin P .geq T.uint8 (.tmp 7) (.const (.int .u8 97)) t7 (.int .u8 97)) fun t8 w =>
  pick P t4 t8 (.bool false) w fun t9 w =>
  K t9 w
theorem r_squinchref03_Member {a0 : Value} {w : World} {K : Value → World → Prop} (h : g_squinchref03_Member a0 w K) : callF P F.squinchref03_Member [a0] w K :=
  rule_of [none, none] Try.func32 rfl (by decide) ((by kernel_rfl : g_squinchref03_Member a0 w K = denC P [none, none] (Ann.slots [none, none]) 0 (Try.f32.body.getD .skip) (retQ P Try.f32 K) (frame0 Try.f32 [a0]) w) ▸ h)

/-- squinch/squinchref03.Parts -/
def g_squinchref03_Parts (a0 : Value) (w : World) (K : Value → World → Prop) : Prop :=
  lp (α := Value) (.int .i64 0) w fun again3 x3 d_ w =>
    blt P .len [T.string] T.int [false] [a0] w fun t8 w =>
    bin P .lss T.int (.tmp 6) (.tmp 8) x3 t8 w fun t9 w =>
    cnd t9 (
      idx P T.string a0 x3 w fun t14 w =>
      bin P .eql T.uint8 (.tmp 14) (.const (.int .u8 46)) t14 (.int .u8 46) w fun t15 w =>
      cnd t15 (
        dr w fun Tr Br =>
        dop Tr (fun φ18 => ∀ w : World, Br w → slc P T.string a0 none (some x3) none w (dk Tr φ18 w)) fun φ18 =>
        dop Tr (fun φ21 => ∀ w : World, Br w → bin P .add T.int (.tmp 20) (.const (.int .i64 1)) x3 (.int .i64 1) w (dk Tr φ21 w)) fun φ21 =>
        dop Tr (fun φ22 => ∀ t21 : Value, ∀ w : World, Br w → φ21 t21 w → slc P T.string a0 (some t21) none none w (dk Tr φ22 w)) fun φ22 =>
        dop Tr (fun φ25 => ∀ w : World, Br w → slc P T.string a0 none (some x3) none w (dk Tr φ25 w)) fun φ25 =>
        dop Tr (fun φ26 => ∀ t25 : Value, ∀ w : World, Br w → φ25 t25 w → callF P F.squinchref03_Class [t25] w (dk Tr φ26 w)) fun φ26 =>
        dop Tr (fun φ28 => ∀ t26 : Value, ∀ w : World, Br w → φ26 t26 w → gop t26 true w (fun w J => J a0 w) (dk Tr φ28 w)) fun φ28 =>
        dop Tr (fun φ29 => ∀ t26 : Value, ∀ w : World, Br w → φ26 t26 w → gop t26 true w (fun w J => J x3 w) (dk Tr φ29 w)) fun φ29 =>
        dop Tr (fun φ30 => ∀ t26 : Value, ∀ t29 : Value, ∀ w : World, Br w → φ26 t26 w → φ29 t29 w → gop t26 true w (bin P .add T.int (.tmp 29) (.const (.int .i64 1)) t29 (.int .i64 1)) (dk Tr φ30 w)) fun φ30 =>
        dop Tr (fun φ31 => ∀ t26 : Value, ∀ t28 : Value, ∀ t30 : Value, ∀ w : World, Br w → φ26 t26 w → φ28 t28 w → φ30 t30 w → gop t26 true w (slc P T.string t28 (some t30) none none) (dk Tr φ31 w)) fun φ31 =>
        dop Tr (fun φ32 => ∀ t26 : Value, ∀ t31 : Value, ∀ w : World, Br w → φ26 t26 w → φ31 t31 w → gop t26 true w (callF P F.squinchref03_Member [t31]) (dk Tr φ32 w)) fun φ32 =>
        dop Tr (fun φ33 => ∀ t26 : Value, ∀ t32 : Value, ∀ w : World, Br w → φ26 t26 w → φ32 t32 w → pick P t26 t32 (.bool false) w (dk Tr φ33 w)) fun φ33 =>
        ∀ t18 : Value, ∀ t21 : Value, ∀ t22 : Value, ∀ t25 : Value, ∀ t26 : Value, ∀ t28 : Value, ∀ t29 : Value, ∀ t30 : Value, ∀ t31 : Value, ∀ t32 : Value, ∀ t33 : Value, ∀ w : World, Br w → φ18 t18 w → φ21 t21 w → φ22 t22 w → φ25 t25 w → φ26 t26 w → φ28 t28 w → φ29 t29 w → φ30 t30 w → φ31 t31 w → φ32 t32 w → φ33 t33 w → 
        K (.tuple #[t18, t22, t33]) w) (
        bin P .add T.int (.tmp 10) (.const (.int .i64 1)) x3 (.int .i64 1) w fun t11 w =>
        again3 t11 w)) (
      K (.tuple #[(.string ⟨#[]⟩), (.string ⟨#[]⟩), (.bool false)]) w)
theorem r_squinchref03_Parts {a0 : Value} {w : World} {K : Value → World → Prop} (h : g_squinchref03_Parts a0 w K) : callF P F.squinchref03_Parts [a0] w K :=
  rule_of [none, none, none, some ([5], [2, 3, 4, 5, 6, 7, 8, 9, 10, 11, 12, 13, 14, 15, 16, 17, 18, 19, 20, 21, 22, 23, 24, 25, 26, 27, 28, 29, 30, 31, 32, 33]), none, none, none, none, none, none] Try.func23 rfl (by decide) ((by kernel_rfl : g_squinchref03_Parts a0 w K = denC P [none, none, none, some ([5], [2, 3, 4, 5, 6, 7, 8, 9, 10, 11, 12, 13, 14, 15, 16, 17, 18, 19, 20, 21, 22, 23, 24, 25, 26, 27, 28, 29, 30, 31, 32, 33]), none, none, none, none, none, none] (Ann.slots [none, none, none, some ([5], [2, 3, 4, 5, 6, 7, 8, 9, 10, 11, 12, 13, 14, 15, 16, 17, 18, 19, 20, 21, 22, 23, 24, 25, 26, 27, 28, 29, 30, 31, 32, 33]), none, none, none, none, none, none]) 0 (Try.f23.body.getD .skip) (retQ P Try.f23 K) (frame0 Try.f23 [a0]) w) ▸ h)

/-- squinch/squinchlaw03.KindParts -/
def g_squinchlaw03_KindParts (a0 : Value) (w : World) (K : Value → World → Prop) : Prop :=
  blt P .len [T.string] T.int [false] [a0] w fun t10 w =>
  bin P .gtr T.int (.tmp 10) (.const (.int .i64 300)) t10 (.int .i64 300) w fun t11 w =>
  cnd t11 (
    callF P F.squinchlaw03_awake [] w fun t12 w =>
    K t12 w) (
    callF P F.kind_Parts [a0] w fun t15 w =>
    ext P t15 0 w fun t16 w =>
    ext P t15 1 w fun t17 w =>
    ext P t15 2 w fun t18 w =>
    callF P F.squinchref03_Parts [a0] w fun t21 w =>
    ext P t21 0 w fun t22 w =>
    ext P t21 1 w fun t23 w =>
    ext P t21 2 w fun t24 w =>
    una P .not t24 w fun t26 w =>
    cnd t26 (
      callF P F.squinchlaw03_awake [] w fun t27 w =>
      gop t27 true w (fun w J => J t16 w) fun t29 w =>
      gop t27 true w (bin P .eql T.string (.tmp 29) (.const (.string ⟨#[]⟩)) t29 (.string ⟨#[]⟩)) fun t30 w =>
      pick P t27 t30 (.bool false) w fun t31 w =>
      gop t31 true w (fun w J => J t17 w) fun t33 w =>
      gop t31 true w (bin P .eql T.string (.tmp 33) (.const (.string ⟨#[]⟩)) t33 (.string ⟨#[]⟩)) fun t34 w =>
      pick P t31 t34 (.bool false) w fun t35 w =>
      gop t35 true w (fun w J => J t18 w) fun t37 w =>
      gop t35 true w (bin P .eql T.api_Errno (.tmp 37) (.const (.int .i64 30)) t37 (.int .i64 30)) fun t38 w =>
      pick P t35 t38 (.bool false) w fun t39 w =>
      K t39 w) (
      callF P F.squinchlaw03_awake [] w fun t40 w =>
      gop t40 true w (fun w J => J t16 w) fun t42 w =>
      gop t40 true w (fun w J => J t22 w) fun t43 w =>
      gop t40 true w (bin P .eql T.string (.tmp 42) (.tmp 43) t42 t43) fun t44 w =>
      pick P t40 t44 (.bool false) w fun t45 w =>
      gop t45 true w (fun w J => J t17 w) fun t47 w =>
      gop t45 true w (fun w J => J t23 w) fun t48 w =>
      gop t45 true w (bin P .eql T.string (.tmp 47) (.tmp 48) t47 t48) fun t49 w =>
      pick P t45 t49 (.bool false) w fun t50 w =>
      gop t50 true w (fun w J => J t18 w) fun t52 w =>
      gop t50 true w (bin P .eql T.api_Errno (.tmp 52) (.const (.int .i64 0)) t52 (.int .i64 0)) fun t53 w =>
      pick P t50 t53 (.bool false) w fun t54 w =>
      gop t54 true w (fun w J => J t16 w) fun t56 w =>
      gop t54 true w (bin P .add T.string (.tmp 56) (.const (.string ⟨#[46]⟩)) t56 (.string ⟨#[46]⟩)) fun t57 w =>
      gop t54 true w (fun w J => J t17 w) fun t58 w =>
      gop t54 true w (bin P .add T.string (.tmp 57) (.tmp 58) t57 t58) fun t59 w =>
      gop t54 true w (fun w J => J a0 w) fun t60 w =>
      gop t54 true w (bin P .eql T.string (.tmp 59) (.tmp 60) t59 t60) fun t61 w =>
      pick P t54 t61 (.bool false) w fun t62 w =>
      K t62 w))
theorem r_squinchlaw03_KindParts {a0 : Value} {w : World} {K : Value → World → Prop} (h : g_squinchlaw03_KindParts a0 w K) : callF P F.squinchlaw03_KindParts [a0] w K :=
  rule_of [none, none, none, none, none, none, none, none, none, none] Try.func5 rfl (by decide) ((by kernel_rfl : g_squinchlaw03_KindParts a0 w K = denC P [none, none, none, none, none, none, none, none, none, none] (Ann.slots [none, none, none, none, none, none, none, none, none, none]) 0 (Try.f5.body.getD .skip) (retQ P Try.f5 K) (frame0 Try.f5 [a0]) w) ▸ h)

/-- squinch/squinchlaw03.KindNames -/
def g_squinchlaw03_KindNames (a0 : Value) (w : World) (K : Value → World → Prop) : Prop :=
  blt P .len [T.string] T.int [false] [a0] w fun t9 w =>
  bin P .gtr T.int (.tmp 9) (.const (.int .i64 300)) t9 (.int .i64 300) w fun t10 w =>
  cnd t10 (
    callF P F.squinchlaw03_awake [] w fun t11 w =>
    K t11 w) (
    bin P .add T.string (.const (.string ⟨#[65, 46]⟩)) (.tmp 13) (.string ⟨#[65, 46]⟩) a0 w fun t14 w =>
    callF P F.kind_Parts [t14] w fun t15 w =>
    ext P t15 0 w fun t16 w =>
    ext P t15 1 w fun t17 w =>
    ext P t15 2 w fun t18 w =>
    bin P .eql T.api_Errno (.tmp 19) (.const (.int .i64 0)) t18 (.int .i64 0) w fun t20 w =>
    gop t20 true w (fun w J => J t17 w) fun t22 w =>
    gop t20 true w (fun w J => J a0 w) fun t23 w =>
    gop t20 true w (bin P .eql T.string (.tmp 22) (.tmp 23) t22 t23) fun t24 w =>
    pick P t20 t24 (.bool false) w fun t25 w =>
    callF P F.kind_Class [a0] w fun t27 w =>
    callF P F.squinchlaw03_awake [] w fun t28 w =>
    gop t28 true w (fun w J => J a0 w) fun t30 w =>
    gop t28 true w (callF P F.kind_Name [t30]) fun t31 w =>
    gop t28 true w (fun w J => J t27 w) fun t32 w =>
    gop t28 true w (fun w J => J t25 w) fun t33 w =>
    gop t28 true w (bin P .neq T.bool (.tmp 32) (.tmp 33) t32 t33) fun t34 w =>
    gop t28 true w (bin P .eql T.bool (.tmp 31) (.tmp 34) t31 t34) fun t35 w =>
    pick P t28 t35 (.bool false) w fun t36 w =>
    gop t36 true w (fun w J => J t27 w) fun t38 w =>
    gop t36 true w (una P .not t38) fun t39 w =>
    gop t36 true w (fun w J => J t39 w) fun t40 w =>
    gop t40 false w (fun w J => J a0 w) fun t41 w =>
    gop t40 false w (callF P F.kind_Right [t41]) fun t42 w =>
    gop t40 false w (fun w J => J t42 w) fun t43 w =>
    gop t43 true w (fun w J => J a0 w) fun t44 w =>
    gop t43 true w (callF P F.kind_Plain [t44]) fun t45 w =>
    gop t43 true w (una P .not t45) fun t46 w =>
    gop t40 false w (pick P t43 t46 (.bool false)) fun t47 w =>
    gop t36 true w (pick P t40 (.bool true) t47) fun t48 w =>
    pick P t36 t48 (.bool false) w fun t49 w =>
    gop t49 true w (fun w J => J t25 w) fun t51 w =>
    gop t49 true w (una P .not t51) fun t52 w =>
    gop t49 true w (fun w J => J t52 w) fun t53 w =>
    gop t53 false w (fun w J => J a0 w) fun t54 w =>
    gop t53 false w (callF P F.kind_Right [t54]) fun t55 w =>
    gop t53 false w (fun w J => J a0 w) fun t56 w =>
    gop t53 false w (callF P F.kind_Plain [t56]) fun t57 w =>
    gop t53 false w (bin P .eql T.bool (.tmp 55) (.tmp 57) t55 t57) fun t58 w =>
    gop t49 true w (pick P t53 (.bool true) t58) fun t59 w =>
    pick P t49 t59 (.bool false) w fun t60 w =>
    K t60 w)
theorem r_squinchlaw03_KindNames {a0 : Value} {w : World} {K : Value → World → Prop} (h : g_squinchlaw03_KindNames a0 w K) : callF P F.squinchlaw03_KindNames [a0] w K :=
  rule_of [none, none, none, none, none, none, none, none] Try.func6 rfl (by decide) ((by kernel_rfl : g_squinchlaw03_KindNames a0 w K = denC P [none, none, none, none, none, none, none, none] (Ann.slots [none, none, none, none, none, none, none, none]) 0 (Try.f6.body.getD .skip) (retQ P Try.f6 K) (frame0 Try.f6 [a0]) w) ▸ h)

/-- squinch/kind.Of -/
def g_kind_Of (a0 : Value) (w : World) (K : Value → World → Prop) : Prop :=
  callF P F.kind_Right [a0] w fun t5 w =>
  una P .not t5 w fun t6 w =>
  gop t6 false w (fun w J => J a0 w) fun t8 w =>
  gop t6 false w (callF P F.kind_Deep [t8]) fun t9 w =>
  gop t6 false w (bin P .eql T.int (.tmp 9) (.const (.int .i64 3)) t9 (.int .i64 3)) fun t10 w =>
  pick P t6 (.bool true) t10 w fun t11 w =>
  cnd t11 (
    K (.tuple #[(.string ⟨#[]⟩), (.int .i64 30)]) w) (
    bin P .add T.string (.tmp 12) (.const (.string ⟨#[91, 93]⟩)) a0 (.string ⟨#[91, 93]⟩) w fun t13 w =>
    K (.tuple #[t13, (.int .i64 0)]) w)
theorem r_kind_Of {a0 : Value} {w : World} {K : Value → World → Prop} (h : g_kind_Of a0 w K) : callF P F.kind_Of [a0] w K :=
  rule_of [none, none, none, none, none] Try.func24 rfl (by decide) ((by kernel_rfl : g_kind_Of a0 w K = denC P [none, none, none, none, none] (Ann.slots [none, none, none, none, none]) 0 (Try.f24.body.getD .skip) (retQ P Try.f24 K) (frame0 Try.f24 [a0]) w) ▸ h)

/-- squinch/squinchlaw03.KindArrays -/
def g_squinchlaw03_KindArrays (a0 : Value) (w : World) (K : Value → World → Prop) : Prop :=
  blt P .len [T.string] T.int [false] [a0] w fun t6 w =>
  bin P .gtr T.int (.tmp 6) (.const (.int .i64 300)) t6 (.int .i64 300) w fun t7 w =>
  cnd t7 (
    callF P F.squinchlaw03_awake [] w fun t8 w =>
    K t8 w) (
    callF P F.kind_Of [a0] w fun t11 w =>
    ext P t11 0 w fun t12 w =>
    ext P t11 1 w fun t13 w =>
    callF P F.squinchref03_Right [a0] w fun t15 w =>
    una P .not t15 w fun t16 w =>
    gop t16 false w (fun w J => J a0 w) fun t18 w =>
    gop t16 false w (callF P F.squinchref03_Deep [t18]) fun t19 w =>
    gop t16 false w (bin P .gtr T.int (.tmp 19) (.const (.int .i64 2)) t19 (.int .i64 2)) fun t20 w =>
    pick P t16 (.bool true) t20 w fun t21 w =>
    cnd t21 (
      callF P F.squinchlaw03_awake [] w fun t22 w =>
      gop t22 true w (fun w J => J t12 w) fun t24 w =>
      gop t22 true w (bin P .eql T.string (.tmp 24) (.const (.string ⟨#[]⟩)) t24 (.string ⟨#[]⟩)) fun t25 w =>
      pick P t22 t25 (.bool false) w fun t26 w =>
      gop t26 true w (fun w J => J t13 w) fun t28 w =>
      gop t26 true w (bin P .eql T.api_Errno (.tmp 28) (.const (.int .i64 30)) t28 (.int .i64 30)) fun t29 w =>
      pick P t26 t29 (.bool false) w fun t30 w =>
      K t30 w) (
      callF P F.squinchlaw03_awake [] w fun t31 w =>
      gop t31 true w (fun w J => J t13 w) fun t33 w =>
      gop t31 true w (bin P .eql T.api_Errno (.tmp 33) (.const (.int .i64 0)) t33 (.int .i64 0)) fun t34 w =>
      pick P t31 t34 (.bool false) w fun t35 w =>
      gop t35 true w (fun w J => J t12 w) fun t37 w =>
      gop t35 true w (fun w J => J a0 w) fun t38 w =>
      gop t35 true w (bin P .add T.string (.tmp 38) (.const (.string ⟨#[91, 93]⟩)) t38 (.string ⟨#[91, 93]⟩)) fun t39 w =>
      gop t35 true w (bin P .eql T.string (.tmp 37) (.tmp 39) t37 t39) fun t40 w =>
      pick P t35 t40 (.bool false) w fun t41 w =>
      gop t41 true w (fun w J => J t12 w) fun t43 w =>
      gop t41 true w (callF P F.kind_Right [t43]) fun t44 w =>
      pick P t41 t44 (.bool false) w fun t45 w =>
      gop t45 true w (fun w J => J t12 w) fun t47 w =>
      gop t45 true w (callF P F.kind_Elem [t47]) fun t48 w =>
      gop t45 true w (fun w J => J a0 w) fun t49 w =>
      gop t45 true w (bin P .eql T.string (.tmp 48) (.tmp 49) t48 t49) fun t50 w =>
      pick P t45 t50 (.bool false) w fun t51 w =>
      gop t51 true w (fun w J => J t12 w) fun t53 w =>
      gop t51 true w (callF P F.kind_Deep [t53]) fun t54 w =>
      gop t51 true w (fun w J => J a0 w) fun t55 w =>
      gop t51 true w (callF P F.kind_Deep [t55]) fun t56 w =>
      gop t51 true w (bin P .add T.int (.tmp 56) (.const (.int .i64 1)) t56 (.int .i64 1)) fun t57 w =>
      gop t51 true w (bin P .eql T.int (.tmp 54) (.tmp 57) t54 t57) fun t58 w =>
      pick P t51 t58 (.bool false) w fun t59 w =>
      K t59 w))
theorem r_squinchlaw03_KindArrays {a0 : Value} {w : World} {K : Value → World → Prop} (h : g_squinchlaw03_KindArrays a0 w K) : callF P F.squinchlaw03_KindArrays [a0] w K :=
  rule_of [none, none, none, none, none, none, none, none, none] Try.func7 rfl (by decide) ((by kernel_rfl : g_squinchlaw03_KindArrays a0 w K = denC P [none, none, none, none, none, none, none, none, none] (Ann.slots [none, none, none, none, none, none, none, none, none]) 0 (Try.f7.body.getD .skip) (retQ P Try.f7 K) (frame0 Try.f7 [a0]) w) ▸ h)

end Go.Proofs.Ytcailbfhljoppaa
