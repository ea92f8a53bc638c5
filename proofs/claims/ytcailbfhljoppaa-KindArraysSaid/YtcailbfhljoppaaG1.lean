import Derived.Test.YtcailbfhljoppaaN
/-! each Go function as a continuation-passing text; printed by gen.py -/
set_option linter.unusedVariables false
set_option maxRecDepth 100000
namespace Go.Proofs.Ytcailbfhljoppaa
open Go.Emb

/-- squinch/squinchlaw03.KindUnwraps -/
def g_squinchlaw03_KindUnwraps (a0 : Value) (w : World) (K : Value → World → Prop) : Prop :=
  blt P .len [T.string] T.int [false] [a0] w fun t8 w =>
  bin P .gtr T.int (.tmp 8) (.const (.int .i64 300)) t8 (.int .i64 300) w fun t9 w =>
  gop t9 false w (fun w J => J a0 w) fun t11 w =>
  gop t9 false w (callF P F.kind_Right [t11]) fun t12 w =>
  gop t9 false w (una P .not t12) fun t13 w =>
  pick P t9 (.bool true) t13 w fun t14 w =>
  cnd t14 (
    callF P F.squinchlaw03_awake [] w fun t15 w =>
    K t15 w) (
    callF P F.kind_Deep [a0] w fun t17 w =>
    lp (α := Value × Value) (a0, (.int .i64 0)) w fun again7 x7 d_ w =>
      bin P .lss T.int (.tmp 19) (.tmp 20) x7.2 t17 w fun t21 w =>
      cnd t21 (
        callF P F.kind_Elem [x7.1] w fun t25 w =>
        bin P .add T.int (.tmp 22) (.const (.int .i64 1)) x7.2 (.int .i64 1) w fun t23 w =>
        again7 (t25, t23) w) (
        callF P F.kind_Elem [x7.1] w fun t27 w =>
        bin P .neq T.string (.tmp 27) (.const (.string ⟨#[]⟩)) t27 (.string ⟨#[]⟩) w fun t28 w =>
        gop t28 false w (fun w J => J x7.1 w) fun t30 w =>
        gop t28 false w (callF P F.kind_Deep [t30]) fun t31 w =>
        gop t28 false w (bin P .neq T.int (.tmp 31) (.const (.int .i64 0)) t31 (.int .i64 0)) fun t32 w =>
        pick P t28 (.bool true) t32 w fun t33 w =>
        gop t33 false w (fun w J => J x7.1 w) fun t35 w =>
        gop t33 false w (callF P F.kind_Right [t35]) fun t36 w =>
        gop t33 false w (una P .not t36) fun t37 w =>
        pick P t33 (.bool true) t37 w fun t38 w =>
        gop t38 false w (fun w J => J t17 w) fun t40 w =>
        gop t38 false w (bin P .gtr T.int (.tmp 40) (.const (.int .i64 3)) t40 (.int .i64 3)) fun t41 w =>
        pick P t38 (.bool true) t41 w fun t42 w =>
        cnd t42 (
          K (.bool false) w) (
          lp (α := Value × Value) (x7.1, (.int .i64 0)) w fun again16 x16 d_ w =>
            bin P .lss T.int (.tmp 43) (.tmp 44) x16.2 t17 w fun t45 w =>
            cnd t45 (
              callF P F.kind_Of [x16.1] w fun t50 w =>
              ext P t50 0 w fun t51 w =>
              ext P t50 1 w fun t52 w =>
              bin P .add T.int (.tmp 46) (.const (.int .i64 1)) x16.2 (.int .i64 1) w fun t47 w =>
              again16 (t51, t47) w) (
              callF P F.squinchlaw03_awake [] w fun t53 w =>
              gop t53 true w (fun w J => J x16.1 w) fun t55 w =>
              gop t53 true w (fun w J => J a0 w) fun t56 w =>
              gop t53 true w (bin P .eql T.string (.tmp 55) (.tmp 56) t55 t56) fun t57 w =>
              pick P t53 t57 (.bool false) w fun t58 w =>
              K t58 w))))
theorem r_squinchlaw03_KindUnwraps {a0 : Value} {w : World} {K : Value → World → Prop} (h : g_squinchlaw03_KindUnwraps a0 w K) : callF P F.squinchlaw03_KindUnwraps [a0] w K :=
  rule_of [none, none, none, none, none, none, none, some ([4, 5], [4, 5, 19, 20, 21, 22, 23, 24, 25]), none, none, none, none, none, none, none, none, some ([4, 6], [4, 6, 43, 44, 45, 46, 47, 48, 49, 50, 51, 52]), none, none, none, none] Try.func8 rfl (by decide) ((by kernel_rfl : g_squinchlaw03_KindUnwraps a0 w K = denC P [none, none, none, none, none, none, none, some ([4, 5], [4, 5, 19, 20, 21, 22, 23, 24, 25]), none, none, none, none, none, none, none, none, some ([4, 6], [4, 6, 43, 44, 45, 46, 47, 48, 49, 50, 51, 52]), none, none, none, none] (Ann.slots [none, none, none, none, none, none, none, some ([4, 5], [4, 5, 19, 20, 21, 22, 23, 24, 25]), none, none, none, none, none, none, none, none, some ([4, 6], [4, 6, 43, 44, 45, 46, 47, 48, 49, 50, 51, 52]), none, none, none, none]) 0 (Try.f8.body.getD .skip) (retQ P Try.f8 K) (frame0 Try.f8 [a0]) w) ▸ h)

end Go.Proofs.Ytcailbfhljoppaa
