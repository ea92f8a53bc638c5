/- Parts of a proof about the given program: its functions as texts of their own, what each computes, plain laws of that. The conditions of each stand in its statement. -/
import Derived.Test.YtjdiakhipmggjaaGreatDoorB1
import Derived.Below
import Derived.Maps.AppendAt
set_option linter.unnecessarySimpa false
set_option linter.defProp false
set_option linter.unusedSectionVars false
set_option linter.unusedVariables false
set_option linter.unusedSimpArgs false
set_option maxRecDepth 100000
namespace Go.Proofs.YtjdiakhipmggjaaGreatDoor
open Go.Emb
def Al:V9:=[none,none,none,none,none,none,some ([38],[4,5,6,38,39,40,41,42,43,44,45,46,47,48,49,50,51]),none,none,none,none,none,none,none]
def Dk (a0 a1:Value) (w:World) (K:Value→World→Prop):Prop:= box P T.o a1 w fun e w=>dr w fun b d=>Q5 b (fun φ7=> ∀w,d w→fieldAddr P T.o e 0 w (dk b φ7 w)) fun φ7=>Q5 b (fun φ8=> ∀t7 w,d w→φ7 t7 w→Q2 P T.c t7 w (dk b φ8 w)) fun φ8=>Q5 b (fun φ9=> ∀t8 w,d w→φ8 t8 w→Q1 P F.c4 [t8] w (dk b φ9 w)) fun φ9=>Q5 b (fun g=> ∀t9 w,d w→φ9 t9 w→Q3 P .eql T.c (.tmp 9) (.const (.string ⟨#[]⟩)) t9 (.string ⟨#[]⟩) w (dk b g w)) fun g=>Q5 b (fun z=> ∀c w,d w→g c w→Q0 c true w (fun w J=>J a0 w) (dk b z w)) fun z=>Q5 b (fun r=> ∀c ab w,d w→g c w→z ab w→Q0 c true w (nilCheck P ab) (dk b r w)) fun r=>Q5 b (fun ag=> ∀c U w,d w→g c w→r U w→Q0 c true w (fieldAddr P T.p U 0) (dk b ag w)) fun ag=>Q5 b (fun N=> ∀c w,d w→g c w→Q0 c true w (fieldAddr P T.o e 0) (dk b N w)) fun N=>Q5 b (fun Z=> ∀c H w,d w→g c w→ag H w→Q0 c true w (Q2 P T.r H) (dk b Z w)) fun Z=>Q5 b (fun M=> ∀c A w,d w→g c w→N A w→Q0 c true w (Q2 P T.c A) (dk b M w)) fun M=>Q5 b (fun B=> ∀c k ad w,d w→g c w→Z k w→M ad w→Q0 c true w (Q1 P F.aG [k,ad]) (dk b B w)) fun B=>Q5 b (fun p=> ∀c C w,d w→g c w→B C w→Q0 c true w (J8 P .not C) (dk b p w)) fun p=>Q5 b (fun f=> ∀c L w,d w→g c w→p L w→Q0 c true w (fun w J=>J L w) (dk b f w)) fun f=>Q5 b (fun ai=> ∀a w,d w→f a w→Q0 a false w (fieldAddr P T.o e 1) (dk b ai w)) fun ai=>Q5 b (fun i=> ∀a w,d w→f a w→Q0 a false w (fun w J=>J a0 w) (dk b i w)) fun i=>Q5 b (fun X=> ∀a E w,d w→f a w→i E w→Q0 a false w (nilCheck P E) (dk b X w)) fun X=>Q5 b (fun m=> ∀a t w,d w→f a w→X t w→Q0 a false w (fieldAddr P T.p t 0) (dk b m w)) fun m=>Q5 b (fun n=> ∀a w,d w→f a w→Q0 a false w (fieldAddr P T.o e 0) (dk b n w)) fun n=>Q5 b (fun l=> ∀a s w,d w→f a w→ai s w→Q0 a false w (Q2 P T.l s) (dk b l w)) fun l=>Q5 b (fun ak=> ∀a u w,d w→f a w→l u w→Q0 a false w (X3 P .len [T.l] T.e [false] [u]) (dk b ak w)) fun ak=>Q5 b (fun Y=> ∀a W w,d w→f a w→m W w→Q0 a false w (Q2 P T.r W) (dk b Y w)) fun Y=>Q5 b (fun aa=> ∀a o w,d w→f a w→n o w→Q0 a false w (Q2 P T.c o) (dk b aa w)) fun aa=>Q5 b (fun af=> ∀a y v w,d w→f a w→Y y w→aa v w→Q0 a false w (Q1 P F.u [y,v]) (dk b af w)) fun af=>Q5 b (fun ao=> ∀a ac w,d w→f a w→af ac w→Q0 a false w (X3 P .len [T.k] T.e [false] [ac]) (dk b ao w)) fun ao=>∀t7 t8 t9 c ab U H A k ad C L a s E t W o u aw y v ac aq w,d w→φ7 t7 w→φ8 t8 w→φ9 t9 w→g c w→z ab w→r U w→ag H w→N A w→Z k w→M ad w→B C w→p L w→f a w→ai s w→i E w→X t w→m W w→n o w→l u w→ak aw w→Y y w→aa v w→af ac w→ao aq w→ Q0 a false w (Q3 P .neq T.e (.tmp 23) (.tmp 31) aw aq) fun bd w=>Q0 c true w (pick P a (.bool true) bd) fun bh w=>pick P c bh (.bool false) w fun bk w=>X1 bk (K (.bool false) w) (fieldAddr P T.o e 1 w fun ba w=>Q2 P T.l ba w fun ay w=>X3 P .len [T.l] T.e [false] [ay] w fun a9 w=>lp (α:=Value) (.int .i64 0) w fun O x6 d_ w=>Q3 P .lss T.e (.tmp 38) (.tmp 37) x6 a9 w fun be w=>X1 be (indexAddr P T.l ay x6 w fun bg w=>Q2 P T.f bg w fun bj w=>V8 P T.f w fun h w=>Y0 P T.f h bj w fun _u w=>dr w fun b d=>Q5 b (fun al=> ∀w,d w→Q2 P T.f h w (dk b al w)) fun al=>Q5 b (fun Q=> ∀w,d w→Q2 P T.o e w (dk b Q w)) fun Q=>Q5 b (fun an=> ∀q w,d w→Q q w→Q1 P F.aF [a0,q,x6] w (dk b an w)) fun an=>∀av q az w,d w→al av w→Q q w→an az w→ Q1 P F.a8 [a0,av,az] w fun bf w=>J8 P .not bf w fun bc w=>X1 bc (K (.bool false) w) (Q3 P .add T.e (.tmp 38) (.const (.int .i64 1)) x6 (.int .i64 1) w fun bb w=>O bb w)) (dr w fun b d=>Q5 b (fun V=> ∀w,d w→nilCheck P a0 w (dk b V w)) fun V=>Q5 b (fun D=> ∀R w,d w→V R w→fieldAddr P T.p R 0 w (dk b D w)) fun D=>Q5 b (fun ae=> ∀w,d w→fieldAddr P T.o e 0 w (dk b ae w)) fun ae=>Q5 b (fun aj=> ∀j w,d w→D j w→Q2 P T.r j w (dk b aj w)) fun aj=>Q5 b (fun am=> ∀ah w,d w→ae ah w→Q2 P T.c ah w (dk b am w)) fun am=>∀R j ah ar ap w,d w→V R w→D j w→ae ah w→aj ar w→am ap w→ Q1 P F.s [ar,ap] w fun bi w=>K bi w))
theorem Aq {b a:Value} {w:World} {K:Value→World→Prop} (h:Dk b a w K):Q1 P F.bD [b,a] w K:=Q9 Al Tryz.func55 rfl (by decide) (by kernel_rfl) h
def Lu (d c:Value) (w:World) (K:Value→World→Prop):Prop:= box P T.o d w fun a w=>Q2 P T.a5 c w fun g w=>Q2 P T.o a w fun b w=>Q1 P F.bD [g,b] w fun e w=>J8 P .not e w fun f w=>K f w
theorem Ih {b a:Value} {w:World} {K:Value→World→Prop} (h:Lu b a w K):Q1 P F.cr [b,a] w K:=Q9 (List.replicate 2 none) Tryz.func54 rfl (by decide) (by kernel_rfl) h
def Oz (e:Value) (w:World) (K:Value→World→Prop):Prop:= box P T.a5 e w fun a w=>Q2 P T.a5 a w fun b w=>nilCheck P b w fun h w=>fieldAddr P T.p h 3 w fun c w=>Q2 P T.g c w fun f w=>E7 P (.func F.cr) [] [a] w fun g w=>Q1 P F.n [f,g] w fun d w=>J8 P .not d w fun i w=>K i w
theorem Q0f {a:Value} {w:World} {K:Value→World→Prop} (h:Oz a w K):Q1 P F.bB [a] w K:=Q9 (List.replicate 2 none) Tryz.func23 rfl (by decide) (by kernel_rfl) h
def Q3i (h c:Value) (w:World) (K:Value→World→Prop):Prop:= Q3 P .lss T.e (.tmp 6) (.const (.int .i64 0)) c (.int .i64 0) w fun d w=>Q0 d false w (fun w J=>J c w) fun g w=>Q0 d false w (Q3 P .gtr T.e (.tmp 9) (.const (.int .i64 1048576)) g (.int .i64 1048576)) fun a w=>pick P d (.bool true) a w fun e w=>X1 e (K (.tuple #[(.pointer none),(.int .i64 90)]) w) (H3 P T.p [(0,h),(1,c)] w fun f w=>box P T.p f w fun b w=>K (.tuple #[b,(.int .i64 0)]) w)
theorem Q8I {b a:Value} {w:World} {K:Value→World→Prop} (h:Q3i b a w K):Q1 P F.cM [b,a] w K:=Q9 (List.replicate 5 none) Tryz.func15 rfl (by decide) (by kernel_rfl) h
def Pt:V9:=[none,none,none,none,none,some ([1,3],[1,3,10,11,12,13,14,15,16,17,18,19,20,21,22,23]),none,none,none,none]
def Oa (w:World) (K:Value→World→Prop):Prop:= H3 P T.b [(0,(.string ⟨#[79,98,106,101,99,116]⟩))] w fun n w=>H3 P T.n [(0,(.string ⟨#[119,104,97,116]⟩)),(1,(.string ⟨#[116,101,120,116]⟩))] w fun o w=>buildSlice P T.k 1 [(0,o)] w fun l w=>H3 P T.b [(0,(.string ⟨#[70,97,117,108,116]⟩)),(1,(.string ⟨#[79,98,106,101,99,116]⟩)),(6,l)] w fun m w=>buildSlice P T.i 2 [(0,n),(1,m)] w fun p w=>buildSlice P T.h 6 [(0,(.string ⟨#[78,117,108,108,70,97,117,108,116]⟩)),(1,(.string ⟨#[73,110,100,101,120,70,97,117,108,116]⟩)),(2,(.string ⟨#[67,97,115,116,70,97,117,108,116]⟩)),(3,(.string ⟨#[90,101,114,111,70,97,117,108,116]⟩)),(4,(.string ⟨#[82,111,111,109,70,97,117,108,116]⟩)),(5,(.string ⟨#[67,97,108,108,70,97,117,108,116]⟩))] w fun k w=>lp (α:=Value×Value) (p,(.int .i64 0)) w fun a b q w=>X3 P .len [T.h] T.e [false] [k] w fun i w=>Q3 P .lss T.e (.tmp 10) (.tmp 12) b.2 i w fun e w=>X1 e (indexAddr P T.h k b.2 w fun c w=>Q2 P T.c c w fun g w=>H3 P T.b [(0,g),(1,(.string ⟨#[70,97,117,108,116]⟩)),(5,(.bool true))] w fun f w=>buildSlice P T.i 1 [(0,f)] w fun h w=>X3 P .append [T.i,T.i] T.i [false,false] [b.1,h] w fun j w=>Q3 P .add T.e (.tmp 14) (.const (.int .i64 1)) b.2 (.int .i64 1) w fun d w=>a (j,d) w) (K b.1 w)
theorem Tl {w:World} {K:Value→World→Prop} (h:Oa w K):Q1 P F.bp [] w K:=Q9 Pt Tryz.func99 rfl (by decide) (by kernel_rfl) h
def Q04:V9:=[none,none,none,some ([3],[2,3,4,5,6,7,8,9,10,11,12,13,14,15,16,17,18,19,20,21,22,23,24,25,26,27,28,29,30,31,32,33,34,35,36,37]),none,none,none,none,none,none,none]
def Oj (Y:Value) (w:World) (K:Value→World→Prop):Prop:= box P T.b Y w fun b w=>lp (α:=Value) (.int .i64 0) w fun g A d_ w=>fieldAddr P T.b b 7 w fun Z w=>Q2 P T.j Z w fun t7 w=>X3 P .len [T.j] T.e [false] [t7] w fun t8 w=>Q3 P .lss T.e (.tmp 5) (.tmp 8) A t8 w fun t9 w=>X1 t9 (fieldAddr P T.b b 7 w fun C w=>Q2 P T.j C w fun s w=>indexAddr P T.j s A w fun j w=>Q2 P T.d j w fun N w=>V8 P T.d w fun a w=>Y0 P T.d a N w fun _u w=>fieldAddr P T.d a 1 w fun L w=>Q2 P T.h L w fun O w=>X3 P .len [T.h] T.e [false] [O] w fun l w=>Q3 P .gtr T.e (.tmp 19) (.const (.int .i64 32)) l (.int .i64 32) w fun e w=>Q0 e false w (fieldAddr P T.d a 6) fun B w=>Q0 e false w (Q2 P T.s B) fun H w=>Q0 e false w (X3 P .len [T.s] T.e [false] [H]) fun X w=>Q0 e false w (Q3 P .gtr T.e (.tmp 24) (.const (.int .i64 32)) X (.int .i64 32)) fun v w=>pick P e (.bool true) v w fun d w=>Q0 d false w (fieldAddr P T.d a 5) fun t w=>Q0 d false w (Q2 P T.q t) fun J w=>Q0 d false w (X3 P .len [T.q] T.e [false] [J]) fun D w=>Q0 d false w (Q3 P .gtr T.e (.tmp 30) (.const (.int .i64 200)) D (.int .i64 200)) fun i w=>pick P d (.bool true) i w fun h w=>Q0 h false w (fieldAddr P T.d a 4) fun R w=>Q0 h false w (Q2 P T.e R) fun o w=>Q0 h false w (Q3 P .gtr T.e (.tmp 35) (.const (.int .i64 64)) o (.int .i64 64)) fun V w=>pick P h (.bool true) V w fun k w=>X1 k (K (.bool true) w) (Q3 P .add T.e (.tmp 10) (.const (.int .i64 1)) A (.int .i64 1) w fun M w=>g M w)) (fieldAddr P T.b b 2 w fun Q w=>Q2 P T.h Q w fun U w=>X3 P .len [T.h] T.e [false] [U] w fun q w=>Q3 P .gtr T.e (.tmp 40) (.const (.int .i64 32)) q (.int .i64 32) w fun c w=>Q0 c false w (fieldAddr P T.b b 6) fun n w=>Q0 c false w (Q2 P T.k n) fun m w=>Q0 c false w (X3 P .len [T.k] T.e [false] [m]) fun p w=>Q0 c false w (Q3 P .gtr T.e (.tmp 45) (.const (.int .i64 32)) p (.int .i64 32)) fun u w=>pick P c (.bool true) u w fun f w=>Q0 f false w (fieldAddr P T.b b 7) fun W w=>Q0 f false w (Q2 P T.j W) fun z w=>Q0 f false w (X3 P .len [T.j] T.e [false] [z]) fun y w=>Q0 f false w (Q3 P .gtr T.e (.tmp 51) (.const (.int .i64 32)) y (.int .i64 32)) fun E w=>pick P f (.bool true) E w fun r w=>K r w)
theorem Q0c {a:Value} {w:World} {K:Value→World→Prop} (h:Oj a w K):Q1 P F.bK [a] w K:=Q9 Q04 Tryz.func147 rfl (by decide) (by kernel_rfl) h
def Aa:V9:=[none,none,none,some ([0,3],[0,3,4,5,6,7,8,9,10,11,12,13,14,15,16,17,18,19,20,21]),none,none,none,none]
def Ov (m:Value) (w:World) (K:Value→World→Prop):Prop:= lp (α:=Value×Value) (m,(.int .i64 0)) w fun a c q w=>X3 P .len [T.c] T.e [false] [c.1] w fun o w=>Q3 P .geq T.e (.tmp 5) (.const (.int .i64 2)) o (.int .i64 2) w fun b w=>Q0 b true w (fun w J=>J c.1 w) fun p w=>Q0 b true w (fun w J=>J c.1 w) fun n w=>Q0 b true w (X3 P .len [T.c] T.e [false] [n]) fun g w=>Q0 b true w (Q3 P .sub T.e (.tmp 10) (.const (.int .i64 2)) g (.int .i64 2)) fun j w=>Q0 b true w (R8 P T.c p (some j) none none) fun i w=>Q0 b true w (Q3 P .eql T.c (.tmp 12) (.const (.string ⟨#[91,93]⟩)) i (.string ⟨#[91,93]⟩)) fun e w=>pick P b e (.bool false) w fun l w=>X1 l (Q3 P .add T.e (.tmp 15) (.const (.int .i64 1)) c.2 (.int .i64 1) w fun k w=>X3 P .len [T.c] T.e [false] [c.1] w fun d w=>Q3 P .sub T.e (.tmp 19) (.const (.int .i64 2)) d (.int .i64 2) w fun h w=>R8 P T.c c.1 none (some h) none w fun f w=>a (f,k) w) (K c.2 w)
theorem Ao {a:Value} {w:World} {K:Value→World→Prop} (h:Ov a w K):Q1 P F.a2 [a] w K:=Q9 Aa Tryz.func107 rfl (by decide) (by kernel_rfl) h
def Iv:V9:=[none,none,none,some ([4],[4,5,6,7]),none,none,none,none]
def Mc (b:Value) (w:World) (K:Value→World→Prop):Prop:= jn (α:=Value) w (fun a w=>Q3 P .eql T.c (.tmp 3) (.const (.string ⟨#[105,110,116]⟩)) b (.string ⟨#[105,110,116]⟩) w fun c w=>X1 c (a c w) (Q3 P .eql T.c (.tmp 3) (.const (.string ⟨#[98,111,111,108]⟩)) b (.string ⟨#[98,111,111,108]⟩) w fun d w=>X1 d (a d w) (Q3 P .eql T.c (.tmp 3) (.const (.string ⟨#[116,101,120,116]⟩)) b (.string ⟨#[116,101,120,116]⟩) w fun f w=>a f w))) fun e g w=>X1 e (K (.bool true) w) (K (.bool false) w)
theorem Py {a:Value} {w:World} {K:Value→World→Prop} (h:Mc a w K):Q1 P F.y [a] w K:=Q9 Iv Tryz.func111 rfl (by decide) (by kernel_rfl) h
def Au:V9:=[none,none,none,some ([3],[2,3,4,5,6,7,8,9,10,11,12,13,14,15,16,17,18,19,20,21,22,23,24,25,26,27,28,29,30,31,32,33,34,35,36,37,38,39,40,41,42,43,44,45,46,47,48,49,50]),none,none,none,none,none,none,none]
def Ou (g:Value) (w:World) (K:Value→World→Prop):Prop:= lp (α:=Value) (.int .i64 0) w fun i j d_ w=>X3 P .len [T.c] T.e [false] [g] w fun t7 w=>Q3 P .lss T.e (.tmp 5) (.tmp 7) j t7 w fun t8 w=>X1 t8 (C1 P T.c g j w fun t w=>Q3 P .geq T.a2 (.tmp 13) (.const (.int .u8 97)) t (.int .u8 97) w fun d w=>Q0 d true w (fun w J=>J g w) fun R w=>Q0 d true w (fun w J=>J j w) fun O w=>Q0 d true w (C1 P T.c R O) fun U w=>Q0 d true w (Q3 P .leq T.a2 (.tmp 18) (.const (.int .u8 122)) U (.int .u8 122)) fun m w=>pick P d m (.bool false) w fun a w=>Q0 a false w (fun w J=>J g w) fun B w=>Q0 a false w (fun w J=>J j w) fun M w=>Q0 a false w (C1 P T.c B M) fun aa w=>Q0 a false w (Q3 P .geq T.a2 (.tmp 24) (.const (.int .u8 65)) aa (.int .u8 65)) fun y w=>Q0 a false w (fun w J=>J y w) fun e w=>Q0 e true w (fun w J=>J g w) fun Q w=>Q0 e true w (fun w J=>J j w) fun u w=>Q0 e true w (C1 P T.c Q u) fun N w=>Q0 e true w (Q3 P .leq T.a2 (.tmp 29) (.const (.int .u8 90)) N (.int .u8 90)) fun E w=>Q0 a false w (pick P e E (.bool false)) fun l w=>pick P a (.bool true) l w fun C w=>J8 P .not C w fun b w=>Q0 b true w (fun w J=>J j w) fun X w=>Q0 b true w (Q3 P .eql T.e (.tmp 36) (.const (.int .i64 0)) X (.int .i64 0)) fun n w=>Q0 b true w (fun w J=>J n w) fun f w=>Q0 f false w (fun w J=>J g w) fun V w=>Q0 f false w (fun w J=>J j w) fun s w=>Q0 f false w (C1 P T.c V s) fun o w=>Q0 f false w (Q3 P .lss T.a2 (.tmp 41) (.const (.int .u8 48)) o (.int .u8 48)) fun H w=>Q0 b true w (pick P f (.bool true) H) fun q w=>Q0 b true w (fun w J=>J q w) fun c w=>Q0 c false w (fun w J=>J g w) fun r w=>Q0 c false w (fun w J=>J j w) fun v w=>Q0 c false w (C1 P T.c r v) fun Z w=>Q0 c false w (Q3 P .gtr T.a2 (.tmp 47) (.const (.int .u8 57)) Z (.int .u8 57)) fun ab w=>Q0 b true w (pick P c (.bool true) ab) fun Y w=>pick P b Y (.bool false) w fun z w=>X1 z (K (.bool false) w) (Q3 P .add T.e (.tmp 9) (.const (.int .i64 1)) j (.int .i64 1) w fun A w=>i A w)) (X3 P .len [T.c] T.e [false] [g] w fun D w=>Q3 P .geq T.e (.tmp 52) (.const (.int .i64 1)) D (.int .i64 1) w fun h w=>Q0 h true w (fun w J=>J g w) fun p w=>Q0 h true w (X3 P .len [T.c] T.e [false] [p]) fun W w=>Q0 h true w (Q3 P .leq T.e (.tmp 56) (.const (.int .i64 32)) W (.int .i64 32)) fun k w=>pick P h k (.bool false) w fun L w=>K L w)
theorem Ar {a:Value} {w:World} {K:Value→World→Prop} (h:Ou a w K):Q1 P F.aZ [a] w K:=Q9 Au Tryz.func190 rfl (by decide) (by kernel_rfl) h
def Me (b:Value) (w:World) (K:Value→World→Prop):Prop:= Q1 P F.aZ [b] w fun a w=>Q0 a true w (fun w J=>J b w) fun e w=>Q0 a true w (C1 P T.c e (.int .i64 0)) fun d w=>Q0 a true w (Q3 P .leq T.a2 (.tmp 7) (.const (.int .u8 90)) d (.int .u8 90)) fun c w=>pick P a c (.bool false) w fun f w=>K f w
theorem Kj {a:Value} {w:World} {K:Value→World→Prop} (h:Me a w K):Q1 P F.d [a] w K:=Q9 (List.replicate 2 none) Tryz.func160 rfl (by decide) (by kernel_rfl) h
def Ly (f:Value) (w:World) (K:Value→World→Prop):Prop:= Q1 P F.a2 [f] w fun m w=>X3 P .len [T.c] T.e [false] [f] w fun n w=>Q3 P .mul T.e (.const (.int .i64 2)) (.tmp 10) (.int .i64 2) m w fun l w=>Q3 P .sub T.e (.tmp 9) (.tmp 11) n l w fun h w=>R8 P T.c f none (some h) none w fun c w=>Q3 P .leq T.e (.tmp 14) (.const (.int .i64 3)) m (.int .i64 3) w fun a w=>Q0 a true w (fun w J=>J c w) fun k w=>Q0 a true w (Q1 P F.y [k]) fun d w=>Q0 a true w (fun w J=>J d w) fun b w=>Q0 b false w (fun w J=>J c w) fun e w=>Q0 b false w (Q1 P F.d [e]) fun i w=>Q0 a true w (pick P b (.bool true) i) fun g w=>pick P a g (.bool false) w fun j w=>K j w
theorem Kv {a:Value} {w:World} {K:Value→World→Prop} (h:Ly a w K):Q1 P F.e [a] w K:=Q9 (List.replicate 4 none) Tryz.func118 rfl (by decide) (by kernel_rfl) h
def Lv (b:Value) (w:World) (K:Value→World→Prop):Prop:= Q1 P F.aZ [b] w fun a w=>Q0 a true w (fun w J=>J b w) fun e w=>Q0 a true w (C1 P T.c e (.int .i64 0)) fun d w=>Q0 a true w (Q3 P .geq T.a2 (.tmp 7) (.const (.int .u8 97)) d (.int .u8 97)) fun c w=>pick P a c (.bool false) w fun f w=>K f w
theorem Gf {a:Value} {w:World} {K:Value→World→Prop} (h:Lv a w K):Q1 P F.v [a] w K:=Q9 (List.replicate 2 none) Tryz.func181 rfl (by decide) (by kernel_rfl) h
def Nn (j i:Value) (w:World) (K:Value→World→Prop):Prop:= X3 P .len [T.c] T.e [false] [j] w fun n w=>Q3 P .lss T.e (.tmp 5) (.tmp 7) i n w fun b w=>Q0 b true w (fun w J=>J j w) fun d w=>Q0 b true w (fun w J=>J i w) fun m w=>Q0 b true w (C1 P T.c d m) fun k w=>Q0 b true w (Q3 P .geq T.a2 (.tmp 12) (.const (.int .u8 128)) k (.int .u8 128)) fun f w=>pick P b f (.bool false) w fun a w=>Q0 a true w (fun w J=>J j w) fun c w=>Q0 a true w (fun w J=>J i w) fun l w=>Q0 a true w (C1 P T.c c l) fun e w=>Q0 a true w (Q3 P .lss T.a2 (.tmp 18) (.const (.int .u8 192)) e (.int .u8 192)) fun g w=>pick P a g (.bool false) w fun h w=>K h w
theorem Th {b a:Value} {w:World} {K:Value→World→Prop} (h:Nn b a w K):Q1 P F.r [b,a] w K:=Q9 (List.replicate 2 none) Tryz.func154 rfl (by decide) (by kernel_rfl) h
def Av:V9:=[none,none,some ([],[2,4,5,9,10,11,12,13,14,15,16,17,18,19,20,21,22,23,24,25,26,27,28,29,30,31,32,33,34,35,36,37,38,39,40,41,42,43,44,45,46,47,48,49,50,51,52,53,54,55,56,57,58,59,60,61,62,63,64,65,66,67,68,69,70,71,72,73,74,75,76,77,78,79,80,81,82,83,84,85,86,87,88,89,90,91,92,93,94,95,96,97,98,99,100,101,102,103,104,105,106]),none,none,none,none,none,none,none,none,none,none,none,none,none]
def On (c:Value) (w:World) (K:Value→World→Prop):Prop:= C1 P T.c c (.int .i64 0) w fun t7 w=>conv P T.a2 T.e t7 w fun t8 w=>jn (α:=Unit) w (fun J2 w=>Q3 P .lss T.e (.tmp 10) (.const (.int .i64 128)) t8 (.int .i64 128) w fun bk w=>X1 bk (K (.int .i64 1) w) (Q3 P .geq T.e (.tmp 13) (.const (.int .i64 194)) t8 (.int .i64 194) w fun ao w=>Q0 ao true w (fun w J=>J t8 w) fun bn w=>Q0 ao true w (Q3 P .lss T.e (.tmp 16) (.const (.int .i64 224)) bn (.int .i64 224)) fun bx w=>pick P ao bx (.bool false) w fun an w=>Q0 an true w (fun w J=>J c w) fun bu w=>Q0 an true w (Q1 P F.r [bu,(.int .i64 1)]) fun be w=>pick P an be (.bool false) w fun bi w=>X1 bi (K (.int .i64 2) w) (Q3 P .geq T.e (.tmp 24) (.const (.int .i64 224)) t8 (.int .i64 224) w fun ak w=>Q0 ak true w (fun w J=>J t8 w) fun bm w=>Q0 ak true w (Q3 P .lss T.e (.tmp 27) (.const (.int .i64 240)) bm (.int .i64 240)) fun bc w=>pick P ak bc (.bool false) w fun am w=>Q0 am true w (fun w J=>J c w) fun a7 w=>Q0 am true w (Q1 P F.r [a7,(.int .i64 1)]) fun bj w=>pick P am bj (.bool false) w fun av w=>Q0 av true w (fun w J=>J c w) fun ba w=>Q0 av true w (Q1 P F.r [ba,(.int .i64 2)]) fun b1 w=>pick P av b1 (.bool false) w fun a8 w=>X1 a8 (dr w fun a b=>Q5 a (fun ad=> ∀w,b w→Q3 P .rem T.e (.tmp 38) (.const (.int .i64 16)) t8 (.int .i64 16) w (dk a ad w)) fun ad=>Q5 a (fun y=> ∀C w,b w→ad C w→Q3 P .mul T.e (.tmp 39) (.const (.int .i64 4096)) C (.int .i64 4096) w (dk a y w)) fun y=>Q5 a (fun ac=> ∀w,b w→C1 P T.c c (.int .i64 1) w (dk a ac w)) fun ac=>Q5 a (fun E=> ∀X w,b w→ac X w→Q3 P .rem T.a2 (.tmp 42) (.const (.int .u8 64)) X (.int .u8 64) w (dk a E w)) fun E=>Q5 a (fun R=> ∀w,b w→C1 P T.c c (.int .i64 2) w (dk a R w)) fun R=>Q5 a (fun k=> ∀af w,b w→R af w→Q3 P .rem T.a2 (.tmp 48) (.const (.int .u8 64)) af (.int .u8 64) w (dk a k w)) fun k=>Q5 a (fun l=> ∀h w,b w→E h w→conv P T.a2 T.e h w (dk a l w)) fun l=>Q5 a (fun m=> ∀g w,b w→l g w→Q3 P .mul T.e (.tmp 44) (.const (.int .i64 64)) g (.int .i64 64) w (dk a m w)) fun m=>Q5 a (fun aq=> ∀j N w,b w→y j w→m N w→Q3 P .add T.e (.tmp 40) (.tmp 45) j N w (dk a aq w)) fun aq=>Q5 a (fun aj=> ∀D w,b w→k D w→conv P T.a2 T.e D w (dk a aj w)) fun aj=>∀C j X h af D g N a1 a3 w,b w→ad C w→y j w→ac X w→E h w→R af w→k D w→l g w→m N w→aq a1 w→aj a3 w→ Q3 P .add T.e (.tmp 46) (.tmp 50) a1 a3 w fun al w=>Q3 P .geq T.e (.tmp 52) (.const (.int .i64 2048)) al (.int .i64 2048) w fun d w=>Q0 d true w (fun w J=>J al w) fun a9 w=>Q0 d true w (Q3 P .lss T.e (.tmp 55) (.const (.int .i64 55296)) a9 (.int .i64 55296)) fun b0 w=>Q0 d true w (fun w J=>J b0 w) fun ai w=>Q0 ai false w (fun w J=>J al w) fun bv w=>Q0 ai false w (Q3 P .gtr T.e (.tmp 58) (.const (.int .i64 57343)) bv (.int .i64 57343)) fun bp w=>Q0 d true w (pick P ai (.bool true) bp) fun bl w=>pick P d bl (.bool false) w fun bz w=>X1 bz (K (.int .i64 3) w) (J2 () w)) (Q3 P .geq T.e (.tmp 63) (.const (.int .i64 240)) t8 (.int .i64 240) w fun ap w=>Q0 ap true w (fun w J=>J t8 w) fun bs w=>Q0 ap true w (Q3 P .lss T.e (.tmp 66) (.const (.int .i64 245)) bs (.int .i64 245)) fun bb w=>pick P ap bb (.bool false) w fun aw w=>Q0 aw true w (fun w J=>J c w) fun bq w=>Q0 aw true w (Q1 P F.r [bq,(.int .i64 1)]) fun bf w=>pick P aw bf (.bool false) w fun ay w=>Q0 ay true w (fun w J=>J c w) fun bo w=>Q0 ay true w (Q1 P F.r [bo,(.int .i64 2)]) fun bw w=>pick P ay bw (.bool false) w fun ax w=>Q0 ax true w (fun w J=>J c w) fun bg w=>Q0 ax true w (Q1 P F.r [bg,(.int .i64 3)]) fun br w=>pick P ax br (.bool false) w fun bd w=>X1 bd (dr w fun a b=>Q5 a (fun L=> ∀w,b w→Q3 P .rem T.e (.tmp 81) (.const (.int .i64 8)) t8 (.int .i64 8) w (dk a L w)) fun L=>Q5 a (fun B=> ∀W w,b w→L W w→Q3 P .mul T.e (.tmp 82) (.const (.int .i64 262144)) W (.int .i64 262144) w (dk a B w)) fun B=>Q5 a (fun H=> ∀w,b w→C1 P T.c c (.int .i64 1) w (dk a H w)) fun H=>Q5 a (fun f=> ∀V w,b w→H V w→Q3 P .rem T.a2 (.tmp 85) (.const (.int .u8 64)) V (.int .u8 64) w (dk a f w)) fun f=>Q5 a (fun o=> ∀w,b w→C1 P T.c c (.int .i64 2) w (dk a o w)) fun o=>Q5 a (fun v=> ∀A w,b w→o A w→Q3 P .rem T.a2 (.tmp 91) (.const (.int .u8 64)) A (.int .u8 64) w (dk a v w)) fun v=>Q5 a (fun u=> ∀w,b w→C1 P T.c c (.int .i64 3) w (dk a u w)) fun u=>Q5 a (fun ae=> ∀p w,b w→u p w→Q3 P .rem T.a2 (.tmp 97) (.const (.int .u8 64)) p (.int .u8 64) w (dk a ae w)) fun ae=>Q5 a (fun Q=> ∀z w,b w→f z w→conv P T.a2 T.e z w (dk a Q w)) fun Q=>Q5 a (fun U=> ∀Z w,b w→Q Z w→Q3 P .mul T.e (.tmp 87) (.const (.int .i64 4096)) Z (.int .i64 4096) w (dk a U w)) fun U=>Q5 a (fun M=> ∀O q w,b w→B O w→U q w→Q3 P .add T.e (.tmp 83) (.tmp 88) O q w (dk a M w)) fun M=>Q5 a (fun aa=> ∀n w,b w→v n w→conv P T.a2 T.e n w (dk a aa w)) fun aa=>Q5 a (fun r=> ∀t w,b w→aa t w→Q3 P .mul T.e (.tmp 93) (.const (.int .i64 64)) t (.int .i64 64) w (dk a r w)) fun r=>Q5 a (fun ah=> ∀i s w,b w→M i w→r s w→Q3 P .add T.e (.tmp 89) (.tmp 94) i s w (dk a ah w)) fun ah=>Q5 a (fun ar=> ∀Y w,b w→ae Y w→conv P T.a2 T.e Y w (dk a ar w)) fun ar=>∀W O V z A n p Y Z q i t s a5 az w,b w→L W w→B O w→H V w→f z w→o A w→v n w→u p w→ae Y w→Q Z w→U q w→M i w→aa t w→r s w→ah a5 w→ar az w→ Q3 P .add T.e (.tmp 95) (.tmp 99) a5 az w fun ag w=>Q3 P .geq T.e (.tmp 101) (.const (.int .i64 65536)) ag (.int .i64 65536) w fun e w=>Q0 e true w (fun w J=>J ag w) fun a2 w=>Q0 e true w (Q3 P .leq T.e (.tmp 104) (.const (.int .i64 1114111)) a2 (.int .i64 1114111)) fun a6 w=>pick P e a6 (.bool false) w fun a4 w=>X1 a4 (K (.int .i64 4) w) (J2 () w)) (J2 () w))))) fun z2 d_ w=>K (.int .i64 0) w
theorem Q0e {a:Value} {w:World} {K:Value→World→Prop} (h:On a w K):Q1 P F.bH [a] w K:=Q9 Av Tryz.func113 rfl (by decide) (by kernel_rfl) h
def Pu:V9:=[none,none,some ([0],[0,2,3,4,5,6,7,8,9,10,11,12]),none,none,none,none,none,none,none]
def Mf (f:Value) (w:World) (K:Value→World→Prop):Prop:= lp (α:=Value) f w fun a c h w=>Q3 P .neq T.c (.tmp 4) (.const (.string ⟨#[]⟩)) c (.string ⟨#[]⟩) w fun e w=>X1 e (Q1 P F.bH [c] w fun d w=>Q3 P .eql T.e (.tmp 8) (.const (.int .i64 0)) d (.int .i64 0) w fun g w=>X1 g (K (.bool false) w) (R8 P T.c c (some d) none none w fun b w=>a b w)) (K (.bool true) w)
theorem Kq {a:Value} {w:World} {K:Value→World→Prop} (h:Mf a w K):Q1 P F.aL [a] w K:=Q9 Pu Tryz.func65 rfl (by decide) (by kernel_rfl) h
def Ej (w:World) (K:Value→World→Prop):Prop:= buildSlice P T.h 42 [(0,(.string ⟨#[105,110,116]⟩)),(1,(.string ⟨#[116,114,117,101]⟩)),(2,(.string ⟨#[102,97,108,115,101]⟩)),(3,(.string ⟨#[119,111,114,100]⟩)),(4,(.string ⟨#[110,117,108,108]⟩)),(5,(.string ⟨#[108,111,97,100]⟩)),(6,(.string ⟨#[115,116,111,114,101]⟩)),(7,(.string ⟨#[112,111,112]⟩)),(8,(.string ⟨#[100,117,112]⟩)),(9,(.string ⟨#[115,119,97,112]⟩)),(10,(.string ⟨#[97,100,100]⟩)),(11,(.string ⟨#[115,117,98]⟩)),(12,(.string ⟨#[109,117,108]⟩)),(13,(.string ⟨#[100,105,118]⟩)),(14,(.string ⟨#[114,101,109]⟩)),(15,(.string ⟨#[110,101,103]⟩)),(16,(.string ⟨#[108,101,115,115]⟩)),(17,(.string ⟨#[115,97,109,101]⟩)),(18,(.string ⟨#[110,111,116]⟩)),(19,(.string ⟨#[98,111,116,104]⟩)),(20,(.string ⟨#[106,111,105,110]⟩)),(21,(.string ⟨#[115,105,122,101]⟩)),(22,(.string ⟨#[106,117,109,112]⟩)),(23,(.string ⟨#[98,114,97,110,99,104]⟩)),(24,(.string ⟨#[110,101,119]⟩)),(25,(.string ⟨#[103,101,116]⟩)),(26,(.string ⟨#[112,117,116]⟩)),(27,(.string ⟨#[99,97,108,108]⟩)),(28,(.string ⟨#[97,114,114,97,121]⟩)),(29,(.string ⟨#[97,116]⟩)),(30,(.string ⟨#[115,101,116]⟩)),(31,(.string ⟨#[105,115]⟩)),(32,(.string ⟨#[99,97,115,116]⟩)),(33,(.string ⟨#[114,101,116,117,114,110]⟩)),(34,(.string ⟨#[116,104,114,111,119]⟩)),(35,(.string ⟨#[111,117,116]⟩)),(36,(.string ⟨#[101,113,117,97,108]⟩)),(37,(.string ⟨#[97,110,100]⟩)),(38,(.string ⟨#[111,114]⟩)),(39,(.string ⟨#[120,111,114]⟩)),(40,(.string ⟨#[115,104,108]⟩)),(41,(.string ⟨#[115,104,114]⟩))] w fun a w=>K a w
theorem Q0D {w:World} {K:Value→World→Prop} (h:Ej w K):Q1 P F.bV [] w K:=Q9 (List.replicate 2 none) Tryz.func233 rfl (by decide) (by kernel_rfl) h
def Ge:V9:=[none,none,none,none,some ([4],[2,4,6,7,8,9,10,11,12,13,14,15,16,17,18]),none,none,none,none,none,none]
def Ln (i:Value) (w:World) (K:Value→World→Prop):Prop:= Q1 P F.bV [] w fun g w=>lp (α:=Value) (.int .i64 0) w fun a b k w=>X3 P .len [T.h] T.e [false] [g] w fun h w=>Q3 P .lss T.e (.tmp 6) (.tmp 8) b h w fun j w=>X1 j (indexAddr P T.h g b w fun f w=>Q2 P T.c f w fun c w=>Q3 P .eql T.c (.tmp 15) (.tmp 16) c i w fun d w=>X1 d (K b w) (Q3 P .add T.e (.tmp 10) (.const (.int .i64 1)) b (.int .i64 1) w fun e w=>a e w)) (K (.int .i64 (-1)) w)
theorem Ie {a:Value} {w:World} {K:Value→World→Prop} (h:Ln a w K):Q1 P F.bh [a] w K:=Q9 Ge Tryz.func230 rfl (by decide) (by kernel_rfl) h
def Tf:V9:=[none,none,none,some ([4],[4,5,6,7,8,9]),none,none,none,none,none,some ([10],[10,11,12,13,14,15,16,17,18]),none,none,none,none,none,none,none,none,none,none,none,none]
def Nq (a:Value) (w:World) (K:Value→World→Prop):Prop:= jn (α:=Value) w (fun e w=>Q3 P .eql T.c (.tmp 3) (.const (.string ⟨#[105,110,116]⟩)) a (.string ⟨#[105,110,116]⟩) w fun p w=>X1 p (e p w) (Q3 P .eql T.c (.tmp 3) (.const (.string ⟨#[108,111,97,100]⟩)) a (.string ⟨#[108,111,97,100]⟩) w fun n w=>X1 n (e n w) (Q3 P .eql T.c (.tmp 3) (.const (.string ⟨#[115,116,111,114,101]⟩)) a (.string ⟨#[115,116,111,114,101]⟩) w fun o w=>X1 o (e o w) (Q3 P .eql T.c (.tmp 3) (.const (.string ⟨#[106,117,109,112]⟩)) a (.string ⟨#[106,117,109,112]⟩) w fun q w=>X1 q (e q w) (Q3 P .eql T.c (.tmp 3) (.const (.string ⟨#[98,114,97,110,99,104]⟩)) a (.string ⟨#[98,114,97,110,99,104]⟩) w fun r w=>e r w))))) fun t s w=>X1 t (K (.int .i64 1) w) (jn (α:=Value) w (fun b w=>Q3 P .eql T.c (.tmp 3) (.const (.string ⟨#[119,111,114,100]⟩)) a (.string ⟨#[119,111,114,100]⟩) w fun i w=>X1 i (b i w) (Q3 P .eql T.c (.tmp 3) (.const (.string ⟨#[110,101,119]⟩)) a (.string ⟨#[110,101,119]⟩) w fun g w=>X1 g (b g w) (Q3 P .eql T.c (.tmp 3) (.const (.string ⟨#[103,101,116]⟩)) a (.string ⟨#[103,101,116]⟩) w fun f w=>X1 f (b f w) (Q3 P .eql T.c (.tmp 3) (.const (.string ⟨#[112,117,116]⟩)) a (.string ⟨#[112,117,116]⟩) w fun d w=>X1 d (b d w) (Q3 P .eql T.c (.tmp 3) (.const (.string ⟨#[99,97,108,108]⟩)) a (.string ⟨#[99,97,108,108]⟩) w fun c w=>X1 c (b c w) (Q3 P .eql T.c (.tmp 3) (.const (.string ⟨#[97,114,114,97,121]⟩)) a (.string ⟨#[97,114,114,97,121]⟩) w fun j w=>X1 j (b j w) (Q3 P .eql T.c (.tmp 3) (.const (.string ⟨#[105,115]⟩)) a (.string ⟨#[105,115]⟩) w fun h w=>X1 h (b h w) (Q3 P .eql T.c (.tmp 3) (.const (.string ⟨#[99,97,115,116]⟩)) a (.string ⟨#[99,97,115,116]⟩) w fun m w=>b m w)))))))) fun u s w=>X1 u (K (.int .i64 2) w) (Q1 P F.bh [a] w fun l w=>Q3 P .lss T.e (.tmp 20) (.const (.int .i64 0)) l (.int .i64 0) w fun k w=>X1 k (K (.int .i64 (-1)) w) (K (.int .i64 0) w)))
theorem Pb {a:Value} {w:World} {K:Value→World→Prop} (h:Nq a w K):Q1 P F.bx [a] w K:=Q9 Tf Tryz.func225 rfl (by decide) (by kernel_rfl) h
def Pg:V9:=[none,none,none,some ([5],[2,3,4,5,6,7,8,9,10,11,12,13,14,15,16,17,18,19,20,21,22,23,24,25,26,27,28,29,30,31,32,33]),none,none,none,none,none,none]
def Nc (z:Value) (w:World) (K:Value→World→Prop):Prop:= lp (α:=Value) (.int .i64 0) w fun j v N w=>X3 P .len [T.c] T.e [false] [z] w fun M w=>Q3 P .lss T.e (.tmp 6) (.tmp 8) v M w fun L w=>X1 L (C1 P T.c z v w fun H w=>Q3 P .eql T.a2 (.tmp 14) (.const (.int .u8 46)) H (.int .u8 46) w fun D w=>X1 D (dr w fun b d=>Q5 b (fun y=> ∀w,d w→R8 P T.c z none (some v) none w (dk b y w)) fun y=>Q5 b (fun s=> ∀w,d w→Q3 P .add T.e (.tmp 20) (.const (.int .i64 1)) v (.int .i64 1) w (dk b s w)) fun s=>Q5 b (fun u=> ∀h w,d w→s h w→R8 P T.c z (some h) none none w (dk b u w)) fun u=>Q5 b (fun k=> ∀w,d w→R8 P T.c z none (some v) none w (dk b k w)) fun k=>Q5 b (fun c=> ∀i w,d w→k i w→Q1 P F.d [i] w (dk b c w)) fun c=>Q5 b (fun f=> ∀a w,d w→c a w→Q0 a true w (fun w J=>J z w) (dk b f w)) fun f=>Q5 b (fun l=> ∀a w,d w→c a w→Q0 a true w (fun w J=>J v w) (dk b l w)) fun l=>Q5 b (fun r=> ∀a o w,d w→c a w→l o w→Q0 a true w (Q3 P .add T.e (.tmp 29) (.const (.int .i64 1)) o (.int .i64 1)) (dk b r w)) fun r=>Q5 b (fun p=> ∀a g n w,d w→c a w→f g w→r n w→Q0 a true w (R8 P T.c g (some n) none none) (dk b p w)) fun p=>Q5 b (fun q=> ∀a e w,d w→c a w→p e w→Q0 a true w (Q1 P F.v [e]) (dk b q w)) fun q=>Q5 b (fun t=> ∀a m w,d w→c a w→q m w→pick P a m (.bool false) w (dk b t w)) fun t=>∀C h B i a g o n e m A w,d w→y C w→s h w→u B w→k i w→c a w→f g w→l o w→r n w→p e w→q m w→t A w→ K (.tuple #[C,B,A]) w) (Q3 P .add T.e (.tmp 10) (.const (.int .i64 1)) v (.int .i64 1) w fun E w=>j E w)) (K (.tuple #[(.string ⟨#[]⟩),(.string ⟨#[]⟩),(.bool false)]) w)
theorem Pe {a:Value} {w:World} {K:Value→World→Prop} (h:Nc a w K):Q1 P F.bz [a] w K:=Q9 Pg Tryz.func226 rfl (by decide) (by kernel_rfl) h
def Po:V9:=[none,none,none,none,none,none,some ([4],[4,5,6,7,8,30,31,32,33,34,35,36,37,38,39,40,41,42,43,44,45,46,47,48,49,50,51,52,53,54,55,56,57,58,59,60,61,62,63,64,65,66,67,68,69,70,71,72,73,74,75,76,77,78,79,80,81,82,83,84,85,86,87,88,89,90,91,92,93,94,95,96,97,98,99,100,101,102,103,104,105,106,107,108,109,110]),none,none,none,none,none,some ([4,5],[4,5,59,60,61,62,63,64,65,66,67,68,69,70,71,72,73]),none,none,none,none,some ([82],[82,83,84]),none,none,none,none,none,none,none]
def Mw (a0:Value) (w:World) (K:Value→World→Prop):Prop:= box P T.w a0 w fun d w=>fieldAddr P T.w d 0 w fun t9 w=>Q2 P T.c t9 w fun az w=>Q1 P F.bx [az] w fun j w=>Q3 P .lss T.e (.tmp 12) (.const (.int .i64 0)) j (.int .i64 0) w fun ap w=>X1 ap (K (.int .i64 40) w) (Q3 P .eql T.e (.tmp 14) (.const (.int .i64 1)) j (.int .i64 1) w fun i w=>Q0 i false w (fieldAddr P T.w d 1) fun a6 w=>Q0 i false w (Q2 P T.a1 a6) fun aj w=>Q0 i false w (Q3 P .eql T.a1 (.tmp 18) (.const (.int .i64 0)) aj (.int .i64 0)) fun am w=>pick P i (.bool true) am w fun h w=>Q0 h true w (fun w J=>J j w) fun ad w=>Q0 h true w (Q3 P .eql T.e (.tmp 22) (.const (.int .i64 2)) ad (.int .i64 2)) fun ag w=>Q0 h true w (fun w J=>J ag w) fun k w=>Q0 k false w (fieldAddr P T.w d 2) fun W w=>Q0 k false w (Q2 P T.c W) fun a1 w=>Q0 k false w (Q3 P .eql T.c (.tmp 26) (.const (.string ⟨#[]⟩)) a1 (.string ⟨#[]⟩)) fun ai w=>Q0 h true w (pick P k (.bool true) ai) fun R w=>pick P h R (.bool false) w fun a w=>jn (α:=Value) w (fun n w=>Q3 P .eql T.e (.tmp 30) (.const (.int .i64 2)) j (.int .i64 2) w fun C w=>X1 C (fieldAddr P T.w d 0 w fun ae w=>Q2 P T.c ae w fun g w=>Q3 P .eql T.c (.tmp 33) (.const (.string ⟨#[119,111,114,100]⟩)) g (.string ⟨#[119,111,114,100]⟩) w fun V w=>X1 V (Q0 a true w (fieldAddr P T.w d 2) fun al w=>Q0 a true w (Q2 P T.c al) fun ab w=>Q0 a true w (X3 P .len [T.c] T.e [false] [ab]) fun Z w=>Q0 a true w (Q3 P .leq T.e (.tmp 51) (.const (.int .i64 64)) Z (.int .i64 64)) fun a3 w=>pick P a a3 (.bool false) w fun l w=>Q0 l true w (fieldAddr P T.w d 2) fun D w=>Q0 l true w (Q2 P T.c D) fun bc w=>Q0 l true w (Q1 P F.aL [bc]) fun B w=>pick P l B (.bool false) w fun a4 w=>lp (α:=Value×Value) (a4,(.int .i64 0)) w fun e b d_ w=>fieldAddr P T.w d 2 w fun ah w=>Q2 P T.c ah w fun ba w=>X3 P .len [T.c] T.e [false] [ba] w fun ao w=>Q3 P .lss T.e (.tmp 59) (.tmp 62) b.2 ao w fun a9 w=>X1 a9 (Q0 b.1 true w (fieldAddr P T.w d 2) fun av w=>Q0 b.1 true w (Q2 P T.c av) fun bb w=>Q0 b.1 true w (fun w J=>J b.2 w) fun an w=>Q0 b.1 true w (C1 P T.c bb an) fun Y w=>Q0 b.1 true w (Q3 P .neq T.a2 (.tmp 71) (.const (.int .u8 10)) Y (.int .u8 10)) fun a2 w=>pick P b.1 a2 (.bool false) w fun ay w=>Q3 P .add T.e (.tmp 64) (.const (.int .i64 1)) b.2 (.int .i64 1) w fun N w=>e (ay,N) w) (n b.1 w)) (Q3 P .eql T.c (.tmp 33) (.const (.string ⟨#[110,101,119]⟩)) g (.string ⟨#[110,101,119]⟩) w fun a5 w=>X1 a5 (Q0 a true w (fieldAddr P T.w d 2) fun aa w=>Q0 a true w (Q2 P T.c aa) fun aq w=>Q0 a true w (Q1 P F.d [aq]) fun U w=>pick P a U (.bool false) w fun a7 w=>n a7 w) (jn (α:=Value) w (fun y w=>Q3 P .eql T.c (.tmp 33) (.const (.string ⟨#[105,115]⟩)) g (.string ⟨#[105,115]⟩) w fun s w=>X1 s (y s w) (Q3 P .eql T.c (.tmp 33) (.const (.string ⟨#[99,97,115,116]⟩)) g (.string ⟨#[99,97,115,116]⟩) w fun ax w=>y ax w)) fun ar d_ w=>X1 ar (Q0 a true w (fieldAddr P T.w d 2) fun be w=>Q0 a true w (Q2 P T.c be) fun X w=>Q0 a true w (Q1 P F.e [X]) fun M w=>pick P a M (.bool false) w fun f w=>Q0 f true w (fieldAddr P T.w d 2) fun Q w=>Q0 f true w (Q2 P T.c Q) fun af w=>Q0 f true w (Q1 P F.y [af]) fun ac w=>Q0 f true w (J8 P .not ac) fun aw w=>pick P f aw (.bool false) w fun ak w=>n ak w) (Q3 P .eql T.c (.tmp 33) (.const (.string ⟨#[97,114,114,97,121]⟩)) g (.string ⟨#[97,114,114,97,121]⟩) w fun a8 w=>X1 a8 (Q0 a true w (fieldAddr P T.w d 2) fun A w=>Q0 a true w (Q2 P T.c A) fun v w=>Q0 a true w (Q1 P F.e [v]) fun r w=>pick P a r (.bool false) w fun c w=>Q0 c true w (fieldAddr P T.w d 2) fun q w=>Q0 c true w (Q2 P T.c q) fun o w=>Q0 c true w (Q1 P F.a2 [o]) fun z w=>Q0 c true w (Q3 P .lss T.e (.tmp 108) (.const (.int .i64 3)) z (.int .i64 3)) fun u w=>pick P c u (.bool false) w fun p w=>n p w) (fieldAddr P T.w d 2 w fun L w=>Q2 P T.c L w fun bd w=>Q1 P F.bz [bd] w fun m w=>ext P m 0 w fun bj w=>ext P m 1 w fun bg w=>ext P m 2 w fun O w=>Q0 a true w (fun w J=>J O w) fun H w=>pick P a H (.bool false) w fun E w=>n E w))))) (n a w)) fun z6 d_ w=>J8 P .not z6 w fun t w=>X1 t (K (.int .i64 41) w) (K (.int .i64 0) w))
theorem Iu {a:Value} {w:World} {K:Value→World→Prop} (h:Mw a w K):Q1 P F.bw [a] w K:=Q9 Po Tryz.func215 rfl (by decide) (by kernel_rfl) h
def Q12:V9:=[none,none,none,some ([3],[2,3,4,5,6,7,8,9,10,11,12,13,14,15,16,17,18]),none,none,none,none,none,none,none]
def Ep (h:Value) (w:World) (K:Value→World→Prop):Prop:= lp (α:=Value) (.int .i64 0) w fun a e k w=>X3 P .len [T.q] T.e [false] [h] w fun j w=>Q3 P .lss T.e (.tmp 5) (.tmp 7) e j w fun i w=>X1 i (indexAddr P T.q h e w fun d w=>Q2 P T.w d w fun g w=>Q1 P F.bw [g] w fun b w=>Q3 P .neq T.v (.tmp 16) (.const (.int .i64 0)) b (.int .i64 0) w fun f w=>X1 f (K b w) (Q3 P .add T.e (.tmp 9) (.const (.int .i64 1)) e (.int .i64 1) w fun c w=>a c w)) (K (.int .i64 0) w)
theorem Q0S {a:Value} {w:World} {K:Value→World→Prop} (h:Ep a w K):Q1 P F.b4 [a] w K:=Q9 Q12 Tryz.func203 rfl (by decide) (by kernel_rfl) h
def Gc:V9:=[none,none,none,none,some ([3,4],[3,4,21,22,23,24,25,26,27,28,29,30,31,32,33,34,35,36]),none,none,none,none,none,none,none,none,none,some ([3,6],[3,6,7,60,61,62,63,64,65,66,67,68,69,70,71,72,73,74,75,76,77,78,79,80,81,82,83,84,85,86,87,88,89,90,91,92,93,94,95,96,97,98,99,100,101,102,103,104,105,106]),none,none,none,none,none]
def Ld (a0:Value) (w:World) (K:Value→World→Prop):Prop:= box P T.d a0 w fun e w=>fieldAddr P T.d e 0 w fun t8 w=>Q2 P T.c t8 w fun t9 w=>Q1 P F.v [t9] w fun g w=>Q0 g true w (fieldAddr P T.d e 2) fun bj w=>Q0 g true w (Q2 P T.c bj) fun a9 w=>Q0 g true w (Q3 P .eql T.c (.tmp 13) (.const (.string ⟨#[]⟩)) a9 (.string ⟨#[]⟩)) fun az w=>Q0 g true w (fun w J=>J az w) fun n w=>Q0 n false w (fieldAddr P T.d e 2) fun ar w=>Q0 n false w (Q2 P T.c ar) fun bo w=>Q0 n false w (Q1 P F.e [bo]) fun av w=>Q0 g true w (pick P n (.bool true) av) fun a1 w=>pick P g a1 (.bool false) w fun bh w=>lp (α:=Value×Value) (bh,(.int .i64 0)) w fun o d d_ w=>fieldAddr P T.d e 1 w fun am w=>Q2 P T.h am w fun ap w=>X3 P .len [T.h] T.e [false] [ap] w fun ay w=>Q3 P .lss T.e (.tmp 21) (.tmp 24) d.2 ay w fun ah w=>X1 ah (Q0 d.1 true w (fieldAddr P T.d e 1) fun bl w=>Q0 d.1 true w (Q2 P T.h bl) fun W w=>Q0 d.1 true w (fun w J=>J d.2 w) fun an w=>Q0 d.1 true w (indexAddr P T.h W an) fun bb w=>Q0 d.1 true w (Q2 P T.c bb) fun bv w=>Q0 d.1 true w (Q1 P F.e [bv]) fun ab w=>pick P d.1 ab (.bool false) w fun bx w=>Q3 P .add T.e (.tmp 26) (.const (.int .i64 1)) d.2 (.int .i64 1) w fun aq w=>o (bx,aq) w) (fieldAddr P T.d e 3 w fun X w=>Q2 P T.u X w fun bu w=>X1 bu (Q0 d.1 true w (fieldAddr P T.d e 4) fun a2 w=>Q0 d.1 true w (Q2 P T.e a2) fun bm w=>Q0 d.1 true w (Q3 P .eql T.e (.tmp 42) (.const (.int .i64 0)) bm (.int .i64 0)) fun Z w=>pick P d.1 Z (.bool false) w fun i w=>Q0 i true w (fieldAddr P T.d e 5) fun ag w=>Q0 i true w (Q2 P T.q ag) fun bz w=>Q0 i true w (X3 P .len [T.q] T.e [false] [bz]) fun a3 w=>Q0 i true w (Q3 P .eql T.e (.tmp 48) (.const (.int .i64 0)) a3 (.int .i64 0)) fun ax w=>pick P i ax (.bool false) w fun k w=>Q0 k true w (fieldAddr P T.d e 6) fun bi w=>Q0 k true w (Q2 P T.s bi) fun a7 w=>Q0 k true w (X3 P .len [T.s] T.e [false] [a7]) fun U w=>Q0 k true w (Q3 P .eql T.e (.tmp 54) (.const (.int .i64 0)) U (.int .i64 0)) fun Y w=>pick P k Y (.bool false) w fun bw w=>K bw w) (fieldAddr P T.d e 5 w fun V w=>Q2 P T.q V w fun bk w=>X3 P .len [T.q] T.e [false] [bk] w fun r w=>lp (α:=Value×Value) (d.1,(.int .i64 0)) w fun j b d_ w=>fieldAddr P T.d e 6 w fun bs w=>Q2 P T.s bs w fun a8 w=>X3 P .len [T.s] T.e [false] [a8] w fun br w=>Q3 P .lss T.e (.tmp 60) (.tmp 63) b.2 br w fun a4 w=>X1 a4 (fieldAddr P T.d e 6 w fun ae w=>Q2 P T.s ae w fun bd w=>indexAddr P T.s bd b.2 w fun a6 w=>Q2 P T.t a6 w fun ak w=>V8 P T.t w fun q w=>Y0 P T.t q ak w fun _u w=>Q0 b.1 true w (fieldAddr P T.t q 0) fun a5 w=>Q0 b.1 true w (Q2 P T.e a5) fun bn w=>Q0 b.1 true w (Q3 P .geq T.e (.tmp 75) (.const (.int .i64 0)) bn (.int .i64 0)) fun be w=>pick P b.1 be (.bool false) w fun h w=>Q0 h true w (fieldAddr P T.t q 0) fun ba w=>Q0 h true w (Q2 P T.e ba) fun af w=>Q0 h true w (fieldAddr P T.t q 1) fun bp w=>Q0 h true w (Q2 P T.e bp) fun bg w=>Q0 h true w (Q3 P .lss T.e (.tmp 80) (.tmp 82) af bg) fun bc w=>pick P h bc (.bool false) w fun m w=>Q0 m true w (fieldAddr P T.t q 1) fun aw w=>Q0 m true w (Q2 P T.e aw) fun b0 w=>Q0 m true w (fun w J=>J r w) fun aj w=>Q0 m true w (Q3 P .leq T.e (.tmp 87) (.tmp 88) b0 aj) fun ac w=>pick P m ac (.bool false) w fun p w=>Q0 p true w (fieldAddr P T.t q 2) fun ad w=>Q0 p true w (Q2 P T.e ad) fun ao w=>Q0 p true w (Q3 P .geq T.e (.tmp 93) (.const (.int .i64 0)) ao (.int .i64 0)) fun al w=>pick P p al (.bool false) w fun l w=>Q0 l true w (fieldAddr P T.t q 2) fun ai w=>Q0 l true w (Q2 P T.e ai) fun bq w=>Q0 l true w (fun w J=>J r w) fun aa w=>Q0 l true w (Q3 P .lss T.e (.tmp 98) (.tmp 99) bq aa) fun C w=>pick P l C (.bool false) w fun f w=>Q0 f true w (fieldAddr P T.t q 3) fun H w=>Q0 f true w (Q2 P T.c H) fun y w=>Q0 f true w (Q1 P F.d [y]) fun O w=>pick P f O (.bool false) w fun z w=>Q3 P .add T.e (.tmp 65) (.const (.int .i64 1)) b.2 (.int .i64 1) w fun bf w=>j (z,bf) w) (Q0 b.1 true w (fun w J=>J r w) fun M w=>Q0 b.1 true w (Q3 P .gtr T.e (.tmp 109) (.const (.int .i64 0)) M (.int .i64 0)) fun v w=>pick P b.1 v (.bool false) w fun a w=>Q0 a true w (fieldAddr P T.d e 4) fun R w=>Q0 a true w (Q2 P T.e R) fun A w=>Q0 a true w (fieldAddr P T.d e 1) fun t w=>Q0 a true w (Q2 P T.h t) fun D w=>Q0 a true w (X3 P .len [T.h] T.e [false] [D]) fun Q w=>Q0 a true w (Q3 P .gtr T.e (.tmp 114) (.tmp 117) A Q) fun s w=>pick P a s (.bool false) w fun c w=>Q0 c true w (fieldAddr P T.d e 5) fun N w=>Q0 c true w (Q2 P T.q N) fun E w=>Q0 c true w (Q1 P F.b4 [E]) fun u w=>Q0 c true w (Q3 P .eql T.v (.tmp 123) (.const (.int .i64 0)) u (.int .i64 0)) fun B w=>pick P c B (.bool false) w fun L w=>K L w)))
theorem Il {a:Value} {w:World} {K:Value→World→Prop} (h:Ld a w K):Q1 P F.a4 [a] w K:=Q9 Gc Tryz.func182 rfl (by decide) (by kernel_rfl) h
end Go.Proofs.YtjdiakhipmggjaaGreatDoor

set_option maxRecDepth 100000
namespace Go.Proofs.YtjdiakhipmggjaaGreatDoor
open Go.Emb
def Ke:V9:=[none,none,none,none,some ([3,4],[3,4,5,26,27,28,29,30,31,32,33,34,35,36,37,38,39,40,41,42,43,44,45,46,47,48,49,50,51,52,53,54,55,56,57,58,59,60,61,62,63,64,65,66,67,68,69,70]),none,none,none,none,none,some ([3,5],[3,5,52,53,54,55,56,57,58,59,60,61,62,63,64,65,66,67,68,69,70]),none,none,none,none,none,some ([3,6],[3,6,7,71,72,73,74,75,76,77,78,79,80,81,82,83,84,85,86,87,88,89,90,91,92,93,94,95,96,97,98,99,100,101,102,103,104,105,106,107,108,109,110,111,112,113,114,115,116,117,118,119,120,121,122]),none,none,none,none,none,some ([3,7],[3,7,102,103,104,105,106,107,108,109,110,111,112,113,114,115,116,117,118,119,120,121,122]),none,none,none,none,none,some ([3,8],[3,8,9,10,123,124,125,126,127,128,129,130,131,132,133,134,135,136,137,138,139,140,141,142,143,144,145,146,147,148,149,150,151,152,153,154,155,156,157,158,159,160,161,162,163,164,165,166,167,168,169,170,171,172,173,174]),none,none,none,none,none,none,some ([3,10],[3,10,158,159,160,161,162,163,164,165,166,167,168,169,170,171,172,173,174]),none,none,none,none]
def Nk (a0:Value) (w:World) (K:Value→World→Prop):Prop:= box P T.b a0 w fun i w=>fieldAddr P T.b i 0 w fun et w=>Q2 P T.c et w fun e6 w=>Q1 P F.d [e6] w fun bd w=>Q0 bd true w (fieldAddr P T.b i 1) fun eg w=>Q0 bd true w (Q2 P T.c eg) fun ew w=>Q0 bd true w (Q1 P F.d [ew]) fun ec w=>pick P bd ec (.bool false) w fun ah w=>Q0 ah true w (fieldAddr P T.b i 0) fun e5 w=>Q0 ah true w (Q2 P T.c e5) fun d2 w=>Q0 ah true w (fieldAddr P T.b i 1) fun d4 w=>Q0 ah true w (Q2 P T.c d4) fun er w=>Q0 ah true w (Q3 P .neq T.c (.tmp 21) (.tmp 23) d2 er) fun ez w=>pick P ah ez (.bool false) w fun el w=>lp (α:=Value×Value) (el,(.int .i64 0)) w fun a3 E d_ w=>fieldAddr P T.b i 2 w fun eu w=>Q2 P T.h eu w fun ej w=>X3 P .len [T.h] T.e [false] [ej] w fun es w=>Q3 P .lss T.e (.tmp 26) (.tmp 29) E.2 es w fun ea w=>X1 ea (dr w fun a b=>Q5 a (fun a8=> ∀w,b w→Q0 E.1 true w (fieldAddr P T.b i 2) (dk a a8 w)) fun a8=>Q5 a (fun ay=> ∀w,b w→Q0 E.1 true w (fun w J=>J E.2 w) (dk a ay w)) fun ay=>Q5 a (fun a7=> ∀ax w,b w→a8 ax w→Q0 E.1 true w (Q2 P T.h ax) (dk a a7 w)) fun a7=>Q5 a (fun b1=> ∀bj bk w,b w→a7 bj w→ay bk w→Q0 E.1 true w (indexAddr P T.h bj bk) (dk a b1 w)) fun b1=>Q5 a (fun b3=> ∀bi w,b w→b1 bi w→Q0 E.1 true w (Q2 P T.c bi) (dk a b3 w)) fun b3=>Q5 a (fun bs=> ∀bv w,b w→b3 bv w→Q0 E.1 true w (Q1 P F.d [bv]) (dk a bs w)) fun bs=>Q5 a (fun j=> ∀bp w,b w→bs bp w→pick P E.1 bp (.bool false) w (dk a j w)) fun j=>Q5 a (fun a6=> ∀c w,b w→j c w→Q0 c true w (fieldAddr P T.b i 2) (dk a a6 w)) fun a6=>Q5 a (fun br=> ∀c w,b w→j c w→Q0 c true w (fun w J=>J E.2 w) (dk a br w)) fun br=>Q5 a (fun bf=> ∀c w,b w→j c w→Q0 c true w (fieldAddr P T.b i 0) (dk a bf w)) fun bf=>Q5 a (fun az=> ∀c bn w,b w→j c w→a6 bn w→Q0 c true w (Q2 P T.h bn) (dk a az w)) fun az=>Q5 a (fun ba=> ∀c bm b0 w,b w→j c w→az bm w→br b0 w→Q0 c true w (indexAddr P T.h bm b0) (dk a ba w)) fun ba=>Q5 a (fun cc=> ∀c a2 w,b w→j c w→ba a2 w→Q0 c true w (Q2 P T.c a2) (dk a cc w)) fun cc=>Q5 a (fun b9=> ∀c bx w,b w→j c w→bf bx w→Q0 c true w (Q2 P T.c bx) (dk a b9 w)) fun b9=>∀ax bk bj bi bv bp c bn b0 bx bm a2 c6 cp w,b w→a8 ax w→ay bk w→a7 bj w→b1 bi w→b3 bv w→bs bp w→j c w→a6 bn w→br b0 w→bf bx w→az bm w→ba a2 w→cc c6 w→b9 cp w→ Q0 c true w (Q3 P .neq T.c (.tmp 47) (.tmp 49) c6 cp) fun em w=>pick P c em (.bool false) w fun d3 w=>lp (α:=Value×Value) (d3,(.int .i64 0)) w fun an e d_ w=>Q3 P .lss T.e (.tmp 52) (.tmp 53) e.2 E.2 w fun ef w=>X1 ef (dr w fun a b=>Q5 a (fun bw=> ∀w,b w→Q0 e.1 true w (fieldAddr P T.b i 2) (dk a bw w)) fun bw=>Q5 a (fun bz=> ∀w,b w→Q0 e.1 true w (fun w J=>J e.2 w) (dk a bz w)) fun bz=>Q5 a (fun be=> ∀w,b w→Q0 e.1 true w (fieldAddr P T.b i 2) (dk a be w)) fun be=>Q5 a (fun bl=> ∀w,b w→Q0 e.1 true w (fun w J=>J E.2 w) (dk a bl w)) fun bl=>Q5 a (fun b4=> ∀bb w,b w→bw bb w→Q0 e.1 true w (Q2 P T.h bb) (dk a b4 w)) fun b4=>Q5 a (fun a5=> ∀a4 bh w,b w→b4 a4 w→bz bh w→Q0 e.1 true w (indexAddr P T.h a4 bh) (dk a a5 w)) fun a5=>Q5 a (fun cb=> ∀bc w,b w→a5 bc w→Q0 e.1 true w (Q2 P T.c bc) (dk a cb w)) fun cb=>Q5 a (fun b2=> ∀a9 w,b w→be a9 w→Q0 e.1 true w (Q2 P T.h a9) (dk a b2 w)) fun b2=>Q5 a (fun bo=> ∀bq bg w,b w→b2 bq w→bl bg w→Q0 e.1 true w (indexAddr P T.h bq bg) (dk a bo w)) fun bo=>Q5 a (fun ca=> ∀a1 w,b w→bo a1 w→Q0 e.1 true w (Q2 P T.c a1) (dk a ca w)) fun ca=>∀bb bh a9 bg a4 bc c4 bq a1 dp w,b w→bw bb w→bz bh w→be a9 w→bl bg w→b4 a4 w→a5 bc w→cb c4 w→b2 bq w→bo a1 w→ca dp w→ Q0 e.1 true w (Q3 P .neq T.c (.tmp 63) (.tmp 68) c4 dp) fun ee w=>pick P e.1 ee (.bool false) w fun d7 w=>Q3 P .add T.e (.tmp 55) (.const (.int .i64 1)) e.2 (.int .i64 1) w fun e8 w=>an (d7,e8) w) (Q3 P .add T.e (.tmp 31) (.const (.int .i64 1)) E.2 (.int .i64 1) w fun ep w=>a3 (e.1,ep) w)) (lp (α:=Value×Value) (E.1,(.int .i64 0)) w fun ao f d_ w=>fieldAddr P T.b i 6 w fun d9 w=>Q2 P T.k d9 w fun e3 w=>X3 P .len [T.k] T.e [false] [e3] w fun d6 w=>Q3 P .lss T.e (.tmp 71) (.tmp 74) f.2 d6 w fun eb w=>X1 eb (Q0 f.1 true w (fieldAddr P T.b i 6) fun ek w=>Q0 f.1 true w (Q2 P T.k ek) fun e7 w=>Q0 f.1 true w (fun w J=>J f.2 w) fun e4 w=>Q0 f.1 true w (indexAddr P T.k e7 e4) fun e0 w=>Q0 f.1 true w (fieldAddr P T.n e0 0) fun d8 w=>Q0 f.1 true w (Q2 P T.c d8) fun e2 w=>Q0 f.1 true w (Q1 P F.v [e2]) fun ex w=>pick P f.1 ex (.bool false) w fun o w=>Q0 o true w (fieldAddr P T.b i 6) fun d1 w=>Q0 o true w (Q2 P T.k d1) fun ey w=>Q0 o true w (fun w J=>J f.2 w) fun d5 w=>Q0 o true w (indexAddr P T.k ey d5) fun ei w=>Q0 o true w (fieldAddr P T.n ei 1) fun eq w=>Q0 o true w (Q2 P T.c eq) fun eo w=>Q0 o true w (Q1 P F.e [eo]) fun e1 w=>pick P o e1 (.bool false) w fun bu w=>Q0 bu true w (fieldAddr P T.b i 3) fun ed w=>Q0 bu true w (Q2 P T.u ed) fun eh w=>Q0 bu true w (J8 P .not eh) fun df w=>pick P bu df (.bool false) w fun d0 w=>lp (α:=Value×Value) (d0,(.int .i64 0)) w fun ai d d_ w=>Q3 P .lss T.e (.tmp 102) (.tmp 103) d.2 f.2 w fun c7 w=>X1 c7 (dr w fun a b=>Q5 a (fun M=> ∀w,b w→Q0 d.1 true w (fieldAddr P T.b i 6) (dk a M w)) fun M=>Q5 a (fun y=> ∀w,b w→Q0 d.1 true w (fun w J=>J d.2 w) (dk a y w)) fun y=>Q5 a (fun ad=> ∀w,b w→Q0 d.1 true w (fieldAddr P T.b i 6) (dk a ad w)) fun ad=>Q5 a (fun s=> ∀w,b w→Q0 d.1 true w (fun w J=>J f.2 w) (dk a s w)) fun s=>Q5 a (fun Z=> ∀B w,b w→M B w→Q0 d.1 true w (Q2 P T.k B) (dk a Z w)) fun Z=>Q5 a (fun C=> ∀r ab w,b w→Z r w→y ab w→Q0 d.1 true w (indexAddr P T.k r ab) (dk a C w)) fun C=>Q5 a (fun Q=> ∀Y w,b w→C Y w→Q0 d.1 true w (fieldAddr P T.n Y 0) (dk a Q w)) fun Q=>Q5 a (fun aq=> ∀af w,b w→Q af w→Q0 d.1 true w (Q2 P T.c af) (dk a aq w)) fun aq=>Q5 a (fun ac=> ∀q w,b w→ad q w→Q0 d.1 true w (Q2 P T.k q) (dk a ac w)) fun ac=>Q5 a (fun A=> ∀R D w,b w→ac R w→s D w→Q0 d.1 true w (indexAddr P T.k R D) (dk a A w)) fun A=>Q5 a (fun V=> ∀L w,b w→A L w→Q0 d.1 true w (fieldAddr P T.n L 0) (dk a V w)) fun V=>Q5 a (fun av=> ∀v w,b w→V v w→Q0 d.1 true w (Q2 P T.c v) (dk a av w)) fun av=>∀B ab q D r Y af b7 R L v b6 w,b w→M B w→y ab w→ad q w→s D w→Z r w→C Y w→Q af w→aq b7 w→ac R w→A L w→V v w→av b6 w→ Q0 d.1 true w (Q3 P .neq T.c (.tmp 114) (.tmp 120) b7 b6) fun cz w=>pick P d.1 cz (.bool false) w fun di w=>Q3 P .add T.e (.tmp 105) (.const (.int .i64 1)) d.2 (.int .i64 1) w fun cl w=>ai (di,cl) w) (Q3 P .add T.e (.tmp 76) (.const (.int .i64 1)) f.2 (.int .i64 1) w fun e9 w=>ao (d.1,e9) w)) (lp (α:=Value×Value) (f.1,(.int .i64 0)) w fun ak h d_ w=>fieldAddr P T.b i 7 w fun db w=>Q2 P T.j db w fun dl w=>X3 P .len [T.j] T.e [false] [dl] w fun co w=>Q3 P .lss T.e (.tmp 123) (.tmp 126) h.2 co w fun da w=>X1 da (fieldAddr P T.b i 7 w fun ce w=>Q2 P T.j ce w fun cg w=>indexAddr P T.j cg h.2 w fun cq w=>Q2 P T.d cq w fun dg w=>V8 P T.d w fun t9 w=>Y0 P T.d t9 dg w fun _u w=>Q0 h.1 true w (Q2 P T.d t9) fun c5 w=>Q0 h.1 true w (Q1 P F.a4 [c5]) fun ct w=>pick P h.1 ct (.bool false) w fun l w=>Q0 l true w (fieldAddr P T.d t9 3) fun dq w=>Q0 l true w (Q2 P T.u dq) fun cn w=>Q0 l true w (J8 P .not cn) fun c9 w=>Q0 l true w (fun w J=>J c9 w) fun al w=>Q0 al false w (fieldAddr P T.b i 4) fun cx w=>Q0 al false w (Q2 P T.u cx) fun cf w=>Q0 l true w (pick P al (.bool true) cf) fun cu w=>pick P l cu (.bool false) w fun m w=>Q0 m true w (fieldAddr P T.b i 3) fun dw w=>Q0 m true w (Q2 P T.u dw) fun cj w=>Q0 m true w (J8 P .not cj) fun cd w=>Q0 m true w (fun w J=>J cd w) fun aj w=>Q0 aj false w (fieldAddr P T.d t9 3) fun dt w=>Q0 aj false w (Q2 P T.u dt) fun dd w=>Q0 m true w (pick P aj (.bool true) dd) fun dm w=>pick P m dm (.bool false) w fun dz w=>lp (α:=Value×Value) (dz,(.int .i64 0)) w fun aw g d_ w=>Q3 P .lss T.e (.tmp 158) (.tmp 159) g.2 h.2 w fun dn w=>X1 dn (dr w fun a b=>Q5 a (fun W=> ∀w,b w→Q0 g.1 true w (fieldAddr P T.b i 7) (dk a W w)) fun W=>Q5 a (fun ag=> ∀w,b w→Q0 g.1 true w (fun w J=>J g.2 w) (dk a ag w)) fun ag=>Q5 a (fun N=> ∀w,b w→Q0 g.1 true w (fieldAddr P T.d t9 0) (dk a N w)) fun N=>Q5 a (fun t=> ∀z w,b w→W z w→Q0 g.1 true w (Q2 P T.j z) (dk a t w)) fun t=>Q5 a (fun p=> ∀X ae w,b w→t X w→ag ae w→Q0 g.1 true w (indexAddr P T.j X ae) (dk a p w)) fun p=>Q5 a (fun aa=> ∀H w,b w→p H w→Q0 g.1 true w (fieldAddr P T.d H 0) (dk a aa w)) fun aa=>Q5 a (fun am=> ∀U w,b w→aa U w→Q0 g.1 true w (Q2 P T.c U) (dk a am w)) fun am=>Q5 a (fun ap=> ∀O w,b w→N O w→Q0 g.1 true w (Q2 P T.c O) (dk a ap w)) fun ap=>∀z ae O X H U b5 b8 w,b w→W z w→ag ae w→N O w→t X w→p H w→aa U w→am b5 w→ap b8 w→ Q0 g.1 true w (Q3 P .neq T.c (.tmp 170) (.tmp 172) b5 b8) fun c3 w=>pick P g.1 c3 (.bool false) w fun cr w=>Q3 P .add T.e (.tmp 161) (.const (.int .i64 1)) g.2 (.int .i64 1) w fun du w=>aw (cr,du) w) (Q3 P .add T.e (.tmp 128) (.const (.int .i64 1)) h.2 (.int .i64 1) w fun dh w=>ak (g.1,dh) w)) (Q0 h.1 true w (fieldAddr P T.b i 3) fun ds w=>Q0 h.1 true w (Q2 P T.u ds) fun dj w=>Q0 h.1 true w (J8 P .not dj) fun ck w=>Q0 h.1 true w (fun w J=>J ck w) fun n w=>Q0 n false w (fieldAddr P T.b i 4) fun dy w=>Q0 n false w (Q2 P T.u dy) fun c1 w=>Q0 n false w (fun w J=>J c1 w) fun u w=>Q0 u true w (fieldAddr P T.b i 1) fun cy w=>Q0 u true w (Q2 P T.c cy) fun dv w=>Q0 u true w (Q3 P .eql T.c (.tmp 185) (.const (.string ⟨#[79,98,106,101,99,116]⟩)) dv (.string ⟨#[79,98,106,101,99,116]⟩)) fun dc w=>Q0 n false w (pick P u dc (.bool false)) fun cw w=>Q0 h.1 true w (pick P n (.bool true) cw) fun ch w=>pick P h.1 ch (.bool false) w fun k w=>Q0 k true w (fieldAddr P T.b i 4) fun ci w=>Q0 k true w (Q2 P T.u ci) fun de w=>Q0 k true w (fun w J=>J de w) fun ar w=>Q0 ar true w (fieldAddr P T.b i 5) fun c0 w=>Q0 ar true w (Q2 P T.u c0) fun cm w=>Q0 k true w (pick P ar cm (.bool false)) fun dx w=>Q0 k true w (J8 P .not dx) fun c2 w=>pick P k c2 (.bool false) w fun cv w=>K cv w)))
theorem Pn {a:Value} {w:World} {K:Value→World→Prop} (h:Nk a w K):Q1 P F.bs [a] w K:=Q9 Ke Tryz.func148 rfl (by decide) (by kernel_rfl) h
def Lx (d:Value) (w:World) (K:Value→World→Prop):Prop:= box P T.b d w fun a w=>Q2 P T.b a w fun b w=>Q1 P F.bK [b] w fun g w=>X1 g (K (.int .i64 51) w) (Q2 P T.b a w fun c w=>Q1 P F.bs [c] w fun e w=>J8 P .not e w fun f w=>X1 f (K (.int .i64 50) w) (K (.int .i64 0) w))
theorem Kl {a:Value} {w:World} {K:Value→World→Prop} (h:Lx a w K):Q1 P F.bq [a] w K:=Q9 (List.replicate 8 none) Tryz.func100 rfl (by decide) (by kernel_rfl) h
def Ab:V9:=[none,none,none,some ([5],[4,5,6,7,8,9,10,11,12,13,14,15,16,17,18,19]),none,none,none,none,none,none]
def Dl (h j:Value) (w:World) (K:Value→World→Prop):Prop:= lp (α:=Value) (.int .i64 0) w fun a b l w=>X3 P .len [T.i] T.e [false] [h] w fun i w=>Q3 P .lss T.e (.tmp 6) (.tmp 8) b i w fun k w=>X1 k (indexAddr P T.i h b w fun g w=>fieldAddr P T.b g 0 w fun e w=>Q2 P T.c e w fun c w=>Q3 P .eql T.c (.tmp 16) (.tmp 17) c j w fun d w=>X1 d (K b w) (Q3 P .add T.e (.tmp 10) (.const (.int .i64 1)) b (.int .i64 1) w fun f w=>a f w)) (K (.int .i64 (-1)) w)
theorem Q09 {b a:Value} {w:World} {K:Value→World→Prop} (h:Dl b a w K):Q1 P F.b [b,a] w K:=Q9 Ab Tryz.func101 rfl (by decide) (by kernel_rfl) h
def Gh:V9:=[none,none,none,none,none,none,none,some ([6],[4,6,7,28,29,30,31,32,33,34,35,36,37,38,39,40,41,42,43,44,45,46,47,48,49,50,51]),none,none,none,none,none,none,none]
def Lf (h W:Value) (w:World) (K:Value→World→Prop):Prop:= box P T.b W w fun b w=>fieldAddr P T.b b 1 w fun V w=>Q2 P T.c V w fun s w=>Q1 P F.b [h,s] w fun f w=>Q3 P .lss T.e (.tmp 12) (.const (.int .i64 0)) f (.int .i64 0) w fun c w=>Q0 c false w (fun w J=>J h w) fun j w=>Q0 c false w (fun w J=>J f w) fun E w=>Q0 c false w (indexAddr P T.i j E) fun C w=>Q0 c false w (fieldAddr P T.b C 3) fun H w=>Q0 c false w (Q2 P T.u H) fun l w=>pick P c (.bool true) l w fun d w=>Q0 d false w (fun w J=>J h w) fun v w=>Q0 d false w (fun w J=>J f w) fun A w=>Q0 d false w (indexAddr P T.i v A) fun R w=>Q0 d false w (fieldAddr P T.b R 5) fun p w=>Q0 d false w (Q2 P T.u p) fun t w=>pick P d (.bool true) t w fun D w=>X1 D (K (.int .i64 61) w) (lp (α:=Value) (.int .i64 0) w fun e u X w=>fieldAddr P T.b b 2 w fun B w=>Q2 P T.h B w fun z w=>X3 P .len [T.h] T.e [false] [z] w fun i w=>Q3 P .lss T.e (.tmp 28) (.tmp 31) u i w fun y w=>X1 y (fieldAddr P T.b b 2 w fun N w=>Q2 P T.h N w fun k w=>indexAddr P T.h k u w fun M w=>Q2 P T.c M w fun n w=>Q1 P F.b [h,n] w fun g w=>Q3 P .lss T.e (.tmp 42) (.const (.int .i64 0)) g (.int .i64 0) w fun a w=>Q0 a false w (fun w J=>J h w) fun m w=>Q0 a false w (fun w J=>J g w) fun o w=>Q0 a false w (indexAddr P T.i m o) fun Q w=>Q0 a false w (fieldAddr P T.b Q 3) fun U w=>Q0 a false w (Q2 P T.u U) fun O w=>Q0 a false w (J8 P .not O) fun r w=>pick P a (.bool true) r w fun q w=>X1 q (K (.int .i64 62) w) (Q3 P .add T.e (.tmp 33) (.const (.int .i64 1)) u (.int .i64 1) w fun L w=>e L w)) (K (.int .i64 0) w))
theorem Gw {b a:Value} {w:World} {K:Value→World→Prop} (h:Lf b a w K):Q1 P F.bf [b,a] w K:=Q9 Gh Tryz.func102 rfl (by decide) (by kernel_rfl) h
def Ka:V9:=[none,none,none,none,some ([3,4],[3,4,5,6,7,8,13,14,15,16,17,18,19,20,21,22,23,24,25,26,27,28,29,30,31,32,33,34,35,36,37,38,39,40,41,42,43,44,45,46,47,48,49,50,51,52,53,54]),none,none,none,none,none,none,none,some ([7],[7,8,34,35,36,37,38,39,40,41,42,43,44,45,46,47,48,49,50]),none,none,some ([],[8,40,41,42,43,44,45,46,47,48,49,50]),none,none,none,none,some ([9],[9,10,11,55,56,57,58,59,60,61,62,63,64,65,66,67,68,69,70,71,72,73,74,75,76,77,78,79,80,81,82,83,84,85,86,87,88,89,90,91,92,93,94,95,96,97,98,99,100,101,102,103]),none,none,none,none,some ([10],[10,11,61,62,63,64,65,66,67,68,69,70,71,72,73,74,75,76,77,78,79,80,81,82,83,84,85,86,87,88,89,90,91,92,93,94,95,96,97,98,99,100,101,102,103]),none,none,none,none,some ([11],[11,67,68,69,70,71,72,73,74,75,76,77,78,79,80,81,82,83,84,85,86,87,88,89,90,91,92,93,94,95,96,97,98,99,100,101,102,103]),none,none,none,none]
def Nu (a0:Value) (w:World) (K:Value→World→Prop):Prop:= buildSlice P T.a8 0 [] w fun bx w=>lp (α:=Value×Value) (bx,(.int .i64 0)) w fun E r d_ w=>X3 P .len [T.i] T.e [false] [a0] w fun bi w=>Q3 P .lss T.e (.tmp 13) (.tmp 15) r.2 bi w fun bo w=>X1 bo (X3 P .len [T.i] T.e [false] [a0] w fun bf w=>Dq P T.a6 bf bf w fun a6 w=>dr w fun b d=>Q5 b (fun t=> ∀w,d w→indexAddr P T.i a0 r.2 w (dk b t w)) fun t=>Q5 b (fun an=> ∀aa w,d w→t aa w→fieldAddr P T.b aa 1 w (dk b an w)) fun an=>Q5 b (fun ax=> ∀w,d w→indexAddr P T.i a0 r.2 w (dk b ax w)) fun ax=>Q5 b (fun av=> ∀ao w,d w→ax ao w→fieldAddr P T.b ao 2 w (dk b av w)) fun av=>Q5 b (fun C=> ∀L w,d w→an L w→Q2 P T.c L w (dk b C w)) fun C=>Q5 b (fun a5=> ∀am w,d w→C am w→buildSlice P T.h 1 [(0,am)] w (dk b a5 w)) fun a5=>Q5 b (fun a3=> ∀v w,d w→av v w→Q2 P T.h v w (dk b a3 w)) fun a3=>∀aa L ao v am a9 a8 w,d w→t aa w→an L w→ax ao w→av v w→C am w→a5 a9 w→a3 a8 w→ X3 P .append [T.h,T.h] T.h [false,false] [a9,a8] w fun bc w=>lp (α:=Value) (.int .i64 0) w fun k a4 d_ w=>X3 P .len [T.h] T.e [false] [bc] w fun b2 w=>Q3 P .lss T.e (.tmp 34) (.tmp 36) a4 b2 w fun bj w=>X1 bj (jn (α:=Unit) w (fun be w=>indexAddr P T.h bc a4 w fun bl w=>Q2 P T.c bl w fun bk w=>Q1 P F.b [a0,bk] w fun ba w=>Q3 P .geq T.e (.tmp 46) (.const (.int .i64 0)) ba (.int .i64 0) w fun b3 w=>X1 b3 (indexAddr P T.a6 a6 ba w fun bm w=>Y0 P T.u bm (.bool true) w fun _u w=>be () w) (be () w)) fun b4 d_ w=>Q3 P .add T.e (.tmp 38) (.const (.int .i64 1)) a4 (.int .i64 1) w fun bq w=>k bq w) (buildSlice P T.a8 1 [(0,a6)] w fun bu w=>X3 P .append [T.a8,T.a8] T.a8 [false,false] [r.1,bu] w fun bg w=>Q3 P .add T.e (.tmp 17) (.const (.int .i64 1)) r.2 (.int .i64 1) w fun bp w=>E (bg,bp) w)) (lp (α:=Value) (.int .i64 0) w fun p ad d_ w=>X3 P .len [T.i] T.e [false] [a0] w fun bh w=>Q3 P .lss T.e (.tmp 55) (.tmp 57) ad bh w fun bz w=>X1 bz (lp (α:=Value) (.int .i64 0) w fun o q d_ w=>X3 P .len [T.i] T.e [false] [a0] w fun b0 w=>Q3 P .lss T.e (.tmp 61) (.tmp 63) q b0 w fun br w=>X1 br (lp (α:=Value) (.int .i64 0) w fun m l d_ w=>X3 P .len [T.i] T.e [false] [a0] w fun b1 w=>Q3 P .lss T.e (.tmp 67) (.tmp 69) l b1 w fun bs w=>X1 bs (dr w fun b d=>Q5 b (fun ah=> ∀w,d w→indexAddr P T.a8 r.1 q w (dk b ah w)) fun ah=>Q5 b (fun ae=> ∀w,d w→indexAddr P T.a8 r.1 q w (dk b ae w)) fun ae=>Q5 b (fun a2=> ∀ap w,d w→ah ap w→Q2 P T.a6 ap w (dk b a2 w)) fun a2=>Q5 b (fun A=> ∀D w,d w→ae D w→Q2 P T.a6 D w (dk b A w)) fun A=>Q5 b (fun Y=> ∀aq w,d w→A aq w→indexAddr P T.a6 aq l w (dk b Y w)) fun Y=>Q5 b (fun e=> ∀ai w,d w→Y ai w→Q2 P T.u ai w (dk b e w)) fun e=>Q5 b (fun u=> ∀a w,d w→e a w→Q0 a false w (fun w J=>J r.1 w) (dk b u w)) fun u=>Q5 b (fun aj=> ∀a w,d w→e a w→Q0 a false w (fun w J=>J q w) (dk b aj w)) fun aj=>Q5 b (fun ak=> ∀a V aw w,d w→e a w→u V w→aj aw w→Q0 a false w (indexAddr P T.a8 V aw) (dk b ak w)) fun ak=>Q5 b (fun ab=> ∀a w,d w→e a w→Q0 a false w (fun w J=>J ad w) (dk b ab w)) fun ab=>Q5 b (fun af=> ∀a N w,d w→e a w→ak N w→Q0 a false w (Q2 P T.a6 N) (dk b af w)) fun af=>Q5 b (fun H=> ∀a z X w,d w→e a w→af z w→ab X w→Q0 a false w (indexAddr P T.a6 z X) (dk b H w)) fun H=>Q5 b (fun U=> ∀a W w,d w→e a w→H W w→Q0 a false w (Q2 P T.u W) (dk b U w)) fun U=>Q5 b (fun f=> ∀a B w,d w→e a w→U B w→Q0 a false w (fun w J=>J B w) (dk b f w)) fun f=>Q5 b (fun O=> ∀c w,d w→f c w→Q0 c true w (fun w J=>J r.1 w) (dk b O w)) fun O=>Q5 b (fun s=> ∀c w,d w→f c w→Q0 c true w (fun w J=>J ad w) (dk b s w)) fun s=>Q5 b (fun ac=> ∀c Q al w,d w→f c w→O Q w→s al w→Q0 c true w (indexAddr P T.a8 Q al) (dk b ac w)) fun ac=>Q5 b (fun ay=> ∀c w,d w→f c w→Q0 c true w (fun w J=>J l w) (dk b ay w)) fun ay=>Q5 b (fun R=> ∀c Z w,d w→f c w→ac Z w→Q0 c true w (Q2 P T.a6 Z) (dk b R w)) fun R=>Q5 b (fun ag=> ∀c M ar w,d w→f c w→R M w→ay ar w→Q0 c true w (indexAddr P T.a6 M ar) (dk b ag w)) fun ag=>Q5 b (fun h=> ∀c y w,d w→f c w→ag y w→Q0 c true w (Q2 P T.u y) (dk b h w)) fun h=>Q5 b (fun i=> ∀a c g w,d w→e a w→f c w→h g w→Q0 a false w (pick P c g (.bool false)) (dk b i w)) fun i=>Q5 b (fun n=> ∀a j w,d w→e a w→i j w→pick P a (.bool true) j w (dk b n w)) fun n=>∀ap D bd aq ai a V aw N X z W B c Q al Z ar M y g j a1 w,d w→ah ap w→ae D w→a2 bd w→A aq w→Y ai w→e a w→u V w→aj aw w→ak N w→ab X w→af z w→H W w→U B w→f c w→O Q w→s al w→ac Z w→ay ar w→R M w→ag y w→h g w→i j w→n a1 w→ indexAddr P T.a6 bd l w fun bb w=>Y0 P T.u bb a1 w fun _u w=>Q3 P .add T.e (.tmp 71) (.const (.int .i64 1)) l (.int .i64 1) w fun bw w=>m bw w) (Q3 P .add T.e (.tmp 65) (.const (.int .i64 1)) q (.int .i64 1) w fun bv w=>o bv w)) (Q3 P .add T.e (.tmp 59) (.const (.int .i64 1)) ad (.int .i64 1) w fun bn w=>p bn w)) (K r.1 w))
theorem Ix {a:Value} {w:World} {K:Value→World→Prop} (h:Nu a w K):Q1 P F.an [a] w K:=Q9 Ka Tryz.func103 rfl (by decide) (by kernel_rfl) h
def Q1h:V9:=[none,none,none,none,none,none,some ([9],[8,9,16,17,18,19,20,21,22,23,24,25,26,27,28]),none,none,none,none,none,none,none,none,some ([1,11],[1,11,41,42,43,44,45,46,47,48,49,50,51,52,53,54,55,56]),none,none,none,none]
def Et (y t X r:Value) (w:World) (K:Value→World→Prop):Prop:= Q3 P .lss T.e (.tmp 12) (.tmp 13) r X w fun W w=>X1 W (K t w) (lp (α:=Value) (.int .i64 0) w fun g E Y w=>X3 P .len [T.a7] T.e [false] [t] w fun R w=>Q3 P .lss T.e (.tmp 16) (.tmp 18) E R w fun A w=>X1 A (indexAddr P T.a7 t E w fun V w=>Q2 P T.e V w fun M w=>Q3 P .eql T.e (.tmp 25) (.tmp 26) M r w fun Q w=>X1 Q (K t w) (Q3 P .add T.e (.tmp 20) (.const (.int .i64 1)) E (.int .i64 1) w fun N w=>g N w)) (dr w fun a o=>Q5 a (fun l=> ∀w,o w→indexAddr P T.i y r w (dk a l w)) fun l=>Q5 a (fun m=> ∀e w,o w→l e w→fieldAddr P T.b e 1 w (dk a m w)) fun m=>Q5 a (fun h=> ∀w,o w→indexAddr P T.i y r w (dk a h w)) fun h=>Q5 a (fun j=> ∀f w,o w→h f w→fieldAddr P T.b f 2 w (dk a j w)) fun j=>Q5 a (fun d=> ∀k w,o w→m k w→Q2 P T.c k w (dk a d w)) fun d=>Q5 a (fun p=> ∀i w,o w→d i w→buildSlice P T.h 1 [(0,i)] w (dk a p w)) fun p=>Q5 a (fun q=> ∀n w,o w→j n w→Q2 P T.h n w (dk a q w)) fun q=>∀e k f n i u v w,o w→l e w→m k w→h f w→j n w→d i w→p u w→q v w→ X3 P .append [T.h,T.h] T.h [false,false] [u,v] w fun s w=>lp (α:=Value×Value) (t,(.int .i64 0)) w fun b c Y w=>X3 P .len [T.h] T.e [false] [s] w fun D w=>Q3 P .lss T.e (.tmp 41) (.tmp 43) c.2 D w fun C w=>X1 C (indexAddr P T.h s c.2 w fun J w=>Q2 P T.c J w fun z w=>Q1 P F.b [y,z] w fun B w=>Q1 P F.b2 [y,c.1,X,B] w fun U w=>Q3 P .add T.e (.tmp 45) (.const (.int .i64 1)) c.2 (.int .i64 1) w fun L w=>b (U,L) w) (buildSlice P T.a7 1 [(0,r)] w fun H w=>X3 P .append [T.a7,T.a7] T.a7 [false,false] [c.1,H] w fun O w=>K O w)))
theorem Q0C {d c b a:Value} {w:World} {K:Value→World→Prop} (h:Et d c b a w K):Q1 P F.b2 [d,c,b,a] w K:=Q9 Q1h Tryz.func104 rfl (by decide) (by kernel_rfl) h
def Xv (u A:Value) (w:World) (K:Value→World→Prop):Prop:= Q1 P F.b [u,A] w fun z w=>Q3 P .lss T.e (.tmp 9) (.const (.int .i64 0)) z (.int .i64 0) w fun y w=>X1 y (K (.slice none 0 0) w) (dr w fun a b=>Q5 a (fun i=> ∀w,b w→indexAddr P T.i u z w (dk a i w)) fun i=>Q5 a (fun f=> ∀d w,b w→i d w→fieldAddr P T.b d 1 w (dk a f w)) fun f=>Q5 a (fun h=> ∀w,b w→indexAddr P T.i u z w (dk a h w)) fun h=>Q5 a (fun g=> ∀j w,b w→h j w→fieldAddr P T.b j 6 w (dk a g w)) fun g=>Q5 a (fun c=> ∀w,b w→buildSlice P T.k 0 [] w (dk a c w)) fun c=>Q5 a (fun e=> ∀n w,b w→f n w→Q2 P T.c n w (dk a e w)) fun e=>Q5 a (fun o=> ∀l w,b w→e l w→Q1 P F.p [u,l] w (dk a o w)) fun o=>Q5 a (fun r=> ∀m p w,b w→c m w→o p w→X3 P .append [T.k,T.k] T.k [false,false] [m,p] w (dk a r w)) fun r=>Q5 a (fun q=> ∀k w,b w→g k w→Q2 P T.k k w (dk a q w)) fun q=>∀d n j k m l p s t w,b w→i d w→f n w→h j w→g k w→c m w→e l w→o p w→r s w→q t w→ X3 P .append [T.k,T.k] T.k [false,false] [s,t] w fun v w=>K v w)
theorem Lk {b a:Value} {w:World} {K:Value→World→Prop} (h:Xv b a w K):Q1 P F.p [b,a] w K:=Q9 (List.replicate 6 none) Tryz.func73 rfl (by decide) (by kernel_rfl) h
def Tc:V9:=[none,none,none,none,some ([8],[6,8,12,13,14,15,16,17,18,19,20,21,22,23,24,25]),none,none,none,none,none,none]
def Nx (l m k:Value) (w:World) (K:Value→World→Prop):Prop:= Q1 P F.p [l,m] w fun b w=>lp (α:=Value) (.int .i64 0) w fun a c n w=>X3 P .len [T.k] T.e [false] [b] w fun j w=>Q3 P .lss T.e (.tmp 12) (.tmp 14) c j w fun d w=>X1 d (indexAddr P T.k b c w fun e w=>fieldAddr P T.n e 0 w fun g w=>Q2 P T.c g w fun f w=>Q3 P .eql T.c (.tmp 22) (.tmp 23) f k w fun i w=>X1 i (K c w) (Q3 P .add T.e (.tmp 16) (.const (.int .i64 1)) c (.int .i64 1) w fun h w=>a h w)) (K (.int .i64 (-1)) w)
theorem Pm {c b a:Value} {w:World} {K:Value→World→Prop} (h:Nx c b a w K):Q1 P F.bt [c,b,a] w K:=Q9 Tc Tryz.func149 rfl (by decide) (by kernel_rfl) h
def Ow (b:Value) (w:World) (K:Value→World→Prop):Prop:= X3 P .len [T.c] T.e [false] [b] w fun c w=>Q1 P F.a2 [b] w fun e w=>Q3 P .mul T.e (.const (.int .i64 2)) (.tmp 7) (.int .i64 2) e w fun d w=>Q3 P .sub T.e (.tmp 5) (.tmp 8) c d w fun f w=>R8 P T.c b none (some f) none w fun a w=>K a w
theorem Q0b {a:Value} {w:World} {K:Value→World→Prop} (h:Ow a w K):Q1 P F.aY [a] w K:=Q9 (List.replicate 2 none) Tryz.func153 rfl (by decide) (by kernel_rfl) h
def Dc (p d:Value) (w:World) (K:Value→World→Prop):Prop:= Q3 P .eql T.c (.tmp 5) (.const (.string ⟨#[110,117,108,108]⟩)) d (.string ⟨#[110,117,108,108]⟩) w fun c w=>Q0 c false w (fun w J=>J d w) fun r w=>Q0 c false w (Q1 P F.e [r]) fun q w=>Q0 c false w (fun w J=>J q w) fun a w=>Q0 a true w (fun w J=>J d w) fun m w=>Q0 a true w (Q1 P F.aY [m]) fun k w=>Q0 a true w (Q1 P F.y [k]) fun g w=>Q0 a true w (fun w J=>J g w) fun b w=>Q0 b false w (fun w J=>J p w) fun e w=>Q0 b false w (fun w J=>J d w) fun n w=>Q0 b false w (Q1 P F.aY [n]) fun l w=>Q0 b false w (Q1 P F.b [e,l]) fun o w=>Q0 b false w (Q3 P .geq T.e (.tmp 18) (.const (.int .i64 0)) o (.int .i64 0)) fun f w=>Q0 a true w (pick P b (.bool true) f) fun i w=>Q0 c false w (pick P a i (.bool false)) fun h w=>pick P c (.bool true) h w fun j w=>K j w
theorem Q06 {b a:Value} {w:World} {K:Value→World→Prop} (h:Dc b a w K):Q1 P F.a1 [b,a] w K:=Q9 (List.replicate 2 none) Tryz.func106 rfl (by decide) (by kernel_rfl) h
def Ng (f d:Value) (w:World) (K:Value→World→Prop):Prop:= Q3 P .neq T.c (.tmp 5) (.const (.string ⟨#[110,117,108,108]⟩)) d (.string ⟨#[110,117,108,108]⟩) w fun a w=>Q0 a true w (fun w J=>J f w) fun e w=>Q0 a true w (fun w J=>J d w) fun g w=>Q0 a true w (Q1 P F.a1 [e,g]) fun b w=>pick P a b (.bool false) w fun c w=>K c w
theorem Tm {b a:Value} {w:World} {K:Value→World→Prop} (h:Ng b a w K):Q1 P F.bu [b,a] w K:=Q9 (List.replicate 2 none) Tryz.func150 rfl (by decide) (by kernel_rfl) h
def Ai:V9:=[none,none,none,none,some ([3,4],[3,4,5,6,7,8,9,10,11,12,13,14,15,16,17,18,19,20,21,22]),none,none,none,some ([3],[3,12,13,14,15]),none,none]
def Oq (q:Value) (w:World) (K:Value→World→Prop):Prop:= box P T.d q w fun a w=>lp (α:=Value×Value) ((.string ⟨#[40]⟩),(.int .i64 0)) w fun b c v w=>fieldAddr P T.d a 1 w fun r w=>Q2 P T.h r w fun t w=>X3 P .len [T.h] T.e [false] [t] w fun y w=>Q3 P .lss T.e (.tmp 5) (.tmp 8) c.2 y w fun s w=>X1 s (jn (α:=Value) w (fun p w=>Q3 P .gtr T.e (.tmp 12) (.const (.int .i64 0)) c.2 (.int .i64 0) w fun e w=>X1 e (Q3 P .add T.c (.tmp 14) (.const (.string ⟨#[44]⟩)) c.1 (.string ⟨#[44]⟩) w fun d w=>p d w) (p c.1 w)) fun u v w=>fieldAddr P T.d a 1 w fun k w=>Q2 P T.h k w fun n w=>indexAddr P T.h n c.2 w fun i w=>Q2 P T.c i w fun f w=>Q3 P .add T.c (.tmp 16) (.tmp 21) u f w fun j w=>Q3 P .add T.e (.tmp 10) (.const (.int .i64 1)) c.2 (.int .i64 1) w fun l w=>b (j,l) w) (Q3 P .add T.c (.tmp 23) (.const (.string ⟨#[41]⟩)) c.1 (.string ⟨#[41]⟩) w fun o w=>fieldAddr P T.d a 2 w fun g w=>Q2 P T.c g w fun h w=>Q3 P .add T.c (.tmp 24) (.tmp 26) o h w fun m w=>K m w)
theorem Q05 {a:Value} {w:World} {K:Value→World→Prop} (h:Oq a w K):Q1 P F.aX [a] w K:=Q9 Ai Tryz.func151 rfl (by decide) (by kernel_rfl) h
def Q0w:V9:=[none,none,none,some ([5],[4,5,6,7,8,9,10,11,12,13,14,15,16,17,18,19,20,21]),none,none,none,none,none,none]
def Er (l n:Value) (w:World) (K:Value→World→Prop):Prop:= box P T.b l w fun a w=>lp (α:=Value) (.int .i64 0) w fun b c q w=>fieldAddr P T.b a 7 w fun o w=>Q2 P T.j o w fun p w=>X3 P .len [T.j] T.e [false] [p] w fun m w=>Q3 P .lss T.e (.tmp 6) (.tmp 9) c m w fun e w=>X1 e (fieldAddr P T.b a 7 w fun d w=>Q2 P T.j d w fun k w=>indexAddr P T.j k c w fun i w=>fieldAddr P T.d i 0 w fun h w=>Q2 P T.c h w fun j w=>Q3 P .eql T.c (.tmp 18) (.tmp 19) j n w fun f w=>X1 f (K c w) (Q3 P .add T.e (.tmp 11) (.const (.int .i64 1)) c (.int .i64 1) w fun g w=>b g w)) (K (.int .i64 (-1)) w)
theorem Q11 {b a:Value} {w:World} {K:Value→World→Prop} (h:Er b a w K):Q1 P F.b3 [b,a] w K:=Q9 Q0w Tryz.func183 rfl (by decide) (by kernel_rfl) h
def Kz:V9:=[none,none,none,some ([9],[6,8,9,10,11,12,13,14,15,16,17,18,19,20,21,22,23,24,25,26,27,28,29,30,31,32,33,34,35,36,37,38,39,40,41,42,43,44,45,46,47,48,49,50,51,52,53,54]),none,none,none,none,none,none,none,none,none,none,none,none]
def Mg (D a1 a2:Value) (w:World) (K:Value→World→Prop):Prop:= box P T.b a1 w fun d w=>V8 P T.d w fun s w=>lp (α:=Value) (.int .i64 0) w fun i O d_ w=>fieldAddr P T.b d 2 w fun X w=>Q2 P T.h X w fun V w=>X3 P .len [T.h] T.e [false] [V] w fun Y w=>Q3 P .lss T.e (.tmp 15) (.tmp 18) O Y w fun B w=>X1 B (fieldAddr P T.b d 2 w fun ab w=>Q2 P T.h ab w fun J w=>indexAddr P T.h J O w fun W w=>Q2 P T.c W w fun E w=>Q1 P F.b [D,E] w fun U w=>indexAddr P T.i D U w fun R w=>Q2 P T.b R w fun A w=>V8 P T.b w fun a w=>Y0 P T.b a A w fun _u w=>Q2 P T.b a w fun Q w=>Q1 P F.b3 [Q,a2] w fun z w=>Q3 P .geq T.e (.tmp 35) (.const (.int .i64 0)) z (.int .i64 0) w fun Z w=>X1 Z (dr w fun b e=>Q5 b (fun h=> ∀w,e w→fieldAddr P T.b a 0 w (dk b h w)) fun h=>Q5 b (fun l=> ∀w,e w→fieldAddr P T.b a 7 w (dk b l w)) fun l=>Q5 b (fun o=> ∀f w,e w→h f w→Q2 P T.c f w (dk b o w)) fun o=>Q5 b (fun k=> ∀n w,e w→l n w→Q2 P T.j n w (dk b k w)) fun k=>Q5 b (fun m=> ∀g w,e w→k g w→indexAddr P T.j g z w (dk b m w)) fun m=>Q5 b (fun q=> ∀j w,e w→m j w→Q2 P T.d j w (dk b q w)) fun q=>∀f n y g j v w,e w→h f w→l n w→o y w→k g w→m j w→q v w→ Y0 P T.d s v w fun _u w=>Y8 P T.d s w fun u=>K (.tuple #[y,u,(.bool true)]) w) (Q2 P T.b a w fun H w=>Q1 P F.aO [D,H,a2] w fun r w=>ext P r 0 w fun aa w=>ext P r 1 w fun N w=>ext P r 2 w fun M w=>V8 P T.d w fun c w=>Y0 P T.d c N w fun _u w=>X1 M (dr w fun b e=>Q5 b (fun p=> ∀w,e w→Q2 P T.d c w (dk b p w)) fun p=>∀t w,e w→p t w→ Y0 P T.d s t w fun _u w=>Y8 P T.d s w fun u=>K (.tuple #[aa,u,(.bool true)]) w) (Q3 P .add T.e (.tmp 20) (.const (.int .i64 1)) O (.int .i64 1) w fun L w=>i L w))) (H3 P T.d [] w fun C w=>Y0 P T.d s C w fun _u w=>Y8 P T.d s w fun u=>K (.tuple #[(.string ⟨#[]⟩),u,(.bool false)]) w)
theorem Pj {c b a:Value} {w:World} {K:Value→World→Prop} (h:Mg c b a w K):Q1 P F.aO [c,b,a] w K:=Q9 Kz Tryz.func184 rfl (by decide) (by kernel_rfl) h
def Gb:V9:=[none,none,none,some ([9],[6,8,9,10,18,19,20,21,22,23,24,25,26,27,28,29,30,31,32,33,34,35,36,37,38,39,40,41,42,43,44,45,46,47]),none,none,none,none,none,none,none,none,some ([11],[6,8,11,12,13,14,51,52,53,54,55,56,57,58,59,60,61,62,63,64,65,66,67,68,69,70,71,72,73]),none,none,none,none,none,none,none]
def Lo (d a1 a2:Value) (w:World) (K:Value→World→Prop):Prop:= V8 P T.d w fun y w=>Q1 P F.b [d,a1] w fun ad w=>lp (α:=Value) ad w fun m C d_ w=>Q3 P .geq T.e (.tmp 18) (.const (.int .i64 0)) C (.int .i64 0) w fun L w=>X1 L (indexAddr P T.i d C w fun ac w=>Q2 P T.b ac w fun Z w=>Q1 P F.b3 [Z,a2] w fun D w=>Q3 P .geq T.e (.tmp 33) (.const (.int .i64 0)) D (.int .i64 0) w fun af w=>X1 af (dr w fun a b=>Q5 a (fun j=> ∀w,b w→indexAddr P T.i d C w (dk a j w)) fun j=>Q5 a (fun n=> ∀f w,b w→j f w→fieldAddr P T.b f 0 w (dk a n w)) fun n=>Q5 a (fun q=> ∀w,b w→indexAddr P T.i d C w (dk a q w)) fun q=>Q5 a (fun e=> ∀o w,b w→q o w→fieldAddr P T.b o 7 w (dk a e w)) fun e=>Q5 a (fun u=> ∀p w,b w→n p w→Q2 P T.c p w (dk a u w)) fun u=>Q5 a (fun k=> ∀h w,b w→e h w→Q2 P T.j h w (dk a k w)) fun k=>Q5 a (fun i=> ∀g w,b w→k g w→indexAddr P T.j g D w (dk a i w)) fun i=>Q5 a (fun t=> ∀l w,b w→i l w→Q2 P T.d l w (dk a t w)) fun t=>∀f p o h E g l H w,b w→j f w→n p w→q o w→e h w→u E w→k g w→i l w→t H w→ Y0 P T.d y H w fun _u w=>Y8 P T.d y w fun z=>K (.tuple #[E,z,(.bool true)]) w) (indexAddr P T.i d C w fun ab w=>fieldAddr P T.b ab 1 w fun ah w=>Q2 P T.c ah w fun U w=>Q1 P F.b [d,U] w fun X w=>m X w)) (Q1 P F.b [d,a1] w fun W w=>lp (α:=Value) W w fun c s d_ w=>Q3 P .geq T.e (.tmp 51) (.const (.int .i64 0)) s (.int .i64 0) w fun Y w=>X1 Y (indexAddr P T.i d s w fun M w=>Q2 P T.b M w fun R w=>Q1 P F.aO [d,R,a2] w fun r w=>ext P r 0 w fun V w=>ext P r 1 w fun ae w=>ext P r 2 w fun Q w=>V8 P T.d w fun A w=>Y0 P T.d A ae w fun _u w=>X1 Q (dr w fun a b=>Q5 a (fun v=> ∀w,b w→Q2 P T.d A w (dk a v w)) fun v=>∀B w,b w→v B w→ Y0 P T.d y B w fun _u w=>Y8 P T.d y w fun z=>K (.tuple #[V,z,(.bool true)]) w) (indexAddr P T.i d s w fun ag w=>fieldAddr P T.b ag 1 w fun J w=>Q2 P T.c J w fun aa w=>Q1 P F.b [d,aa] w fun O w=>c O w)) (H3 P T.d [] w fun N w=>Y0 P T.d y N w fun _u w=>Y8 P T.d y w fun z=>K (.tuple #[(.string ⟨#[]⟩),z,(.bool false)]) w))
theorem Ia {c b a:Value} {w:World} {K:Value→World→Prop} (h:Lo c b a w K):Q1 P F.bg [c,b,a] w K:=Q9 Gb Tryz.func152 rfl (by decide) (by kernel_rfl) h
def Fv:V9:=[none,none,none,none,some ([6],[4,6,24,25,26,27,28,29,30,31,32,33,34,35,36,37,38,39,40,41]),none,none,none,none,none,none,none,none,some ([7,8],[7,8,43,44,45,46,47,48,49,50,51,52,53,54,55,56,57,58]),none,none,none,none,none,some ([7,9],[7,9,59,60,61,62,63,64,65,66,67,68,69,70,71,72,73,74,75,76,77,78,79,80,81,82,83,84,85,86,87,88,89]),none,none,some ([7],[7,66,67,68,69,70,71,72,73,74,75,76,77,78,79,80,81,82,83,84,85,86,87,88,89]),none,none,none,none,some ([10],[4,10,90,91,92,93,94,95,96,97,98,99,100,101,102]),none,none,none,none,none,none,none,none,none,some ([12,13],[12,13,106,107,108,109,110,111,112,113,114,115,116,117,118,119,120,121,122,123,124,125,126,127,128,129,130]),none,none,some ([12],[12,112,113,114,115,116,117,118,119,120,121,122,123,124,125,126,127,128,129,130]),none,none,none,some ([14],[4,14,15,131,132,133,134,135,136,137,138,139,140,141,142,143,144,145,146,147,148,149,150,151,152,153,154,155,156,157,158,159,160,161,162,163,164,165]),none,none,none,none,some ([15],[4,15,137,138,139,140,141,142,143,144,145,146,147,148,149,150,151,152,153,154,155,156,157,158,159,160,161,162,163,164,165]),none,none,none,none,none,none,none,some ([16],[4,16,17,18,19,166,167,168,169,170,171,172,173,174,175,176,177,178,179,180,181,182,183,184,185,186,187,188,189,190,191,192,193,194,195]),none,none,none,none,none,none,none]
def Wd (a0 a1:Value) (w:World) (K:Value→World→Prop):Prop:= indexAddr P T.i a0 a1 w fun c5 w=>Q2 P T.b c5 w fun d3 w=>V8 P T.b w fun t5 w=>Y0 P T.b t5 d3 w fun _u w=>lp (α:=Value) (.int .i64 0) w fun a4 x4 d_ w=>fieldAddr P T.b t5 6 w fun d0 w=>Q2 P T.k d0 w fun de w=>X3 P .len [T.k] T.e [false] [de] w fun d4 w=>Q3 P .lss T.e (.tmp 24) (.tmp 27) x4 d4 w fun dy w=>X1 dy (dr w fun b c=>Q5 b (fun bd=> ∀w,c w→fieldAddr P T.b t5 1 w (dk b bd w)) fun bd=>Q5 b (fun be=> ∀w,c w→fieldAddr P T.b t5 6 w (dk b be w)) fun be=>Q5 b (fun bl=> ∀bc w,c w→bd bc w→Q2 P T.c bc w (dk b bl w)) fun bl=>Q5 b (fun a7=> ∀a9 w,c w→be a9 w→Q2 P T.k a9 w (dk b a7 w)) fun a7=>Q5 b (fun a3=> ∀a2 w,c w→a7 a2 w→indexAddr P T.k a2 x4 w (dk b a3 w)) fun a3=>Q5 b (fun bf=> ∀ba w,c w→a3 ba w→fieldAddr P T.n ba 0 w (dk b bf w)) fun bf=>Q5 b (fun bn=> ∀a8 w,c w→bf a8 w→Q2 P T.c a8 w (dk b bn w)) fun bn=>∀bc a9 bw a2 ba a8 ck w,c w→bd bc w→be a9 w→bl bw w→a7 a2 w→a3 ba w→bf a8 w→bn ck w→ Q1 P F.bt [a0,bw,ck] w fun dv w=>Q3 P .geq T.e (.tmp 40) (.const (.int .i64 0)) dv (.int .i64 0) w fun da w=>X1 da (K (.int .i64 64) w) (Q3 P .add T.e (.tmp 29) (.const (.int .i64 1)) x4 (.int .i64 1) w fun dh w=>a4 dh w)) (buildSlice P T.h 0 [] w fun di w=>lp (α:=Value×Value) (di,(.int .i64 0)) w fun ai ax d_ w=>fieldAddr P T.b t5 6 w fun dt w=>Q2 P T.k dt w fun d7 w=>X3 P .len [T.k] T.e [false] [d7] w fun c1 w=>Q3 P .lss T.e (.tmp 43) (.tmp 46) ax.2 c1 w fun dn w=>X1 dn (fieldAddr P T.b t5 6 w fun c3 w=>Q2 P T.k c3 w fun dg w=>indexAddr P T.k dg ax.2 w fun dp w=>fieldAddr P T.n dp 1 w fun cx w=>Q2 P T.c cx w fun ef w=>buildSlice P T.h 1 [(0,ef)] w fun dq w=>X3 P .append [T.h,T.h] T.h [false,false] [ax.1,dq] w fun ee w=>Q3 P .add T.e (.tmp 48) (.const (.int .i64 1)) ax.2 (.int .i64 1) w fun c8 w=>ai (ee,c8) w) (lp (α:=Value×Value) (ax.1,(.int .i64 0)) w fun am j d_ w=>fieldAddr P T.b t5 7 w fun c6 w=>Q2 P T.j c6 w fun dm w=>X3 P .len [T.j] T.e [false] [dm] w fun dd w=>Q3 P .lss T.e (.tmp 59) (.tmp 62) j.2 dd w fun dl w=>X1 dl (jn (α:=Value) w (fun cj w=>fieldAddr P T.b t5 7 w fun cz w=>Q2 P T.j cz w fun ea w=>indexAddr P T.j ea j.2 w fun dc w=>fieldAddr P T.d dc 1 w fun c2 w=>Q2 P T.h c2 w fun df w=>X3 P .append [T.h,T.h] T.h [false,false] [j.1,df] w fun cq w=>fieldAddr P T.b t5 7 w fun db w=>Q2 P T.j db w fun dj w=>indexAddr P T.j dj j.2 w fun eg w=>fieldAddr P T.d eg 2 w fun c4 w=>Q2 P T.c c4 w fun d8 w=>Q3 P .neq T.c (.tmp 79) (.const (.string ⟨#[]⟩)) d8 (.string ⟨#[]⟩) w fun dz w=>X1 dz (fieldAddr P T.b t5 7 w fun ed w=>Q2 P T.j ed w fun d9 w=>indexAddr P T.j d9 j.2 w fun ec w=>fieldAddr P T.d ec 2 w fun d5 w=>Q2 P T.c d5 w fun eh w=>buildSlice P T.h 1 [(0,eh)] w fun d1 w=>X3 P .append [T.h,T.h] T.h [false,false] [cq,d1] w fun cy w=>cj cy w) (cj cq w)) fun d6 d_ w=>Q3 P .add T.e (.tmp 64) (.const (.int .i64 1)) j.2 (.int .i64 1) w fun dw w=>am (d6,dw) w) (lp (α:=Value) (.int .i64 0) w fun aw bj d_ w=>X3 P .len [T.h] T.e [false] [j.1] w fun dx w=>Q3 P .lss T.e (.tmp 90) (.tmp 92) bj dx w fun d2 w=>X1 d2 (indexAddr P T.h j.1 bj w fun du w=>Q2 P T.c du w fun ch w=>Q1 P F.bu [a0,ch] w fun cw w=>J8 P .not cw w fun cs w=>X1 cs (K (.int .i64 65) w) (Q3 P .add T.e (.tmp 94) (.const (.int .i64 1)) bj (.int .i64 1) w fun eb w=>aw eb w)) (Q1 P F.an [a0] w fun cd w=>buildSlice P T.j 0 [] w fun b2 w=>lp (α:=Value×Value) (b2,(.int .i64 0)) w fun al f d_ w=>X3 P .len [T.i] T.e [false] [a0] w fun b6 w=>Q3 P .lss T.e (.tmp 106) (.tmp 108) f.2 b6 w fun b0 w=>X1 b0 (jn (α:=Value) w (fun bz w=>Q3 P .eql T.e (.tmp 112) (.tmp 113) f.2 a1 w fun g w=>Q0 g false w (fun w J=>J cd w) fun ci w=>Q0 g false w (fun w J=>J a1 w) fun b4 w=>Q0 g false w (indexAddr P T.a8 ci b4) fun b9 w=>Q0 g false w (Q2 P T.a6 b9) fun br w=>Q0 g false w (fun w J=>J f.2 w) fun cc w=>Q0 g false w (indexAddr P T.a6 br cc) fun b1 w=>Q0 g false w (Q2 P T.u b1) fun co w=>pick P g (.bool true) co w fun cb w=>X1 cb (indexAddr P T.i a0 f.2 w fun cg w=>fieldAddr P T.b cg 7 w fun bp w=>Q2 P T.j bp w fun cm w=>X3 P .append [T.j,T.j] T.j [false,false] [f.1,cm] w fun bo w=>bz bo w) (bz f.1 w)) fun c9 d_ w=>Q3 P .add T.e (.tmp 110) (.const (.int .i64 1)) f.2 (.int .i64 1) w fun cr w=>al (c9,cr) w) (lp (α:=Value) (.int .i64 0) w fun ar av d_ w=>X3 P .len [T.j] T.e [false] [f.1] w fun bs w=>Q3 P .lss T.e (.tmp 131) (.tmp 133) av bs w fun cl w=>X1 cl (lp (α:=Value) (.int .i64 0) w fun aj a5 d_ w=>Q3 P .lss T.e (.tmp 137) (.tmp 138) a5 av w fun ca w=>X1 ca (dr w fun b c=>Q5 b (fun s=> ∀w,c w→indexAddr P T.j f.1 av w (dk b s w)) fun s=>Q5 b (fun t=> ∀A w,c w→s A w→fieldAddr P T.d A 0 w (dk b t w)) fun t=>Q5 b (fun B=> ∀w,c w→indexAddr P T.j f.1 a5 w (dk b B w)) fun B=>Q5 b (fun C=> ∀N w,c w→B N w→fieldAddr P T.d N 0 w (dk b C w)) fun C=>Q5 b (fun D=> ∀v w,c w→t v w→Q2 P T.c v w (dk b D w)) fun D=>Q5 b (fun V=> ∀ac w,c w→C ac w→Q2 P T.c ac w (dk b V w)) fun V=>Q5 b (fun d=> ∀l n w,c w→D l w→V n w→Q3 P .eql T.c (.tmp 146) (.tmp 151) l n w (dk b d w)) fun d=>Q5 b (fun m=> ∀a w,c w→d a w→Q0 a true w (fun w J=>J f.1 w) (dk b m w)) fun m=>Q5 b (fun ae=> ∀a w,c w→d a w→Q0 a true w (fun w J=>J av w) (dk b ae w)) fun ae=>Q5 b (fun ad=> ∀a aa U w,c w→d a w→m aa w→ae U w→Q0 a true w (indexAddr P T.j aa U) (dk b ad w)) fun ad=>Q5 b (fun u=> ∀a w,c w→d a w→Q0 a true w (fun w J=>J f.1 w) (dk b u w)) fun u=>Q5 b (fun r=> ∀a w,c w→d a w→Q0 a true w (fun w J=>J a5 w) (dk b r w)) fun r=>Q5 b (fun O=> ∀a H X w,c w→d a w→u H w→r X w→Q0 a true w (indexAddr P T.j H X) (dk b O w)) fun O=>Q5 b (fun L=> ∀a Y w,c w→d a w→ad Y w→Q0 a true w (Q2 P T.d Y) (dk b L w)) fun L=>Q5 b (fun ay=> ∀a ag w,c w→d a w→L ag w→Q0 a true w (Q1 P F.aX [ag]) (dk b ay w)) fun ay=>Q5 b (fun az=> ∀a E w,c w→d a w→O E w→Q0 a true w (Q2 P T.d E) (dk b az w)) fun az=>∀A v N ac l n a aa U Y H X E ag bg bi w,c w→s A w→t v w→B N w→C ac w→D l w→V n w→d a w→m aa w→ae U w→ad Y w→u H w→r X w→O E w→L ag w→ay bg w→az bi w→ Q0 a true w (Q1 P F.aX [bi]) fun ce w=>Q0 a true w (Q3 P .neq T.c (.tmp 158) (.tmp 163) bg ce) fun b8 w=>pick P a b8 (.bool false) w fun bv w=>X1 bv (K (.int .i64 66) w) (Q3 P .add T.e (.tmp 140) (.const (.int .i64 1)) a5 (.int .i64 1) w fun cp w=>aj cp w)) (Q3 P .add T.e (.tmp 135) (.const (.int .i64 1)) av (.int .i64 1) w fun cv w=>ar cv w)) (lp (α:=Value) (.int .i64 0) w fun aq bk d_ w=>X3 P .len [T.j] T.e [false] [f.1] w fun b7 w=>Q3 P .lss T.e (.tmp 166) (.tmp 168) bk b7 w fun W w=>Q0 W true w (fieldAddr P T.b t5 4) fun cf w=>Q0 W true w (Q2 P T.u cf) fun cu w=>Q0 W true w (J8 P .not cu) fun b5 w=>pick P W b5 (.bool false) w fun bu w=>X1 bu (dr w fun b c=>Q5 b (fun z=> ∀w,c w→fieldAddr P T.b t5 0 w (dk b z w)) fun z=>Q5 b (fun Z=> ∀w,c w→indexAddr P T.j f.1 bk w (dk b Z w)) fun Z=>Q5 b (fun af=> ∀q w,c w→Z q w→fieldAddr P T.d q 0 w (dk b af w)) fun af=>Q5 b (fun M=> ∀p w,c w→z p w→Q2 P T.c p w (dk b M w)) fun M=>Q5 b (fun R=> ∀y w,c w→af y w→Q2 P T.c y w (dk b R w)) fun R=>Q5 b (fun i=> ∀o ab w,c w→M o w→R ab w→Q1 P F.bg [a0,o,ab] w (dk b i w)) fun i=>Q5 b (fun an=> ∀e w,c w→i e w→ext P e 0 w (dk b an w)) fun an=>Q5 b (fun Q=> ∀e w,c w→i e w→ext P e 1 w (dk b Q w)) fun Q=>Q5 b (fun ap=> ∀e w,c w→i e w→ext P e 2 w (dk b ap w)) fun ap=>Q5 b (fun a6=> ∀w,c w→V8 P T.d w (dk b a6 w)) fun a6=>Cl b (fun ao=> ∀k h w,c w→a6 k w→Q h w→Y0 P T.d k h w (dk b (ao [k,h]) w)) fun ao=>∀p q y o ab e bx h bh k c7 w,c w→z p w→Z q w→af y w→M o w→R ab w→i e w→an bx w→Q h w→ap bh w→a6 k w→ao [k,h] c7 w→ J8 P .not bh w fun ak w=>Q0 ak false w (fieldAddr P T.d k 3) fun ct w=>Q0 ak false w (Q2 P T.u ct) fun b3 w=>pick P ak (.bool true) b3 w fun bq w=>X1 bq (K (.int .i64 67) w) (Q3 P .add T.e (.tmp 175) (.const (.int .i64 1)) bk (.int .i64 1) w fun cn w=>aq cn w)) (K (.int .i64 0) w)))))))
theorem Ff {b a:Value} {w:World} {K:Value→World→Prop} (h:Wd b a w K):Q1 P F.ba [b,a] w K:=Q9 Fv Tryz.func105 rfl (by decide) (by kernel_rfl) h
end Go.Proofs.YtjdiakhipmggjaaGreatDoor

set_option maxRecDepth 100000
namespace Go.Proofs.YtjdiakhipmggjaaGreatDoor
open Go.Emb
def Q0r:V9:=[none,none,none,none,none,some ([5,7],[2,3,4,5,7,8,21,22,23,24,25,26,27,28,29,30,31,32,33,34,35,36,37,38,39,40,41,42]),none,none,none,none,none,none,none,none,none,some ([9],[2,3,4,9,43,44,45,46,47,48,49,50,51,52,53,54,55,56,57,58,59,60]),none,none,none,none,none,none,none,some ([10],[2,3,4,10,11,61,62,63,64,65,66,67,68,69,70,71,72,73,74,75,76]),none,none,none,none,none,none,none,none,none,some ([13],[2,3,4,13,79,80,81,82,83,84,85,86,87,88,89,90,91,92,93,94,95,96]),none,none,none,none,none,none,none,none,some ([14,15],[14,15,98,99,100,101,102,103,104,105,106,107,108,109,110]),none,none,none,none,none,some ([16],[2,3,4,16,17,111,112,113,114,115,116,117,118,119,120,121,122,123,124,125,126,127,128,129,130,131]),none,none,none,none,none,none,none]
def Eu (m:Value) (w:World) (K:Value→World→Prop):Prop:= Q1 P F.bp [] w fun J w=>X3 P .len [T.i] T.e [false] [J] w fun b w=>lp (α:=Value×Value) (J,(.int .i64 0)) w fun o c D w=>X3 P .len [T.i] T.e [false] [m] w fun ax w=>Q3 P .lss T.e (.tmp 21) (.tmp 23) c.2 ax w fun a4 w=>X1 a4 (indexAddr P T.i m c.2 w fun ay w=>Q2 P T.b ay w fun av w=>Q1 P F.bq [av] w fun r w=>Q3 P .neq T.v (.tmp 32) (.const (.int .i64 0)) r (.int .i64 0) w fun ad w=>X1 ad (K (.tuple #[(.slice none 0 0),c.2,r]) w) (indexAddr P T.i m c.2 w fun a3 w=>Q2 P T.b a3 w fun ab w=>buildSlice P T.i 1 [(0,ab)] w fun Q w=>X3 P .append [T.i,T.i] T.i [false,false] [c.1,Q] w fun aw w=>Q3 P .add T.e (.tmp 25) (.const (.int .i64 1)) c.2 (.int .i64 1) w fun am w=>o (aw,am) w)) (lp (α:=Value) (.int .i64 0) w fun d h D w=>X3 P .len [T.i] T.e [false] [m] w fun X w=>Q3 P .lss T.e (.tmp 43) (.tmp 45) h X w fun ae w=>X1 ae (indexAddr P T.i m h w fun ap w=>fieldAddr P T.b ap 0 w fun ac w=>Q2 P T.c ac w fun O w=>Q1 P F.b [c.1,O] w fun R w=>Q3 P .add T.e (.tmp 56) (.tmp 57) b h w fun ar w=>Q3 P .neq T.e (.tmp 55) (.tmp 58) R ar w fun Z w=>X1 Z (K (.tuple #[(.slice none 0 0),h,(.int .i64 60)]) w) (Q3 P .add T.e (.tmp 47) (.const (.int .i64 1)) h (.int .i64 1) w fun V w=>d V w)) (lp (α:=Value) (.int .i64 0) w fun e l D w=>X3 P .len [T.i] T.e [false] [m] w fun a1 w=>Q3 P .lss T.e (.tmp 61) (.tmp 63) l a1 w fun U w=>X1 U (indexAddr P T.i m l w fun aa w=>Q2 P T.b aa w fun ai w=>Q1 P F.bf [c.1,ai] w fun C w=>Q3 P .neq T.v (.tmp 73) (.const (.int .i64 0)) C (.int .i64 0) w fun W w=>X1 W (K (.tuple #[(.slice none 0 0),l,C]) w) (Q3 P .add T.e (.tmp 65) (.const (.int .i64 1)) l (.int .i64 1) w fun ah w=>e ah w)) (Q1 P F.an [c.1] w fun al w=>lp (α:=Value) (.int .i64 0) w fun f g D w=>X3 P .len [T.i] T.e [false] [m] w fun az w=>Q3 P .lss T.e (.tmp 79) (.tmp 81) g az w fun an w=>X1 an (Q3 P .add T.e (.tmp 86) (.tmp 87) b g w fun ag w=>indexAddr P T.a8 al ag w fun Y w=>Q2 P T.a6 Y w fun a2 w=>Q3 P .add T.e (.tmp 91) (.tmp 92) b g w fun aq w=>indexAddr P T.a6 a2 aq w fun ao w=>Q2 P T.u ao w fun af w=>X1 af (K (.tuple #[(.slice none 0 0),g,(.int .i64 63)]) w) (Q3 P .add T.e (.tmp 83) (.const (.int .i64 1)) g (.int .i64 1) w fun ak w=>f ak w)) (buildSlice P T.a7 0 [] w fun aj w=>lp (α:=Value×Value) (aj,(.int .i64 0)) w fun i a D w=>X3 P .len [T.i] T.e [false] [m] w fun L w=>Q3 P .lss T.e (.tmp 98) (.tmp 100) a.2 L w fun t w=>X1 t (Q3 P .add T.e (.tmp 107) (.tmp 108) b a.2 w fun A w=>Q1 P F.b2 [c.1,a.1,b,A] w fun y w=>Q3 P .add T.e (.tmp 102) (.const (.int .i64 1)) a.2 (.int .i64 1) w fun u w=>i (y,u) w) (lp (α:=Value) (.int .i64 0) w fun j n D w=>X3 P .len [T.a7] T.e [false] [a.1] w fun M w=>Q3 P .lss T.e (.tmp 111) (.tmp 113) n M w fun E w=>X1 E (indexAddr P T.a7 a.1 n w fun z w=>Q2 P T.e z w fun B w=>Q1 P F.ba [c.1,B] w fun p w=>Q3 P .neq T.v (.tmp 123) (.const (.int .i64 0)) p (.int .i64 0) w fun H w=>X1 H (dr w fun Tr Br=>Q5 Tr (fun k=> ∀w,Br w→indexAddr P T.a7 a.1 n w (dk Tr k w)) fun k=>∀q w,Br w→k q w→ Q2 P T.e q w fun v w=>Q3 P .sub T.e (.tmp 128) (.tmp 129) v b w fun s w=>K (.tuple #[(.slice none 0 0),s,p]) w) (Q3 P .add T.e (.tmp 115) (.const (.int .i64 1)) n (.int .i64 1) w fun N w=>j N w)) (K (.tuple #[c.1,(.int .i64 0),(.int .i64 0)]) w))))))
theorem Q15 {a:Value} {w:World} {K:Value→World→Prop} (h:Eu a w K):Q1 P F.bN [a] w K:=Q9 Q0r Tryz.func56 rfl (by decide) (by kernel_rfl) h
def Md (C:Value) (w:World) (K:Value→World→Prop):Prop:= V8 P T.a w fun e w=>Q1 P F.aD [] w fun n w=>Q1 P F.cL [n] w fun a w=>ext P a 0 w fun i w=>ext P a 1 w fun E w=>ext P a 2 w fun v w=>Q1 P F.aD [] w fun s w=>Q1 P F.bN [s] w fun c w=>ext P c 0 w fun t w=>ext P c 1 w fun D w=>ext P c 2 w fun B w=>Q3 P .rem T.aq (.tmp 25) (.const (.int .u16 301)) C (.int .u16 301) w fun r w=>conv P T.aq T.e r w fun h w=>Q3 P .neq T.v (.tmp 28) (.const (.int .i64 0)) v (.int .i64 0) w fun d w=>Q0 d false w (fun w J=>J B w) fun j w=>Q0 d false w (Q3 P .neq T.v (.tmp 31) (.const (.int .i64 0)) j (.int .i64 0)) fun u w=>pick P d (.bool true) u w fun b w=>Q0 b false w (fun w J=>J i w) fun o w=>Q0 b false w (Q3 P .eql T.r (.tmp 35) (.const (.pointer none)) o (.pointer none)) fun z w=>pick P b (.bool true) z w fun k w=>X1 k (H3 P T.a [] w fun y w=>Y0 P T.a e y w fun _u w=>Y8 P T.a e w fun f=>K (.tuple #[(.pointer none),f]) w) (Q1 P F.cM [i,h] w fun g w=>ext P g 0 w fun m w=>ext P g 1 w fun l w=>Q3 P .neq T.v (.tmp 45) (.const (.int .i64 0)) l (.int .i64 0) w fun p w=>X1 p (H3 P T.a [] w fun A w=>Y0 P T.a e A w fun _u w=>Y8 P T.a e w fun f=>K (.tuple #[(.pointer none),f]) w) (H3 P T.a [(0,t),(1,h)] w fun q w=>Y0 P T.a e q w fun _u w=>Y8 P T.a e w fun f=>K (.tuple #[m,f]) w))
theorem Pd {a:Value} {w:World} {K:Value→World→Prop} (h:Md a w K):Q1 P F.ak [a] w K:=Q9 (List.replicate 12 none) Tryz.func24 rfl (by decide) (by kernel_rfl) h
def Q2f (d:Value) (w:World) (K:Value→World→Prop):Prop:= V8 P T.f w fun a w=>Q3 P .eql T.c (.tmp 3) (.const (.string ⟨#[105,110,116]⟩)) d (.string ⟨#[105,110,116]⟩) w fun g w=>X1 g (H3 P T.f [(0,(.int .i64 1))] w fun i w=>Y0 P T.f a i w fun _u w=>Y8 P T.f a w fun b=>K b w) (Q3 P .eql T.c (.tmp 3) (.const (.string ⟨#[98,111,111,108]⟩)) d (.string ⟨#[98,111,111,108]⟩) w fun h w=>X1 h (H3 P T.f [(0,(.int .i64 2))] w fun j w=>Y0 P T.f a j w fun _u w=>Y8 P T.f a w fun b=>K b w) (Q3 P .eql T.c (.tmp 3) (.const (.string ⟨#[116,101,120,116]⟩)) d (.string ⟨#[116,101,120,116]⟩) w fun f w=>X1 f (H3 P T.f [(0,(.int .i64 3))] w fun e w=>Y0 P T.f a e w fun _u w=>Y8 P T.f a w fun b=>K b w) (H3 P T.f [] w fun c w=>Y0 P T.f a c w fun _u w=>Y8 P T.f a w fun b=>K b w)))
theorem Q7a {a:Value} {w:World} {K:Value→World→Prop} (h:Q2f a w K):Q1 P F.bk [a] w K:=Q9 (List.replicate 10 none) Tryz.func29 rfl (by decide) (by kernel_rfl) h
def Hv (a z v:Value) (w:World) (K:Value→World→Prop):Prop:= nilCheck P a w fun y w=>fieldAddr P T.p y 2 w fun j w=>Q2 P T.e j w fun q w=>X3 P .len [T.l] T.e [false] [v] w fun e w=>Q3 P .add T.e (.const (.int .i64 1)) (.tmp 13) (.int .i64 1) e w fun u w=>Q3 P .add T.e (.tmp 11) (.tmp 14) q u w fun c w=>nilCheck P a w fun s w=>fieldAddr P T.p s 2 w fun p w=>Y0 P T.e p c w fun _u w=>nilCheck P a w fun l w=>fieldAddr P T.p l 3 w fun h w=>Q2 P T.g h w fun m w=>H3 P T.o [(0,z),(1,v)] w fun i w=>buildSlice P T.g 1 [(0,i)] w fun k w=>X3 P .append [T.g,T.g] T.g [false,false] [m,k] w fun r w=>nilCheck P a w fun f w=>fieldAddr P T.p f 3 w fun o w=>Y0 P T.g o r w fun _u w=>nilCheck P a w fun b w=>fieldAddr P T.p b 3 w fun n w=>Q2 P T.g n w fun g w=>X3 P .len [T.g] T.e [false] [g] w fun t w=>Q3 P .sub T.e (.tmp 34) (.const (.int .i64 1)) t (.int .i64 1) w fun d w=>K (.tuple #[d,(.int .i64 0)]) w
theorem Q2a {c b a:Value} {w:World} {K:Value→World→Prop} (h:Hv c b a w K):Q1 P F.b7 [c,b,a] w K:=Q9 (List.replicate 4 none) Tryz.func67 rfl (by decide) (by kernel_rfl) h
def Iw:V9:=[none,none,none,none,none,none,none,none,none,none,none,some ([7,31],[7,9,31,32,33,34,35,36,37,38,39,40,41]),none,none,none,none,none]
def Mq (f n:Value) (w:World) (K:Value→World→Prop):Prop:= nilCheck P f w fun v w=>fieldAddr P T.p v 0 w fun s w=>Q2 P T.r s w fun l w=>Q1 P F.aG [l,n] w fun g w=>J8 P .not g w fun z w=>X1 z (K (.tuple #[(.int .i64 0),(.int .i64 91)]) w) (nilCheck P f w fun A w=>fieldAddr P T.p A 0 w fun j w=>Q2 P T.r j w fun r w=>Q1 P F.u [r,n] w fun d w=>X3 P .len [T.k] T.e [false] [d] w fun J w=>Q3 P .add T.e (.const (.int .i64 1)) (.tmp 24) (.int .i64 1) J w fun q w=>Q1 P F.ag [f] w fun y w=>Q3 P .gtr T.e (.tmp 25) (.tmp 27) q y w fun m w=>X1 m (K (.tuple #[(.int .i64 0),(.int .i64 90)]) w) (X3 P .len [T.k] T.e [false] [d] w fun u w=>lp (α:=Value×Value) ((.slice none 0 0),(.int .i64 0)) w fun c a L w=>Q3 P .lss T.e (.tmp 31) (.tmp 30) a.2 u w fun t w=>X1 t (indexAddr P T.k d a.2 w fun o w=>Q2 P T.n o w fun C w=>V8 P T.n w fun b w=>Y0 P T.n b C w fun _u w=>fieldAddr P T.n b 1 w fun E w=>Q2 P T.c E w fun h w=>Q1 P F.bk [h] w fun B w=>buildSlice P T.l 1 [(0,B)] w fun D w=>X3 P .append [T.l,T.l] T.l [false,false] [a.1,D] w fun k w=>Q3 P .add T.e (.tmp 31) (.const (.int .i64 1)) a.2 (.int .i64 1) w fun i w=>c (k,i) w) (Q1 P F.b7 [f,n,a.1] w fun e w=>ext P e 0 w fun p w=>ext P e 1 w fun H w=>K (.tuple #[p,H]) w)))
theorem Kr {b a:Value} {w:World} {K:Value→World→Prop} (h:Mq b a w K):Q1 P F.am [b,a] w K:=Q9 Iw Tryz.func33 rfl (by decide) (by kernel_rfl) h
def Q53 (d:Value) (w:World) (K:Value→World→Prop):Prop:= Q1 P F.a0 [d] w fun f w=>J8 P .not f w fun a w=>Q0 a false w (fun w J=>J d w) fun g w=>Q0 a false w (Q1 P F.cu [g]) fun h w=>Q0 a false w (Q3 P .eql T.e (.tmp 9) (.const (.int .i64 3)) h (.int .i64 3)) fun b w=>pick P a (.bool true) b w fun e w=>X1 e (K (.tuple #[(.string ⟨#[]⟩),(.int .i64 30)]) w) (Q3 P .add T.c (.tmp 12) (.const (.string ⟨#[91,93]⟩)) d (.string ⟨#[91,93]⟩) w fun c w=>K (.tuple #[c,(.int .i64 0)]) w)
theorem Q9g {a:Value} {w:World} {K:Value→World→Prop} (h:Q53 a w K):Q1 P F.cQ [a] w K:=Q9 (List.replicate 5 none) Tryz.func68 rfl (by decide) (by kernel_rfl) h
def Ay:V9:=[none,none,none,none,none,none,none,none,none,none,none,none,some ([45],[11,45,46,47,48,49,50,51,52,53]),none,none,none,none,none]
def Dg (l h i:Value) (w:World) (K:Value→World→Prop):Prop:= Q1 P F.cQ [h] w fun g w=>ext P g 0 w fun k w=>ext P g 1 w fun H w=>Q3 P .neq T.v (.tmp 18) (.const (.int .i64 0)) H (.int .i64 0) w fun a w=>Q0 a false w (fun w J=>J l w) fun s w=>Q0 a false w (nilCheck P s) fun y w=>Q0 a false w (fieldAddr P T.p y 0) fun D w=>Q0 a false w (Q2 P T.r D) fun M w=>Q0 a false w (fun w J=>J h w) fun t w=>Q0 a false w (Q1 P F.s [M,t]) fun v w=>Q0 a false w (J8 P .not v) fun E w=>pick P a (.bool true) E w fun c w=>Q0 c false w (fun w J=>J h w) fun B w=>Q0 c false w (Q3 P .eql T.c (.tmp 30) (.const (.string ⟨#[110,117,108,108]⟩)) B (.string ⟨#[110,117,108,108]⟩)) fun j w=>pick P c (.bool true) j w fun z w=>X1 z (K (.tuple #[(.int .i64 0),(.int .i64 91)]) w) (Q3 P .lss T.a1 (.tmp 34) (.const (.int .i64 0)) i (.int .i64 0) w fun n w=>X1 n (K (.tuple #[(.int .i64 0),(.int .i64 93)]) w) (Q1 P F.ag [l] w fun L w=>Q3 P .geq T.a1 (.tmp 37) (.tmp 39) i L w fun p w=>X1 p (K (.tuple #[(.int .i64 0),(.int .i64 90)]) w) (Dq P T.l i i w fun e w=>X3 P .len [T.l] T.e [false] [e] w fun m w=>lp (α:=Value) (.int .i64 0) w fun b d N w=>Q3 P .lss T.e (.tmp 45) (.tmp 44) d m w fun r w=>X1 r (Q1 P F.bk [h] w fun u w=>indexAddr P T.l e d w fun A w=>Y0 P T.f A u w fun _u w=>Q3 P .add T.e (.tmp 45) (.const (.int .i64 1)) d (.int .i64 1) w fun q w=>b q w) (Q1 P F.b7 [l,k,e] w fun f w=>ext P f 0 w fun C w=>ext P f 1 w fun o w=>K (.tuple #[C,o]) w))))
theorem Q0d {c b a:Value} {w:World} {K:Value→World→Prop} (h:Dg c b a w K):Q1 P F.av [c,b,a] w K:=Q9 Ay Tryz.func34 rfl (by decide) (by kernel_rfl) h
def Di (b:Value) (w:World) (K:Value→World→Prop):Prop:= nilCheck P b w fun d w=>fieldAddr P T.p d 0 w fun a w=>Q2 P T.r a w fun c w=>K c w
theorem Ah {a:Value} {w:World} {K:Value→World→Prop} (h:Di a w K):Q1 P F.aR [a] w K:=Q9 (List.replicate 2 none) Tryz.func35 rfl (by decide) (by kernel_rfl) h
def Nh (w:World) (K:Value→World→Prop):Prop:= Q1 P F.ak [(.int .u16 10)] w fun t8 w=>ext P t8 0 w fun b w=>ext P t8 1 w fun D w=>V8 P T.a w fun t2 w=>Y0 P T.a t2 D w fun _u w=>Q3 P .eql T.a5 (.tmp 11) (.const (.pointer none)) b (.pointer none) w fun L w=>X1 L (K (.bool false) w) (Q1 P F.am [b,(.string ⟨#[90,101,114,111,70,97,117,108,116]⟩)] w fun k w=>ext P k 0 w fun U w=>ext P k 1 w fun O w=>Q1 P F.av [b,(.string ⟨#[105,110,116]⟩),(.int .i64 3)] w fun l w=>ext P l 0 w fun B w=>ext P l 1 w fun H w=>Q3 P .eql T.e (.tmp 23) (.const (.int .i64 0)) U (.int .i64 0) w fun j w=>Q0 j true w (fun w J=>J O w) fun E w=>Q0 j true w (Q3 P .eql T.v (.tmp 26) (.const (.int .i64 0)) E (.int .i64 0)) fun Q w=>pick P j Q (.bool false) w fun g w=>Q0 g true w (fun w J=>J B w) fun M w=>Q0 g true w (Q3 P .eql T.e (.tmp 30) (.const (.int .i64 1)) M (.int .i64 1)) fun n w=>pick P g n (.bool false) w fun h w=>Q0 h true w (fun w J=>J H w) fun W w=>Q0 h true w (Q3 P .eql T.v (.tmp 34) (.const (.int .i64 0)) W (.int .i64 0)) fun s w=>pick P h s (.bool false) w fun f w=>Q0 f true w (fun w J=>J b w) fun V w=>Q0 f true w (Q1 P F.ag [V]) fun X w=>Q0 f true w (Q3 P .eql T.e (.tmp 39) (.const (.int .i64 4)) X (.int .i64 4)) fun v w=>pick P f v (.bool false) w fun a w=>Q0 a true w (fun w J=>J b w) fun r w=>Q0 a true w (Q1 P F.c1 [r]) fun q w=>Q0 a true w (Q3 P .eql T.e (.tmp 44) (.const (.int .i64 2)) q (.int .i64 2)) fun t w=>pick P a t (.bool false) w fun c w=>Q0 c true w (fun w J=>J b w) fun Z w=>Q0 c true w (Q1 P F.a7 [Z,(.int .i64 0)]) fun Y w=>Q0 c true w (Q3 P .eql T.c (.tmp 49) (.const (.string ⟨#[90,101,114,111,70,97,117,108,116]⟩)) Y (.string ⟨#[90,101,114,111,70,97,117,108,116]⟩)) fun C w=>pick P c C (.bool false) w fun d w=>Q0 d true w (fun w J=>J b w) fun y w=>Q0 d true w (Q1 P F.ah [y,(.int .i64 1)]) fun m w=>Q0 d true w (Q3 P .eql T.e (.tmp 54) (.const (.int .i64 3)) m (.int .i64 3)) fun o w=>pick P d o (.bool false) w fun i w=>Q0 i true w (fun w J=>J b w) fun N w=>Q0 i true w (Q1 P F.bB [N]) fun u w=>pick P i u (.bool false) w fun e w=>Q0 e true w (fun w J=>J b w) fun z w=>Q0 e true w (Q1 P F.aR [z]) fun R w=>Q0 e true w (Q3 P .neq T.r (.tmp 63) (.const (.pointer none)) R (.pointer none)) fun p w=>pick P e p (.bool false) w fun A w=>K A w)
theorem To {w:World} {K:Value→World→Prop} (h:Nh w K):Q1 P F.aj [] w K:=Q9 (List.replicate 8 none) Tryz.func14 rfl (by decide) (by kernel_rfl) h
def Da (p q r:Value) (w:World) (K:Value→World→Prop):Prop:= Q1 P F.aJ [p,q] w fun e w=>J8 P .not e w fun k w=>X1 k (K (.int .i64 92) w) (Q3 P .lss T.a1 (.tmp 13) (.const (.int .i64 0)) r (.int .i64 0) w fun a w=>Q0 a false w (fun w J=>J r w) fun m w=>Q0 a false w (fun w J=>J p w) fun j w=>Q0 a false w (nilCheck P j) fun n w=>Q0 a false w (fieldAddr P T.p n 3) fun b w=>Q0 a false w (Q2 P T.g b) fun g w=>Q0 a false w (fun w J=>J q w) fun c w=>Q0 a false w (indexAddr P T.g g c) fun h w=>Q0 a false w (fieldAddr P T.o h 1) fun i w=>Q0 a false w (Q2 P T.l i) fun o w=>Q0 a false w (X3 P .len [T.l] T.e [false] [o]) fun d w=>Q0 a false w (Q3 P .geq T.a1 (.tmp 16) (.tmp 25) m d) fun f w=>pick P a (.bool true) f w fun l w=>X1 l (K (.int .i64 93) w) (K (.int .i64 0) w))
theorem Aj {c b a:Value} {w:World} {K:Value→World→Prop} (h:Da c b a w K):Q1 P F.aT [c,b,a] w K:=Q9 (List.replicate 7 none) Tryz.func50 rfl (by decide) (by kernel_rfl) h
def Hr (n o p:Value) (w:World) (K:Value→World→Prop):Prop:= V8 P T.f w fun b w=>Q1 P F.aT [n,o,p] w fun a w=>Q3 P .neq T.v (.tmp 13) (.const (.int .i64 0)) a (.int .i64 0) w fun m w=>X1 m (H3 P T.f [] w fun d w=>Y0 P T.f b d w fun _u w=>Y8 P T.f b w fun c=>K (.tuple #[c,a]) w) (nilCheck P n w fun k w=>fieldAddr P T.p k 3 w fun e w=>Q2 P T.g e w fun g w=>indexAddr P T.g g o w fun h w=>fieldAddr P T.o h 1 w fun i w=>Q2 P T.l i w fun l w=>indexAddr P T.l l p w fun f w=>Q2 P T.f f w fun j w=>Y0 P T.f b j w fun _u w=>Y8 P T.f b w fun c=>K (.tuple #[c,(.int .i64 0)]) w)
theorem Q1Z {c b a:Value} {w:World} {K:Value→World→Prop} (h:Hr c b a w K):Q1 P F.aI [c,b,a] w K:=Q9 (List.replicate 6 none) Tryz.func16 rfl (by decide) (by kernel_rfl) h
def Ht (D Q V W:Value) (w:World) (K:Value→World→Prop):Prop:= box P T.f W w fun c w=>Q1 P F.aT [D,Q,V] w fun H w=>Q3 P .neq T.v (.tmp 14) (.const (.int .i64 0)) H (.int .i64 0) w fun N w=>X1 N (K H w) (dr w fun a b=>Q5 a (fun v=> ∀w,b w→nilCheck P D w (dk a v w)) fun v=>Q5 a (fun i=> ∀m w,b w→v m w→fieldAddr P T.p m 3 w (dk a i w)) fun i=>Q5 a (fun C=> ∀w,b w→Q2 P T.f c w (dk a C w)) fun C=>Q5 a (fun h=> ∀q w,b w→i q w→Q2 P T.g q w (dk a h w)) fun h=>Q5 a (fun p=> ∀s w,b w→h s w→indexAddr P T.g s Q w (dk a p w)) fun p=>Q5 a (fun k=> ∀n w,b w→p n w→Q2 P T.o n w (dk a k w)) fun k=>Q5 a (fun z=> ∀o w,b w→k o w→Q1 P F.aF [D,o,V] w (dk a z w)) fun z=>∀m q L s n o J w,b w→v m w→i q w→C L w→h s w→p n w→k o w→z J w→ Q1 P F.a8 [D,L,J] w fun U w=>J8 P .not U w fun R w=>X1 R (K (.int .i64 91) w) (dr w fun a b=>Q5 a (fun t=> ∀w,b w→nilCheck P D w (dk a t w)) fun t=>Q5 a (fun e=> ∀r w,b w→t r w→fieldAddr P T.p r 3 w (dk a e w)) fun e=>Q5 a (fun f=> ∀l w,b w→e l w→Q2 P T.g l w (dk a f w)) fun f=>Q5 a (fun d=> ∀u w,b w→f u w→indexAddr P T.g u Q w (dk a d w)) fun d=>Q5 a (fun j=> ∀y w,b w→d y w→fieldAddr P T.o y 1 w (dk a j w)) fun j=>Q5 a (fun A=> ∀g w,b w→j g w→Q2 P T.l g w (dk a A w)) fun A=>Q5 a (fun B=> ∀w,b w→Q2 P T.f c w (dk a B w)) fun B=>∀r l u y g M E w,b w→t r w→e l w→f u w→d y w→j g w→A M w→B E w→ indexAddr P T.l M V w fun O w=>Y0 P T.f O E w fun _u w=>K (.int .i64 0) w))
theorem Q1Y {d c b a:Value} {w:World} {K:Value→World→Prop} (h:Ht d c b a w K):Q1 P F.b5 [d,c,b,a] w K:=Q9 (List.replicate 10 none) Tryz.func22 rfl (by decide) (by kernel_rfl) h
def Ee (j:Value) (w:World) (K:Value→World→Prop):Prop:= box P T.m j w fun a w=>fieldAddr P T.m a 1 w fun g w=>Q2 P T.c g w fun k w=>X3 P .len [T.c] T.e [false] [k] w fun h w=>Q3 P .leq T.e (.tmp 5) (.const (.int .i64 100)) h (.int .i64 100) w fun b w=>Q0 b true w (fieldAddr P T.m a 4) fun i w=>Q0 b true w (fieldAddr P T.f i 2) fun l w=>Q0 b true w (Q2 P T.c l) fun c w=>Q0 b true w (X3 P .len [T.c] T.e [false] [c]) fun f w=>Q0 b true w (Q3 P .leq T.e (.tmp 11) (.const (.int .i64 5000)) f (.int .i64 5000)) fun e w=>pick P b e (.bool false) w fun d w=>K d w
theorem Q0E {a:Value} {w:World} {K:Value→World→Prop} (h:Ee a w K):Q1 P F.aE [a] w K:=Q9 (List.replicate 2 none) Tryz.func25 rfl (by decide) (by kernel_rfl) h
def Ze:V9:=[none,none,none,some ([8],[4,5,8,9,10,11,12,13,14,15,16,17,18]),none,none,none,none,none,none,none]
def G7 (g h:Value) (w:World) (K:Value→World→Prop):Prop:= X3 P .len [T.l] T.e [false] [g] w fun j w=>lp (α:=Value) (.int .i64 0) w fun a b k w=>Q3 P .lss T.e (.tmp 8) (.tmp 7) b j w fun i w=>X1 i (indexAddr P T.l g b w fun f w=>Q2 P T.f f w fun e w=>Z3 P h [e] w fun c w=>X1 c (K b w) (Q3 P .add T.e (.tmp 8) (.const (.int .i64 1)) b (.int .i64 1) w fun d w=>a d w)) (K (.int .i64 (-1)) w)
theorem Zc {b a:Value} {w:World} {K:Value→World→Prop} (h:G7 b a w K):Q1 P F.a3 [b,a] w K:=Q9 Ze Tryz.func119 rfl (by decide) (by kernel_rfl) h
def C9 (c b:Value) (w:World) (K:Value→World→Prop):Prop:= Q1 P F.a3 [c,b] w fun d w=>Q3 P .geq T.e (.tmp 7) (.const (.int .i64 0)) d (.int .i64 0) w fun a w=>K a w
theorem Xh {b a:Value} {w:World} {K:Value→World→Prop} (h:C9 b a w K):Q1 P F.k [b,a] w K:=Q9 (List.replicate 2 none) Tryz.func75 rfl (by decide) (by kernel_rfl) h
def Db (i h:Value) (w:World) (K:Value→World→Prop):Prop:= box P T.f i w fun a w=>fieldAddr P T.f a 0 w fun j w=>Q2 P T.e j w fun f w=>Q3 P .eql T.e (.tmp 5) (.const (.int .i64 4)) f (.int .i64 4) w fun b w=>Q0 b true w (fieldAddr P T.f a 3) fun g w=>Q0 b true w (Q2 P T.e g) fun k w=>Q0 b true w (Q2 P T.e h) fun c w=>Q0 b true w (Q3 P .geq T.e (.tmp 9) (.tmp 10) k c) fun e w=>pick P b e (.bool false) w fun d w=>K d w
theorem Q07 {b a:Value} {w:World} {K:Value→World→Prop} (h:Db b a w K):Q1 P F.bG [b,a] w K:=Q9 (List.replicate 2 none) Tryz.func76 rfl (by decide) (by kernel_rfl) h
def Q29:V9:=[none,none,none,none,some ([22],[5,22,23,24,25,26,27,28,29,30]),none,none,none,none,none,some ([],[6,31,32,33,34,35,36,37,38,39,40,41,42,43,44,45,46,47,48,49,50,51,52,53,54,55,56,57,58,59,60,61,62,63,64,65,66,67,68,69]),none,none,none,none]
def Hx (J a1:Value) (w:World) (K:Value→World→Prop):Prop:= box P T.e a1 w fun t3 w=>Q2 P T.e t3 w fun t7 w=>X3 P .max [T.e,T.e] T.e [false,true] [t7,(.int .i64 0)] w fun t8 w=>Y0 P T.e t3 t8 w fun _u w=>dr w fun a b=>Q5 a (fun A=> ∀w,b w→nilCheck P J w (dk a A w)) fun A=>Q5 a (fun B=> ∀U w,b w→A U w→fieldAddr P T.p U 3 w (dk a B w)) fun B=>Q5 a (fun V=> ∀w,b w→nilCheck P J w (dk a V w)) fun V=>Q5 a (fun H=> ∀e w,b w→V e w→fieldAddr P T.p e 3 w (dk a H w)) fun H=>Q5 a (fun ab=> ∀r w,b w→B r w→Q2 P T.g r w (dk a ab w)) fun ab=>Q5 a (fun n=> ∀w,b w→Q2 P T.e t3 w (dk a n w)) fun n=>Q5 a (fun E=> ∀u w,b w→H u w→Q2 P T.g u w (dk a E w)) fun E=>Q5 a (fun t=> ∀W w,b w→E W w→X3 P .len [T.g] T.e [false] [W] w (dk a t w)) fun t=>Q5 a (fun aa=> ∀O v w,b w→n O w→t v w→X3 P .min [T.e,T.e] T.e [false,false] [O,v] w (dk a aa w)) fun aa=>∀U r e u am O W v ak w,b w→A U w→B r w→V e w→H u w→ab am w→n O w→E W w→t v w→aa ak w→ R8 P T.g am none (some ak) none w fun al w=>X3 P .len [T.g] T.e [false] [al] w fun ay w=>lp (α:=Value) (.int .i64 0) w fun m x4 d_ w=>Q3 P .lss T.e (.tmp 22) (.tmp 21) x4 ay w fun a2 w=>X1 a2 (indexAddr P T.g al x4 w fun a7 w=>Q2 P T.o a7 w fun az w=>V8 P T.o w fun t5 w=>Y0 P T.o t5 az w fun _u w=>fieldAddr P T.o t5 1 w fun bc w=>Q2 P T.l bc w fun a5 w=>E7 P (.func F.bG) [] [t3] w fun ax w=>Q1 P F.k [a5,ax] w fun a3 w=>X1 a3 (K (.tuple #[]) w) (Q3 P .add T.e (.tmp 22) (.const (.int .i64 1)) x4 (.int .i64 1) w fun bd w=>m bd w)) (lp (α:=Unit) () w fun c bm d_ w=>dr w fun a b=>Q5 a (fun s=> ∀w,b w→nilCheck P J w (dk a s w)) fun s=>Q5 a (fun C=> ∀q w,b w→s q w→fieldAddr P T.p q 3 w (dk a C w)) fun C=>Q5 a (fun D=> ∀Q w,b w→C Q w→Q2 P T.g Q w (dk a D w)) fun D=>Q5 a (fun ad=> ∀Y w,b w→D Y w→X3 P .len [T.g] T.e [false] [Y] w (dk a ad w)) fun ad=>Q5 a (fun ac=> ∀w,b w→Q2 P T.e t3 w (dk a ac w)) fun ac=>∀q Q Y ai an w,b w→s q w→C Q w→D Y w→ad ai w→ac an w→ Q3 P .gtr T.e (.tmp 35) (.tmp 36) ai an w fun aq w=>X1 aq (nilCheck P J w fun a6 w=>fieldAddr P T.p a6 3 w fun ar w=>Q2 P T.g ar w fun a8 w=>X3 P .len [T.g] T.e [false] [a8] w fun be w=>Q3 P .sub T.e (.tmp 42) (.const (.int .i64 1)) be (.int .i64 1) w fun ah w=>dr w fun a b=>Q5 a (fun j=> ∀w,b w→nilCheck P J w (dk a j w)) fun j=>Q5 a (fun M=> ∀L w,b w→j L w→fieldAddr P T.p L 2 w (dk a M w)) fun M=>Q5 a (fun i=> ∀w,b w→nilCheck P J w (dk a i w)) fun i=>Q5 a (fun h=> ∀z w,b w→i z w→fieldAddr P T.p z 3 w (dk a h w)) fun h=>Q5 a (fun af=> ∀l w,b w→M l w→Q2 P T.e l w (dk a af w)) fun af=>Q5 a (fun k=> ∀p w,b w→h p w→Q2 P T.g p w (dk a k w)) fun k=>Q5 a (fun R=> ∀o w,b w→k o w→indexAddr P T.g o ah w (dk a R w)) fun R=>Q5 a (fun y=> ∀N w,b w→R N w→fieldAddr P T.o N 1 w (dk a y w)) fun y=>Q5 a (fun g=> ∀d w,b w→y d w→Q2 P T.l d w (dk a g w)) fun g=>Q5 a (fun X=> ∀f w,b w→g f w→X3 P .len [T.l] T.e [false] [f] w (dk a X w)) fun X=>Q5 a (fun ae=> ∀Z w,b w→X Z w→Q3 P .add T.e (.const (.int .i64 1)) (.tmp 56) (.int .i64 1) Z w (dk a ae w)) fun ae=>∀L l z p ao o N d f Z ag w,b w→j L w→M l w→i z w→h p w→af ao w→k o w→R N w→y d w→g f w→X Z w→ae ag w→ Q3 P .sub T.e (.tmp 47) (.tmp 57) ao ag w fun bf w=>nilCheck P J w fun ba w=>fieldAddr P T.p ba 2 w fun a4 w=>Y0 P T.e a4 bf w fun _u w=>nilCheck P J w fun bg w=>fieldAddr P T.p bg 3 w fun a9 w=>Q2 P T.g a9 w fun av w=>R8 P T.g av none (some ah) none w fun aw w=>nilCheck P J w fun bb w=>fieldAddr P T.p bb 3 w fun bh w=>Y0 P T.g bh aw w fun _u w=>c () w) (K (.tuple #[]) w))
theorem Q28 {b a:Value} {w:World} {K:Value→World→Prop} (h:Hx b a w K):Q1 P F.c3 [b,a] w K:=Q9 Q29 Tryz.func40 rfl (by decide) (by kernel_rfl) h
def As:V9:=[none,none,some ([],[5,6,7]),none,some ([],[8,9,10]),none,some ([],[11,12,13]),none,none]
def Dj (b:Value) (w:World) (K:Value→World→Prop):Prop:= V8 P T.f w fun g w=>H3 P T.f [] w fun p w=>V8 P T.f w fun a w=>Y0 P T.f a p w fun _u w=>jn (α:=Unit) w (fun k w=>Q3 P .eql T.c (.tmp 5) (.const (.string ⟨#[105,110,116]⟩)) b (.string ⟨#[105,110,116]⟩) w fun m w=>X1 m (fieldAddr P T.f a 0 w fun o w=>Y0 P T.e o (.int .i64 1) w fun _u w=>k () w) (k () w)) fun q j w=>jn (α:=Unit) w (fun i w=>Q3 P .eql T.c (.tmp 8) (.const (.string ⟨#[98,111,111,108]⟩)) b (.string ⟨#[98,111,111,108]⟩) w fun n w=>X1 n (fieldAddr P T.f a 0 w fun d w=>Y0 P T.e d (.int .i64 2) w fun _u w=>i () w) (i () w)) fun r j w=>jn (α:=Unit) w (fun h w=>Q3 P .eql T.c (.tmp 11) (.const (.string ⟨#[116,101,120,116]⟩)) b (.string ⟨#[116,101,120,116]⟩) w fun e w=>X1 e (fieldAddr P T.f a 0 w fun c w=>Y0 P T.e c (.int .i64 3) w fun _u w=>h () w) (h () w)) fun s j w=>Q2 P T.f a w fun f w=>Y0 P T.f g f w fun _u w=>Y8 P T.f g w fun l=>K l w
theorem An {a:Value} {w:World} {K:Value→World→Prop} (h:Dj a w K):Q1 P F.aQ [a] w K:=Q9 As Tryz.func30 rfl (by decide) (by kernel_rfl) h
def Q02:V9:=[none,none,none,none,some ([3,4],[3,4,7,8,9,10,11,12,13,14,15,16,17,18,19,20,21,22,23]),none,none,none,none]
def De (o:Value) (w:World) (K:Value→World→Prop):Prop:= box P T.a o w fun a w=>fieldAddr P T.a a 1 w fun r w=>Q2 P T.e r w fun p w=>lp (α:=Value×Value) (p,(.int .i64 0)) w fun b c t w=>fieldAddr P T.a a 2 w fun s w=>Q2 P T.g s w fun q w=>X3 P .len [T.g] T.e [false] [q] w fun h w=>Q3 P .lss T.e (.tmp 7) (.tmp 10) c.2 h w fun l w=>X1 l (fieldAddr P T.a a 2 w fun d w=>Q2 P T.g d w fun m w=>indexAddr P T.g m c.2 w fun n w=>fieldAddr P T.o n 1 w fun e w=>Q2 P T.l e w fun i w=>X3 P .len [T.l] T.e [false] [i] w fun g w=>Q3 P .add T.e (.const (.int .i64 1)) (.tmp 21) (.int .i64 1) g w fun j w=>Q3 P .sub T.e (.tmp 14) (.tmp 22) c.1 j w fun k w=>Q3 P .add T.e (.tmp 12) (.const (.int .i64 1)) c.2 (.int .i64 1) w fun f w=>b (k,f) w) (K c.1 w)
theorem Ax {a:Value} {w:World} {K:Value→World→Prop} (h:De a w K):Q1 P F.aS [a] w K:=Q9 Q02 Tryz.func37 rfl (by decide) (by kernel_rfl) h
def We (j k:Value) (w:World) (K:Value→World→Prop):Prop:= Q1 P F.b [j,k] w fun i w=>Q3 P .geq T.e (.tmp 9) (.const (.int .i64 0)) i (.int .i64 0) w fun a w=>Q0 a true w (fun w J=>J j w) fun f w=>Q0 a true w (fun w J=>J i w) fun d w=>Q0 a true w (indexAddr P T.i f d) fun h w=>Q0 a true w (fieldAddr P T.b h 4) fun e w=>Q0 a true w (Q2 P T.u e) fun b w=>Q0 a true w (J8 P .not b) fun g w=>pick P a g (.bool false) w fun c w=>K c w
theorem Fo {b a:Value} {w:World} {K:Value→World→Prop} (h:We b a w K):Q1 P F.b8 [b,a] w K:=Q9 (List.replicate 3 none) Tryz.func72 rfl (by decide) (by kernel_rfl) h
def Gp:V9:=[none,none,none,none,none,none,none,none,none,none,none,some ([8],[8,28,29,30,31,32,33,34,35,36,37,38,39,40,41,42,43,44]),none,none,none,none,none]
def Lc (a0 Z:Value) (w:World) (K:Value→World→Prop):Prop:= box P T.a a0 w fun a w=>V8 P T.a w fun H w=>fieldAddr P T.a a 0 w fun t9 w=>Q2 P T.i t9 w fun ae w=>Q1 P F.b8 [ae,Z] w fun ah w=>J8 P .not ah w fun Y w=>X1 Y (Q2 P T.a a w fun W w=>Y0 P T.a H W w fun _u w=>Y8 P T.a H w fun J=>K (.tuple #[J,(.int .i64 91)]) w) (fieldAddr P T.a a 0 w fun R w=>Q2 P T.i R w fun am w=>Q1 P F.p [am,Z] w fun D w=>X3 P .len [T.k] T.e [false] [D] w fun af w=>Q3 P .add T.e (.const (.int .i64 1)) (.tmp 20) (.int .i64 1) af w fun ab w=>Q2 P T.a a w fun ag w=>Q1 P F.aS [ag] w fun ak w=>Q3 P .gtr T.e (.tmp 21) (.tmp 23) ab ak w fun an w=>X1 an (Q2 P T.a a w fun ac w=>Y0 P T.a H ac w fun _u w=>Y8 P T.a H w fun J=>K (.tuple #[J,(.int .i64 90)]) w) (H3 P T.o [(0,Z)] w fun al w=>V8 P T.o w fun c w=>Y0 P T.o c al w fun _u w=>lp (α:=Value) (.int .i64 0) w fun e A d_ w=>X3 P .len [T.k] T.e [false] [D] w fun ai w=>Q3 P .lss T.e (.tmp 28) (.tmp 30) A ai w fun Q w=>X1 Q (dr w fun b d=>Q5 b (fun f=> ∀w,d w→fieldAddr P T.o c 1 w (dk b f w)) fun f=>Q5 b (fun o=> ∀w,d w→indexAddr P T.k D A w (dk b o w)) fun o=>Q5 b (fun s=> ∀r w,d w→o r w→fieldAddr P T.n r 1 w (dk b s w)) fun s=>Q5 b (fun z=> ∀t w,d w→f t w→Q2 P T.l t w (dk b z w)) fun z=>Q5 b (fun q=> ∀u w,d w→s u w→Q2 P T.c u w (dk b q w)) fun q=>Q5 b (fun l=> ∀j w,d w→q j w→Q1 P F.aQ [j] w (dk b l w)) fun l=>Q5 b (fun E=> ∀g w,d w→l g w→buildSlice P T.l 1 [(0,g)] w (dk b E w)) fun E=>∀t r u L j g N w,d w→f t w→o r w→s u w→z L w→q j w→l g w→E N w→ X3 P .append [T.l,T.l] T.l [false,false] [L,N] w fun V w=>fieldAddr P T.o c 1 w fun U w=>Y0 P T.l U V w fun _u w=>Q3 P .add T.e (.tmp 32) (.const (.int .i64 1)) A (.int .i64 1) w fun aa w=>e aa w) (dr w fun b d=>Q5 b (fun i=> ∀w,d w→fieldAddr P T.a a 2 w (dk b i w)) fun i=>Q5 b (fun k=> ∀w,d w→buildSlice P T.g 0 [] w (dk b k w)) fun k=>Q5 b (fun p=> ∀n w,d w→i n w→Q2 P T.g n w (dk b p w)) fun p=>Q5 b (fun C=> ∀h y w,d w→k h w→p y w→X3 P .append [T.g,T.g] T.g [false,false] [h,y] w (dk b C w)) fun C=>Q5 b (fun m=> ∀w,d w→Q2 P T.o c w (dk b m w)) fun m=>Q5 b (fun B=> ∀v w,d w→m v w→buildSlice P T.g 1 [(0,v)] w (dk b B w)) fun B=>∀n h y O v M w,d w→i n w→k h w→p y w→C O w→m v w→B M w→ X3 P .append [T.g,T.g] T.g [false,false] [O,M] w fun ad w=>fieldAddr P T.a a 2 w fun aj w=>Y0 P T.g aj ad w fun _u w=>Q2 P T.a a w fun X w=>Y0 P T.a H X w fun _u w=>Y8 P T.a H w fun J=>K (.tuple #[J,(.int .i64 0)]) w)))
theorem Ii {b a:Value} {w:World} {K:Value→World→Prop} (h:Lc b a w K):Q1 P F.bd [b,a] w K:=Q9 Gp Tryz.func57 rfl (by decide) (by kernel_rfl) h
def Pi:V9:=[none,none,none,none,none,none,none,none,none,none,none,none,none,some ([9],[9,41,42,43,44,45,46,47,48,49,50,51,52]),none,none,none,none,none]
def Ml (a0 C N:Value) (w:World) (K:Value→World→Prop):Prop:= box P T.a a0 w fun a w=>V8 P T.a w fun u w=>Q3 P .eql T.c (.tmp 10) (.const (.string ⟨#[110,117,108,108]⟩)) C (.string ⟨#[110,117,108,108]⟩) w fun f w=>Q0 f false w (fieldAddr P T.a a 0) fun aa w=>Q0 f false w (Q2 P T.i aa) fun V w=>Q0 f false w (fun w J=>J C w) fun Q w=>Q0 f false w (Q1 P F.a1 [V,Q]) fun an w=>Q0 f false w (J8 P .not an) fun ak w=>pick P f (.bool true) ak w fun r w=>Q0 r false w (fun w J=>J C w) fun af w=>Q0 r false w (Q1 P F.a2 [af]) fun ac w=>Q0 r false w (Q3 P .gtr T.e (.tmp 21) (.const (.int .i64 2)) ac (.int .i64 2)) fun ag w=>pick P r (.bool true) ag w fun aj w=>X1 aj (Q2 P T.a a w fun av w=>Y0 P T.a u av w fun _u w=>Y8 P T.a u w fun v=>K (.tuple #[v,(.int .i64 91)]) w) (Q3 P .lss T.a1 (.tmp 25) (.const (.int .i64 0)) N (.int .i64 0) w fun ae w=>X1 ae (Q2 P T.a a w fun al w=>Y0 P T.a u al w fun _u w=>Y8 P T.a u w fun v=>K (.tuple #[v,(.int .i64 93)]) w) (Q3 P .gtr T.a1 (.tmp 28) (.const (.int .i64 1048576)) N (.int .i64 1048576) w fun e w=>Q0 e false w (fun w J=>J N w) fun O w=>Q0 e false w (Q3 P .add T.e (.const (.int .i64 1)) (.tmp 31) (.int .i64 1) O) fun ah w=>Q0 e false w (Q2 P T.a a) fun ab w=>Q0 e false w (Q1 P F.aS [ab]) fun ap w=>Q0 e false w (Q3 P .gtr T.e (.tmp 32) (.tmp 34) ah ap) fun W w=>pick P e (.bool true) W w fun ar w=>X1 ar (Q2 P T.a a w fun R w=>Y0 P T.a u R w fun _u w=>Y8 P T.a u w fun v=>K (.tuple #[v,(.int .i64 90)]) w) (Q3 P .add T.c (.tmp 38) (.const (.string ⟨#[91,93]⟩)) C (.string ⟨#[91,93]⟩) w fun aq w=>H3 P T.o [(0,aq)] w fun Z w=>V8 P T.o w fun c w=>Y0 P T.o c Z w fun _u w=>lp (α:=Value) (.int .i64 0) w fun g D d_ w=>Q3 P .lss T.a1 (.tmp 41) (.tmp 42) D N w fun U w=>X1 U (dr w fun b d=>Q5 b (fun l=> ∀w,d w→fieldAddr P T.o c 1 w (dk b l w)) fun l=>Q5 b (fun A=> ∀p w,d w→l p w→Q2 P T.l p w (dk b A w)) fun A=>Q5 b (fun n=> ∀w,d w→Q1 P F.aQ [C] w (dk b n w)) fun n=>Q5 b (fun y=> ∀t w,d w→n t w→buildSlice P T.l 1 [(0,t)] w (dk b y w)) fun y=>∀p M t E w,d w→l p w→A M w→n t w→y E w→ X3 P .append [T.l,T.l] T.l [false,false] [M,E] w fun ad w=>fieldAddr P T.o c 1 w fun ai w=>Y0 P T.l ai ad w fun _u w=>Q3 P .add T.a1 (.tmp 44) (.const (.int .i64 1)) D (.int .i64 1) w fun X w=>g X w) (dr w fun b d=>Q5 b (fun s=> ∀w,d w→fieldAddr P T.a a 2 w (dk b s w)) fun s=>Q5 b (fun q=> ∀w,d w→buildSlice P T.g 0 [] w (dk b q w)) fun q=>Q5 b (fun k=> ∀h w,d w→s h w→Q2 P T.g h w (dk b k w)) fun k=>Q5 b (fun B=> ∀m j w,d w→q m w→k j w→X3 P .append [T.g,T.g] T.g [false,false] [m,j] w (dk b B w)) fun B=>Q5 b (fun o=> ∀w,d w→Q2 P T.o c w (dk b o w)) fun o=>Q5 b (fun z=> ∀i w,d w→o i w→buildSlice P T.g 1 [(0,i)] w (dk b z w)) fun z=>∀h m j L i H w,d w→s h w→q m w→k j w→B L w→o i w→z H w→ X3 P .append [T.g,T.g] T.g [false,false] [L,H] w fun Y w=>fieldAddr P T.a a 2 w fun am w=>Y0 P T.g am Y w fun _u w=>Q2 P T.a a w fun ao w=>Y0 P T.a u ao w fun _u w=>Y8 P T.a u w fun v=>K (.tuple #[v,(.int .i64 0)]) w))))
theorem Ir {c b a:Value} {w:World} {K:Value→World→Prop} (h:Ml c b a w K):Q1 P F.bn [c,b,a] w K:=Q9 Pi Tryz.func58 rfl (by decide) (by kernel_rfl) h
def Q26:V9:=[none,none,some ([],[4,14,15,16,17,18,19,20,21,22,23,24,25,26,27,28,29,30,31,32,33,34,35,36,37,38,39,40,41,42,43,44,45,46,47,48,49,50,51,52,53,54,55,56,57,58,59,60,61,62,63,64,65,66,67,68,69,70,71,72,73,74,75,76,77,78,79,80,81,82,83,84,85,86,87,88,89,90]),none,none,none,none,none,none,none,none,none,none,none,none,none,none,none,none,none]
def Hw (a0 a1:Value) (w:World) (K:Value→World→Prop):Prop:= box P T.a a0 w fun t2 w=>box P T.f a1 w fun b w=>fieldAddr P T.f b 3 w fun t6 w=>Q2 P T.e t6 w fun t7 w=>Q3 P .eql T.e (.tmp 7) (.const (.int .i64 0)) t7 (.int .i64 0) w fun l w=>Q0 l true w (fieldAddr P T.f b 2) fun ai w=>Q0 l true w (Q2 P T.c ai) fun M w=>Q0 l true w (Q3 P .eql T.c (.tmp 11) (.const (.string ⟨#[]⟩)) M (.string ⟨#[]⟩)) fun an w=>pick P l an (.bool false) w fun a w=>jn (α:=Unit) w (fun k w=>fieldAddr P T.f b 0 w fun U w=>Q2 P T.e U w fun d w=>Q3 P .eql T.e (.tmp 15) (.const (.int .i64 0)) d (.int .i64 0) w fun aq w=>X1 aq (Q0 a true w (fieldAddr P T.f b 1) fun al w=>Q0 a true w (Q2 P T.a1 al) fun z w=>Q0 a true w (Q3 P .eql T.a1 (.tmp 21) (.const (.int .i64 0)) z (.int .i64 0)) fun E w=>pick P a E (.bool false) w fun L w=>X1 L (K (.string ⟨#[110,117,108,108]⟩) w) (k () w)) (Q3 P .eql T.e (.tmp 15) (.const (.int .i64 1)) d (.int .i64 1) w fun A w=>X1 A (X1 a (K (.string ⟨#[105,110,116]⟩) w) (k () w)) (Q3 P .eql T.e (.tmp 15) (.const (.int .i64 2)) d (.int .i64 2) w fun u w=>X1 u (Q0 a true w (fieldAddr P T.f b 1) fun o w=>Q0 a true w (Q2 P T.a1 o) fun H w=>Q0 a true w (Q3 P .eql T.a1 (.tmp 32) (.const (.int .i64 0)) H (.int .i64 0)) fun ac w=>Q0 a true w (fun w J=>J ac w) fun j w=>Q0 j false w (fieldAddr P T.f b 1) fun r w=>Q0 j false w (Q2 P T.a1 r) fun az w=>Q0 j false w (Q3 P .eql T.a1 (.tmp 36) (.const (.int .i64 1)) az (.int .i64 1)) fun p w=>Q0 a true w (pick P j (.bool true) p) fun aw w=>pick P a aw (.bool false) w fun R w=>X1 R (K (.string ⟨#[98,111,111,108]⟩) w) (k () w)) (Q3 P .eql T.e (.tmp 15) (.const (.int .i64 3)) d (.int .i64 3) w fun V w=>X1 V (fieldAddr P T.f b 1 w fun ap w=>Q2 P T.a1 ap w fun q w=>Q3 P .eql T.a1 (.tmp 43) (.const (.int .i64 0)) q (.int .i64 0) w fun g w=>Q0 g true w (fieldAddr P T.f b 3) fun y w=>Q0 g true w (Q2 P T.e y) fun a2 w=>Q0 g true w (Q3 P .eql T.e (.tmp 47) (.const (.int .i64 0)) a2 (.int .i64 0)) fun a4 w=>pick P g a4 (.bool false) w fun e w=>Q0 e true w (fieldAddr P T.f b 2) fun C w=>Q0 e true w (Q2 P T.c C) fun am w=>Q0 e true w (X3 P .len [T.c] T.e [false] [am]) fun Z w=>Q0 e true w (Q3 P .leq T.e (.tmp 53) (.const (.int .i64 4096)) Z (.int .i64 4096)) fun m w=>pick P e m (.bool false) w fun f w=>Q0 f true w (fieldAddr P T.f b 2) fun n w=>Q0 f true w (Q2 P T.c n) fun ao w=>Q0 f true w (Q1 P F.aL [ao]) fun Y w=>pick P f Y (.bool false) w fun N w=>X1 N (K (.string ⟨#[116,101,120,116]⟩) w) (k () w)) (Q3 P .eql T.e (.tmp 15) (.const (.int .i64 4)) d (.int .i64 4) w fun aa w=>X1 aa (fieldAddr P T.f b 1 w fun av w=>Q2 P T.a1 av w fun W w=>Q3 P .eql T.a1 (.tmp 64) (.const (.int .i64 0)) W (.int .i64 0) w fun h w=>Q0 h true w (fieldAddr P T.f b 2) fun t w=>Q0 h true w (Q2 P T.c t) fun ae w=>Q0 h true w (Q3 P .eql T.c (.tmp 68) (.const (.string ⟨#[]⟩)) ae (.string ⟨#[]⟩)) fun ax w=>pick P h ax (.bool false) w fun i w=>Q0 i true w (fieldAddr P T.f b 3) fun aj w=>Q0 i true w (Q2 P T.e aj) fun ah w=>Q0 i true w (Q3 P .geq T.e (.tmp 73) (.const (.int .i64 0)) ah (.int .i64 0)) fun X w=>pick P i X (.bool false) w fun c w=>Q0 c true w (fieldAddr P T.f b 3) fun ay w=>Q0 c true w (Q2 P T.e ay) fun D w=>Q0 c true w (fieldAddr P T.a t2 2) fun ab w=>Q0 c true w (Q2 P T.g ab) fun v w=>Q0 c true w (X3 P .len [T.g] T.e [false] [v]) fun ar w=>Q0 c true w (Q3 P .lss T.e (.tmp 78) (.tmp 81) D ar) fun ak w=>pick P c ak (.bool false) w fun ad w=>X1 ad (fieldAddr P T.a t2 2 w fun ag w=>Q2 P T.g ag w fun af w=>fieldAddr P T.f b 3 w fun O w=>Q2 P T.e O w fun a3 w=>indexAddr P T.g af a3 w fun B w=>fieldAddr P T.o B 0 w fun s w=>Q2 P T.c s w fun Q w=>K Q w) (k () w)) (k () w)))))) fun z2 d_ w=>K (.string ⟨#[]⟩) w
theorem Q1W {b a:Value} {w:World} {K:Value→World→Prop} (h:Hw b a w K):Q1 P F.c2 [b,a] w K:=Q9 Q26 Tryz.func32 rfl (by decide) (by kernel_rfl) h
def Eo (k h j:Value) (w:World) (K:Value→World→Prop):Prop:= Q1 P F.a1 [k,h] w fun U w=>J8 P .not U w fun b w=>Q0 b false w (fun w J=>J k w) fun ac w=>Q0 b false w (fun w J=>J j w) fun p w=>Q0 b false w (Q1 P F.a1 [ac,p]) fun W w=>Q0 b false w (J8 P .not W) fun R w=>pick P b (.bool true) R w fun d w=>Q0 d false w (fun w J=>J h w) fun H w=>Q0 d false w (fun w J=>J j w) fun C w=>Q0 d false w (Q3 P .eql T.c (.tmp 20) (.tmp 21) H C) fun L w=>pick P d (.bool true) L w fun O w=>X1 O (Q3 P .eql T.c (.tmp 24) (.tmp 25) h j w fun c w=>Q0 c true w (fun w J=>J k w) fun z w=>Q0 c true w (fun w J=>J h w) fun Q w=>Q0 c true w (Q1 P F.a1 [z,Q]) fun N w=>pick P c N (.bool false) w fun o w=>K o w) (Q1 P F.y [h] w fun i w=>Q0 i false w (fun w J=>J j w) fun s w=>Q0 i false w (Q1 P F.y [s]) fun aa w=>pick P i (.bool true) aa w fun e w=>Q0 e false w (fun w J=>J j w) fun Z w=>Q0 e false w (Q3 P .eql T.c (.tmp 39) (.const (.string ⟨#[110,117,108,108]⟩)) Z (.string ⟨#[110,117,108,108]⟩)) fun u w=>pick P e (.bool true) u w fun q w=>X1 q (K (.bool false) w) (Q3 P .eql T.c (.tmp 42) (.const (.string ⟨#[110,117,108,108]⟩)) h (.string ⟨#[110,117,108,108]⟩) w fun g w=>Q0 g false w (fun w J=>J j w) fun t w=>Q0 g false w (Q3 P .eql T.c (.tmp 45) (.const (.string ⟨#[79,98,106,101,99,116]⟩)) t (.string ⟨#[79,98,106,101,99,116]⟩)) fun B w=>pick P g (.bool true) B w fun ab w=>X1 ab (K (.bool true) w) (Q1 P F.b [k,h] w fun m w=>Q1 P F.b [k,j] w fun l w=>Q3 P .geq T.e (.tmp 54) (.const (.int .i64 0)) m (.int .i64 0) w fun f w=>Q0 f true w (fun w J=>J l w) fun n w=>Q0 f true w (Q3 P .geq T.e (.tmp 57) (.const (.int .i64 0)) n (.int .i64 0)) fun M w=>pick P f M (.bool false) w fun a w=>Q0 a true w (fun w J=>J k w) fun X w=>Q0 a true w (Q1 P F.an [X]) fun v w=>Q0 a true w (fun w J=>J m w) fun V w=>Q0 a true w (indexAddr P T.a8 v V) fun r w=>Q0 a true w (Q2 P T.a6 r) fun y w=>Q0 a true w (fun w J=>J l w) fun E w=>Q0 a true w (indexAddr P T.a6 y E) fun A w=>Q0 a true w (Q2 P T.u A) fun D w=>pick P a D (.bool false) w fun Y w=>K Y w)))
theorem Q0s {c b a:Value} {w:World} {K:Value→World→Prop} (h:Eo c b a w K):Q1 P F.bS [c,b,a] w K:=Q9 (List.replicate 12 none) Tryz.func63 rfl (by decide) (by kernel_rfl) h
def Oy (n m k:Value) (w:World) (K:Value→World→Prop):Prop:= box P T.a n w fun b w=>box P T.f m w fun c w=>Q2 P T.a b w fun l w=>Q2 P T.f c w fun o w=>Q1 P F.c2 [l,o] w fun d w=>Q3 P .neq T.c (.tmp 11) (.const (.string ⟨#[]⟩)) d (.string ⟨#[]⟩) w fun a w=>Q0 a true w (fieldAddr P T.a b 0) fun j w=>Q0 a true w (Q2 P T.i j) fun g w=>Q0 a true w (fun w J=>J d w) fun e w=>Q0 a true w (fun w J=>J k w) fun i w=>Q0 a true w (Q1 P F.bS [g,e,i]) fun f w=>pick P a f (.bool false) w fun h w=>K h w
theorem Q08 {c b a:Value} {w:World} {K:Value→World→Prop} (h:Oy c b a w K):Q1 P F.bC [c,b,a] w K:=Q9 (List.replicate 3 none) Tryz.func28 rfl (by decide) (by kernel_rfl) h
def Og (d:Value) (w:World) (K:Value→World→Prop):Prop:= X3 P .len [T.c] T.e [false] [d] w fun p w=>Q3 P .lss T.e (.tmp 6) (.const (.int .i64 3)) p (.int .i64 3) w fun c w=>Q0 c false w (fun w J=>J d w) fun s w=>Q0 c false w (fun w J=>J p w) fun h w=>Q0 c false w (Q3 P .sub T.e (.tmp 10) (.const (.int .i64 2)) h (.int .i64 2)) fun m w=>Q0 c false w (R8 P T.c s (some m) none none) fun j w=>Q0 c false w (Q3 P .neq T.c (.tmp 12) (.const (.string ⟨#[91,93]⟩)) j (.string ⟨#[91,93]⟩)) fun e w=>pick P c (.bool true) e w fun b w=>Q0 b false w (fun w J=>J d w) fun o w=>Q0 b false w (Q1 P F.a2 [o]) fun l w=>Q0 b false w (Q3 P .gtr T.e (.tmp 17) (.const (.int .i64 3)) l (.int .i64 3)) fun q w=>pick P b (.bool true) q w fun a w=>Q0 a false w (fun w J=>J d w) fun g w=>Q0 a false w (Q1 P F.e [g]) fun i w=>Q0 a false w (J8 P .not i) fun k w=>pick P a (.bool true) k w fun r w=>X1 r (K (.string ⟨#[]⟩) w) (Q3 P .sub T.e (.tmp 26) (.const (.int .i64 2)) p (.int .i64 2) w fun n w=>R8 P T.c d none (some n) none w fun f w=>K f w)
theorem Ak {a:Value} {w:World} {K:Value→World→Prop} (h:Og a w K):Q1 P F.bE [a] w K:=Q9 (List.replicate 6 none) Tryz.func71 rfl (by decide) (by kernel_rfl) h
end Go.Proofs.YtjdiakhipmggjaaGreatDoor

set_option maxRecDepth 100000
namespace Go.Proofs.YtjdiakhipmggjaaGreatDoor
open Go.Emb
def Oh (m o p:Value) (w:World) (K:Value→World→Prop):Prop:= box P T.a m w fun b w=>box P T.o o w fun a w=>fieldAddr P T.o a 0 w fun q w=>Q2 P T.c q w fun n w=>Q1 P F.bE [n] w fun c w=>Q3 P .neq T.c (.tmp 11) (.const (.string ⟨#[]⟩)) c (.string ⟨#[]⟩) w fun h w=>X1 h (K c w) (fieldAddr P T.a b 0 w fun l w=>Q2 P T.i l w fun d w=>fieldAddr P T.o a 0 w fun j w=>Q2 P T.c j w fun i w=>Q1 P F.p [d,i] w fun k w=>indexAddr P T.k k p w fun f w=>fieldAddr P T.n f 1 w fun e w=>Q2 P T.c e w fun g w=>K g w)
theorem Q0i {c b a:Value} {w:World} {K:Value→World→Prop} (h:Oh c b a w K):Q1 P F.bF [c,b,a] w K:=Q9 (List.replicate 6 none) Tryz.func74 rfl (by decide) (by kernel_rfl) h
def Ob (v h u:Value) (w:World) (K:Value→World→Prop):Prop:= box P T.a v w fun b w=>Q3 P .lss T.e (.tmp 7) (.const (.int .i64 0)) h (.int .i64 0) w fun c w=>Q0 c false w (fun w J=>J h w) fun k w=>Q0 c false w (fieldAddr P T.a b 2) fun q w=>Q0 c false w (Q2 P T.g q) fun o w=>Q0 c false w (X3 P .len [T.g] T.e [false] [o]) fun f w=>Q0 c false w (Q3 P .geq T.e (.tmp 10) (.tmp 13) k f) fun t w=>pick P c (.bool true) t w fun d w=>X1 d (K (.int .i64 92) w) (Q3 P .lss T.a1 (.tmp 16) (.const (.int .i64 0)) u (.int .i64 0) w fun a w=>Q0 a false w (fun w J=>J u w) fun e w=>Q0 a false w (fieldAddr P T.a b 2) fun m w=>Q0 a false w (Q2 P T.g m) fun i w=>Q0 a false w (fun w J=>J h w) fun n w=>Q0 a false w (indexAddr P T.g i n) fun p w=>Q0 a false w (fieldAddr P T.o p 1) fun s w=>Q0 a false w (Q2 P T.l s) fun j w=>Q0 a false w (X3 P .len [T.l] T.e [false] [j]) fun l w=>Q0 a false w (Q3 P .geq T.a1 (.tmp 19) (.tmp 26) e l) fun r w=>pick P a (.bool true) r w fun g w=>X1 g (K (.int .i64 93) w) (K (.int .i64 0) w))
theorem Ks {c b a:Value} {w:World} {K:Value→World→Prop} (h:Ob c b a w K):Q1 P F.aN [c,b,a] w K:=Q9 (List.replicate 8 none) Tryz.func108 rfl (by decide) (by kernel_rfl) h
def El (a0 B W a3:Value) (w:World) (K:Value→World→Prop):Prop:= box P T.a a0 w fun a w=>box P T.f a3 w fun c w=>V8 P T.a w fun s w=>Q2 P T.a a w fun N w=>Q1 P F.aN [N,B,W] w fun A w=>Q3 P .neq T.v (.tmp 17) (.const (.int .i64 0)) A (.int .i64 0) w fun V w=>X1 V (Q2 P T.a a w fun D w=>Y0 P T.a s D w fun _u w=>Y8 P T.a s w fun t=>K (.tuple #[t,A]) w) (dr w fun b f=>Q5 b (fun d=> ∀w,f w→fieldAddr P T.a a 2 w (dk b d w)) fun d=>Q5 b (fun r=> ∀w,f w→Q2 P T.a a w (dk b r w)) fun r=>Q5 b (fun p=> ∀w,f w→Q2 P T.f c w (dk b p w)) fun p=>Q5 b (fun e=> ∀w,f w→Q2 P T.a a w (dk b e w)) fun e=>Q5 b (fun j=> ∀n w,f w→d n w→Q2 P T.g n w (dk b j w)) fun j=>Q5 b (fun k=> ∀i w,f w→j i w→indexAddr P T.g i B w (dk b k w)) fun k=>Q5 b (fun g=> ∀m w,f w→k m w→Q2 P T.o m w (dk b g w)) fun g=>Q5 b (fun q=> ∀l h w,f w→e l w→g h w→Q1 P F.bF [l,h,W] w (dk b q w)) fun q=>∀n v y l i m h z w,f w→d n w→r v w→p y w→e l w→j i w→k m w→g h w→q z w→ Q1 P F.bC [v,y,z] w fun C w=>J8 P .not C w fun Q w=>X1 Q (Q2 P T.a a w fun O w=>Y0 P T.a s O w fun _u w=>Y8 P T.a s w fun t=>K (.tuple #[t,(.int .i64 91)]) w) (buildSlice P T.g 0 [] w fun Y w=>fieldAddr P T.a a 2 w fun L w=>Q2 P T.g L w fun aa w=>X3 P .append [T.g,T.g] T.g [false,false] [Y,aa] w fun o w=>buildSlice P T.l 0 [] w fun X w=>indexAddr P T.g o B w fun E w=>fieldAddr P T.o E 1 w fun U w=>Q2 P T.l U w fun J w=>X3 P .append [T.l,T.l] T.l [false,false] [X,J] w fun u w=>Q2 P T.f c w fun ab w=>indexAddr P T.l u W w fun ac w=>Y0 P T.f ac ab w fun _u w=>indexAddr P T.g o B w fun R w=>fieldAddr P T.o R 1 w fun M w=>Y0 P T.l M u w fun _u w=>fieldAddr P T.a a 2 w fun H w=>Y0 P T.g H o w fun _u w=>Q2 P T.a a w fun Z w=>Y0 P T.a s Z w fun _u w=>Y8 P T.a s w fun t=>K (.tuple #[t,(.int .i64 0)]) w))
theorem Q0X {d c b a:Value} {w:World} {K:Value→World→Prop} (h:El d c b a w K):Q1 P F.bO [d,c,b,a] w K:=Q9 (List.replicate 14 none) Tryz.func59 rfl (by decide) (by kernel_rfl) h
def Hf (p n o:Value) (w:World) (K:Value→World→Prop):Prop:= box P T.a p w fun a w=>V8 P T.f w fun c w=>Q2 P T.a a w fun q w=>Q1 P F.aN [q,n,o] w fun b w=>Q3 P .neq T.v (.tmp 13) (.const (.int .i64 0)) b (.int .i64 0) w fun m w=>X1 m (H3 P T.f [] w fun e w=>Y0 P T.f c e w fun _u w=>Y8 P T.f c w fun d=>K (.tuple #[d,b]) w) (fieldAddr P T.a a 2 w fun j w=>Q2 P T.g j w fun k w=>indexAddr P T.g k n w fun h w=>fieldAddr P T.o h 1 w fun f w=>Q2 P T.l f w fun i w=>indexAddr P T.l i o w fun l w=>Q2 P T.f l w fun g w=>Y0 P T.f c g w fun _u w=>Y8 P T.f c w fun d=>K (.tuple #[d,(.int .i64 0)]) w)
theorem Q1b {c b a:Value} {w:World} {K:Value→World→Prop} (h:Hf c b a w K):Q1 P F.bP [c,b,a] w K:=Q9 (List.replicate 6 none) Tryz.func60 rfl (by decide) (by kernel_rfl) h
def Q0Z:V9:=[none,some ([1],[1,8,9]),none,none,none,some ([5],[5,6,7,10,11,12,13,14,15,16,17,18,19,20,21,22,23,24,25,26,27,28,29,30,31,32,33,34,35,36,37,38,39,40,41,42,43,44,45,46,47,48,49,50,51]),none,none,none,none,some ([6],[6,7,22,23,24,25,26,27,28,29,30,31,32,33,34,35,36,37,38,39,40,41,42,43,44,45,46,47,48,49,50,51]),none,none,none,none,none,none,some ([],[52,53,54,55,56,57,58,59,60,61,62,63]),none,none]
def Hg (a0 a1:Value) (w:World) (K:Value→World→Prop):Prop:= box P T.a a0 w fun e w=>V8 P T.a w fun j w=>jn (α:=Value) w (fun J1 w=>Q3 P .lss T.e (.tmp 8) (.const (.int .i64 0)) a1 (.int .i64 0) w fun t9 w=>X1 t9 (J1 (.int .i64 0) w) (J1 a1 w)) fun i O w=>lp (α:=Value) (.int .i64 0) w fun d g O w=>Q3 P .lss T.e (.tmp 10) (.tmp 11) g i w fun a w=>Q0 a true w (fun w J=>J g w) fun u w=>Q0 a true w (fieldAddr P T.a e 2) fun n w=>Q0 a true w (Q2 P T.g n) fun ab w=>Q0 a true w (X3 P .len [T.g] T.e [false] [ab]) fun Y w=>Q0 a true w (Q3 P .lss T.e (.tmp 14) (.tmp 17) u Y) fun ac w=>pick P a ac (.bool false) w fun o w=>X1 o (lp (α:=Value) (.int .i64 0) w fun b f O w=>fieldAddr P T.a e 2 w fun W w=>Q2 P T.g W w fun ak w=>indexAddr P T.g ak g w fun N w=>fieldAddr P T.o N 1 w fun Z w=>Q2 P T.l Z w fun B w=>X3 P .len [T.l] T.e [false] [B] w fun X w=>Q3 P .lss T.e (.tmp 22) (.tmp 29) f X w fun R w=>X1 R (fieldAddr P T.a e 2 w fun C w=>Q2 P T.g C w fun af w=>indexAddr P T.g af g w fun ah w=>fieldAddr P T.o ah 1 w fun p w=>Q2 P T.l p w fun ae w=>indexAddr P T.l ae f w fun y w=>Q2 P T.f y w fun q w=>V8 P T.f w fun D w=>Y0 P T.f D q w fun _u w=>fieldAddr P T.f D 0 w fun U w=>Q2 P T.e U w fun t w=>Q3 P .eql T.e (.tmp 43) (.const (.int .i64 4)) t (.int .i64 4) w fun c w=>Q0 c true w (fieldAddr P T.f D 3) fun E w=>Q0 c true w (Q2 P T.e E) fun aj w=>Q0 c true w (fun w J=>J i w) fun al w=>Q0 c true w (Q3 P .geq T.e (.tmp 47) (.tmp 48) aj al) fun ai w=>pick P c ai (.bool false) w fun M w=>X1 M (Q2 P T.a e w fun L w=>Y0 P T.a j L w fun _u w=>Y8 P T.a j w fun l=>K l w) (Q3 P .add T.e (.tmp 31) (.const (.int .i64 1)) f (.int .i64 1) w fun Q w=>b Q w)) (Q3 P .add T.e (.tmp 20) (.const (.int .i64 1)) g (.int .i64 1) w fun H w=>d H w)) (jn (α:=Unit) w (fun h w=>fieldAddr P T.a e 2 w fun z w=>Q2 P T.g z w fun k w=>X3 P .len [T.g] T.e [false] [k] w fun r w=>Q3 P .lss T.e (.tmp 52) (.tmp 55) i r w fun ag w=>X1 ag (buildSlice P T.g 0 [] w fun m w=>fieldAddr P T.a e 2 w fun V w=>Q2 P T.g V w fun v w=>R8 P T.g v none (some i) none w fun ad w=>X3 P .append [T.g,T.g] T.g [false,false] [m,ad] w fun A w=>fieldAddr P T.a e 2 w fun aa w=>Y0 P T.g aa A w fun _u w=>h () w) (h () w)) fun aq O w=>Q2 P T.a e w fun s w=>Y0 P T.a j s w fun _u w=>Y8 P T.a j w fun l=>K l w)
theorem Q1n {b a:Value} {w:World} {K:Value→World→Prop} (h:Hg b a w K):Q1 P F.bQ [b,a] w K:=Q9 Q0Z Tryz.func61 rfl (by decide) (by kernel_rfl) h
def Hu (a0 a1 a2:Value) (w:World) (K:Value→World→Prop):Prop:= box P T.a a1 w fun t4 w=>box P T.m a2 w fun r w=>V8 P T.a w fun t6 w=>fieldAddr P T.m r 0 w fun ec w=>Q2 P T.e ec w fun a4 w=>Q3 P .eql T.e (.tmp 23) (.const (.int .i64 0)) a4 (.int .i64 0) w fun ek w=>X1 ek (Q2 P T.a t4 w fun em w=>fieldAddr P T.m r 1 w fun ej w=>Q2 P T.c ej w fun el w=>Q1 P F.bd [em,el] w fun c9 w=>ext P c9 0 w fun d8 w=>ext P c9 1 w fun ct w=>V8 P T.a w fun t8 w=>Y0 P T.a t8 d8 w fun _u w=>fieldAddr P T.m r 1 w fun d9 w=>Q2 P T.c d9 w fun ei w=>Q1 P F.am [a0,ei] w fun dd w=>ext P dd 0 w fun dc w=>ext P dd 1 w fun eo w=>dr w fun a b=>Q5 a (fun m=> ∀w,b w→Q3 P .eql T.v (.tmp 41) (.tmp 42) ct eo w (dk a m w)) fun m=>Q5 a (fun b0=> ∀c w,b w→m c w→Q0 c true w (fun w J=>J ct w) (dk a b0 w)) fun b0=>Q5 a (fun bj=> ∀c cf w,b w→m c w→b0 cf w→Q0 c true w (Q3 P .neq T.v (.tmp 45) (.const (.int .i64 0)) cf (.int .i64 0)) (dk a bj w)) fun bj=>Q5 a (fun aw=> ∀c bd w,b w→m c w→bj bd w→Q0 c true w (fun w J=>J bd w) (dk a aw w)) fun aw=>Q5 a (fun bo=> ∀n w,b w→aw n w→Q0 n true w (fun w J=>J dc w) (dk a bo w)) fun bo=>Q5 a (fun bc=> ∀n cc w,b w→aw n w→bo cc w→Q0 n true w (Q3 P .eql T.e (.tmp 48) (.const (.int .i64 0)) cc (.int .i64 0)) (dk a bc w)) fun bc=>Q5 a (fun ba=> ∀c n bh w,b w→m c w→aw n w→bc bh w→Q0 c true w (pick P n bh (.bool false)) (dk a ba w)) fun ba=>Q5 a (fun u=> ∀c b4 w,b w→m c w→ba b4 w→Q0 c true w (fun w J=>J b4 w) (dk a u w)) fun u=>Q5 a (fun bi=> ∀h w,b w→u h w→Q0 h false w (fun w J=>J ct w) (dk a bi w)) fun bi=>Q5 a (fun bq=> ∀h br w,b w→u h w→bi br w→Q0 h false w (Q3 P .eql T.v (.tmp 52) (.const (.int .i64 0)) br (.int .i64 0)) (dk a bq w)) fun bq=>Q5 a (fun t=> ∀h bm w,b w→u h w→bq bm w→Q0 h false w (fun w J=>J bm w) (dk a t w)) fun t=>Q5 a (fun a9=> ∀f w,b w→t f w→Q0 f true w (fun w J=>J dc w) (dk a a9 w)) fun a9=>Q5 a (fun cj=> ∀f w,b w→t f w→Q0 f true w (fieldAddr P T.a t4 2) (dk a cj w)) fun cj=>Q5 a (fun b7=> ∀w,b w→Q2 P T.a t8 w (dk a b7 w)) fun b7=>Q5 a (fun bn=> ∀f ck w,b w→t f w→cj ck w→Q0 f true w (Q2 P T.g ck) (dk a bn w)) fun bn=>Q5 a (fun b2=> ∀f bx w,b w→t f w→bn bx w→Q0 f true w (X3 P .len [T.g] T.e [false] [bx]) (dk a b2 w)) fun b2=>Q5 a (fun cb=> ∀f a8 ci w,b w→t f w→a9 a8 w→b2 ci w→Q0 f true w (Q3 P .eql T.e (.tmp 55) (.tmp 58) a8 ci) (dk a cb w)) fun cb=>Q5 a (fun cl=> ∀h f bk w,b w→u h w→t f w→cb bk w→Q0 h false w (pick P f bk (.bool false)) (dk a cl w)) fun cl=>Q5 a (fun cd=> ∀c h bf w,b w→m c w→u h w→cl bf w→Q0 c true w (pick P h (.bool true) bf) (dk a cd w)) fun cd=>Q5 a (fun cs=> ∀c bu w,b w→m c w→cd bu w→pick P c bu (.bool false) w (dk a cs w)) fun cs=>Cl a (fun k=> ∀ar w,b w→b7 ar w→Y0 P T.a t6 ar w (dk a (k [ar]) w)) fun k=>∀c cf bd n cc bh b4 h br bm f a8 ck ar bx ci bk bf bu c4 cu w,b w→m c w→b0 cf w→bj bd w→aw n w→bo cc w→bc bh w→ba b4 w→u h w→bi br w→bq bm w→t f w→a9 a8 w→cj ck w→b7 ar w→bn bx w→b2 ci w→cb bk w→cl bf w→cd bu w→cs c4 w→k [ar] cu w→ Y8 P T.a t6 w fun r0=>K (.tuple #[r0,c4]) w) (Q3 P .eql T.e (.tmp 23) (.const (.int .i64 1)) a4 (.int .i64 1) w fun ed w=>X1 ed (Q2 P T.a t4 w fun ef w=>fieldAddr P T.m r 1 w fun ea w=>Q2 P T.c ea w fun eq w=>fieldAddr P T.m r 2 w fun eh w=>Q2 P T.a1 eh w fun ee w=>Q1 P F.bn [ef,eq,ee] w fun c1 w=>ext P c1 0 w fun eg w=>ext P c1 1 w fun cw w=>V8 P T.a w fun d3 w=>Y0 P T.a d3 eg w fun _u w=>fieldAddr P T.m r 1 w fun er w=>Q2 P T.c er w fun eu w=>fieldAddr P T.m r 2 w fun eb w=>Q2 P T.a1 eb w fun ep w=>Q1 P F.av [a0,eu,ep] w fun dj w=>ext P dj 0 w fun d5 w=>ext P dj 1 w fun es w=>dr w fun a b=>Q5 a (fun l=> ∀w,b w→Q3 P .eql T.v (.tmp 84) (.tmp 85) cw es w (dk a l w)) fun l=>Q5 a (fun bp=> ∀d w,b w→l d w→Q0 d true w (fun w J=>J cw w) (dk a bp w)) fun bp=>Q5 a (fun ce=> ∀d b3 w,b w→l d w→bp b3 w→Q0 d true w (Q3 P .neq T.v (.tmp 88) (.const (.int .i64 0)) b3 (.int .i64 0)) (dk a ce w)) fun ce=>Q5 a (fun aq=> ∀d bb w,b w→l d w→ce bb w→Q0 d true w (fun w J=>J bb w) (dk a aq w)) fun aq=>Q5 a (fun be=> ∀o w,b w→aq o w→Q0 o true w (fun w J=>J d5 w) (dk a be w)) fun be=>Q5 a (fun b6=> ∀o bg w,b w→aq o w→be bg w→Q0 o true w (Q3 P .eql T.e (.tmp 91) (.const (.int .i64 0)) bg (.int .i64 0)) (dk a b6 w)) fun b6=>Q5 a (fun bv=> ∀d o b1 w,b w→l d w→aq o w→b6 b1 w→Q0 d true w (pick P o b1 (.bool false)) (dk a bv w)) fun bv=>Q5 a (fun v=> ∀d b5 w,b w→l d w→bv b5 w→Q0 d true w (fun w J=>J b5 w) (dk a v w)) fun v=>Q5 a (fun a7=> ∀i w,b w→v i w→Q0 i false w (fun w J=>J cw w) (dk a a7 w)) fun a7=>Q5 a (fun ca=> ∀i cg w,b w→v i w→a7 cg w→Q0 i false w (Q3 P .eql T.v (.tmp 95) (.const (.int .i64 0)) cg (.int .i64 0)) (dk a ca w)) fun ca=>Q5 a (fun s=> ∀i b9 w,b w→v i w→ca b9 w→Q0 i false w (fun w J=>J b9 w) (dk a s w)) fun s=>Q5 a (fun bw=> ∀g w,b w→s g w→Q0 g true w (fun w J=>J d5 w) (dk a bw w)) fun bw=>Q5 a (fun bl=> ∀g w,b w→s g w→Q0 g true w (fieldAddr P T.a t4 2) (dk a bl w)) fun bl=>Q5 a (fun b8=> ∀w,b w→Q2 P T.a d3 w (dk a b8 w)) fun b8=>Q5 a (fun D=> ∀g bz w,b w→s g w→bl bz w→Q0 g true w (Q2 P T.g bz) (dk a D w)) fun D=>Q5 a (fun M=> ∀g ab w,b w→s g w→D ab w→Q0 g true w (X3 P .len [T.g] T.e [false] [ab]) (dk a M w)) fun M=>Q5 a (fun E=> ∀g bs B w,b w→s g w→bw bs w→M B w→Q0 g true w (Q3 P .eql T.e (.tmp 98) (.tmp 101) bs B) (dk a E w)) fun E=>Q5 a (fun V=> ∀i g aj w,b w→v i w→s g w→E aj w→Q0 i false w (pick P g aj (.bool false)) (dk a V w)) fun V=>Q5 a (fun H=> ∀d i C w,b w→l d w→v i w→V C w→Q0 d true w (pick P i (.bool true) C) (dk a H w)) fun H=>Q5 a (fun az=> ∀d U w,b w→l d w→H U w→pick P d U (.bool false) w (dk a az w)) fun az=>Cl a (fun k=> ∀av w,b w→b8 av w→Y0 P T.a t6 av w (dk a (k [av]) w)) fun k=>∀d b3 bb o bg b1 b5 i cg b9 g bs bz av ab B aj C U co cu w,b w→l d w→bp b3 w→ce bb w→aq o w→be bg w→b6 b1 w→bv b5 w→v i w→a7 cg w→ca b9 w→s g w→bw bs w→bl bz w→b8 av w→D ab w→M B w→E aj w→V C w→H U w→az co w→k [av] cu w→ Y8 P T.a t6 w fun r0=>K (.tuple #[r0,co]) w) (Q3 P .eql T.e (.tmp 23) (.const (.int .i64 2)) a4 (.int .i64 2) w fun dh w=>X1 dh (Q2 P T.a t4 w fun c7 w=>fieldAddr P T.m r 3 w fun c2 w=>Q2 P T.e c2 w fun dz w=>fieldAddr P T.m r 2 w fun dy w=>Q2 P T.a1 dy w fun d7 w=>fieldAddr P T.m r 4 w fun dn w=>Q2 P T.f dn w fun c0 w=>Q1 P F.bO [c7,dz,d7,c0] w fun cq w=>ext P cq 0 w fun da w=>ext P cq 1 w fun df w=>V8 P T.a w fun dq w=>Y0 P T.a dq da w fun _u w=>dr w fun a b=>Q5 a (fun Q=> ∀w,b w→fieldAddr P T.m r 3 w (dk a Q w)) fun Q=>Q5 a (fun ac=> ∀w,b w→fieldAddr P T.m r 2 w (dk a ac w)) fun ac=>Q5 a (fun ad=> ∀w,b w→fieldAddr P T.m r 4 w (dk a ad w)) fun ad=>Q5 a (fun af=> ∀w,b w→Q2 P T.a dq w (dk a af w)) fun af=>Q5 a (fun ao=> ∀L w,b w→Q L w→Q2 P T.e L w (dk a ao w)) fun ao=>Q5 a (fun ak=> ∀R w,b w→ac R w→Q2 P T.a1 R w (dk a ak w)) fun ak=>Q5 a (fun ai=> ∀ag w,b w→ad ag w→Q2 P T.f ag w (dk a ai w)) fun ai=>Q5 a (fun ap=> ∀ae Y A w,b w→ao ae w→ak Y w→ai A w→Q1 P F.b5 [a0,ae,Y,A] w (dk a ap w)) fun ap=>Q5 a (fun ay=> ∀X w,b w→ap X w→Q3 P .eql T.v (.tmp 127) (.tmp 128) X df w (dk a ay w)) fun ay=>Cl a (fun a3=> ∀p w,b w→af p w→Y0 P T.a t6 p w (dk a (a3 [p]) w)) fun a3=>∀L R ag p ae Y A X cr et w,b w→Q L w→ac R w→ad ag w→af p w→ao ae w→ak Y w→ai A w→ap X w→ay cr w→a3 [p] et w→ Y8 P T.a t6 w fun r0=>K (.tuple #[r0,cr]) w) (Q3 P .eql T.e (.tmp 23) (.const (.int .i64 3)) a4 (.int .i64 3) w fun cz w=>X1 cz (Q2 P T.a t4 w fun c3 w=>fieldAddr P T.m r 3 w fun dt w=>Q2 P T.e dt w fun cx w=>fieldAddr P T.m r 2 w fun d6 w=>Q2 P T.a1 d6 w fun db w=>Q1 P F.bP [c3,cx,db] w fun cm w=>ext P cm 0 w fun dg w=>ext P cm 1 w fun d0 w=>V8 P T.f w fun ds w=>Y0 P T.f ds dg w fun _u w=>fieldAddr P T.m r 3 w fun dm w=>Q2 P T.e dm w fun c8 w=>fieldAddr P T.m r 2 w fun c6 w=>Q2 P T.a1 c6 w fun cy w=>Q1 P F.aI [a0,c8,cy] w fun cn w=>ext P cn 0 w fun dl w=>ext P cn 1 w fun di w=>V8 P T.f w fun d1 w=>Y0 P T.f d1 dl w fun _u w=>dr w fun a b=>Q5 a (fun N=> ∀w,b w→Q2 P T.a t4 w (dk a N w)) fun N=>Q5 a (fun aa=> ∀w,b w→Q2 P T.f ds w (dk a aa w)) fun aa=>Q5 a (fun W=> ∀w,b w→Q2 P T.f d1 w (dk a W w)) fun W=>Q5 a (fun j=> ∀z y w,b w→aa z w→W y w→Q3 P .eql T.f (.tmp 151) (.tmp 152) z y w (dk a j w)) fun j=>Q5 a (fun am=> ∀e w,b w→j e w→Q0 e true w (fun w J=>J d0 w) (dk a am w)) fun am=>Q5 a (fun al=> ∀e w,b w→j e w→Q0 e true w (fun w J=>J di w) (dk a al w)) fun al=>Q5 a (fun O=> ∀e Z ah w,b w→j e w→am Z w→al ah w→Q0 e true w (Q3 P .eql T.v (.tmp 155) (.tmp 156) Z ah) (dk a O w)) fun O=>Q5 a (fun a5=> ∀e an w,b w→j e w→O an w→pick P e an (.bool false) w (dk a a5 w)) fun a5=>Cl a (fun cv=> ∀q w,b w→N q w→Y0 P T.a t6 q w (dk a (cv [q]) w)) fun cv=>∀q z y e Z ah an cp u9 w,b w→N q w→aa z w→W y w→j e w→am Z w→al ah w→O an w→a5 cp w→cv [q] u9 w→ Y8 P T.a t6 w fun r0=>K (.tuple #[r0,cp]) w) (Q3 P .eql T.e (.tmp 23) (.const (.int .i64 4)) a4 (.int .i64 4) w fun dw w=>X1 dw (fieldAddr P T.m r 3 w fun d2 w=>Q2 P T.e d2 w fun dp w=>Q1 P F.c3 [a0,dp] w fun ex w=>Q2 P T.a t4 w fun c5 w=>fieldAddr P T.m r 3 w fun dx w=>Q2 P T.e dx w fun d4 w=>Q1 P F.bQ [c5,d4] w fun de w=>Y0 P T.a t6 de w fun _u w=>Y8 P T.a t6 w fun r0=>K (.tuple #[r0,(.bool true)]) w) (Q2 P T.a t4 w fun du w=>Y0 P T.a t6 du w fun _u w=>Y8 P T.a t6 w fun r0=>K (.tuple #[r0,(.bool true)]) w)))))
theorem Q23 {c b a:Value} {w:World} {K:Value→World→Prop} (h:Hu c b a w K):Q1 P F.al [c,b,a] w K:=Q9 (List.replicate 22 none) Tryz.func26 rfl (by decide) (by kernel_rfl) h
def Sv:V9:=[none,none,none,none,none,none,none,some ([11],[11,40,41,42,43,44,45,46,47,48,49,50,51,52,53,54,55,56,57,58,59,60,61,62,63,64]),none,none,some ([],[50,51,52,53,54,55,56,57,58,59,60,61,62,63,64]),none,none,none,some ([],[8,16,17,18,19,80,81,82,83,84,85,86,87,88,89,90,91,92,93,94,95,96,97,98,99,100,101,102,103,104,105,106,107,108,109,110,111,112,113,114,115,116,117,118,119,120,121,122,123,124,125,126,127,128,129,130,131,132,133,134]),none,none,none,none,none,none,some ([17],[8,17,18,19,99,100,101,102,103,104,105,106,107,108,109,110,111,112,113,114,115,116,117,118,119,120,121,122,123,124,125,126,127,128,129,130,131,132,133,134]),none,none,none,none,none,none,some ([],[8,20,21,22,135,136,137,138,139,140,141,142,143,144,145,146,147,148,149,150,151,152,153,154,155,156,157,158,159,160,161,162,163,164,165,166,167,168,169,170,171,172,173,174,175,176,177,178,179,180]),none,none,none,none,none,some ([20],[8,20,21,22,152,153,154,155,156,157,158,159,160,161,162,163,164,165,166,167,168,169,170,171,172,173,174,175,176,177,178,179,180]),none,none,none,none,none,none,none]
def Ug (a0 a1 a2 a3:Value) (w:World) (K:Value→World→Prop):Prop:= Q1 P F.ak [a0] w fun bx w=>ext P bx 0 w fun h w=>ext P bx 1 w fun c6 w=>V8 P T.a w fun bc w=>Y0 P T.a bc c6 w fun _u w=>Q1 P F.aj [] w fun c0 w=>J8 P .not c0 w fun a9 w=>Q0 a9 false w (fun w J=>J h w) fun cf w=>Q0 a9 false w (Q3 P .eql T.a5 (.tmp 31) (.const (.pointer none)) cf (.pointer none)) fun c4 w=>pick P a9 (.bool true) c4 w fun an w=>Q0 an false w (fun w J=>J a2 w) fun cg w=>Q0 an false w (X3 P .len [T.c] T.e [false] [cg]) fun cu w=>Q0 an false w (Q3 P .gtr T.e (.tmp 36) (.const (.int .i64 100)) cu (.int .i64 100)) fun cy w=>pick P an (.bool true) cy w fun ct w=>X1 ct (Q1 P F.aj [] w fun c8 w=>K c8 w) (lp (α:=Value) (.int .i64 0) w fun ao x7 d_ w=>X3 P .len [T.z] T.e [false] [a1] w fun co w=>Q3 P .lss T.e (.tmp 40) (.tmp 42) x7 co w fun a8 w=>Q0 a8 true w (fun w J=>J x7 w) fun c9 w=>Q0 a8 true w (Q3 P .lss T.e (.tmp 45) (.const (.int .i64 20)) c9 (.int .i64 20)) fun ci w=>pick P a8 ci (.bool false) w fun cv w=>X1 cv (jn (α:=Unit) w (fun cd w=>indexAddr P T.z a1 x7 w fun cn w=>Q2 P T.m cn w fun cm w=>Q1 P F.aE [cm] w fun cw w=>X1 cw (sq w fun w=>indexAddr P T.z a1 x7 w fun cj w=>Q2 P T.a bc w fun cx w=>Q2 P T.m cj w fun cs w=>Q1 P F.al [h,cx,cs] w fun bm w=>ext P bm 0 w fun cr w=>ext P bm 1 w fun di w=>Y0 P T.a bc cr w fun _u w=>cd () w) (cd () w)) fun dh d_ w=>Q3 P .add T.e (.tmp 48) (.const (.int .i64 1)) x7 (.int .i64 1) w fun ck w=>ao ck w) (Q1 P F.am [h,a2] w fun b5 w=>ext P b5 0 w fun a7 w=>ext P b5 1 w fun cl w=>Q3 P .rem T.a2 (.tmp 74) (.const (.int .u8 20)) a3 (.int .u8 20) w fun cp w=>conv P T.a2 T.a1 cp w fun dc w=>Q1 P F.av [h,a2,dc] w fun cc w=>ext P cc 0 w fun am w=>ext P cc 1 w fun da w=>jn (α:=Unit) w (fun bj w=>Q3 P .eql T.v (.tmp 80) (.const (.int .i64 0)) cl (.int .i64 0) w fun de w=>X1 de (Q1 P F.aR [h] w fun db w=>Q1 P F.u [db,a2] w fun ap w=>Q1 P F.a7 [h,a7] w fun c2 w=>Q3 P .neq T.c (.tmp 88) (.tmp 89) c2 a2 w fun m w=>Q0 m false w (fun w J=>J h w) fun cz w=>Q0 m false w (fun w J=>J a7 w) fun c5 w=>Q0 m false w (Q1 P F.ah [cz,c5]) fun c3 w=>Q0 m false w (fun w J=>J ap w) fun dd w=>Q0 m false w (X3 P .len [T.k] T.e [false] [dd]) fun c7 w=>Q0 m false w (Q3 P .neq T.e (.tmp 94) (.tmp 96) c3 c7) fun c1 w=>pick P m (.bool true) c1 w fun cq w=>X1 cq (K (.bool false) w) (lp (α:=Value) (.int .i64 0) w fun al ad d_ w=>X3 P .len [T.k] T.e [false] [ap] w fun ce w=>Q3 P .lss T.e (.tmp 99) (.tmp 101) ad ce w fun b8 w=>X1 b8 (Q1 P F.aI [h,a7,ad] w fun av w=>ext P av 0 w fun bg w=>ext P av 1 w fun b7 w=>V8 P T.f w fun ba w=>Y0 P T.f ba bg w fun _u w=>dr w fun c i=>Q5 c (fun f=> ∀w,i w→Q3 P .neq T.v (.tmp 112) (.const (.int .i64 0)) b7 (.int .i64 0) w (dk c f w)) fun f=>Q5 c (fun X=> ∀a w,i w→f a w→Q0 a false w (fun w J=>J ap w) (dk c X w)) fun X=>Q5 c (fun q=> ∀a w,i w→f a w→Q0 a false w (fun w J=>J ad w) (dk c q w)) fun q=>Q5 c (fun u=> ∀a M y w,i w→f a w→X M w→q y w→Q0 a false w (indexAddr P T.k M y) (dk c u w)) fun u=>Q5 c (fun U=> ∀a A w,i w→f a w→u A w→Q0 a false w (fieldAddr P T.n A 1) (dk c U w)) fun U=>Q5 c (fun Z=> ∀a w,i w→f a w→Q0 a false w (Q2 P T.f ba) (dk c Z w)) fun Z=>Q5 c (fun aa=> ∀a s w,i w→f a w→U s w→Q0 a false w (Q2 P T.c s) (dk c aa w)) fun aa=>Q5 c (fun B=> ∀a C w,i w→f a w→aa C w→Q0 a false w (Q1 P F.bk [C]) (dk c B w)) fun B=>Q5 c (fun ac=> ∀a o v w,i w→f a w→Z o w→B v w→Q0 a false w (Q3 P .neq T.f (.tmp 115) (.tmp 121) o v) (dk c ac w)) fun ac=>Q5 c (fun g=> ∀a R w,i w→f a w→ac R w→pick P a (.bool true) R w (dk c g w)) fun g=>Q5 c (fun aj=> ∀b w,i w→g b w→Q0 b false w (fun w J=>J h w) (dk c aj w)) fun aj=>Q5 c (fun Q=> ∀b w,i w→g b w→Q0 b false w (fun w J=>J ap w) (dk c Q w)) fun Q=>Q5 c (fun r=> ∀b w,i w→g b w→Q0 b false w (fun w J=>J ad w) (dk c r w)) fun r=>Q5 c (fun t=> ∀b L p w,i w→g b w→Q L w→r p w→Q0 b false w (indexAddr P T.k L p) (dk c t w)) fun t=>Q5 c (fun z=> ∀b O w,i w→g b w→t O w→Q0 b false w (fieldAddr P T.n O 1) (dk c z w)) fun z=>Q5 c (fun ak=> ∀b w,i w→g b w→Q0 b false w (Q2 P T.f ba) (dk c ak w)) fun ak=>Q5 c (fun ag=> ∀b n w,i w→g b w→z n w→Q0 b false w (Q2 P T.c n) (dk c ag w)) fun ag=>∀a M y A s o C v R b ay L p O n ar aq w,i w→f a w→X M w→q y w→u A w→U s w→Z o w→aa C w→B v w→ac R w→g b w→aj ay w→Q L w→r p w→t O w→z n w→ak ar w→ag aq w→ Q0 b false w (Q1 P F.a8 [ay,ar,aq]) fun bq w=>Q0 b false w (J8 P .not bq) fun bk w=>pick P b (.bool true) bk w fun b2 w=>X1 b2 (K (.bool false) w) (Q3 P .add T.e (.tmp 103) (.const (.int .i64 1)) ad (.int .i64 1) w fun bz w=>al bz w)) (bj () w))) (bj () w)) fun dg d_ w=>jn (α:=Unit) w (fun cb w=>Q3 P .eql T.v (.tmp 135) (.const (.int .i64 0)) da (.int .i64 0) w fun ca w=>X1 ca (Q1 P F.a7 [h,am] w fun bu w=>Q3 P .add T.c (.tmp 140) (.const (.string ⟨#[91,93]⟩)) a2 (.string ⟨#[91,93]⟩) w fun b6 w=>Q3 P .neq T.c (.tmp 139) (.tmp 141) bu b6 w fun j w=>Q0 j false w (fun w J=>J h w) fun bp w=>Q0 j false w (fun w J=>J am w) fun bo w=>Q0 j false w (Q1 P F.ah [bp,bo]) fun bd w=>Q0 j false w (fun w J=>J a3 w) fun bl w=>Q0 j false w (Q3 P .rem T.a2 (.tmp 147) (.const (.int .u8 20)) bl (.int .u8 20)) fun bw w=>Q0 j false w (conv P T.a2 T.e bw) fun bv w=>Q0 j false w (Q3 P .neq T.e (.tmp 146) (.tmp 149) bd bv) fun b9 w=>pick P j (.bool true) b9 w fun be w=>X1 be (K (.bool false) w) (lp (α:=Value) (.int .i64 0) w fun af bb d_ w=>Q1 P F.ah [h,am] w fun b1 w=>Q3 P .lss T.e (.tmp 152) (.tmp 155) bb b1 w fun b4 w=>X1 b4 (Q1 P F.aI [h,am,bb] w fun aw w=>ext P aw 0 w fun br w=>ext P aw 1 w fun bn w=>V8 P T.f w fun a6 w=>Y0 P T.f a6 br w fun _u w=>dr w fun c i=>Q5 c (fun k=> ∀w,i w→Q3 P .neq T.v (.tmp 166) (.const (.int .i64 0)) bn (.int .i64 0) w (dk c k w)) fun k=>Q5 c (fun D=> ∀d w,i w→k d w→Q0 d false w (fun w J=>J a2 w) (dk c D w)) fun D=>Q5 c (fun W=> ∀d w,i w→k d w→Q0 d false w (Q2 P T.f a6) (dk c W w)) fun W=>Q5 c (fun E=> ∀d Y w,i w→k d w→D Y w→Q0 d false w (Q1 P F.bk [Y]) (dk c E w)) fun E=>Q5 c (fun V=> ∀d N H w,i w→k d w→W N w→E H w→Q0 d false w (Q3 P .neq T.f (.tmp 169) (.tmp 171) N H) (dk c V w)) fun V=>Q5 c (fun l=> ∀d ab w,i w→k d w→V ab w→pick P d (.bool true) ab w (dk c l w)) fun l=>Q5 c (fun ai=> ∀e w,i w→l e w→Q0 e false w (fun w J=>J h w) (dk c ai w)) fun ai=>Q5 c (fun ah=> ∀e w,i w→l e w→Q0 e false w (fun w J=>J a2 w) (dk c ah w)) fun ah=>Q5 c (fun ae=> ∀e w,i w→l e w→Q0 e false w (Q2 P T.f a6) (dk c ae w)) fun ae=>∀d Y N H ab e az a4 ax w,i w→k d w→D Y w→W N w→E H w→V ab w→l e w→ai az w→ah a4 w→ae ax w→ Q0 e false w (Q1 P F.a8 [az,ax,a4]) fun b3 w=>Q0 e false w (J8 P .not b3) fun bh w=>pick P e (.bool true) bh w fun bf w=>X1 bf (K (.bool false) w) (Q3 P .add T.e (.tmp 157) (.const (.int .i64 1)) bb (.int .i64 1) w fun bs w=>af bs w)) (cb () w))) (cb () w)) fun dj d_ w=>K (.bool true) w))
theorem Ck {d c b a:Value} {w:World} {K:Value→World→Prop} (h:Ug d c b a w K):Q1 P F.c6 [d,c,b,a] w K:=Q9 Sv Tryz.func6 rfl (by decide) (by kernel_rfl) h
end Go.Proofs.YtjdiakhipmggjaaGreatDoor

set_option maxRecDepth 100000
namespace Go.Proofs.YtjdiakhipmggjaaGreatDoor
open Go.Emb
end Go.Proofs.YtjdiakhipmggjaaGreatDoor


namespace Go.Emb
open Go.RowKit (Below)
variable {P : Program} {w w' : World} {K : Value → World → Prop}
theorem X9 {s:Sem Value} {v:Value} (h:s.run P w= .ok v w'):op P (sv s) w K=K v w':=by
 rw[Qa];unfold T2 sv;simp[h]
theorem Lh {s:Sem Unit} (h:s.run P w= .ok () w'):op P (su s) w K=K undef w':=by
 rw[Qa];unfold T2 su;simp[h]
abbrev S (l:List UInt8):Value:= .string ⟨l.toArray⟩
abbrev I (n:Int):Value:= .int .i64 n
theorem Hj {b:Bool} {x y:Value}:pick P (.bool b) x y w K=K (if b then x else y) w:=by
 unfold pick;rw[Qa];unfold T2;cases b<;>simp[asBool]
theorem M6 {x y:Value}:pick P (.bool true) x y w K=K x w:=by rw[Hj];rfl
theorem L2 {x y:Value}:pick P (.bool false) x y w K=K y w:=by rw[Hj];rfl
theorem X0y {a b:Bool} {u:Value}:pick P (.bool a) (if a=true then .bool b else u) (.bool false) w K=K (.bool (a&&b)) w:=by
 rw[Hj];cases a<;>rfl
theorem X29 {a b:Bool} {u:Value}:pick P (.bool a) (.bool true) (if a=false then .bool b else u) w K=K (.bool (a||b)) w:=by
 rw[Hj];cases a<;>rfl
theorem W5 {c:World→(Value→World→Prop)→Prop}:Q0 (.bool true) true w c K=c w K:=by rw[Hh];simp[Na]
theorem W9 {c:World→(Value→World→Prop)→Prop}:Q0 (.bool false) false w c K=c w K:=by rw[Hh];simp[Na]
theorem S4 {c:World→(Value→World→Prop)→Prop}:Q0 (.bool true) false w c K=K undef w:=by rw[Hh];simp[Na]
theorem E2 {c:World→(Value→World→Prop)→Prop}:Q0 (.bool false) true w c K=K undef w:=by rw[Hh];simp[Na]
theorem O4 {b:Bool} {c:World→(Value→World→Prop)→Prop}:Q0 undef b w c K=K undef w:=by rw[Hh];rfl
theorem X0Z {a b:Bool} {v:Value}:Q0 (.bool a) b w (fun w J=>J v w) K=K (if a=b then v else undef) w:=by
 rw[Hh];unfold Na;by_cases h:a=b<;>simp[h]
theorem Q6i {b:Bool} {t e:Prop}:X1 (.bool b) t e=if b=true then t else e:=by rw[Q6b];cases b<;>rfl
theorem H7 {t e:Prop}:X1 (.bool true) t e=t:=by rw[Q6i];simp
theorem M5 {t e:Prop}:X1 (.bool false) t e=e:=by rw[Q6i];simp
section ints
variable {k : IntKind} {t : TypeId} {ox oy : Operand} {a b : Int}
theorem Ga:Q3 P .add t ox oy (.int k a) (.int k b) w K=K (.int k (k.wrap (a+b))) w:=X9 (by simp[eqGuard,Go.binOp,Op.intArith])
theorem Q44:Q3 P .sub t ox oy (.int k a) (.int k b) w K=K (.int k (k.wrap (a-b))) w:=X9 (by simp[eqGuard,Go.binOp,Op.intArith])
theorem Q7B:Q3 P .mul t ox oy (.int k a) (.int k b) w K=K (.int k (k.wrap (a*b))) w:=X9 (by simp[eqGuard,Go.binOp,Op.intArith])
theorem Q4k:Q3 P .lss t ox oy (.int k a) (.int k b) w K=K (.bool (decide (a<b))) w:=X9 (by simp[eqGuard,Go.binOp,Op.intCmp])
theorem Q3X:Q3 P .leq t ox oy (.int k a) (.int k b) w K=K (.bool (decide (a≤b))) w:=X9 (by simp[eqGuard,Go.binOp,Op.intCmp])
theorem Rq:Q3 P .gtr t ox oy (.int k a) (.int k b) w K=K (.bool (decide (b<a))) w:=X9 (by simp[eqGuard,Go.binOp,Op.intCmp])
theorem Q1C:Q3 P .geq t ox oy (.int k a) (.int k b) w K=K (.bool (decide (b≤a))) w:=X9 (by simp[eqGuard,Go.binOp,Op.intCmp])
theorem Q1G:Q3 P .eql t ox oy (.int k a) (.int k b) w K=K (.bool (decide (a=b))) w:=X9 (by
 simp[eqGuard,Go.binOp,Op.intCmp];rfl)
theorem Q3Y:Q3 P .neq t ox oy (.int k a) (.int k b) w K=K (.bool (!decide (a=b))) w:=X9 (by
 simp[eqGuard,Go.binOp,Op.intCmp];rfl)
end ints
theorem Q3Z {b:Bool}:J8 P .not (.bool b) w K=K (.bool (!b)) w:=X9 (by simp[Op.unary])
section bools
variable {t : TypeId} {ox oy : Operand} {a b : Bool}
theorem Q2X (d:Nat) (h:P.underlying t=some .bool):(Op.equalIn (d+1) t (.bool a) (.bool b)).run P w= .ok (a==b) w:=by
 simp[Op.equalIn,run_underlying h]
theorem Gu (h:P.underlying t=some .bool):(Op.equal t (.bool a) (.bool b)).run P w= .ok (a==b) w:=Q2X 9999 h
theorem Q6A (h:P.underlying t=some .bool):Q3 P .eql t ox oy (.bool a) (.bool b) w K=K (.bool (a==b)) w:=X9 (by
 simp[eqGuard,Go.binOp,Gu h])
theorem Q6B (h:P.underlying t=some .bool):Q3 P .neq t ox oy (.bool a) (.bool b) w K=K (.bool (!(a==b))) w:=X9 (by
 simp[eqGuard,Go.binOp,Gu h])
end bools
theorem Js {vs:List Value} {i:Nat} {v:Value} (h:vs[i]? =some v):ext P (.tuple vs.toArray) i w K=K v w:=X9 (by
 simp[Instr.extract,h])
theorem X2W {a b:Value}:ext P (.tuple #[a,b]) 0 w K=K a w:=Js (vs:=[a,b]) rfl
theorem X2Q {a b:Value}:ext P (.tuple #[a,b]) 1 w K=K b w:=Js (vs:=[a,b]) rfl
theorem X1B {a b c:Value}:ext P (.tuple #[a,b,c]) 0 w K=K a w:=Js (vs:=[a,b,c]) rfl
theorem X1C {a b c:Value}:ext P (.tuple #[a,b,c]) 1 w K=K b w:=Js (vs:=[a,b,c]) rfl
theorem X1v {a b c:Value}:ext P (.tuple #[a,b,c]) 2 w K=K c w:=Js (vs:=[a,b,c]) rfl
theorem F7 {n:Int} (c: -9223372036854775808≤n) (e:n≤9223372036854775807):IntKind.i64.wrap n=n:=by
 have d:n % 18446744073709551616=n∨n % 18446744073709551616=n+18446744073709551616:=by omega
 show (if (true&&decide (n % 18446744073709551616≥9223372036854775808))=true then n % 18446744073709551616-18446744073709551616 else n % 18446744073709551616)=n
 simp only[Bool.true_and,decide_eq_true_eq]
 split<;>omega
theorem w32 {n:Int} (c: -2147483648≤n) (d:n≤2147483647):IntKind.i32.wrap n=n:=by
 show (if (true&&decide (n % 4294967296≥2147483648))=true then n % 4294967296-4294967296 else n % 4294967296)=n
 simp only[Bool.true_and,decide_eq_true_eq]
 split<;>omega
section strs
variable {t : TypeId} {ox oy : Operand} {a b : List UInt8}
theorem Q3W (a b:List UInt8):(a==b)=decide (a=b):=by rw[Bool.eq_iff_iff];simp
theorem Ft:Q3 P .eql t ox oy (S a) (S b) w K=K (.bool (decide (a=b))) w:=X9 (by
 simp[eqGuard,Go.binOp,Op.stringOp,Q3W])
theorem Fb:Q3 P .neq t ox oy (S a) (S b) w K=K (.bool (!decide (a=b))) w:=X9 (by
 simp[eqGuard,Go.binOp,Op.stringOp,Q3W])
theorem K0 (l:List UInt8):(ByteArray.mk l.toArray).size=l.length:=by simp[ByteArray.size]
theorem Q9f (a b:List UInt8):ByteArray.mk a.toArray++ByteArray.mk b.toArray=ByteArray.mk (a++b).toArray:=by
 apply ByteArray.ext;simp
theorem X4i:IntKind.i64.max=9223372036854775807:=by decide
theorem Q2q (h:a.length+b.length≤9223372036854775807):Q3 P .add t ox oy (S a) (S b) w K=K (S (a++b)) w:=X9 (by
 have c: ¬(((a.length+b.length:Nat):Int)>IntKind.i64.max):=by rw[X4i];omega
 simp only[eqGuard,Go.binOp,Op.stringOp,K0,Q9f]
 simp only[if_neg c]
 simp)
theorem R6 {cs:List Bool} {r:TypeId} (c:P.underlying t=some .string):X3 P .len [t] r cs [S a] w K=K (I a.length) w:=by
 have h:(Builtin.len_ #[t] r #[S a]).run P w= .ok (I a.length) w:=by
  simp[Builtin.len_,run_underlying c,K0,goInt]
 exact X9 h
theorem Ya {i:Int} (d:P.underlying t=some .string) (c:0≤i) (h:i.toNat<a.length):C1 P t (S a) (I i) w K=K (.int .u8 (a[i.toNat]'h).toNat) w:=X9 (by
 simp only[Instr.index,asIntOf,Sem.run_bind,Sem.run_pure,Result.andThen_ok,run_underlying d,c,if_true]
 have:(ByteArray.mk a.toArray)[i.toNat]? =some (a[i.toNat]'h):=by
  rw[getElem?_pos _ _ (by rw[K0];exact h)]
  rfl
 rw[this];simp)
theorem Q3Q (l:List UInt8) (i j:Nat):(ByteArray.mk l.toArray).extract i j=ByteArray.mk ((l.take j).drop i).toArray:=by
 apply ByteArray.ext
 apply Array.ext'
 simp[List.drop_take]
theorem Uw {i:Int} (d:P.underlying t=some .string) (c:0≤i) (h:i≤a.length):R8 P t (S a) (some (I i)) none none w K=K (S (a.drop i.toNat)) w:=X9 (by
 simp[Instr.sliceAt,Instr.slice,Instr.sliceBounds,Instr.sliceBound,asIntOf,run_underlying d,c,h,K0,Q3Q])
theorem T5 {i:Int} (d:P.underlying t=some .string) (c:0≤i) (h:i≤a.length):R8 P t (S a) none (some (I i)) none w K=K (S (a.take i.toNat)) w:=X9 (by
 simp[Instr.sliceAt,Instr.slice,Instr.sliceBounds,Instr.sliceBound,asIntOf,run_underlying d,c,h,K0,Q3Q])
end strs
theorem Sf {s d:TypeId} {k j:IntKind} {n:Int} {ds:TypeDesc} (c:P.underlying s=some ds) (e:P.underlying d=some (.int k)):conv P s d (.int j n) w K=K (.int k (k.wrap n)) w:=X9 (by
 simp[Go.convert,run_underlying c,run_underlying e,Conv.intToInt])
def Q1o (w:World) (r:Nat) (o:Obj):World:={w with heap:=w.heap.setIfInBounds r o}
theorem Q4Y {B r:Nat} {a w:World} {o:Obj} (h:Below B a w) (c:B≤r):Below B a (Q1o w r o):=
 h.trans ⟨rfl,rfl,rfl,by simp[Q1o],fun k d=>by simp only[Q1o];rw[Array.getElem?_setIfInBounds_ne (by omega)]⟩
theorem Q7S {w:World} {r:Nat} {o:Obj} (h:r<w.heap.size):(Q1o w r o).heap[r]? =some o:=by
 simp only[Q1o];rw[Array.getElem?_setIfInBounds_self_of_lt h]
theorem X2i {t:TypeId} {a:List UInt8} (c:P.underlying t=some .string):rng P t (S a) w K=K (.pointer (some ⟨w.heap.size,0,none⟩)) (w.alloc (.stringIter ⟨a.toArray⟩ 0)):=X9 (by
 simp[Instr.range,run_underlying c])
theorem X1T {t:TypeId} {r pos:Nat} {s:ByteArray} (h:w.heap[r]? =some (.stringIter s pos)) (e:pos<s.size):
 V1 P (.pointer (some ⟨r,0,none⟩)) true t w K=K (.tuple #[.bool true,I pos, .int .i32 (Utf8.decode s pos).1]) (Q1o w r (.stringIter s (pos+(Utf8.decode s pos).2))):=X9 (by
 have c: ∀(k:Obj→Sem Value),(getObj r>>=k).run P w=(k (.stringIter s pos)).run P w:=by
  intro k;rw[Sem.run_bind];simp[getObj,Sem.run,h]
 have d: ∀o,(setObj r o).run P w= .ok () (Q1o w r o):=by intro o;simp[setObj,Sem.run,h,Q1o]
 unfold Instr.next
 simp only[c,e,if_true]
 simp[d,goInt])
theorem Q7i {t:TypeId} {r pos:Nat} {s:ByteArray} (h:w.heap[r]? =some (.stringIter s pos)) (d: ¬pos<s.size):
 V1 P (.pointer (some ⟨r,0,none⟩)) true t w K=K (.tuple #[.bool false]) w:=X9 (by
 have c: ∀(k:Obj→Sem Value),(getObj r>>=k).run P w=(k (.stringIter s pos)).run P w:=by
  intro k;rw[Sem.run_bind];simp[getObj,Sem.run,h]
 unfold Instr.next
 simp only[c,d,if_false]
 simp)
theorem X1z {a:Value}:ext P (.tuple #[a]) 0 w K=K a w:=Js (vs:=[a]) rfl
theorem Q8P {s:ByteArray} {i:Nat} (h:(s.get! i).toNat<128):Utf8.decode s i=((s.get! i).toNat,1):=by
 unfold Utf8.decode
 simp only[Nat.add_zero]
 rw[if_pos h]
theorem Q7g {s:ByteArray} {i:Nat} (h: ¬(s.get! i).toNat<128):128≤(Utf8.decode s i).1:=by
 unfold Utf8.decode
 simp only[Nat.add_zero]
 rw[if_neg h]
 repeat' split
 all_goals (simp only[Utf8.runeError] at*;try omega)
 all_goals (simp only[Bool.and_eq_true,decide_eq_true_eq,ge_iff_le] at*;omega)
theorem Q60 {s:ByteArray} {i:Nat}:1≤(Utf8.decode s i).2:=by
 unfold Utf8.decode
 simp only
 repeat' split
 all_goals simp
def Pq (p:Int→Bool) (s:ByteArray):Nat→Nat→Bool
 | 0,_=>true
 | n+1,i=>if i<s.size then p (Utf8.decode s i).1&&Pq p s n (i+(Utf8.decode s i).2) else true
theorem Q4b {a:List UInt8} {i:Nat} (h:i<a.length):(ByteArray.mk a.toArray).get! i=a[i]:=by
 show (ByteArray.mk a.toArray).data[i]! =a[i]
 simp[h]
theorem Q8J (p:Int→Bool) (f: ∀c:Int,128≤c→p c=false) (a:List UInt8): ∀(n i:Nat),a.length-i≤n→Pq p ⟨a.toArray⟩ n i=(a.drop i).all (fun b=>p b.toNat):=by
 intro n
 induction n with
 | zero=>intro i h;rw[List.drop_eq_nil_of_le (by omega)];rfl
 | succ n g=>
  intro i h
  simp only[Pq,K0]
  split
  ·rename_i d
   rw[List.drop_eq_getElem_cons d,List.all_cons]
   by_cases e:a[i].toNat<128
   ·rw[Q8P (by rw[Q4b d];exact e),Q4b d]
    simp only
    rw[g (i+1) (by omega)]
   ·have j:=Q7g (s:=⟨a.toArray⟩) (i:=i) (by rw[Q4b d];exact e)
    rw[f _ (by omega),f _ (by omega)];rfl
  ·rename_i d;rw[List.drop_eq_nil_of_le (by omega)];rfl
theorem U7 {α:Type} {A:(α→World→Prop)→World→Prop} {B:α→(Nat→Value)→World→Prop} (h:A (fun x w=> ∀d,B x d w) w):jn w A B:=Yp _ h (fun _ d _ c=>c d)
theorem X4 {e:World→World→Prop} {A c:(Value→World→Prop)→Prop} (V:Value) (h:A (fun v _=>v=V)) (d:c (fun v _=>v=V)):Q5 e A c:=
 E8 _ (fun _ _ _ h _=>h) h d
theorem Dn {w w0:World} {A:(World→World→Prop)→(World→Prop)→Prop} (d:Below w0.heap.size w0 w)
 (h:A (fun w w'=>Below w.heap.size w w') (fun w'=>Below w0.heap.size w0 w')):dr w A:=
 Pa _ _ d.drew (fun _ _ c e=>c.trans (e.mono c.size)) h
theorem Q3H {w w':World} {v V:Value} (c:Below w.heap.size w w') (h:v=V):dk (fun w w'=>Below w.heap.size w w') (fun v _=>v=V) w v w':=⟨c,h⟩
theorem X6 {w:World} {v V:Value} (h:v=V):dk (fun w w'=>Below w.heap.size w w') (fun v _=>v=V) w v w:=⟨Below.refl _ _,h⟩
theorem Q7b {n:Nat} {fn:Func} {e:Array Value→Sem Value} {xs:List Value} {v:Value} (j:P.funcs[n]? =some fn) (i:(fn.name== "runtime.NumGoroutine")=false) (o:fn.body.isNone=true)
 (g:(Extern.findNext fn).isNone=true) (l:Extern.find fn=some e) (m:(e xs.toArray).run P w= .ok v w) (h:K v w):Q1 P n xs w K:=by
 have d:Extern.findNext fn=none:=by simpa using g
 have c: ¬fn.name= "runtime.NumGoroutine":=by simpa using i
 have f:fn.body=none:=by simpa using o
 unfold Q1
 rw[Qa]
 unfold T2 callFunc
 simp[j,c,f,d,l,m,h]
theorem Q3e {α:Type} (p:α→Bool) (c:Nat→Bool): ∀(l:List α),(∀i (h:i<l.length),c i=p l[i])→(List.range l.length).find? c=l.findIdx? p
 | [],_=>rfl
 | x::l,h=>by
  rw[List.length_cons,List.range_succ_eq_map,List.find?_cons,List.findIdx?_cons]
  have d:c 0=p x:=h 0 (by simp)
  rw[d]
  cases p x
  ·simp only[Bool.false_eq_true,if_false]
   rw[List.find?_map]
   have:=Q3e p (c ∘ Nat.succ) l (fun i e=>h (i+1) (by simpa using e))
   rw[this]
  ·rfl
def Mr:=And.intro @M6 <| And.intro @L2 <| And.intro @O4 <| And.intro @Ga <| And.intro @Q44 <| And.intro @Q7B <| And.intro @Q4k <| And.intro @Q3X <| And.intro @Rq <| And.intro @Q1C <| And.intro @Q1G <| And.intro @Q3Y <| And.intro @Q3Z <| And.intro @Ft <| And.intro @Fb <| And.intro @X2W <| And.intro @X2Q <| And.intro @X1B <| And.intro @X1C <| And.intro @X1v <| And.intro @X1z <| And.intro @X0y <| And.intro @X29 <| And.intro @W5 <| And.intro @W9 <| And.intro @S4 <| And.intro @E2 <| And.intro @X0Z <| And.intro @H7 <| @M5
def Mp:=And.intro @M6 <| And.intro @L2 <| And.intro @O4 <| And.intro @Ga <| And.intro @Q44 <| And.intro @Q7B <| And.intro @Q4k <| And.intro @Q3X <| And.intro @Rq <| And.intro @Q1C <| And.intro @Q1G <| And.intro @Q3Y <| And.intro @Q3Z <| And.intro @Ft <| And.intro @Fb <| And.intro @X2W <| And.intro @X2Q <| And.intro @X1B <| And.intro @X1C <| And.intro @X1v <| And.intro @X1z <| And.intro @W5 <| And.intro @W9 <| And.intro @S4 <| And.intro @E2 <| And.intro @H7 <| @M5
def Mb:=And.intro @Bool.true_eq_false <| And.intro @Bool.false_eq_true <| And.intro @Bool.not_true <| And.intro @Bool.not_false <| And.intro @Bool.and_true <| And.intro @Bool.true_and <| And.intro @Bool.and_false <| And.intro @Bool.false_and <| And.intro @Bool.or_true <| And.intro @Bool.true_or <| And.intro @Bool.or_false <| @Bool.false_or
end Go.Emb

namespace Go.Kd
abbrev X0:=List UInt8
def Xp (c:Int):Bool:=decide (65≤c)&&decide (c≤90)
def Qb (c:Int):Bool:=decide (97≤c)&&decide (c≤122)
def G8 (c:Int):Bool:=decide (48≤c)&&decide (c≤57)
def S8 (c:Int):Bool:=Xp c||Qb c||G8 c
def name (s:X0):Bool:=match s with
 | []=>false
 | c::_=>decide (s.length≤32)&& !G8 c.toNat&&s.all (fun b=>S8 b.toNat)
def M7 (s:X0):Bool:=match s with
 | []=>false
 | c::_=>name s&&Xp c.toNat
def D7 (s:X0):Bool:=match s with
 | []=>false
 | c::_=>name s&&Qb c.toNat
def plain (s:X0):Bool:=decide (s=[105,110,116])||decide (s=[98,111,111,108])||decide (s=[116,101,120,116])
def arr (s:X0):Bool:=decide (2≤s.length)&&decide (s.drop (s.length-2)=[91,93])
def cutA (s:X0):X0:=s.take (s.length-2)
def Yx:Nat→X0→X0×Nat
 | 0,s=>(s,0)
 | n+1,s=>if arr s then ((Yx n (cutA s)).1,(Yx n (cutA s)).2+1) else (s,0)
def base (s:X0):X0×Nat:=Yx s.length s
def right (s:X0):Bool:=decide ((base s).2≤3)&&(plain (base s).1||M7 (base s).1)
def elem (s:X0):X0:=if arr s&&right s then cutA s else []
def Yf (s:X0):Nat:=if right s then (base s).2 else 0
def Xe (s:X0):X0×X0×Bool:=match s with
 | []=>([],[],false)
 | c::r=>if c=46 then ([],r,true) else ((c::(Xe r).1),(Xe r).2.1,(Xe r).2.2)
def Zs (s:X0):Bool:=(Xe s).2.2&&M7 (Xe s).1&&D7 (Xe s).2.1
def Q1U (c:UInt8) (s:X0):Int:=match s.findIdx? (fun b=>decide (b=c)) with
 | some i=>i
 | none=> -1
def Q2Z (s:X0) (o:Option Nat):X0×X0×Bool:=match o with
 | some i=>(s.take i,s.drop (i+1),true)
 | none=>(s,[],false)
theorem Is (s:X0):Xe s=Q2Z s (s.findIdx? (fun b=>decide (b=46))):=by
 induction s with
 | nil=>rfl
 | cons c r a=>
  rw[List.findIdx?_cons]
  simp only[Xe]
  by_cases h:c=46
  ·simp[h,Q2Z]
  ·simp only[h,if_false,decide_false,Bool.false_eq_true]
   rw[a]
   cases r.findIdx? (fun b=>decide (b=46)) with
   | none=>simp[Q2Z]
   | some i=>simp[Q2Z]
end Go.Kd

namespace Go.Proofs.YtjdiakhipmggjaaGreatDoor
open Go.Emb Go.RowKit Go.Kd
variable {w : World} {K : Value → World → Prop}
theorem X8:P.underlying T.c=some .string:=by kernel_rfl
theorem Q1N:P.underlying T.e=some (.int .i64):=by kernel_rfl
theorem Q37:P.underlying T.u=some .bool:=by kernel_rfl
theorem Q1D:P.underlying T.a2=some (.int .u8):=by kernel_rfl
theorem Q7v:P.underlying T.an=some (.int .i32):=by kernel_rfl
theorem Q83 (c:Int) (h:K (.bool (Xp c)) w):Q1 P F.cj [.int .i32 c] w K:=Q64 (by
 unfold Q0T
 (try simp only[↓Mr,Mr,Mb,reduceIte])
 cases a:decide (65≤c)<;>simp only[a,↓Mr,Mr,Mb,reduceIte]<;>simpa [Xp,a] using h)
theorem Q7Y (c:Int) (h:K (.bool (Qb c)) w):Q1 P F.ck [.int .i32 c] w K:=Q6l (by
 unfold Q0J
 (try simp only[↓Mr,Mr,Mb,reduceIte])
 cases a:decide (97≤c)<;>simp only[a,↓Mr,Mr,Mb,reduceIte]<;>simpa [Qb,a] using h)
theorem X2G (c:Int) (h:K (.bool (S8 c)) w):Q1 P F.cb [.int .i32 c] w K:=Q54 (by
 unfold Tw
 refine Q83 c ?_
 cases a:Xp c
 ·(try simp only[↓Mr,Mr,Mb,reduceIte])
  refine Q7Y c ?_
  cases b:Qb c
  ·(try simp only[↓Mr,Mr,Mb,reduceIte])
   cases d:decide (48≤c)
   ·(try simp only[↓Mr,Mr,Mb,reduceIte])
    simpa [S8,G8,a,b,d] using h
   ·(try simp only[↓Mr,Mr,Mb,reduceIte])
    simpa [S8,G8,a,b,d] using h
  ·(try simp only[↓Mr,Mr,Mb,reduceIte])
   simpa [S8,a,b] using h
 ·(try simp only[↓Mr,Mr,Mb,reduceIte])
  simpa [S8,a] using h)
theorem X3Q (a:List UInt8) (f:Value) (p:Int→Bool) (l: ∀(c:Int) (w:World) (K:Value→World→Prop),K (.bool (p c)) w→Z3 P f [.int .i32 c] w K)
 (h: ∀w',Below w.heap.size w w'→K (.bool (Pq p ⟨a.toArray⟩ a.length 0)) w'):Q1 P F.cB [S a,f] w K:=Q8N (by
 unfold Q34
 rw[X2i X8]
 refine Wn (fun _ w'=> ∃pos n:Nat,a.length-pos≤n∧Pq p ⟨a.toArray⟩ a.length 0=Pq p ⟨a.toArray⟩ n pos∧Below w.heap.size w w'∧w'.heap[w.heap.size]? =some (.stringIter ⟨a.toArray⟩ pos))
  (fun _ w'=>match w'.heap[w.heap.size]? with | some (.stringIter _ pos)=>a.length-pos | _=>0) ⟨0,a.length,by omega,rfl,(Below.refl _ _).alloc (Nat.le_refl _) _,heap_alloc_new w _⟩ ?_
 rintro _ _ w1 ⟨pos,n,q,b,j,g⟩
 by_cases e:pos<a.length
 ·rw[X1T g (by rw[K0];exact e)]
  (try simp only[↓Mr,Mr,Mb,reduceIte])
  refine l _ _ _ ?_
  obtain ⟨n,rfl⟩: ∃m,n=m+1:=⟨n-1,by omega⟩
  simp only[Pq,K0,e,if_true] at b
  have r:=Q60 (s:=⟨a.toArray⟩) (i:=pos)
  have d:w.heap.size<w1.heap.size:=(Array.getElem?_eq_some_iff.1 g).1
  cases k:p (Utf8.decode ⟨a.toArray⟩ pos).1
  ·(try simp only[↓Mr,Mr,Mb,reduceIte])
   rw[k] at b
   have:=h _ (Q4Y (o:= .stringIter ⟨a.toArray⟩ (pos+(Utf8.decode ⟨a.toArray⟩ pos).2)) j (Nat.le_refl _))
   rw[b] at this
   exact this
  ·(try simp only[↓Mr,Mr,Mb,reduceIte])
   rw[k] at b
   refine ⟨⟨_,n,?_,b,Q4Y j (Nat.le_refl _),Q7S d⟩,?_⟩
   ·omega
   ·simp only[Q7S d,g];omega
 ·rw[Q7i g (by rw[K0];exact e)]
  (try simp only[↓Mr,Mr,Mb,reduceIte])
  have:Pq p ⟨a.toArray⟩ n pos=true:=by
   cases n with
   | zero=>rfl
   | succ n=>simp only[Pq,K0,e,if_false]
  rw[←this,←b]
  exact h _ j)
theorem Q8r (c:Int) (h:128≤c):S8 c=false:=by
 simp[S8,Xp,Qb,G8];omega
theorem Q69 (a:List UInt8) (n:a.length≤140737488355328) (h: ∀w',Below w.heap.size w w'→K (.bool (name a)) w'):Q1 P F.c5 [S a] w K:=Q6Z (by
 unfold Q2p
 have d: ∀c r,a=c::r→(decide (a.length≤32)&& !G8 c.toNat)=true→Q1 P F.cB [S a,(.func (.func F.cb) #[] #[])] w K:=by
  intro c r m b
  refine X3Q a _ S8 (fun c w K h=>Z9 (first:=[]) (caps:=[]) (X2G c h)) fun w' l=>?_
  rw[Q8J _ Q8r a _ _ (by omega)]
  have:=h w' l
  rw[m] at this b⊢
  simp only[name] at this
  rw[b,Bool.true_and] at this
  simpa using this
 cases a with
 | nil=>
  simp only[↓Mr,Mr,Mb,reduceIte,decide_true]
  exact h w (Below.refl _ _)
 | cons c r=>
  have g:decide (c::r=[])=false:=by simp
  simp only[↓Mr,Mr,Mb,reduceIte,g,R6 X8]
  by_cases j:(c::r).length≤32
  ·have e:r.length≤31:=by simpa using j
   have b:decide ((32:Int)<((c::r).length:Int))=false:=by simp only[decide_eq_false_iff_not];omega
   simp only[↓Mr,Mr,Mb,reduceIte,b]
   rw[Ya X8 (by omega) (by simp)]
   (try simp only[↓Mr,Mr,Mb,reduceIte])
   have i:(c::r)[(0:Int).toNat]'(by simp)=c:=rfl
   simp only[i]
   cases f:decide ((48:Int)≤(c.toNat:Int))
   ·(try simp only[↓Mr,Mr,Mb,reduceIte])
    exact d c r rfl (by simp[G8,e,f])
   ·(try simp only[↓Mr,Mr,Mb,reduceIte])
    rw[Ya X8 (by omega) (by simp)]
    simp only[↓Mr,Mr,Mb,reduceIte,i]
    cases k:decide ((c.toNat:Int)≤57)
    ·(try simp only[↓Mr,Mr,Mb,reduceIte])
     exact d c r rfl (by simp only[G8,f,k];simp[e])
    ·(try simp only[↓Mr,Mr,Mb,reduceIte])
     have:name (c::r)=false:=by simp only[name,G8,f,k];simp
     rw[←this];exact h w (Below.refl _ _)
  ·have b:decide ((32:Int)<((c::r).length:Int))=true:=by simp only[decide_eq_true_eq];omega
   simp only[↓Mr,Mr,Mb,reduceIte,b]
   have:name (c::r)=false:=by simp only[name];rw[decide_eq_false j];rfl
   rw[←this];exact h w (Below.refl _ _))
theorem Ru (a:List UInt8) (e:a.length≤140737488355328) (h: ∀w',Below w.heap.size w w'→K (.bool (M7 a)) w'):Q1 P F.ao [S a] w K:=Q6c (by
 unfold Q0N
 refine Q69 a e fun w1 b=>?_
 cases a with
 | nil=>
  simp only[name,↓Mr,Mr,Mb,reduceIte]
  exact h w1 b
 | cons c r=>
  cases d:name (c::r)
  ·(try simp only[↓Mr,Mr,Mb,reduceIte])
   have:=h w1 b
   simp only[M7,d] at this
   simpa using this
  ·(try simp only[↓Mr,Mr,Mb,reduceIte])
   rw[Ya X8 (by omega) (by simp)]
   have f:(c::r)[(0:Int).toNat]'(by simp)=c:=rfl
   simp only[f]
   rw[Sf Q1D Q7v,w32 (by omega) (by have:=c.toNat_lt;omega)]
   refine Q83 _ ?_
   (try simp only[↓Mr,Mr,Mb,reduceIte])
   have:=h w1 b
   simp only[M7,d] at this
   simpa using this)
theorem Rs (a:List UInt8) (h:K (.bool (plain a)) w):Q1 P F.aP [S a] w K:=Q5Q (by
 unfold Q1j
 (try simp only[↓Mr,Mr,Mb,reduceIte])
 cases b:decide (a=[105,110,116])<;>(try simp only[↓Mr,Mr,Mb,reduceIte])
 ·cases c:decide (a=[98,111,111,108])<;>(try simp only[↓Mr,Mr,Mb,reduceIte])<;>simpa [plain,b,c] using h
 ·simpa [plain,b] using h)
def Jt (a b:List UInt8):Bool:=decide (b.length≤a.length)&&decide (a.drop (a.length-b.length)=b)
theorem Ea (a b:List UInt8) (f:a.length≤140737488355328) (e:b.length≤140737488355328) (h:K (.bool (Jt a b)) w):Q1 P F.ac [S a,S b] w K:=Bd (by
 unfold Va
 rw[R6 X8,R6 X8]
 (try simp only[↓Mr,Mr,Mb,reduceIte])
 by_cases d:b.length≤a.length
 ·have c:decide ((b.length:Int)≤a.length)=true:=by simp only[decide_eq_true_eq];omega
  simp only[↓Mr,Mr,Mb,reduceIte,c,R6 X8]
  rw[F7 (by omega) (by omega),Uw X8 (by omega) (by omega)]
  (try simp only[↓Mr,Mr,Mb,reduceIte])
  rw[show ((a.length:Int)-b.length).toNat=a.length-b.length from by omega]
  simpa [Jt,d] using h
 ·have c:decide ((b.length:Int)≤a.length)=false:=by simp only[decide_eq_false_iff_not];omega
  simp only[↓Mr,Mr,Mb,reduceIte,c]
  simpa [Jt,d] using h)
theorem Q77 (a b:List UInt8) (d:a.length≤140737488355328) (c:b.length≤140737488355328) (h:K (.bool (Jt a b)) w):Q1 P F.bL [S a,S b] w K:=Am (by
 unfold Ox
 exact Ea a b d c h)
def Dz (a b:List UInt8):List UInt8:=if Jt a b then a.take (a.length-b.length) else a
theorem Q4u {a b:List UInt8} (h:Jt a b=true):b.length≤a.length:=by
 simp only[Jt,Bool.and_eq_true,decide_eq_true_eq] at h;exact h.1
theorem Q5o (a b:List UInt8) (e:a.length≤140737488355328) (d:b.length≤140737488355328) (h:K (S (Dz a b)) w):Q1 P F.bv [S a,S b] w K:=Kp (by
 unfold Mz
 refine Cj ?_
 unfold Jx
 refine Ea a b e d ?_
 cases c:Jt a b
 ·(try simp only[↓Mr,Mr,Mb,reduceIte])
  simpa [Dz,c] using h
 ·have f:=Q4u c
  simp only[↓Mr,Mr,Mb,reduceIte,R6 X8]
  rw[F7 (by omega) (by omega),T5 X8 (by omega) (by omega)]
  rw[show ((a.length:Int)-b.length).toNat=a.length-b.length from by omega]
  simpa [Dz,c] using h)
theorem Q6P (a b:List UInt8) (e:a.length≤140737488355328) (d:b.length≤140737488355328) (h:K (.tuple #[S (Dz a b), .bool (Jt a b)]) w):Q1 P F.bJ [S a,S b] w K:=Ae (by
 unfold Ot
 refine Be ?_
 unfold Vb
 refine Ea a b e d ?_
 cases c:Jt a b
 ·(try simp only[↓Mr,Mr,Mb,reduceIte])
  simpa [Dz,c] using h
 ·have f:=Q4u c
  simp only[↓Mr,Mr,Mb,reduceIte,R6 X8]
  rw[F7 (by omega) (by omega),T5 X8 (by omega) (by omega)]
  rw[show ((a.length:Int)-b.length).toNat=a.length-b.length from by omega]
  (try simp only[↓Mr,Mr,Mb,reduceIte])
  simpa [Dz,c] using h)
theorem Q3F (a:List UInt8):Jt a [91,93]=arr a:=rfl
theorem Q2x (a:List UInt8):Dz a [91,93]=if arr a then Kd.cutA a else a:=rfl
theorem K4 {a:List UInt8} (h:arr a=true):(Kd.cutA a).length+2=a.length:=by
 simp only[arr,Bool.and_eq_true,decide_eq_true_eq] at h
 simp only[Kd.cutA,List.length_take];omega
theorem Q3k: ∀(n m:Nat) (a:List UInt8),a.length≤n→a.length≤m→Yx n a=Yx m a
 | 0,0,a,_,_=>rfl
 | 0,m+1,a,h,_=>by
  have:a=[]:=List.eq_nil_of_length_eq_zero (by omega)
  subst this;rfl
 | n+1,0,a,_,h=>by
  have:a=[]:=List.eq_nil_of_length_eq_zero (by omega)
  subst this;rfl
 | n+1,m+1,a,b,c=>by
  simp only[Yx]
  split
  ·rename_i h
   have:=K4 h
   rw[Q3k n m (Kd.cutA a) (by omega) (by omega)]
  ·rfl
theorem Yb (a:List UInt8):base a=if arr a then ((base (Kd.cutA a)).1,(base (Kd.cutA a)).2+1) else (a,0):=by
 unfold base
 cases b:a.length with
 | zero=>
  have:a=[]:=List.eq_nil_of_length_eq_zero b
  subst this;rfl
 | succ n=>
  simp only[Yx]
  split
  ·rename_i h
   have:=K4 h
   rw[Q3k n (Kd.cutA a).length (Kd.cutA a) (by omega) (Nat.le_refl _)]
  ·rfl
theorem Q1M (a:List UInt8):(base a).1.length+2*(base a).2=a.length:=by
 have key: ∀n (a:List UInt8),(Yx n a).1.length+2*(Yx n a).2=a.length:=by
  intro n
  induction n with
  | zero=>intro a;simp[Yx]
  | succ n b=>
   intro a
   simp only[Yx]
   split
   ·rename_i h
    have:=K4 h
    have:=b (Kd.cutA a)
    simp only;omega
   ·simp
 exact key _ a
theorem X09 (a:List UInt8) (f:a.length≤140737488355328) (h:K (.tuple #[S (base a).1,I (base a).2]) w):Q1 P F.cv [S a] w K:=Q7f (by
 unfold Q2s
 refine Wn (fun x w'=>w'=w∧ ∃(b:List UInt8) (n:Nat),x=(S b,I n)∧b.length+2*n=a.length∧base a=((base b).1,(base b).2+n)) (fun x _=>match x.1 with | .string s=>s.size | _=>0)
  ⟨rfl,a,0,rfl,by omega,rfl⟩ ?_
 rintro _ _ _ ⟨rfl,b,n,rfl,g,d⟩
 refine Q77 b _ (by omega) (by simp) ?_
 rw[Q3F]
 cases c:arr b
 ·(try simp only[↓Mr,Mr,Mb,reduceIte])
  rw[Yb b,c] at d
  simp only[Bool.false_eq_true,if_false,Nat.zero_add] at d
  rw[d] at h;exact h
 ·(try simp only[↓Mr,Mr,Mb,reduceIte])
  refine Q5o b _ (by omega) (by simp) ?_
  rw[Q2x,c]
  simp only[↓Mr,Mr,Mb,reduceIte,if_true]
  have e:=K4 c
  rw[F7 (by omega) (by omega)]
  refine ⟨⟨by first | rfl | trivial,Kd.cutA b,n+1,by simp,by omega,?_⟩,?_⟩
  ·rw[d,Yb b,c];simp;omega
  ·simp only[K0];omega)
theorem Zq (a:List UInt8) (f:a.length≤140737488355328) (h: ∀w',Below w.heap.size w w'→K (.bool (right a)) w'):Q1 P F.a0 [S a] w K:=Q5M (by
 unfold Q1r
 have g:=Q1M a
 refine X09 a f ?_
 (try simp only[↓Mr,Mr,Mb,reduceIte])
 by_cases b:(base a).2≤3
 ·have c:decide (((base a).2:Int)≤3)=true:=by simp only[decide_eq_true_eq];omega
  simp only[↓Mr,Mr,Mb,reduceIte,c]
  refine Rs _ ?_
  cases d:plain (base a).1
  ·(try simp only[↓Mr,Mr,Mb,reduceIte])
   refine Ru _ (by omega) fun w1 e=>?_
   (try simp only[↓Mr,Mr,Mb,reduceIte])
   have:=h w1 e
   simp only[right,b,d] at this
   simpa using this
  ·(try simp only[↓Mr,Mr,Mb,reduceIte])
   have:=h w (Below.refl _ _)
   simp only[right,b,d] at this
   simpa using this
 ·have c:decide (((base a).2:Int)≤3)=false:=by simp only[decide_eq_false_iff_not];omega
  simp only[↓Mr,Mr,Mb,reduceIte,c]
  have:=h w (Below.refl _ _)
  simp only[right,b] at this
  simpa using this)
theorem Q6w (a:List UInt8) (d:a.length≤140737488355328) (h: ∀w',Below w.heap.size w w'→K (S (elem a)) w'):Q1 P F.c4 [S a] w K:=Q6S (by
 unfold Q2n
 refine Q6P a _ d (by simp) ?_
 rw[Q3F,Q2x]
 (try simp only[↓Mr,Mr,Mb,reduceIte])
 cases b:arr a
 ·(try simp only[↓Mr,Mr,Mb,reduceIte])
  have:=h w (Below.refl _ _)
  simp only[elem,b] at this
  exact this
 ·(try simp only[↓Mr,Mr,Mb,reduceIte])
  refine Zq a d fun w1 e=>?_
  have:=h w1 e
  cases c:right a
  ·(try simp only[↓Mr,Mr,Mb,reduceIte])
   simp only[elem,b,c] at this
   exact this
  ·simp only[↓Mr,Mr,Mb,reduceIte,if_true]
   simp only[elem,b,c] at this
   exact this)
theorem Q9O (a:List UInt8) (b:a.length≤140737488355328) (h: ∀w',Below w.heap.size w w'→K (I (Yf a)) w'):Q1 P F.cu [S a] w K:=Q7k (by
 unfold Q2o
 refine X09 a b ?_
 (try simp only[↓Mr,Mr,Mb,reduceIte])
 refine Zq a b fun w1 d=>?_
 have:=h w1 d
 cases c:right a<;>(try simp only[↓Mr,Mr,Mb,reduceIte])<;>simpa [Yf,c] using this)
theorem X4D (a:List UInt8) (i:a.length≤140737488355320) (h: ∀w',Below w.heap.size w w'→K (if right a&&decide (Yf a≠3) then .tuple #[S (a++[91,93]),I 0] else .tuple #[S [],I 30]) w'):Q1 P F.cQ [S a] w K:=Q9g (by
 unfold Q53
 refine Zq a (by omega) fun w1 d=>?_
 cases c:right a
 ·(try simp only[↓Mr,Mr,Mb,reduceIte])
  have:=h w1 d
  simp only[c] at this
  simpa using this
 ·(try simp only[↓Mr,Mr,Mb,reduceIte])
  refine Q9O a (by omega) fun g e=>?_
  have:=h g (d.trans (e.mono d.size))
  by_cases f:Yf a=3
  ·have b:decide ((Yf a:Int)=3)=true:=by simp only[decide_eq_true_eq];omega
   simp only[↓Mr,Mr,Mb,reduceIte,b]
   simp only[c,f] at this
   simpa using this
  ·have b:decide ((Yf a:Int)=3)=false:=by simp only[decide_eq_false_iff_not];omega
   simp only[↓Mr,Mr,Mb,reduceIte,b]
   rw[Q2q (by simp;omega)]
   simp only[c] at this
   simpa [f] using this)
end Go.Proofs.YtjdiakhipmggjaaGreatDoor

namespace Go.Proofs.YtjdiakhipmggjaaGreatDoor
open Go.Emb Go.RowKit Go.Kd
variable {w : World} {K : Value → World → Prop}
theorem Q2c (a:List UInt8) (c:UInt8) (h:K (I (Q1U c a)) w):Q1 P F.c0 [S a, .int .u8 c.toNat] w K:=by
 refine Q7b (e:=Extern.BytealgIndexByte.indexByte) Tryz.func231 (by decide) rfl (by kernel_rfl) (by kernel_rfl) ?_ h
 have g:((List.range (ByteArray.mk a.toArray).size).find? fun i=>(ByteArray.mk a.toArray)[i]! ==c)=a.findIdx? (fun b=>decide (b=c)):=by
  rw[K0]
  refine Q3e _ _ a fun i f=>?_
  have:(ByteArray.mk a.toArray)[i]! =a[i]:=by
   rw[getElem!_pos _ _ (by rw[K0];exact f)];rfl
  rw[this,Bool.eq_iff_iff];simp
 have d:((c.toNat:Int).toNat.toUInt8)=c:=by simp
 have:=run_indexByte_string (P:=P) ⟨a.toArray⟩ c.toNat w
 rw[d] at this
 refine this.trans ?_
 unfold firstIdx Q1U
 rw[g]
 cases a.findIdx? (fun b=>decide (b=c))<;>rfl
theorem X0H (a:List UInt8) (c:UInt8) (h:K (I (Q1U c a)) w):Q1 P F.bM [S a,S [c]] w K:=Q01 (by
 unfold Oo
 simp only[R6 X8]
 have f:decide ((([c]:List UInt8).length:Int)=0)=false:=rfl
 have j:decide ((([c]:List UInt8).length:Int)=1)=true:=rfl
 simp only[Q1G,f,j]
 simp only[↓Mr,Mr,Mb,reduceIte]
 have b:C1 P T.c (S [c]) (I 0) w fun e w=>Q1 P F.aB [S a,e] w fun d w=>K d w:=by
  rw[Ya X8 (by omega) (by simp)]
  refine Cx ?_
  unfold Ve
  exact Q2c a c h
 cases i:decide ([c]=a)
 ·(try simp only[↓Mr,Mr,Mb,reduceIte])
  exact b
 ·(try simp only[↓Mr,Mr,Mb,reduceIte])
  have g:[c]=a:=by simpa using i
  have:Q1U c a=0:=by rw[←g];simp[Q1U,List.findIdx?_cons]
  rw[this] at h;exact h)
theorem X0Y {c:UInt8} {a:List UInt8} {i:Nat} (h:a.findIdx? (fun b=>decide (b=c))=some i):i<a.length:=by
 have:=List.findIdx?_eq_some_iff_getElem.1 h
 exact this.1
theorem X3P (a:List UInt8) (f:a.length≤140737488355328) (h: ∀w',Below w.heap.size w w'→K (.tuple #[S (Xe a).1,S (Xe a).2.1, .bool (Xe a).2.2]) w'):Q1 P F.cz [S a,S [46]] w K:=Q5f (by
 unfold Tu
 refine Q1X ?_
 unfold Hs
 refine X0H a 46 ?_
 rw[Is] at h
 unfold Q1U
 cases c:a.findIdx? (fun b=>decide (b=46)) with
 | none=>
  simp only[↓Mr,Mr,Mb,reduceIte,show decide ((0:Int)≤ -1)=false from rfl]
  have:=h w (Below.refl _ _)
  rw[c] at this;exact this
 | some i=>
  have g:=X0Y c
  have e:decide ((0:Int)≤(i:Int))=true:=by simp
  simp only[Q1C,e]
  simp only[↓Mr,Mr,Mb,reduceIte]
  refine Dn (Below.refl _ w) ?_
  refine X4 (S (a.take i)) (fun w1 _=>?_) ?_
  ·rw[T5 X8 (by omega) (by omega)];exact X6 (by simp)
  refine X4 (I 1) (fun w1 _=>?_) ?_
  ·rw[R6 X8];exact X6 rfl
  refine X4 (I (i+1)) ?_ ?_
  ·rintro _ w1 _ rfl
   rw[Ga,F7 (by omega) (by omega)];exact X6 rfl
  refine X4 (S (a.drop (i+1))) ?_ ?_
  ·rintro _ w1 _ rfl
   rw[Uw X8 (by omega) (by omega)];exact X6 (by simp)
  rintro _ _ _ _ w1 d rfl rfl rfl rfl
  (try simp only[↓Mr,Mr,Mb,reduceIte])
  have:=h w1 d
  rw[c] at this;exact this)
theorem X2r (a:List UInt8) (z:a.length≤140737488355328) (h: ∀w',Below w.heap.size w w'→K (if Zs a then .tuple #[S (Xe a).1,S (Xe a).2.1,I 0] else .tuple #[S [],S [],I 30]) w'):Q1 P F.cG [S a] w K:=Q6u (by
 unfold Q1g
 refine X3P a z fun w1 e=>?_
 have s:(Xe a).1.length≤a.length∧(Xe a).2.1.length≤a.length:=by
  rw[Is]
  cases a.findIdx? (fun b=>decide (b=46))<;>simp[Q2Z]
  omega
 generalize t:(Xe a).1=p at h s
 generalize A:(Xe a).2.1=q at h s
 have l:Zs a=((Xe a).2.2&&M7 p&&D7 q):=by rw[Zs,t,A]
 cases i:(Xe a).2.2
 ·simp only[↓Mr,Mr,Mb,reduceIte]
  have:=h w1 e
  rw[l,i] at this;simpa using this
 ·simp only[↓Mr,Mr,Mb,reduceIte]
  refine Ru p (by omega) fun y j=>?_
  have d:=e.trans (j.mono e.size)
  cases o:M7 p
  ·(try simp only[↓Mr,Mr,Mb,reduceIte])
   have:=h y d
   rw[l,i,o] at this;simpa using this
  ·(try simp only[↓Mr,Mr,Mb,reduceIte])
   refine Q69 q (by omega) fun u n=>?_
   have f:=d.trans (n.mono d.size)
   have:=h u f
   rw[l,i,o] at this
   cases g:name q
   ·(try simp only[↓Mr,Mr,Mb,reduceIte])
    have m:D7 q=false:=by cases q with | nil=>rfl | cons c r=>simp[D7,g]
    rw[m] at this;simpa using this
   ·(try simp only[↓Mr,Mr,Mb,reduceIte])
    cases q with
    | nil=>simp[name] at g
    | cons c r=>
     rw[Ya X8 (by omega) (by simp)]
     have k:(c::r)[(0:Int).toNat]'(by simp)=c:=rfl
     (try simp only[↓Mr,Mr,Mb,reduceIte])
     rw[k,Sf Q1D Q7v,w32 (by omega) (by have:=c.toNat_lt;omega)]
     refine Q7Y _ ?_
     have m:D7 (c::r)=Qb c.toNat:=by simp[D7,g]
     rw[m] at this
     cases v:Qb c.toNat<;>(try simp only[↓Mr,Mr,Mb,reduceIte])<;>rw[v] at this<;>simpa using this)
theorem Eg (a:List UInt8) (h:K (.bool (plain a)) w):Q1 P F.y [S a] w K:=Py (by
 unfold Mc
 refine U7 ?_
 (try simp only[↓Mr,Mr,Mb,reduceIte])
 cases b:decide (a=[105,110,116])
 ·cases c:decide (a=[98,111,111,108])
  ·cases d:decide (a=[116,101,120,116])<;>(try simp only[↓Mr,Mr,Mb,reduceIte])<;>intro _<;>(try simp only[↓Mr,Mr,Mb,reduceIte])<;>simpa [plain,b,c,d] using h
  ·(try simp only[↓Mr,Mr,Mb,reduceIte])
   intro _
   (try simp only[↓Mr,Mr,Mb,reduceIte])
   simpa [plain,b,c] using h
 ·(try simp only[↓Mr,Mr,Mb,reduceIte])
  intro _
  (try simp only[↓Mr,Mr,Mb,reduceIte])
  simpa [plain,b] using h)
def X1u (a:List UInt8) (w:World) (x:Value) (w':World):Prop:=
 w=w'∧ ∃i:Nat,x=I i∧i≤a.length∧(0<i→(a.head?.map fun c=>G8 c.toNat)=some false)∧(a.take i).all (fun b=>S8 b.toNat)=true
def Q5k (a:List UInt8) (x:Value):Nat:=match x with | .int _ i=>a.length-i.toNat | _=>0
theorem Q5w (a:List UInt8) (O:a.length≤140737488355328) (h:K (.bool (name a)) w):Q1 P F.aZ [S a] w K:=Ar (by
 unfold Ou
 refine Wn (X1u a w) (fun x _=>Q5k a x) ⟨rfl,0,rfl,by omega,by omega,by simp⟩ ?_
 rintro _ _ _ ⟨rfl,i,rfl,N,L,k⟩
 rw[R6 X8]
 (try simp only[↓Mr,Mr,Mb,reduceIte])
 by_cases m:i<a.length
 ·have E:decide ((i:Int)<a.length)=true:=by simp only[decide_eq_true_eq];omega
  simp only[E,↓Mr,Mr,Mb,reduceIte]
  have d: ∀J:Value→World→Prop,C1 P T.c (S a) (I i) w J=J (.int .u8 (a[i]'m).toNat) w:=fun J=>by
   rw[Ya X8 (by omega) (by simpa using m)];simp
  generalize q:a[i]=c at d
  have e:S8 c.toNat=false∨(i=0∧G8 c.toNat=true)→name a=false:=by
   intro y
   cases a with
   | nil=>rfl
   | cons c0 r=>
    simp only[name]
    rcases y with y | ⟨rfl,y⟩
    ·have:(c0::r).all (fun b=>S8 b.toNat)=false:=by
      rw[List.all_eq_false]
      exact ⟨c,by rw[←q];exact List.getElem_mem _,by simp[y]⟩
     rw[this];simp
    ·simp only[List.getElem_cons_zero] at q
     rw[q,y];simp
  have f:S8 c.toNat=true→(i=0→G8 c.toNat=false)→X1u a w (I (IntKind.i64.wrap ((i:Int)+1))) w∧Q5k a (I (IntKind.i64.wrap ((i:Int)+1)))<Q5k a (I i):=by
   intro A D
   rw[F7 (by omega) (by omega)]
   refine ⟨⟨rfl,i+1,by simp,by omega,fun _=>?_,?_⟩,by simp only[Q5k];omega⟩
   ·by_cases p:0<i
    ·exact L p
    ·obtain rfl:i=0:=by omega
     cases a with
     | nil=>simp at m
     | cons c0 r=>simp only[List.getElem_cons_zero] at q;subst q;simp[D rfl]
   ·rw[List.take_add_one,List.getElem?_eq_getElem m,q]
    simp[k,A]
  have H:=c.toNat_lt
  have v:decide ((i:Int)=0)=decide (i=0):=by rw[Bool.eq_iff_iff];simp
  by_cases n:97≤(c.toNat:Int)
  ·by_cases z:(c.toNat:Int)≤122
   ·simp only[d,decide_eq_true n,decide_eq_true z,↓Mr,Mr,Mb,reduceIte]
    exact f (by simp[S8,Qb,n,z]) (fun _=>by simp[G8];omega)
   ·have o:(65:Int)≤c.toNat:=by omega
    have t: ¬(c.toNat:Int)≤90:=by omega
    have g: ¬(c.toNat:Int)<48:=by omega
    have j:(57:Int)<c.toNat:=by omega
    simp only[d,decide_eq_true n,decide_eq_false z,decide_eq_true o,decide_eq_false t,decide_eq_false g,decide_eq_true j,v,↓Mr,Mr,Mb,reduceIte]
    have l:=e (.inl (by simp[S8,Xp,Qb,G8];omega))
    rw[l] at h
    cases decide (i=0)<;>(try simp only[d,decide_eq_false g,decide_eq_true j,↓Mr,Mr,Mb,reduceIte])<;>exact h
  ·by_cases o:(65:Int)≤c.toNat
   ·by_cases t:(c.toNat:Int)≤90
    ·simp only[d,decide_eq_false n,decide_eq_true o,decide_eq_true t,↓Mr,Mr,Mb,reduceIte]
     exact f (by simp[S8,Xp,o,t]) (fun _=>by simp[G8];omega)
    ·have g: ¬(c.toNat:Int)<48:=by omega
     have j:(57:Int)<c.toNat:=by omega
     simp only[d,decide_eq_false n,decide_eq_true o,decide_eq_false t,decide_eq_false g,decide_eq_true j,v,↓Mr,Mr,Mb,reduceIte]
     have l:=e (.inl (by simp[S8,Xp,Qb,G8];omega))
     rw[l] at h
     cases decide (i=0)<;>(try simp only[d,decide_eq_false g,decide_eq_true j,↓Mr,Mr,Mb,reduceIte])<;>exact h
   ·by_cases g:(c.toNat:Int)<48
    ·simp only[d,decide_eq_false n,decide_eq_false o,decide_eq_true g,v,↓Mr,Mr,Mb,reduceIte]
     have l:=e (.inl (by simp[S8,Xp,Qb,G8];omega))
     rw[l] at h
     cases decide (i=0)<;>(try simp only[d,decide_eq_true g,↓Mr,Mr,Mb,reduceIte])<;>exact h
    ·by_cases j:(57:Int)<c.toNat
     ·simp only[d,decide_eq_false n,decide_eq_false o,decide_eq_false g,decide_eq_true j,v,↓Mr,Mr,Mb,reduceIte]
      have l:=e (.inl (by simp[S8,Xp,Qb,G8];omega))
      rw[l] at h
      cases decide (i=0)<;>(try simp only[d,decide_eq_false g,decide_eq_true j,↓Mr,Mr,Mb,reduceIte])<;>exact h
     ·have u:G8 c.toNat=true:=by simp[G8];omega
      simp only[d,decide_eq_false n,decide_eq_false o,decide_eq_false g,decide_eq_false j,v,↓Mr,Mr,Mb,reduceIte]
      by_cases p:i=0
      ·have l:=e (.inr ⟨p,u⟩)
       rw[l] at h
       simp only[decide_eq_true p,d,decide_eq_false g,decide_eq_false j,↓Mr,Mr,Mb,reduceIte]
       exact h
      ·simp only[decide_eq_false p,d,decide_eq_false g,decide_eq_false j,↓Mr,Mr,Mb,reduceIte]
       exact f (by simp[S8,u]) (fun h=>absurd h p)
 ·have E:decide ((i:Int)<a.length)=false:=by simp only[decide_eq_false_iff_not];omega
  obtain rfl:i=a.length:=by omega
  simp only[E,↓Mr,Mr,Mb,reduceIte]
  rw[R6 X8]
  cases a with
  | nil=>
   have B:decide ((1:Int)≤(([]:List UInt8).length:Int))=false:=rfl
   simp only[B,↓Mr,Mr,Mb,reduceIte];exact h
  | cons c r=>
   have B:decide ((1:Int)≤((c::r).length:Int))=true:=by simp only[decide_eq_true_eq,List.length_cons];omega
   have s:=L (by simp)
   simp only[List.head?_cons,Option.map_some,Option.some.injEq] at s
   simp only[List.take_length] at k
   have C:name (c::r)=decide ((c::r).length≤32):=by simp only[name,s,k];simp
   have M:decide (((c::r).length:Int)≤32)=decide ((c::r).length≤32):=by rw[Bool.eq_iff_iff];simp only[decide_eq_true_eq];omega
   simp only[B,R6 X8,M,↓Mr,Mr,Mb,reduceIte]
   rw[←C];exact h)
theorem Km {c:UInt8} {r:List UInt8} (h:name (c::r)=true):S8 c.toNat=true∧G8 c.toNat=false:=by
 simp only[name,Bool.and_eq_true,List.all_cons,Bool.not_eq_true'] at h
 exact ⟨h.2.1,h.1.2⟩
theorem Yj (a:List UInt8) (g:a.length≤140737488355328) (h:K (.bool (M7 a)) w):Q1 P F.d [S a] w K:=Kj (by
 unfold Me
 refine Q5w a g ?_
 cases a with
 | nil=>simp only[name,↓Mr,Mr,Mb,reduceIte];exact h
 | cons c r=>
  cases b:name (c::r)
  ·(try simp only[↓Mr,Mr,Mb,reduceIte])
   simpa [M7,b] using h
  ·(try simp only[↓Mr,Mr,Mb,reduceIte])
   rw[Ya X8 (by omega) (by simp)]
   have d:(c::r)[(0:Int).toNat]'(by simp)=c:=rfl
   (try simp only[↓Mr,Mr,Mb,reduceIte])
   rw[d]
   obtain ⟨e,f⟩:=Km b
   have:decide ((c.toNat:Int)≤90)=Xp c.toNat:=by
    simp only[S8,Xp,Qb,G8,Bool.or_eq_true,Bool.and_eq_true,Bool.and_eq_false_iff,decide_eq_true_eq,decide_eq_false_iff_not] at e f⊢
    rw[Bool.eq_iff_iff];simp only[Bool.and_eq_true,decide_eq_true_eq];omega
   rw[this]
   simpa [M7,b] using h)
theorem Ky (a:List UInt8) (g:a.length≤140737488355328) (h:K (.bool (D7 a)) w):Q1 P F.v [S a] w K:=Gf (by
 unfold Lv
 refine Q5w a g ?_
 cases a with
 | nil=>simp only[name,↓Mr,Mr,Mb,reduceIte];exact h
 | cons c r=>
  cases b:name (c::r)
  ·(try simp only[↓Mr,Mr,Mb,reduceIte])
   simpa [D7,b] using h
  ·(try simp only[↓Mr,Mr,Mb,reduceIte])
   rw[Ya X8 (by omega) (by simp)]
   have d:(c::r)[(0:Int).toNat]'(by simp)=c:=rfl
   (try simp only[↓Mr,Mr,Mb,reduceIte])
   rw[d]
   obtain ⟨e,f⟩:=Km b
   have:decide ((97:Int)≤c.toNat)=Qb c.toNat:=by
    simp only[S8,Xp,Qb,G8,Bool.or_eq_true,Bool.and_eq_true,Bool.and_eq_false_iff,decide_eq_true_eq,decide_eq_false_iff_not] at e f⊢
    rw[Bool.eq_iff_iff];simp only[Bool.and_eq_true,decide_eq_true_eq];omega
   rw[this]
   simpa [D7,b] using h)
def X3Z (a:List UInt8) (w:World) (x:Value×Value) (w':World):Prop:=
 w=w'∧ ∃(b:List UInt8) (n:Nat),x=(S b,I n)∧b.length+2*n=a.length∧(base a).2=(base b).2+n
def X1l (x:Value×Value):Nat:=match x.1 with | .string s=>s.size | _=>0
theorem Ct (a:List UInt8) (j:a.length≤140737488355328) (h:K (I (base a).2) w):Q1 P F.a2 [S a] w K:=Ao (by
 unfold Ov
 refine Wn (X3Z a w) (fun x _=>X1l x) ⟨rfl,a,0,rfl,by omega,rfl⟩ ?_
 rintro _ _ _ ⟨rfl,b,n,rfl,k,c⟩
 rw[R6 X8]
 (try simp only[↓Mr,Mr,Mb,reduceIte])
 by_cases f:2≤b.length
 ·have e:decide ((2:Int)≤b.length)=true:=by simp only[decide_eq_true_eq];omega
  simp only[e,R6 X8,↓Mr,Mr,Mb,reduceIte]
  rw[F7 (by omega) (by omega),Uw X8 (by omega) (by omega)]
  rw[show ((b.length:Int)-2).toNat=b.length-2 from by omega]
  have g:decide (b.drop (b.length-2)=[91,93])=arr b:=by simp[arr,f]
  simp only[g,↓Mr,Mr,Mb,reduceIte]
  cases d:arr b
  ·(try simp only[↓Mr,Mr,Mb,reduceIte])
   rw[Yb b,d] at c
   simp only[Bool.false_eq_true,if_false,Nat.zero_add] at c
   rw[c] at h;exact h
  ·(try simp only[R6 X8,↓Mr,Mr,Mb,reduceIte])
   rw[T5 X8 (by omega) (by omega)]
   rw[show ((b.length:Int)-2).toNat=b.length-2 from by omega]
   have i:=K4 d
   refine ⟨⟨rfl,Kd.cutA b,n+1,?_,by omega,?_⟩,?_⟩
   ·simp only[Kd.cutA,Prod.mk.injEq,true_and]
    first | rfl | (rw[F7 (by omega) (by omega)];rfl)
   ·rw[c,Yb b,d];simp;omega
   ·simp only[X1l,K0,List.length_take];omega
 ·have e:decide ((2:Int)≤b.length)=false:=by simp only[decide_eq_false_iff_not];omega
  simp only[e,↓Mr,Mr,Mb,reduceIte]
  have d:arr b=false:=by simp[arr,f]
  rw[Yb b,d] at c
  simp only[Bool.false_eq_true,if_false,Nat.zero_add] at c
  rw[c] at h;exact h)
theorem Q4W (a:List UInt8):a.take (a.length-2*(base a).2)=(base a).1:=by
 have key: ∀n (a:List UInt8),a.take (a.length-2*(Yx n a).2)=(Yx n a).1:=by
  intro n
  induction n with
  | zero=>intro a;simp[Yx]
  | succ n b=>
   intro a
   simp only[Yx]
   split
   ·rename_i h
    have c:=K4 h
    simp only
    rw[←b (Kd.cutA a)]
    rw[Kd.cutA,List.take_take,List.length_take]
    congr 1
    omega
   ·simp
 exact key _ a
theorem Ub (a:List UInt8) (e:a.length≤140737488355328) (h:K (.bool (right a)) w):Q1 P F.e [S a] w K:=Kv (by
 unfold Ly
 have f:=Q1M a
 refine Ct a e ?_
 rw[R6 X8]
 (try simp only[↓Mr,Mr,Mb,reduceIte])
 rw[F7 (n:=2*((base a).2:Int)) (by omega) (by omega),F7 (by omega) (by omega),T5 X8 (by omega) (by omega)]
 rw[show ((a.length:Int)-2*((base a).2:Int)).toNat=a.length-2*(base a).2 from by omega,Q4W]
 (try simp only[↓Mr,Mr,Mb,reduceIte])
 by_cases b:(base a).2≤3
 ·have c:decide (((base a).2:Int)≤3)=true:=by simp only[decide_eq_true_eq];omega
  simp only[c,↓Mr,Mr,Mb,reduceIte]
  refine Eg _ ?_
  cases d:plain (base a).1
  ·(try simp only[↓Mr,Mr,Mb,reduceIte])
   refine Yj _ (by omega) ?_
   (try simp only[↓Mr,Mr,Mb,reduceIte])
   simpa [right,b,d] using h
  ·(try simp only[↓Mr,Mr,Mb,reduceIte])
   simpa [right,b,d] using h
 ·have c:decide (((base a).2:Int)≤3)=false:=by simp only[decide_eq_false_iff_not];omega
  simp only[c,↓Mr,Mr,Mb,reduceIte]
  simpa [right,b] using h)
theorem X27 {a:List UInt8} (h:arr a=true):2≤a.length:=by simp only[arr,Bool.and_eq_true,decide_eq_true_eq] at h;exact h.1
theorem Q4A {a:List UInt8} (h:arr a=true) (c:right a=true):3≤a.length:=by
 have d:=X27 h
 refine Nat.lt_of_le_of_ne d fun e=>?_
 have f:=K4 h
 have b:Kd.cutA a=[]:=List.eq_nil_of_length_eq_zero (by omega)
 simp only[right,Yb a,h,if_true,b] at c
 revert c;decide
theorem X1e (a:List UInt8) (e:a.length≤140737488355328) (h:K (S (elem a)) w):Q1 P F.bE [S a] w K:=Ak (by
 unfold Og
 rw[R6 X8]
 (try simp only[↓Mr,Mr,Mb,reduceIte])
 by_cases j:a.length<3
 ·have b:decide ((a.length:Int)<3)=true:=by simp only[decide_eq_true_eq];omega
  simp only[b,↓Mr,Mr,Mb,reduceIte]
  have i:elem a=[]:=by
   simp only[elem]
   split
   ·rename_i hh
    simp only[Bool.and_eq_true] at hh
    have:=Q4A hh.1 hh.2
    omega
   ·rfl
  rw[i] at h;exact h
 ·have b:decide ((a.length:Int)<3)=false:=by simp only[decide_eq_false_iff_not];omega
  simp only[b,↓Mr,Mr,Mb,reduceIte]
  rw[F7 (by omega) (by omega),Uw X8 (by omega) (by omega)]
  rw[show ((a.length:Int)-2).toNat=a.length-2 from by omega]
  have f:decide (a.drop (a.length-2)=[91,93])=arr a:=by simp[arr];omega
  (try simp only[↓Mr,Mr,Mb,reduceIte])
  (try simp only[f,↓Mr,Mr,Mb,reduceIte])
  cases d:arr a
  ·(try simp only[↓Mr,Mr,Mb,reduceIte])
   simpa [elem,d] using h
  ·(try simp only[↓Mr,Mr,Mb,reduceIte])
   refine Ct a e ?_
   (try simp only[↓Mr,Mr,Mb,reduceIte])
   by_cases g:(base a).2≤3
   ·have b:decide ((3:Int)<((base a).2:Int))=false:=by simp only[decide_eq_false_iff_not];omega
    simp only[b,↓Mr,Mr,Mb,reduceIte]
    refine Ub a e ?_
    cases c:right a
    ·(try simp only[↓Mr,Mr,Mb,reduceIte])
     simpa [elem,d,c] using h
    ·(try simp only[↓Mr,Mr,Mb,reduceIte])
     try rw[F7 (by omega) (by omega)]
     rw[T5 X8 (by omega) (by omega)]
     rw[show ((a.length:Int)-2).toNat=a.length-2 from by omega]
     simpa [elem,d,c,Kd.cutA] using h
   ·have b:decide ((3:Int)<((base a).2:Int))=true:=by simp only[decide_eq_true_eq];omega
    simp only[b,↓Mr,Mr,Mb,reduceIte]
    have c:right a=false:=by simp[right,g]
    simpa [elem,d,c] using h)
def X3l (a:List UInt8) (w:World) (x:Value) (w':World):Prop:=
 w=w'∧ ∃n:Nat,x=I n∧n≤a.length∧(∀i,(h:i<n)→(b:i<a.length)→a[i]≠46)
def Q9b (a:List UInt8) (x:Value):Nat:=match x with | .int _ n=>(a.length-n).toNat | _=>0
theorem Q4U (a:List UInt8) (M:a.length≤140737488355328) (h: ∀w',Below w.heap.size w w'→K (if (Xe a).2.2 then .tuple #[S (Xe a).1,S (Xe a).2.1, .bool (Zs a)] else .tuple #[S [],S [], .bool false]) w'):Q1 P F.bz [S a] w K:=Pe (by
 unfold Nc
 refine Wn (X3l a w) (fun x _=>Q9b a x) ⟨rfl,0,rfl,by omega,by omega⟩ ?_
 rintro _ _ _ ⟨rfl,n,rfl,L,q⟩
 rw[R6 X8]
 (try simp only[↓Mr,Mr,Mb,reduceIte])
 by_cases C:n<a.length
 ·have v:decide ((n:Int)<a.length)=true:=by simp only[decide_eq_true_eq];omega
  simp only[v,↓Mr,Mr,Mb,reduceIte]
  rw[Ya X8 (by omega) (by omega)]
  (try simp only[↓Mr,Mr,Mb,reduceIte])
  simp only[Int.toNat_natCast]
  have E:decide (((a[n]).toNat:Int)=46)=decide (a[n]=46):=by
   rw[Bool.eq_iff_iff];simp only[decide_eq_true_eq]
   constructor
   ·intro e;exact UInt8.toNat_inj.1 (by have:(46:UInt8).toNat=46:=rfl;omega)
   ·intro e;rw[e];rfl
  rw[E]
  by_cases m:a[n]=46
  ·simp only[m,decide_true,↓Mr,Mr,Mb,reduceIte]
   have l:Xe a=(a.take n,a.drop (n+1),true):=by
    have:a.findIdx? (fun b=>decide (b=46))=some n:=by
     rw[List.findIdx?_eq_some_iff_getElem]
     exact ⟨C,by simpa using m,fun j D=>by simpa using q j D (by omega)⟩
    rw[Is,this];rfl
   have p:Zs a=(M7 (a.take n)&&D7 (a.drop (n+1))):=by simp[Zs,l]
   rw[l,p] at h
   have s:((n:Int)+1).toNat=n+1:=by omega
   have y:(a.take n).length≤140737488355328:=by simp only[List.length_take];omega
   have o:(a.drop (n+1)).length≤140737488355328:=by simp only[List.length_drop];omega
   have z: ∀{w:World} {K:Value→World→Prop},K (S (a.take n)) w→R8 P T.c (S a) none (some (I n)) none w K:=by
    intro w K h
    rw[T5 X8 (by omega) (by omega),show ((n:Int)).toNat=n from by omega];exact h
   have B: ∀{w:World} {K:Value→World→Prop},K (S (a.drop (n+1))) w→R8 P T.c (S a) (some (I (n+1))) none none w K:=by
    intro w K h
    rw[Uw X8 (by omega) (by omega),s];exact h
   refine Dn (Below.refl _ _) ?_
   refine X4 (S (a.take n)) (fun w c=>z (X6 rfl)) ?_
   refine X4 (I (n+1)) (fun w c=>X6 (by rw[F7 (by omega) (by omega)])) ?_
   refine X4 (S (a.drop (n+1))) (fun t w c e=>by rw[e];exact B (X6 rfl)) ?_
   refine X4 (S (a.take n)) (fun w c=>z (X6 rfl)) ?_
   refine X4 (.bool (M7 (a.take n))) (fun t w c e=>by rw[e];exact Yj _ y (X6 rfl)) ?_
   cases g:M7 (a.take n)
   ·refine X4 undef (fun t w c e=>by rw[e,E2];exact X6 rfl) ?_
    refine X4 undef (fun t w c e=>by rw[e,E2];exact X6 rfl) ?_
    refine X4 undef (fun t f w c e d=>by rw[e,E2];exact X6 rfl) ?_
    refine X4 undef (fun t f r w c e d k=>by rw[e,E2];exact X6 rfl) ?_
    refine X4 undef (fun t f w c e d=>by rw[e,E2];exact X6 rfl) ?_
    refine X4 (.bool false) (fun t f w c e d=>by rw[e,L2];exact X6 rfl) ?_
    rintro _ _ _ _ _ _ _ _ _ _ _ w1 c rfl rfl rfl rfl rfl rfl rfl rfl rfl rfl rfl
    rw[g] at h
    exact h w1 (by simpa using c)
   ·refine X4 (S a) (fun t w c e=>by rw[e,W5];exact X6 rfl) ?_
    refine X4 (I n) (fun t w c e=>by rw[e,W5];exact X6 rfl) ?_
    refine X4 (I (n+1)) (fun t f w c e d=>by rw[e,d,W5];simp only[↓Mr,Mr,Mb,reduceIte];exact X6 (by rw[F7 (by omega) (by omega)])) ?_
    refine X4 (S (a.drop (n+1))) (fun t f r w c e d k=>by rw[e,d,k,W5];exact B (X6 rfl)) ?_
    refine X4 (.bool (D7 (a.drop (n+1)))) (fun t f w c e d=>by rw[e,d,W5];exact Ky _ o (X6 rfl)) ?_
    refine X4 (.bool (D7 (a.drop (n+1)))) (fun t f w c e d=>by rw[e,d,M6];exact X6 rfl) ?_
    rintro _ _ _ _ _ _ _ _ _ _ _ w1 c rfl rfl rfl rfl rfl rfl rfl rfl rfl rfl rfl
    rw[g] at h
    exact h w1 (by simpa using c)
  ·simp only[m,decide_false,↓Mr,Mr,Mb,reduceIte]
   rw[F7 (by omega) (by omega)]
   refine ⟨⟨rfl,n+1,rfl,by omega,fun i A H=>?_⟩,?_⟩
   ·by_cases u:i=n
    ·subst u;exact m
    ·exact q i (by omega) H
   ·simp only[Q9b];omega
 ·have v:decide ((n:Int)<a.length)=false:=by simp only[decide_eq_false_iff_not];omega
  simp only[v,↓Mr,Mr,Mb,reduceIte]
  have l:(Xe a).2.2=false∧(Xe a).1=a∧(Xe a).2.1=[]:=by
   have:a.findIdx? (fun b=>decide (b=46))=none:=by
    rw[List.findIdx?_eq_none_iff]
    intro x J
    obtain ⟨i,A,rfl⟩:=List.getElem_of_mem J
    simpa using q i (by omega) A
   rw[Is,this];exact ⟨rfl,rfl,rfl⟩
  rw[l.1] at h
  exact h w (Below.refl _ _))
end Go.Proofs.YtjdiakhipmggjaaGreatDoor

namespace Go.Emb
open Go.RowKit
class TZ (P : Program) (t : TypeId) (sz b : outParam Nat) (z : outParam Value) : Prop where
  h : (P.info? t).map (fun i => (i.size, i.bytes, i.zero)) = some (sz, b, some z)
def Q9q:Option TypeDesc→Bool
 | some (.struct _)=>true
 | some (.array _ _)=>true
 | none=>true
 | _=>false
class TG (P : Program) (t : TypeId) (g : outParam Bool) : Prop where
  h : (Q9q (P.underlying t), (P.underlying t).isSome) = (g, true)
class TS (P : Program) (t : TypeId) (e : outParam TypeId) : Prop where
  h : P.underlying t = some (.slice e)
class TA (P : Program) (t : TypeId) (n : outParam Nat) (e : outParam TypeId) : Prop where
  h : P.underlying t = some (.array n e)
class TM (P : Program) (t : TypeId) (k e : outParam TypeId) : Prop where
  h : P.underlying t = some (.map k e)
def Q4a (d:Option TypeDesc) (k:Nat):Option (Nat×TypeId):=match d with
 | some (.struct a)=>(a[k]?).map fun f=>(f.offset,f.type)
 | _=>none
class TF (P : Program) (t : TypeId) (k : Nat) (off : outParam Nat) (ft : outParam TypeId) : Prop where
  h : Q4a (P.underlying t) k = some (off, ft)
variable {P : Program} {w w0 w1 w' w'' : World} {K : Value → World → Prop}
theorem TZ.info {t:TypeId} {sz b:Nat} {z:Value} (h:TZ P t sz b z): ∃i,P.info? t=some i∧i.size=sz∧i.bytes=b∧i.zero=some z:=by
 obtain ⟨i,a,e⟩:=Option.map_eq_some_iff.1 h.h
 simp only[Prod.mk.injEq] at e
 exact ⟨i,a,e.1,e.2.1,e.2.2⟩
theorem L5 {t:TypeId} {sz b:Nat} {z:Value} (h:TZ P t sz b z) (w:World):(sizeOf t).run P w= .ok sz w:=by
 obtain ⟨i,a,rfl,_⟩:=h.info
 simp[sizeOf,typeInfo,a]
theorem Zr {t:TypeId} {sz b:Nat} {z:Value} (h:TZ P t sz b z) (w:World):(zeroValue t).run P w= .ok z w:=by
 obtain ⟨i,c,_,_,a⟩:=h.info
 simp[zeroValue,typeInfo,c,a]
theorem Xq {t:TypeId} {g:Bool} (h:TG P t g) (w:World):(isAgg t).run P w= .ok g w:=by
 have hh:=h.h
 simp only[Prod.mk.injEq] at hh
 obtain ⟨c,b⟩:=hh
 cases a:P.underlying t with
 | none=>rw[a] at b;cases b
 | some d=>
  rw[a] at c
  have:=run_underlying (P:=P) (w:=w) a
  simp only[isAgg,Sem.run_bind,this,Result.andThen_ok]
  cases d<;>simp_all [Q9q]
theorem Q4i (a:Addr) (i j:Nat):(a.add i).add j=a.add (i+j):=by
 unfold Addr.add
 by_cases c:i=0
 ·simp[c]
 ·by_cases b:j=0
  ·simp[b]
  ·simp[c,b,Nat.add_assoc]
theorem add_zero (a:Addr):a.add 0=a:=by simp[Addr.add]
theorem S9 (a:Addr) (i:Nat):(a.add i).block=a.block:=by unfold Addr.add;split<;>rfl
theorem Qf (a:Addr) (i:Nat):(a.add i).off=a.off+i:=by unfold Addr.add;split<;>simp_all
theorem K2 {a:Addr} (h:a.spot=none) (i:Nat):(a.add i).spot=none:=by unfold Addr.add;split<;>simp_all
abbrev Q6:=Nat→Option Obj
def X2 (w:World) (σ:Q6):Prop:= ∀b o,σ b=some o→w.heap[b]? =some o
structure Stp (w : World) (σ : Q6) (w' : World) (σ' : Q6) : Prop where
  bel : Below w.heap.size w w'
  sat : X2 w' σ'
  le : ∀ b o, σ b = some o → σ' b = some o
  old : ∀ b, b < w.heap.size → σ' b = σ b
theorem X2.lt {σ:Q6} (h:X2 w σ) {b:Nat} {o:Obj} (a:σ b=some o):b<w.heap.size:=(Array.getElem?_eq_some_iff.1 (h b o a)).1
theorem X2.below {σ:Q6} (h:X2 w σ) (a:Below w.heap.size w w'):X2 w' σ:=fun b o e=>(a.block b (h.lt e)).trans (h b o e)
theorem Stp.refl {σ:Q6} (h:X2 w σ):Stp w σ w σ:=⟨Below.refl _ _,h,fun _ _ e=>e,fun _ _=>rfl⟩
theorem Stp.trans {σ0 σ1 c:Q6} (h:Stp w σ0 w' σ1) (k:Stp w' σ1 w'' c):Stp w σ0 w'' c:=
 ⟨h.bel.trans (k.bel.mono h.bel.size),k.sat,fun b o e=>k.le b o (h.le b o e),fun b a=>(k.old b (Nat.lt_of_lt_of_le a h.bel.size)).trans (h.old b a)⟩
theorem Stp.of_below {σ:Q6} (h:X2 w σ) (a:Below w.heap.size w w'):Stp w σ w' σ:=⟨a,h.below a,fun _ _ e=>e,fun _ _=>rfl⟩
def Q6.put (σ:Q6) (b:Nat) (o:Obj):Q6:=fun k=>if k=b then some o else σ k
theorem X2.none {σ:Q6} (h:X2 w σ) {b:Nat} (a:w.heap.size≤b):σ b=none:=by
 cases e:σ b with
 | none=>rfl
 | some o=>have:=h.lt e;omega
theorem Stp.alloc {σ:Q6} (h:X2 w σ) (o:Obj):Stp w σ (w.alloc o) (σ.put w.heap.size o):=by
 refine ⟨(Below.refl _ _).alloc (Nat.le_refl _) o,?_,?_,?_⟩
 ·intro b p e
  by_cases a:b=w.heap.size
  ·subst a
   simp only[Q6.put,if_true] at e
   cases e
   exact heap_alloc_new w o
  ·simp only[Q6.put,if_neg a] at e
   rw[Below.heap_alloc w o b (h.lt e)];exact h b p e
 ·intro b p e
  have:=h.lt e
  simp only[Q6.put];rw[if_neg (by omega)];exact e
 ·intro b a
  simp only[Q6.put];rw[if_neg (by omega)]
theorem Stp.own {σ:Q6} (h:X2 w σ) (o:Obj):Stp w σ (w.alloc o) σ:=Stp.of_below h ((Below.refl _ _).alloc (Nat.le_refl _) o)
def Z6 (σ:Q6) (a:Addr) (cs:List Value):Prop:=a.spot=none∧ ∃arr e b,σ a.block=some (.cells arr e b)∧ ∀i v,cs[i]? =some v→arr[a.off+i]? =some v
theorem Z6.up {σ σ':Q6} {a:Addr} {cs:List Value} (h:Z6 σ a cs) (f:Stp w σ w' σ'):Z6 σ' a cs:=by
 obtain ⟨b,arr,e,d,c,g⟩:=h
 exact ⟨b,arr,e,d,f.le _ _ c,g⟩
theorem Z6.cell {σ:Q6} {a:Addr} {cs:List Value} (h:Z6 σ a cs) (b:X2 w σ) {i:Nat} {v:Value} (c:cs[i]? =some v):w.cell? (a.add i)=some v:=by
 obtain ⟨d,arr,e,j,f,g⟩:=h
 have:=b _ _ f
 unfold World.cell?
 rw[S9,this,Qf,K2 d]
 exact g i v c
def Y3 (σ:Q6) (w:World) (b:Nat) (cs:List Value):Prop:=σ b=none∧ ∃e,w.heap[b]? =some (.cells cs.toArray e (0,0))
theorem Y3.lt {σ:Q6} {b:Nat} {cs:List Value} (h:Y3 σ w b cs):b<w.heap.size:=by
 obtain ⟨_,e,h⟩:=h
 exact (Array.getElem?_eq_some_iff.1 h).1
theorem Y3.up {σ σ':Q6} {b:Nat} {cs:List Value} (h:Y3 σ w b cs) (a:Stp w σ w' σ'):Y3 σ' w' b cs:=by
 have c:=h.lt
 obtain ⟨d,e,f⟩:=h
 exact ⟨(a.old b c).trans d,e,(a.bel.block b c).trans f⟩
theorem Y3.cell {σ:Q6} {b:Nat} {cs:List Value} (h:Y3 σ w b cs) {i:Nat} {v:Value} (a:cs[i]? =some v):w.cell? ((⟨b,0,none⟩:Addr).add i)=some v:=by
 obtain ⟨_,e,c⟩:=h
 unfold World.cell?
 rw[S9,Qf,K2 rfl]
 simp only[c]
 simpa using a
theorem Y3.keep {σ σ0:Q6} {b:Nat} {cs:List Value} (h:Y3 σ w b cs) (d:Stp w0 σ0 w σ) (m:w0.heap.size≤b): ∃σ',Stp w0 σ0 w σ'∧Z6 σ' ⟨b,0,none⟩ cs∧(∀k o,σ k=some o→σ' k=some o)∧(∀k,k≠b→σ' k=σ k):=by
 obtain ⟨g,e,l⟩:=h
 refine ⟨σ.put b (.cells cs.toArray e (0,0)),⟨d.bel,?_,?_,?_⟩,⟨rfl,cs.toArray,e,(0,0),by simp[Q6.put],?_⟩,?_,?_⟩
 ·intro k o c
  by_cases a:k=b
  ·subst a;simp only[Q6.put,if_true] at c;cases c;exact l
  ·simp only[Q6.put,if_neg a] at c;exact d.sat k o c
 ·intro k o c
  by_cases a:k=b
  ·subst a;have:=d.le _ _ c;rw[g] at this;cases this
  ·simp only[Q6.put,if_neg a];exact d.le _ _ c
 ·intro k f
  simp only[Q6.put];rw[if_neg (by omega)];exact d.old k f
 ·intro i v j;simpa using j
 ·intro k o c
  by_cases a:k=b
  ·subst a;rw[g] at c;cases c
  ·simp only[Q6.put,if_neg a];exact c
 ·intro k a;simp only[Q6.put,if_neg a]
theorem Q7C (t:TypeId) (v:Value) (w:World):(Instr.box t v).run P w= .ok (.pointer (some ⟨w.heap.size,0,none⟩)) (w.alloc (.cells v.cells t)):=by
 simp[Instr.box,newVar,newRow]
theorem Q3a {σ:Q6} (a:X2 w σ) (cs:Array Value) (t:TypeId):Y3 σ (w.alloc (.cells cs t)) w.heap.size cs.toList:=
 ⟨a.none (Nat.le_refl _),t,by simpa using heap_alloc_new w (.cells cs t)⟩
theorem Q98 {σ:Q6} (cs:Array Value) (t:TypeId):Z6 (σ.put w.heap.size (.cells cs t)) ⟨w.heap.size,0,none⟩ cs.toList:=
 ⟨rfl,cs,t,(0,0),by simp[Q6.put],fun i v h=>by simpa using h⟩
theorem E4 {σ:Q6} {t:TypeId} {v:Value} (b:X2 w σ) (h: ∀a w' σ',Stp w σ w' σ'→Z6 σ' a v.cells.toList→K (.pointer (some a)) w'):box P t v w K:=by
 unfold box;rw[X9 (Q7C t v w)]
 exact h _ _ _ (Stp.alloc b _) (Q98 _ t)
theorem Q67 {σ:Q6} {t:TypeId} {v:Value} (a:X2 w σ) (h: ∀b w',w.heap.size≤b→Stp w σ w' σ→Y3 σ w' b v.cells.toList→K (.pointer (some ⟨b,0,none⟩)) w'):box P t v w K:=by
 unfold box;rw[X9 (Q7C t v w)]
 exact h _ _ (Nat.le_refl _) (Stp.own a _) (Q3a a _ t)
theorem Kh {σ:Q6} {t:TypeId} {sz a:Nat} {z:Value} [tz:TZ P t sz a z] (c:X2 w σ) (h: ∀b w',w.heap.size≤b→Stp w σ w' σ→Y3 σ w' b z.cells.toList→K (.pointer (some ⟨b,0,none⟩)) w'):V8 P t w K:=by
 unfold V8
 have:(Instr.alloc t true (.tuple #[])).run P w= .ok (.pointer (some ⟨w.heap.size,0,none⟩)) (w.alloc (.cells z.cells t)):=by
  simp[Instr.alloc,Zr tz,newVar,newRow]
 rw[X9 this]
 exact h _ _ (Nat.le_refl _) (Stp.own c _) (Q3a c _ t)
theorem Qg {t:TypeId} [tg:TG P t false] {a:Addr} {v:Value} (b:w.cell? a=some v) (h:K v w):Q2 P t (.pointer (some a)) w K:=by
 unfold Q2
 rw[X9 (v:=v) (w':=w) (by simp[Instr.loadAt,Instr.sureAddr,loadVar,Xq tg,b])]
 exact h
theorem Kf {t:TypeId} {sz b:Nat} {z:Value} [tg:TG P t true] [tz:TZ P t sz b z] {a:Addr} {cs:List Value} (d:cs.length=sz) (c: ∀j v,cs[j]? =some v→w.cell? (a.add j)=some v) (h:K (.agg cs.toArray) w):Q2 P t (.pointer (some a)) w K:=by
 unfold Q2
 have:=run_loadCells_list (P:=P) w a cs c
 rw[d] at this
 rw[X9 (v:= .agg cs.toArray) (w':=w) (by simp[Instr.loadAt,Instr.sureAddr,loadVar,Xq tg,L5 tz,this])]
 exact h
theorem ld {σ:Q6} {t:TypeId} [TG P t false] {a:Addr} {cs:List Value} {i:Nat} {v:Value} (b:X2 w σ) (d:Z6 σ a cs) (c:cs[i]? =some v) (h:K v w):Q2 P t (.pointer (some (a.add i))) w K:=
 Qg (d.cell b c) h
theorem X7 {σ:Q6} {t:TypeId} [TG P t false] {a:Addr} {cs:List Value} {v:Value} (b:X2 w σ) (d:Z6 σ a cs) (c:cs[0]? =some v) (h:K v w):Q2 P t (.pointer (some a)) w K:=by
 have:=ld (P:=P) (t:=t) b d c h
 rwa [add_zero] at this
theorem Y5 {σ:Q6} {t:TypeId} {sz b:Nat} {z:Value} [TG P t true] [TZ P t sz b z] {a:Addr} {cs:List Value} (c:X2 w σ) (f:Z6 σ a cs) (g:cs.length=sz) (h:K (.agg cs.toArray) w):Q2 P t (.pointer (some a)) w K:=
 Kf g (fun _ _ d=>f.cell c d) h
theorem Yk {σ:Q6} {t:TypeId} [TG P t false] {b:Nat} {cs:List Value} {i:Nat} {v:Value} (c:Y3 σ w b cs) (a:cs[i]? =some v) (h:K v w):Q2 P t (.pointer (some ((⟨b,0,none⟩:Addr).add i))) w K:=
 Qg (c.cell a) h
theorem Q9a {σ:Q6} {t:TypeId} [TG P t false] {b:Nat} {cs:List Value} {v:Value} (c:Y3 σ w b cs) (a:cs[0]? =some v) (h:K v w):Q2 P t (.pointer (some ⟨b,0,none⟩)) w K:=by
 have:=Yk (P:=P) (t:=t) c a h
 rwa [add_zero] at this
theorem Co {σ:Q6} {t:TypeId} {sz a:Nat} {z:Value} [TG P t true] [TZ P t sz a z] {b:Nat} {cs:List Value} (d:Y3 σ w b cs) (f:cs.length=sz) (h:K (.agg cs.toArray) w):Q2 P t (.pointer (some ⟨b,0,none⟩)) w K:=
 Kf f (fun _ _ c=>d.cell c) h
theorem V2 {t:TypeId} {sz a:Nat} {z:Value} [tg:TG P t true] [tz:TZ P t sz a z] {σ:Q6} {b:Nat} {cs:List Value} {K:Value→Prop} (d:Y3 σ w b cs) (f:cs.length=sz) (h:K (.agg cs.toArray)):Y8 P t (.pointer (some ⟨b,0,none⟩)) w K:=by
 rw[Q3x]
 refine ⟨_,?_,h⟩
 have:=run_loadCells_list (P:=P) w ⟨b,0,none⟩ cs (fun _ _ c=>d.cell c)
 rw[f] at this
 simp[asAddr,loadVar,Xq tg,L5 tz,this]
structure Upd (w : World) (b : Nat) (w' : World) : Prop where
  os : w'.os = w.os
  tape : w'.tape = w.tape
  output : w'.output = w.output
  size : w'.heap.size = w.heap.size
  block : ∀ k, k ≠ b → w'.heap[k]? = w.heap[k]?
theorem Upd.stp {σ0 σ:Q6} {b:Nat} (c:Upd w b w') (a:Stp w0 σ0 w σ) (h:w0.heap.size≤b) (g:σ b=none):Stp w0 σ0 w' σ:=by
 refine ⟨⟨c.os.trans a.bel.os,c.tape.trans a.bel.tape,c.output.trans a.bel.output,by rw[c.size];exact a.bel.size,fun k f=>(c.block k (by omega)).trans (a.bel.block k f)⟩,?_,a.le,a.old⟩
 intro k o d
 rw[c.block k (by intro e;subst e;rw[g] at d;cases d)]
 exact a.sat k o d
theorem Y3.upd {σ:Q6} {b k:Nat} {cs:List Value} (h:Y3 σ w k cs) (f:Upd w b w') (a:k≠b):Y3 σ w' k cs:=by
 obtain ⟨c,e,d⟩:=h
 exact ⟨c,e,(f.block k a).trans d⟩
theorem Mo {b:Nat} {cs:Array Value} {a:Array Value} {e:TypeId} (h:w.heap[b]? =some (.cells a e (0,0))):Upd w b (w.setRow b cs)∧(w.setRow b cs).heap[b]? =some (.cells cs e (0,0)):=by
 have d:=(Array.getElem?_eq_some_iff.1 h).1
 refine ⟨⟨rfl,rfl,rfl,by simp[World.setRow],fun k c=>?_⟩,?_⟩
 ·simp only[World.setRow,Array.getElem?_modify]
  rw[if_neg (by omega)]
 ·simp only[World.setRow,Array.getElem?_modify,if_true,h]
  rfl
theorem My {t:TypeId} {sz a:Nat} {z:Value} [tz:TZ P t sz a z] {σ:Q6} {b:Nat} {cs ds:List Value} (n:Y3 σ w b cs) (j:cs.length=sz) (d:ds.length=sz) (m:ds.toArray.all (·.oneCell')=true)
 (h: ∀w',Upd w b w'→Y3 σ w' b ds→K undef w'):Y0 P t (.pointer (some ⟨b,0,none⟩)) (.agg ds.toArray) w K:=by
 obtain ⟨k,e,f⟩:=n
 unfold Y0
 obtain ⟨i,g,c,_⟩:=tz.info
 have:=run_storeVar_row (P:=P) w b e t cs.toArray ds.toArray f (by simp[g,c,d]) (by simp[j,d]) m
 rw[Lh (w':=w.setRow b ds.toArray) (by simpa [Instr.storeAt,Instr.sureAddr] using this)]
 obtain ⟨l,hh⟩:=Mo (cs:=ds.toArray) f
 exact h _ l ⟨k,e,hh⟩
theorem Q82 {cs:List Value} {i:Nat} {v:Value} (a:i<cs.length):(cs.take i++[v]++cs.drop (i+1))=cs.set i v:=by
 rw[List.set_eq_take_append_cons_drop,if_pos a];simp
theorem Ue {t:TypeId} {c:Nat} {z:Value} [tz:TZ P t 1 c z] {σ:Q6} {b i:Nat} {cs:List Value} {v:Value} (n:Y3 σ w b cs) (g:i<cs.length) (f:v.cells= #[v]) (l:v.oneCell'=true)
 (h: ∀w',Upd w b w'→Y3 σ w' b (cs.set i v)→K undef w'):Y0 P t (.pointer (some ((⟨b,0,none⟩:Addr).add i))) v w K:=by
 obtain ⟨j,e,d⟩:=n
 unfold Y0
 have a:(⟨b,0,none⟩:Addr).add i=⟨b,i,none⟩:=by unfold Addr.add;split<;>simp_all
 have:=run_storeCells_at P b i e [v] 0 cs.toArray w d (by simp;omega) (by simpa using l)
 simp only[Nat.add_zero] at this
 obtain ⟨k,hh⟩:=Mo (cs:=(cs.set i v).toArray) d
 have m:(List.take i cs.toArray.toList++[v]++List.drop (i+[v].length) cs.toArray.toList).toArray=(cs.set i v).toArray:=by
  rw[←Q82 g];simp
 rw[m] at this
 rw[Lh (w':=w.setRow b (cs.set i v).toArray) (by simp[Instr.storeAt,Instr.sureAddr,a,storeVar,L5 tz,f,this])]
 exact h _ k ⟨j,e,hh⟩
theorem st0 {t:TypeId} {a:Nat} {z:Value} [tz:TZ P t 1 a z] {σ:Q6} {b:Nat} {cs:List Value} {v:Value} (d:Y3 σ w b cs) (g:0<cs.length) (f:v.cells= #[v]) (c:v.oneCell'=true)
 (h: ∀w',Upd w b w'→Y3 σ w' b (cs.set 0 v)→K undef w'):Y0 P t (.pointer (some ⟨b,0,none⟩)) v w K:=by
 have:=Ue (P:=P) (t:=t) d g f c h
 rwa [add_zero] at this
class NZ (n : Nat) : Prop where
  h : (n == 0) = false
instance (n:Nat):NZ (n+1):=⟨rfl⟩
theorem fa {t:TypeId} {k b:Nat} {d:TypeId} {sz c:Nat} {z:Value} [tf:TF P t k b d] [tz:TZ P d sz c z] [nz:NZ sz] {a:Addr}:fieldAddr P t (.pointer (some a)) k w K=K (.pointer (some (a.add b))) w:=by
 unfold fieldAddr
 have hh:=tf.h
 unfold Q4a at hh
 split at hh
 ·rename_i o m
  obtain ⟨f,n,g⟩:=Option.map_eq_some_iff.1 hh
  simp only[Prod.mk.injEq] at g
  obtain ⟨i,j⟩:=g
  subst j i
  have l: ¬sz=0:=by simpa using nz.h
  exact X9 (by simp[Instr.fieldAt,run_underlying m,n,Instr.sureAddr,fieldPlace,L5 tz,l])
 ·cases hh
theorem Se {t e:TypeId} {sz b:Nat} {z:Value} [ts:TS P t e] [tz:TZ P e sz b z] {a:Addr} {n c:Nat} {k:IntKind} {i:Int} (f:0≤i) (d:i<n):indexAddr P t (.slice (some a) n c) (.int k i) w K=K (.pointer (some (a.add (i.toNat*sz)))) w:=by
 unfold indexAddr
 exact X9 (by simp[Instr.indexAt,run_underlying ts.h,asIntOf,L5 tz,f,d])
theorem X02 {t e:TypeId} {n sz b:Nat} {z:Value} [ta:TA P t n e] [tz:TZ P e sz b z] {a:Addr} {k:IntKind} {i:Int} (d:0≤i) (c:i<n):indexAddr P t (.pointer (some a)) (.int k i) w K=K (.pointer (some (a.add (i.toNat*sz)))) w:=by
 unfold indexAddr
 exact X9 (by simp[Instr.indexAt,run_underlying ta.h,asIntOf,Instr.sureAddr,L5 tz,d,c])
theorem M0 {a:Addr}:nilCheck P (.pointer (some a)) w K=K (.pointer (some a)) w:=by
 unfold nilCheck
 rw[Qa];unfold T2
 simp[execOp]
class Rep {α : Type} (R : Q6 → α → List Value → Prop) : Prop where
  up : ∀ {σ σ' : Q6} {x : α} {cs : List Value}, (∀ b o, σ b = some o → σ' b = some o) → R σ x cs → R σ' x cs
  one : ∀ {σ : Q6} {x : α} {cs : List Value}, R σ x cs → ∀ u ∈ cs, u.oneCell' = true
def Sl {α:Type} (sz:Nat) (R:Q6→α→List Value→Prop) (σ:Q6) (v:Value) (xs:List α):Prop:=
 ∃a c,v= .slice a xs.length c∧xs.length≤c∧c≤maxLen∧(a=none→c=0)∧
  ∀b,a=some b→(0<xs.length→b.spot=none)∧ ∀i x,xs[i]? =some x→ ∃cs,Z6 σ (b.add (i*sz)) cs∧cs.length=sz∧R σ x cs
theorem Z6.le {σ σ':Q6} {a:Addr} {cs:List Value} (h:Z6 σ a cs) (g: ∀b o,σ b=some o→σ' b=some o):Z6 σ' a cs:=by
 obtain ⟨c,arr,e,f,d,i⟩:=h
 exact ⟨c,arr,e,f,g _ _ d,i⟩
section
variable {α : Type} {R : Q6 → α → List Value → Prop} {sz : Nat} {σ σ' : Q6} {v : Value} {xs : List α}
theorem Sl.le [hr:Rep R] (h:Sl sz R σ v xs) (g: ∀b o,σ b=some o→σ' b=some o):Sl sz R σ' v xs:=by
 obtain ⟨a,c,n,k,m,j,d⟩:=h
 refine ⟨a,c,n,k,m,j,fun b f=>⟨(d b f).1,fun i x r=>?_⟩⟩
 obtain ⟨cs,p,q,l⟩:=(d b f).2 i x r
 exact ⟨cs,p.le g,q,hr.up g l⟩
theorem Sl.up [Rep R] (h:Sl sz R σ v xs) (a:Stp w σ w' σ'):Sl sz R σ' v xs:=h.le a.le
theorem Sl.max (h:Sl sz R σ v xs):xs.length≤9223372036854775807:=by
 obtain ⟨a,b,g,f,c,d⟩:=h
 simp only[maxLen] at c;omega
theorem Sl.nil:Sl sz R σ (.slice none 0 0) ([]:List α):=⟨none,0,rfl,by simp,by simp,fun _=>rfl,fun b a=>by cases a⟩
theorem Q1S {c e t:TypeId} {cs:List Bool} [ts:TS P c e] {a:Option Addr} {n b:Nat}:X3 P .len [c] t cs [.slice a n b] w K=K (I n) w:=by
 have h:(Builtin.len_ #[c] t #[.slice a n b]).run P w= .ok (I n) w:=by
  simp[Builtin.len_,run_underlying ts.h,goInt]
 exact X9 h
theorem X3H {b e t:TypeId} {cs:List Bool} [ts:TS P b e] (h:Sl sz R σ v xs):X3 P .len [b] t cs [v] w K=K (I xs.length) w:=by
 obtain ⟨a,c,rfl,_⟩:=h
 exact Q1S
theorem X3T {t e:TypeId} {c:Nat} {z:Value} [TS P t e] [TZ P e sz c z] (h:Sl sz R σ v xs) {k:IntKind} {i:Int} (g:0≤i) (m:i.toNat<xs.length)
 (l: ∀a cs,Z6 σ a cs→cs.length=sz→R σ xs[i.toNat] cs→K (.pointer (some a)) w):indexAddr P t v (.int k i) w K:=by
 obtain ⟨a,o,rfl,q,r,d,f⟩:=h
 cases a with
 | none=>have:=d rfl;omega
 | some b=>
  rw[Se g (by omega)]
  obtain ⟨cs,n,p,j⟩:=(f b rfl).2 i.toNat xs[i.toNat] (by simp[m])
  exact l _ cs n p j
end
theorem Stp.turn {σ0 σ:Q6} {row:Option Nat} (b:w.grownBy w' row) (a:Stp w0 σ0 w σ) (d: ∀k,row=some k→w0.heap.size≤k∧σ k=none):Stp w0 σ0 w' σ:=by
 refine ⟨⟨b.os.trans a.bel.os,b.tape.trans a.bel.tape,b.output.trans a.bel.output,Nat.le_trans a.bel.size b.size,fun k f=>?_⟩,?_,a.le,a.old⟩
 ·refine (b.block k (Nat.lt_of_lt_of_le f a.bel.size) ?_).trans (a.bel.block k f)
  intro e;have:=(d k e.symm).1;omega
 ·intro k o c
  refine (b.block k (a.sat.lt c) ?_).trans (a.sat k o c)
  intro e;rw[(d k e.symm).2] at c;cases c
theorem Y3.turn {σ:Q6} {row:Option Nat} {k:Nat} {cs:List Value} (h:Y3 σ w k cs) (d:w.grownBy w' row) (a:some k≠row):Y3 σ w' k cs:=by
 have f:=h.lt
 obtain ⟨b,e,c⟩:=h
 exact ⟨b,e,(d.block k f a).trans c⟩
def V6 {α:Type} (B:Nat) (e:TypeId) (sz:Nat) (R:Q6→α→List Value→Prop) (σ:Q6) (w:World) (v:Value) (xs:List α):Prop:=
 ∃cells,w.ownsRow B e sz v xs.length cells∧(∀k,v.ownBlock=some k→σ k=none)∧ ∀i x,xs[i]? =some x→R σ x ((cells.drop (i*sz)).take sz)
section
variable {α : Type} {R : Q6 → α → List Value → Prop} {B sz : Nat} {e : TypeId} {σ σ' : Q6} {v u : Value} {xs ys : List α}
theorem V6.nil:V6 B e sz R σ w (.slice none 0 0) ([]:List α):=⟨[],World.ownsRow_nil w B e sz,by intro k a;simp[Value.ownBlock] at a,by intro i x h;simp at h⟩
theorem V6.mem (h:V6 B e sz R σ w v xs): ∀k,v.ownBlock=some k→B≤k∧k<w.heap.size∧σ k=none:=by
 obtain ⟨cells,d,f,_⟩:=h
 intro k c
 obtain ⟨a,b⟩:=d.lt k c
 exact ⟨a,b,f k c⟩
theorem V6.up [hr:Rep R] (h:V6 B e sz R σ w v xs) (a:Stp w σ w' σ'):V6 B e sz R σ' w' v xs:=by
 obtain ⟨cells,c,d,j⟩:=h
 refine ⟨cells,c.kept ⟨a.bel.os,a.bel.tape,a.bel.output,a.bel.size,fun k f _=>a.bel.block k f⟩ (by cases b:v.ownBlock<;>simp) (row:=none),?_,fun i x g=>hr.up a.le (j i x g)⟩
 intro k b
 rw[a.old k (c.lt k b).2];exact d k b
theorem Sl.cells (h:Sl sz R σ v xs) (H:X2 w σ) [hr:Rep R]: ∃(a:Option Addr) (d:Nat) (c:List Value),v= .slice a xs.length d∧(a=none→d=0)∧c.length=xs.length*sz∧(∀b,a=some b→ ∀j u,c[j]? =some u→w.cell? (b.add j)=some u)∧(∀u∈c,u.oneCell'=true)∧
 ∀i x,xs[i]? =some x→R σ x ((c.drop (i*sz)).take sz):=by
 obtain ⟨a,d,rfl,L,O,g,s⟩:=h
 cases a with
 | none=>
  have M:=g rfl
  have f:xs=[]:=List.eq_nil_of_length_eq_zero (by omega)
  subst f
  exact ⟨none,d,[],rfl,g,by simp,fun b C=>(by cases C),by simp,by simp⟩
 | some b=>
  obtain ⟨E,m⟩:=s b rfl
  clear s
  have key: ∀(ys:List α) (k:Nat),(∀i x,ys[i]? =some x→ ∃cs,Z6 σ (b.add ((k+i)*sz)) cs∧cs.length=sz∧R σ x cs)→
   ∃c:List Value,c.length=ys.length*sz∧(∀j u,c[j]? =some u→w.cell? (b.add (k*sz+j))=some u)∧(∀u∈c,u.oneCell'=true)∧ ∀i x,ys[i]? =some x→R σ x ((c.drop (i*sz)).take sz):=by
   intro ys
   induction ys with
   | nil=>intro k _;exact ⟨[],by simp,by simp,by simp,by simp⟩
   | cons y r D=>
    intro k z
    obtain ⟨cs,J,A,t⟩:=z 0 y rfl
    obtain ⟨c,n,o,l,q⟩:=D (k+1) (fun i x f=>by
     have:=z (i+1) x (by simpa using f)
     rwa [show k+1+i=k+(i+1) by omega])
    refine ⟨cs++c,by simp[n,A,Nat.add_mul,Nat.add_comm],?_,?_,?_⟩
    ·intro j u hu
     by_cases N:j<sz
     ·rw[List.getElem?_append_left (by omega)] at hu
      have:=J.cell H hu
      rwa [Q4i,Nat.add_zero] at this
     ·rw[List.getElem?_append_right (by omega)] at hu
      have:=o _ _ hu
      rwa [A,show (k+1)*sz+(j-sz)=k*sz+j by rw[Nat.add_mul];omega] at this
    ·intro u hu
     rcases List.mem_append.1 hu with hu | hu
     ·exact hr.one t u hu
     ·exact l u hu
    ·intro i x f
     cases i with
     | zero=>
      simp at f;subst f
      simp only[Nat.zero_mul,List.drop_zero]
      rw[List.take_append_of_le_length (by omega),List.take_of_length_le (by omega)];exact t
     | succ i=>
      have:=q i x (by simpa using f)
      rw[show (i+1)*sz=cs.length+i*sz by rw[Nat.add_mul];omega,List.drop_append]
      simpa [List.drop_eq_nil_of_le] using this
  obtain ⟨c,n,o,l,q⟩:=key xs 0 (fun i x f=>by rw[Nat.zero_add];exact m i x f)
  refine ⟨some b,d,c,rfl,g,n,?_,l,q⟩
  intro Q p j u hu
  cases p
  have:=o j u hu
  rwa [Nat.zero_mul,Nat.zero_add] at this
end
section
variable {α : Type} {R : Q6 → α → List Value → Prop} {sz : Nat} {e : TypeId} {σ σ0 : Q6} {v u : Value} {xs ys : List α}
theorem Wr (cells a:List Value) (n i:Nat) (c:cells.length=n*sz) (b:i<n):((cells++a).drop (i*sz)).take sz=(cells.drop (i*sz)).take sz:=by
 have h:i*sz+sz≤n*sz:=by rw[←Nat.succ_mul];exact Nat.mul_le_mul_right _ b
 rw[List.drop_append_of_le_length (by omega),List.take_append_of_le_length (by simp only[List.length_drop];omega)]
theorem app {t A:TypeId} {o:Nat} {z:Value} {cs:List Bool} [ts:TS P t e] [tz:TZ P e sz o z] [hr:Rep R] (C:Stp w0 σ0 w σ) (ha:V6 w0.heap.size e sz R σ w v xs) (X:Sl sz R σ u ys) (E:(z.cells.size==sz&&decide (0<sz))=true)
 (hb:(xs.length+ys.length)*o≤140737488355328) (hm:xs.length+ys.length≤9223372036854775807)
 (h: ∀f w',w.grownBy w' v.ownBlock→Stp w0 σ0 w' σ→V6 w0.heap.size e sz R σ w' f (xs++ys)→(f.ownBlock=v.ownBlock∨ ∀k,f.ownBlock=some k→w.heap.size≤k)→K f w'):X3 P .append [t,t] A cs [v,u] w K:=by
 obtain ⟨cells,s,O,h3⟩:=ha
 obtain ⟨a,m,c,rfl,U,V,Y,n4,n5⟩:=X.cells C.sat
 obtain ⟨i,J,H,M,r⟩:=tz.info
 have q: ∀f w',(Builtin.append_ #[t,t] A #[v, .slice a ys.length m]).run P w= .ok f w'→w'.ownsRow w0.heap.size e sz f (xs.length+ys.length) (cells++c)→w.grownBy w' v.ownBlock→(f.ownBlock=v.ownBlock∨f.ownBlock=some w.heap.size)→X3 P .append [t,t] A cs [v, .slice a ys.length m] w K:=by
  intro f w' y d l hat
  have p:(builtin .append #[t,t] A cs.toArray #[v, .slice a ys.length m]).run P w= .ok (.value f) w':=by
   simp[builtin,y]
  unfold X3
  rw[Qa];unfold T2
  rw[p]
  refine h f w' l (Stp.turn l C fun k n=>⟨(s.lt k n).1,O k n⟩) ⟨cells++c,by rw[List.length_append];exact d,?_,?_⟩ ?_
  ·intro k n
   rcases hat with hat | hat
   ·exact O k (hat▸n)
   ·rw[hat] at n;cases n;exact C.sat.none (Nat.le_refl _)
  ·intro j x D
   by_cases Q:j<xs.length
   ·rw[List.getElem?_append_left Q] at D
    rw[Wr cells c xs.length j s.1 Q]
    exact h3 j x D
   ·rw[List.getElem?_append_right (by omega)] at D
    have:=n5 _ _ D
    rw[show j*sz=cells.length+(j-xs.length)*sz by rw[s.1,←Nat.add_mul];congr 1;omega,List.drop_append]
    simpa [List.drop_eq_nil_of_le] using this
  ·rcases hat with hat | hat
   ·exact .inl hat
   ·right;intro k n;rw[hat] at n;cases n;exact Nat.le_refl _
 simp only[Bool.and_eq_true,beq_iff_eq,decide_eq_true_eq] at E
 cases a with
 | some b=>
  obtain ⟨f,w',g1,g2,g3,_,g5⟩:=run_append_own_at (P:=P) w w0.heap.size t A e i z sz o ts.h J r H M E.1 E.2 v xs.length cells s b ys.length m c V (Y b rfl) n4 (by simp only[maxLen];omega) hb C.bel.size
  exact q f w' g1 g2 g3 g5
 | none=>
  have hy:ys=[]:=List.eq_nil_of_length_eq_zero (by obtain ⟨a',W,e',q1,_,q3,_⟩:=X;injection e' with _ e2 e3;have:=U rfl;subst e3;omega)
  have L:=U rfl
  subst hy L
  have Z:c=[]:=List.eq_nil_of_length_eq_zero (by simpa using V)
  subst Z
  have d:=s
  rcases s.2 with ⟨rfl,h0⟩ | ⟨g,m,aa,rfl,ae,hg,N,_⟩
  ·refine q (.slice none 0 0) w ?_ (by simpa using d) (World.grownBy.refl w _) (.inl rfl)
   simp[Builtin.append_,run_underlying ts.h,sizeOf,typeInfo,J,Builtin.lenOf,Builtin.firstCells]
  ·refine q _ w ?_ (by simpa using d) (World.grownBy.refl w _) (.inl rfl)
   simp[Builtin.append_,run_underlying ts.h,sizeOf,typeInfo,J,Builtin.lenOf,Builtin.firstCells,N,storeCells]
end
section
variable {α : Type} {R : Q6 → α → List Value → Prop} {sz : Nat} {e : TypeId} {σ σ0 : Q6} {v u : Value} {xs ys : List α}
theorem Q6.put_le {w:World} (d:X2 w σ) {b:Nat} (h:σ b=none) (o:Obj): ∀k p,σ k=some p→(σ.put b o) k=some p:=by
 intro k p c
 by_cases a:k=b
 ·subst a;rw[h] at c;cases c
 ·simp only[Q6.put,if_neg a];exact c
theorem Stp.put {b:Nat} {o:Obj} (c:Stp w0 σ0 w σ) (f:σ b=none) (h:w0.heap.size≤b) (g:w.heap[b]? =some o):Stp w0 σ0 w (σ.put b o):=by
 refine ⟨c.bel,?_,fun k p a=>Q6.put_le c.sat f o k p (c.le k p a),?_⟩
 ·intro k p a
  by_cases d:k=b
  ·subst d;simp only[Q6.put,if_true] at a;cases a;exact g
  ·simp only[Q6.put,if_neg d] at a;exact c.sat k p a
 ·intro k a
  simp only[Q6.put];rw[if_neg (by omega)];exact c.old k a
theorem V6.keep [hr:Rep R] (h:V6 w0.heap.size e sz R σ w v xs) (m:Stp w0 σ0 w σ): ∃σ',Stp w0 σ0 w σ'∧Sl sz R σ' v xs∧(∀k o,σ k=some o→σ' k=some o)∧(∀k,some k≠v.ownBlock→σ' k=σ k):=by
 obtain ⟨cells,s,A,J⟩:=h
 rcases s.2 with ⟨rfl,C⟩ | ⟨g,q,c,rfl,z,H,p,f,y,n⟩
 ·have:xs=[]:=List.eq_nil_of_length_eq_zero C
  subst this
  exact ⟨σ,m,Sl.nil,fun _ _ h=>h,fun _ _=>rfl⟩
 ·have r:=A g rfl
  have a:=Q6.put_le m.sat r (.cells c e (0,0))
  refine ⟨σ.put g (.cells c e (0,0)),m.put r z H,⟨_,q,rfl,p,f,by simp,?_⟩,a,?_⟩
  ·intro b l
   cases l
   refine ⟨fun _=>rfl,fun i x t=>⟨(cells.drop (i*sz)).take sz,⟨K2 rfl _,c,e,(0,0),by rw[S9];simp[Q6.put],?_⟩,?_,hr.up a (J i x t)⟩⟩
   ·intro j u d
    rw[Qf]
    rw[List.getElem?_take] at d
    split at d
    ·rw[List.getElem?_drop,←n,List.getElem?_take] at d
     split at d
     ·simpa using d
     ·cases d
    ·cases d
   ·have D:i<xs.length:=(List.getElem?_eq_some_iff.1 t).1
    have h:i*sz+sz≤xs.length*sz:=by rw[←Nat.succ_mul];exact Nat.mul_le_mul_right _ D
    rw[List.length_take,List.length_drop,s.1];omega
  ·intro k E
   have:k≠g:=by intro e;subst e;exact E rfl
   simp only[Q6.put,if_neg this]
theorem Sl.piece {a:Option Addr} {n d:Nat} (h:Sl sz R σ (.slice a n d) xs) (l m:Nat) (M:l+m≤xs.length):Sl sz R σ (.slice (if d=l then a else a.map (·.add (l*sz))) m (d-l)) ((xs.drop l).take m):=by
 obtain ⟨N,q,y,L,O,r,k⟩:=h
 injection y with z D t
 subst z D t
 have c:((xs.drop l).take m).length=m:=by simp;omega
 refine ⟨_,d-l,by rw[c],by rw[c];omega,by omega,?_,?_⟩
 ·intro j
  split at j
  ·omega
  ·cases a with
   | none=>have:=r rfl;omega
   | some b=>simp at j
 ·intro b f
  split at f
  ·rename_i s
   obtain ⟨p,o⟩:=k b f
   have H:m=0:=by omega
   subst H
   exact ⟨fun h=>by simp at h,by simp⟩
  ·cases a with
   | none=>simp at f
   | some C=>
    simp only[Option.map_some,Option.some.injEq] at f
    obtain ⟨p,o⟩:=k C rfl
    subst f
    refine ⟨fun h=>K2 (p (by rw[c] at h;omega)) _,fun i x g=>?_⟩
    rw[List.getElem?_take] at g
    split at g
    ·rw[List.getElem?_drop] at g
     obtain ⟨cs,E,J,A⟩:=o _ _ g
     refine ⟨cs,?_,J,A⟩
     rw[Q4i,←Nat.add_mul];exact E
    ·cases g
theorem Ez {t:TypeId} {f:Nat} {z:Value} [ts:TS P t e] [tz:TZ P e sz f z] (h:Sl sz R σ v xs) (c d:Option Value) (l m:Nat) (i:c=none∧l=0∨c=some (I l)) (j:d=none∧m=xs.length∨d=some (I m)) (g:l≤m) (D:m≤xs.length)
 (p: ∀k,Sl sz R σ k ((xs.drop l).take (m-l))→K k w):R8 P t v c d none w K:=by
 have n:=h
 obtain ⟨a,b,rfl,y,C,q,r⟩:=h
 have hh: ∀w:World,(Instr.sliceBounds true xs.length b c d none).run P w= .ok (l,m,b) w:=by
  intro w
  have A:(m:Int)≤b:=by omega
  have s:(l:Int)≤m:=by omega
  have o:m≤b:=by omega
  rcases i with ⟨rfl,rfl⟩ | rfl<;>rcases j with ⟨rfl,rfl⟩ | rfl<;>
   simp[Instr.sliceBounds,Instr.sliceBound,asIntOf,o,g]<;>intros<;>omega
 unfold R8
 have:(Instr.sliceAt t (.slice a xs.length b) c d none).run P w= .ok (.slice (if b=l then a else a.map (·.add (l*sz))) (m-l) (b-l)) w:=by
  simp[Instr.sliceAt,run_underlying ts.h,Instr.slice,hh,L5 tz]
 rw[X9 this]
 exact p _ (n.piece l (m-l) (by omega))
def en:Nat→List Value→List (Nat×Value)
 | _,[]=>[]
 | i,v::r=>(i,v)::en (i+1) r
theorem X0m (off:Nat): ∀(vs:List Value) (k:Nat) (cs:Array Value),off+k+vs.length≤cs.size→
 ((vs.zipIdx k).foldl (fun cs (p:Value×Nat)=>cs.setIfInBounds (off+p.2) p.1) cs).toList=cs.toList.take (off+k)++vs++cs.toList.drop (off+k+vs.length):=by
 intro vs
 induction vs with
 | nil=>intro k cs _;simp
 | cons v r ih=>
  intro k cs h
  simp only[List.length_cons] at h
  rw[List.zipIdx_cons,List.foldl_cons,ih (k+1) _ (by simp;omega)]
  simp only[Array.toList_setIfInBounds,List.length_cons]
  apply List.ext_getElem?
  intro i
  simp only[List.getElem?_append,List.length_take,List.length_set,Array.length_toList,List.getElem?_take,List.getElem?_drop,List.length_append,List.getElem?_set,List.length_cons]
  rcases Nat.lt_trichotomy i (off+k) with hi | hi | hi
  ·simp[show i<off+(k+1) by omega,hi,show i<min (off+(k+1)) cs.size by omega,show i<min (off+(k+1)) cs.size+r.length by omega,show i<min (off+k) cs.size by omega,show i<min (off+k) cs.size+(r.length+1) by omega,show off+k≠i by omega]
  ·subst hi
   simp[show off+k<off+(k+1) by omega,show off+k<min (off+(k+1)) cs.size by omega,show off+k<min (off+(k+1)) cs.size+r.length by omega,show¬off+k<min (off+k) cs.size by omega,show off+k<min (off+k) cs.size+(r.length+1) by omega,show off+k<cs.size by omega,show off+k-min (off+k) cs.size=0 by omega]
  ·by_cases h2:i<off+(k+1)+r.length
   ·simp[show¬i<min (off+(k+1)) cs.size by omega,show i<min (off+(k+1)) cs.size+r.length by omega,show¬i<min (off+k) cs.size by omega,show i<min (off+k) cs.size+(r.length+1) by omega,show i-min (off+k) cs.size=(i-min (off+(k+1)) cs.size)+1 by omega]
   ·simp only[show¬i<min (off+(k+1)) cs.size+r.length by omega,show¬i<min (off+k) cs.size+(r.length+1) by omega,if_false]
    rw[show off+(k+1)+r.length+(i-(min (off+(k+1)) cs.size+r.length))=i by omega,show off+k+(r.length+1)+(i-(min (off+k) cs.size+(r.length+1)))=i by omega,if_neg (by omega)]
theorem Q7M (sz:Nat): ∀(vs:List Value) (i:Nat) (cs:Array Value),(i+vs.length)*sz≤cs.size→(∀v∈vs,v.cells.size=sz)→
 ∃cs',Instr.fill (fun i=>some (i*sz,sz)) cs (en i vs)=some cs'∧cs'.toList=cs.toList.take (i*sz)++vs.flatMap (·.cells.toList)++cs.toList.drop ((i+vs.length)*sz):=by
 intro vs
 induction vs with
 | nil=>intro i cs _ _;exact ⟨cs,rfl,by simp⟩
 | cons v r ih=>
  intro i cs h hv
  have hv0:=hv v (by simp)
  simp only[List.length_cons] at h
  have h1:i*sz+sz≤cs.size:=by
   have:(i+1)*sz≤(i+(r.length+1))*sz:=Nat.mul_le_mul_right _ (by omega)
   rw[Nat.succ_mul] at this;omega
  have hset:=X0m (i*sz) v.cells.toList 0 cs (by simp;omega)
  simp only[Nat.add_zero] at hset
  have e1:v.cells.zipIdx.foldl (fun cs (p:Value×Nat)=>cs.setIfInBounds (i*sz+p.2) p.1) cs=(v.cells.toList.zipIdx 0).foldl (fun cs (p:Value×Nat)=>cs.setIfInBounds (i*sz+p.2) p.1) cs:=by
   rw[←Array.foldl_toList,Array.toList_zipIdx]
  have hsz':((v.cells.toList.zipIdx 0).foldl (fun cs (p:Value×Nat)=>cs.setIfInBounds (i*sz+p.2) p.1) cs).size=cs.size:=by
   rw[←Array.length_toList,hset]
   simp;omega
  obtain ⟨cs',q1,q2⟩:=ih (i+1) _ (by rw[hsz'];rw[show i+1+r.length=i+(r.length+1) by omega];exact h) (fun u hu=>hv u (by simp[hu]))
  refine ⟨cs',?_,?_⟩
  ·simp only[en,Instr.fill]
   rw[if_neg (by simp[hv0];omega)]
   rw[e1];exact q1
  ·rw[q2,hset]
   simp only[List.flatMap_cons,List.length_cons,Array.length_toList,hv0]
   have e2:(i+1)*sz=i*sz+sz:=by rw[Nat.succ_mul]
   have e3:(i+(r.length+1))*sz=i*sz+sz+r.length*sz:=by rw[Nat.add_mul,Nat.succ_mul];omega
   have e4:(i+1+r.length)*sz=i*sz+sz+r.length*sz:=by rw[Nat.add_mul,Nat.succ_mul]
   rw[e2,e3,e4]
   have t1:(cs.toList.take (i*sz)).length=i*sz:=by simp;omega
   have t2:(cs.toList.take (i*sz)++v.cells.toList).length=i*sz+sz:=by rw[List.length_append,t1];simp[hv0]
   have k1: ∀C:List Value,(cs.toList.take (i*sz)++v.cells.toList++C).take (i*sz+sz)=cs.toList.take (i*sz)++v.cells.toList:=by
    intro C
    rw[List.take_append_of_le_length (by omega),List.take_of_length_le (by omega)]
   have k2: ∀(C:List Value) (n:Nat),(cs.toList.take (i*sz)++v.cells.toList++C).drop (i*sz+sz+n)=C.drop n:=by
    intro C n
    rw[List.drop_append,t2,List.drop_eq_nil_of_le (by omega),List.nil_append]
    congr 1;omega
   rw[k1,k2,List.drop_drop]
   simp only[List.append_assoc]
theorem Ra {t:TypeId} {by_:Nat} {z:Value} [ts:TS P t e] [tz:TZ P e sz by_ z] (vs:List Value) (hv: ∀v∈vs,v.cells.size=sz) (hsm:vs.length*sz≤16777216) (w:World):
 ∃cells:Array Value,(Instr.buildSlice t vs.length (en 0 vs).toArray).run P w= .ok (.slice (some ⟨w.heap.size,0,none⟩) vs.length vs.length) (w.alloc (.cells cells e))∧cells.toList=vs.flatMap (·.cells.toList):=by
 have h2: ¬vs.length*sz>2 ^ 24:=by omega
 by_cases h:vs.length*sz=0
 ·obtain ⟨cells,hf,hl⟩:=Q7M sz vs 0 ((Array.range (vs.length*sz)).map ((#[]:Array Value)[· % (#[]:Array Value).size]!)) (by simp) hv
  refine ⟨cells,?_,by rw[hl];simp⟩
  simp only[Instr.buildSlice,Sem.run_bind,run_underlying ts.h,Result.andThen_ok,L5 tz,if_neg h2,if_pos h,Sem.run_pure,hf]
  simp[newRow]
 ·obtain ⟨cells,hf,hl⟩:=Q7M sz vs 0 ((Array.range (vs.length*sz)).map (z.cells[· % z.cells.size]!)) (by simp) hv
  refine ⟨cells,?_,by rw[hl];simp⟩
  simp only[Instr.buildSlice,Sem.run_bind,run_underlying ts.h,Result.andThen_ok,L5 tz,if_neg h2,if_neg h,Sem.run_pure,Zr tz,hf]
  simp[newRow]
theorem Q96 {vs:List Value} (d: ∀v∈vs,v.cells.size=sz) (i:Nat) (v:Value) (h:vs[i]? =some v):((vs.flatMap (·.cells.toList)).drop (i*sz)).take sz=v.cells.toList:=by
 induction vs generalizing i with
 | nil=>simp at h
 | cons a r f=>
  have b:=d a (by simp)
  cases i with
  | zero=>
   simp at h;subst h
   rw[List.flatMap_cons,Nat.zero_mul,List.drop_zero,List.take_append_of_le_length (by simp[b]),List.take_of_length_le (by simp[b])]
  | succ i=>
   rw[List.flatMap_cons,Nat.succ_mul,List.drop_append,List.drop_eq_nil_of_le (by simp[b]),List.nil_append]
   rw[show i*sz+sz-a.cells.toList.length=i*sz by simp[b]]
   exact f (fun v c=>d v (by simp[c])) i (by simpa using h)
theorem Q2P {vs:List Value} (b: ∀v∈vs,v.cells.size=sz):(vs.flatMap (·.cells.toList)).length=vs.length*sz:=by
 induction vs with
 | nil=>simp
 | cons a r c=>
  rw[List.flatMap_cons,List.length_append,c (fun v h=>b v (by simp[h]))]
  simp[b a (by simp),Nat.succ_mul,Nat.add_comm]
def Q0P (R:Q6→α→List Value→Prop) (σ:Q6):List Value→List α→Prop
 | [],[]=>True
 | v::vs,x::xs=>R σ x v.cells.toList∧Q0P R σ vs xs
 | _,_=>False
theorem Q0P.len {vs:List Value} (h:Q0P R σ vs xs):vs.length=xs.length:=by
 induction vs generalizing xs with
 | nil=>cases xs with
  | nil=>rfl
  | cons=>exact h.elim
 | cons v r a=>cases xs with
  | nil=>exact h.elim
  | cons x y=>simp[a h.2]
theorem Q0P.get {vs:List Value} (h:Q0P R σ vs xs) {i:Nat} {x:α} (a:xs[i]? =some x): ∃v,vs[i]? =some v∧R σ x v.cells.toList:=by
 induction vs generalizing xs i with
 | nil=>cases xs with
  | nil=>simp at a
  | cons=>exact h.elim
 | cons v r c=>cases xs with
  | nil=>exact h.elim
  | cons y ys=>
   cases i with
   | zero=>simp at a;subst a;exact ⟨v,rfl,h.1⟩
   | succ i=>obtain ⟨u,b,d⟩:=c h.2 (i:=i) (by simpa using a);exact ⟨u,by simpa using b,d⟩
theorem Zf {t:TypeId} {g:Nat} {z:Value} {n:Nat} {a:List (Nat×Value)} [ts:TS P t e] [tz:TZ P e sz g z] (l:Stp w0 σ0 w σ) (vs:List Value) (xs:List α) (p:n=vs.length) (q:a=en 0 vs) (c: ∀v∈vs,v.cells.size=sz) (b:(decide (0<sz)&&decide (vs.length*sz≤16777216))=true) (o:Q0P R σ vs xs)
 (h: ∀v w',Stp w σ w' σ→V6 w0.heap.size e sz R σ w' v xs→(∀k,v.ownBlock=some k→w.heap.size≤k)→K v w'):buildSlice P t n a w K:=by
 subst p q
 simp only[Bool.and_eq_true,decide_eq_true_eq] at b
 obtain ⟨j,b⟩:=b
 obtain ⟨cells,y,d⟩:=Ra (P:=P) (t:=t) vs c b w
 unfold buildSlice
 rw[X9 y]
 have f:=o.len
 refine h _ _ (Stp.own l.sat _) ⟨cells.toList,⟨by rw[d,Q2P c,f], .inr ⟨_,_,cells,by rw[f],l.bel.size,heap_alloc_new w _,by omega,?_,?_,?_⟩⟩,?_,?_⟩ ?_
 ·simp only[maxLen]
  have:vs.length*1≤vs.length*sz:=Nat.mul_le_mul_left _ j
  omega
 ·rw[←Array.length_toList,d,Q2P c,f]
 ·rw[List.take_of_length_le (by rw[d,Q2P c,f];exact Nat.le_refl _)]
 ·intro k m;cases m;exact l.sat.none (Nat.le_refl _)
 ·intro i x A
  obtain ⟨v,s,r⟩:=o.get A
  rw[d,Q96 c i v s];exact r
 ·intro k m;cases m;exact Nat.le_refl _
theorem T4 [Rep R] {t:TypeId} {b:Nat} {z:Value} {n:Nat} {a:List (Nat×Value)} [ts:TS P t e] [tz:TZ P e sz b z] (k:X2 w σ) (vs:List Value) (xs:List α) (f:n=vs.length) (g:a=en 0 vs) (d: ∀v∈vs,v.cells.size=sz) (c:(decide (0<sz)&&decide (vs.length*sz≤16777216))=true) (i:Q0P R σ vs xs)
 (h: ∀v w' σ',Stp w σ w' σ'→Sl sz R σ' v xs→K v w'):buildSlice P t n a w K:=by
 refine Zf (Stp.refl k) vs xs f g d c i fun v w' j m _=>?_
 obtain ⟨σ',l,o,_⟩:=m.keep j
 exact h v w' σ' l o
theorem X2l {t:TypeId} {k a:Nat} {b:TypeId} [tf:TF P t k a b] [tg:TG P b false] {cs:Array Value} {v:Value} (d:cs[a]? =some v):F5 P t (.agg cs) k w K=K v w:=by
 unfold F5
 have hh:=tf.h
 unfold Q4a at hh
 split at hh
 ·rename_i m j
  obtain ⟨f,l,c⟩:=Option.map_eq_some_iff.1 hh
  simp only[Prod.mk.injEq] at c
  obtain ⟨g,i⟩:=c
  subst i g
  exact X9 (by simp[Instr.field,run_underlying j,l,asAgg,part,Xq tg,d])
 ·cases hh
theorem Qh {f:Fn} {first caps:List Value}:E7 P f first caps w K=K (.func f first.toArray caps.toArray) w:=X9 (by simp[Instr.makeFunc])
theorem W3 {t:TypeId} {a:List (Nat×Value)} {cells:Array Value} (h:P.built t a=some cells) (b:K (.agg cells) w):H3 P t a w K:=by
 unfold H3
 rw[X9 (run_build w t a.toArray cells h)];exact b
end
def H2 (o:Option Obj) (m:List (List UInt8×Value)):Prop:=
 ∃b a,o=some (.map b a)∧b.toList.map (fun e=>(e.key,e.val))=m.map (fun p=>(S p.1,p.2))∧(b.toList.map (·.born)).Pairwise (· < ·)∧ ∀e∈b.toList,e.born<a
def C3 (m:List (List UInt8×Value)) (k:List UInt8):Option Value:=match m with
 | []=>none
 | p::r=>if p.1=k then some p.2 else C3 r k
def Ww (m:List (List UInt8×Value)) (k:List UInt8) (v:Value):List (List UInt8×Value):=match m with
 | []=>[(k,v)]
 | p::r=>if p.1=k then (k,v)::r else p::Ww r k v
theorem Hi (a b:List UInt8):((⟨a.toArray⟩:ByteArray)==⟨b.toArray⟩)=decide (a=b):=by
 rw[←Q3W]
 show (a.toArray==b.toArray)=_
 simp
theorem Bk (k:List UInt8): ∀(c:List MapEntry) (m:List (List UInt8×Value)) (i:Nat),c.map (fun e=>(e.key,e.val))=m.map (fun p=>(S p.1,p.2))→
 ∃r,Instr.findNow .string (S k) c i=some r∧r.map (·.2)=C3 m k∧(∀j v,r=some (j,v)→i≤j∧(∃e,c[j-i]? =some e∧e.key=S k)∧ ∀u,(c.modify (j-i) fun e=>{e with key:=S k,val:=u}).map (fun e=>(e.key,e.val))=(Ww m k u).map (fun p=>(S p.1,p.2)))∧
  (r=none→ ∀u,Ww m k u=m++[(k,u)]):=by
 intro c
 induction c with
 | nil=>
  intro m i h
  cases m with
  | nil=>exact ⟨none,rfl,rfl,(by simp),fun _ u=>rfl⟩
  | cons=>simp at h
 | cons e r z=>
  intro m i h
  cases m with
  | nil=>simp at h
  | cons p q=>
   simp only[List.map_cons,List.cons.injEq,Prod.mk.injEq] at h
   obtain ⟨⟨f,g⟩,l⟩:=h
   simp only[Instr.findNow,f,Instr.sameNow,Hi]
   by_cases a:p.1=k
   ·have d:decide (k=p.1)=true:=by simp[a]
    simp only[d]
    refine ⟨_,rfl,by simp[C3,a,g],?_,by simp⟩
    intro j v b
    cases b
    refine ⟨Nat.le_refl _,⟨e,by simp,by rw[f,a]⟩,fun u=>?_⟩
    simp[Ww,a,l]
   ·have d:decide (k=p.1)=false:=by simp;exact fun e=>a e.symm
    simp only[d]
    obtain ⟨n,y,t,C,s⟩:=z q (i+1) l
    refine ⟨n,y,by simp[C3,a,t],?_,?_⟩
    ·intro j v b
     obtain ⟨E,A,D⟩:=C j v b
     refine ⟨by omega,by rw[show j-i=(j-(i+1))+1 by omega];simpa using A,fun u=>?_⟩
     have:=D u
     rw[show j-i=(j-(i+1))+1 by omega]
     simp[Ww,a,f,g,this]
    ·intro o u
     simp[Ww,a,s o u]
theorem I8 {t:TypeId} (a:P.underlying t=some .string) (b:Bool) (k:List UInt8) (w:World):(Instr.checkKey b 10000 t (S k)).run P w= .ok () w:=by
 unfold Instr.checkKey
 simp[run_underlying a]
theorem Q2R {t j i:TypeId} {sz d:Nat} {z:Value} [tm:TM P t j i] [tz:TZ P i sz d z] (c:P.underlying j=some .string) {r:Nat} {m:List (List UInt8×Value)} (s:H2 (w.heap[r]?) m) (k:List UInt8):
 lookup P t (.map (some r)) (S k) true w K=K (match C3 m k with | some v=> .tuple #[v, .bool true] | none=> .tuple #[z, .bool false]) w:=by
 obtain ⟨f,a,q,n,D,y⟩:=s
 obtain ⟨l,g,b,C,A⟩:=Bk k f.toList m 0 n
 unfold lookup
 refine X9 ?_
 simp only[Instr.lookup,Sem.run_bind,run_underlying tm.h,Result.andThen_ok,Instr.findKey,run_underlying c,g,I8 c]
 have o:(getObj r).run P w= .ok (.map f a) w:=by simp[getObj,Sem.run,q]
 simp only[o,Result.andThen_ok,Sem.run_bind,Sem.run_pure,I8 c,run_underlying c,g]
 cases l with
 | none=>simp at b;rw[←b];simp[Zr tz]
 | some p=>simp at b;rw[←b];simp
theorem Q4r {t i g:TypeId} {sz c:Nat} {z:Value} [tm:TM P t i g] [tz:TZ P g sz c z] (f:P.underlying i=some .string) {r:Nat} {m:List (List UInt8×Value)} (s:H2 (w.heap[r]?) m) (k:List UInt8):
 lookup P t (.map (some r)) (S k) false w K=K ((C3 m k).getD z) w:=by
 obtain ⟨d,a,q,n,D,y⟩:=s
 obtain ⟨j,l,b,C,A⟩:=Bk k d.toList m 0 n
 unfold lookup
 refine X9 ?_
 have o:(getObj r).run P w= .ok (.map d a) w:=by simp[getObj,Sem.run,q]
 simp only[Instr.lookup,Sem.run_bind,run_underlying tm.h,Result.andThen_ok,Instr.findKey,run_underlying f,l,I8 f,o,Sem.run_pure]
 cases j with
 | none=>simp at b;rw[←b];simp[Zr tz]
 | some p=>simp at b;rw[←b];simp
def C4 (σ:Q6) (w:World) (r:Nat) (m:List (List UInt8×Value)):Prop:=σ r=none∧H2 (w.heap[r]?) m
def Xo (σ:Q6) (r:Nat) (m:List (List UInt8×Value)):Prop:=H2 (σ r) m
theorem Xo.is {σ:Q6} {r:Nat} {m:List (List UInt8×Value)} (h:Xo σ r m) (b:X2 w σ):H2 (w.heap[r]?) m:=by
 obtain ⟨f,a,c,d⟩:=h
 exact ⟨f,a,b _ _ c,d⟩
theorem Xo.le {σ σ':Q6} {r:Nat} {m:List (List UInt8×Value)} (h:Xo σ r m) (f: ∀b o,σ b=some o→σ' b=some o):Xo σ' r m:=by
 obtain ⟨g,a,c,d⟩:=h
 exact ⟨g,a,f _ _ c,d⟩
theorem Xo.up {σ σ':Q6} {r:Nat} {m:List (List UInt8×Value)} (h:Xo σ r m) (a:Stp w σ w' σ'):Xo σ' r m:=h.le a.le
theorem C4.lt {σ:Q6} {r:Nat} {m:List (List UInt8×Value)} (h:C4 σ w r m):r<w.heap.size:=by
 obtain ⟨_,c,a,b,_⟩:=h
 exact (Array.getElem?_eq_some_iff.1 b).1
theorem C4.up {σ σ':Q6} {r:Nat} {m:List (List UInt8×Value)} (h:C4 σ w r m) (a:Stp w σ w' σ'):C4 σ' w' r m:=by
 have b:=h.lt
 exact ⟨(a.old r b).trans h.1,(a.bel.block r b).symm▸h.2⟩
theorem Q3E {t:TypeId} {σ:Q6} (a:X2 w σ) (h: ∀r w',w.heap.size≤r→Stp w σ w' σ→C4 σ w' r []→K (.map (some r)) w'):Ku P t none w K:=by
 unfold Ku
 rw[X9 (v:= .map (some w.heap.size)) (w':=w.alloc (.map #[] 0)) (by simp[Instr.makeMap])]
 exact h _ _ (Nat.le_refl _) (Stp.own a _) ⟨a.none (Nat.le_refl _), #[],0,heap_alloc_new w _,rfl,by simp,by simp⟩
theorem C4.keep {σ σ0:Q6} {r:Nat} {m:List (List UInt8×Value)} (h:C4 σ w r m) (c:Stp w0 σ0 w σ) (f:w0.heap.size≤r): ∃σ',Stp w0 σ0 w σ'∧Xo σ' r m∧(∀k o,σ k=some o→σ' k=some o)∧(∀k,k≠r→σ' k=σ k):=by
 obtain ⟨b,d,a,g,i⟩:=h
 exact ⟨σ.put r (.map d a),c.put b f g,⟨d,a,by simp[Q6.put],i⟩,Q6.put_le c.sat b _,fun k j=>by simp only[Q6.put,if_neg j]⟩
theorem Ps {t U et:TypeId} [tm:TM P t U et] (A:P.underlying U=some .string) {σ:Q6} {r:Nat} {m:List (List UInt8×Value)} (hm:C4 σ w r m) (k:List UInt8) (v:Value)
 (h: ∀w',Upd w r w'→C4 σ w' r (Ww m k v)→K undef w'):mapUpdate P t (.map (some r)) (S k) v w K:=by
 obtain ⟨N,l,d,H,M,V,D⟩:=hm
 obtain ⟨X,J,q2,q3,Y⟩:=Bk k l.toList m 0 M
 have Q:(getObj r).run P w= .ok (.map l d) w:=by simp[getObj,Sem.run,H]
 have Z:=(Array.getElem?_eq_some_iff.1 H).1
 have n: ∀o,o=Obj.map l d∨True→(∀c e f,o≠ .cells c e f)→(setObj r o).run P w= .ok () {w with heap:=w.heap.setIfInBounds r o}:=by
  intro o _ _
  simp[setObj,Sem.run,H]
 have z: ∀o,Upd w r {w with heap:=w.heap.setIfInBounds r o}:=fun o=>⟨rfl,rfl,rfl,by simp,fun k A=>by simp only[Array.getElem?_setIfInBounds];rw[if_neg (by omega)]⟩
 have C: ∀o,({w with heap:=w.heap.setIfInBounds r o}:World).heap[r]? =some o:=fun o=>by simp[Array.getElem?_setIfInBounds,Z]
 unfold mapUpdate
 cases X with
 | none=>
  rw[Lh (w':={w with heap:=w.heap.setIfInBounds r (.map (l.push {key:=S k,val:=v,born:=d}) (d+1))}) (by
   simp only[Instr.mapUpdate,Sem.run_bind,run_underlying tm.h,Result.andThen_ok,Instr.findKey,run_underlying A,J,I8 A,Q,Sem.run_pure]
   exact n _ (.inr trivial) (by intros;simp))]
  refine h _ (z _) ⟨N,_,_,C _,?_,?_,?_⟩
  ·rw[Y rfl];simp[M]
  ·simp only[Array.toList_push,List.map_append,List.map_cons,List.map_nil]
   rw[List.pairwise_append]
   refine ⟨V,by simp,?_⟩
   intro a ha b L
   simp at L;subst L
   obtain ⟨e,s,rfl⟩:=List.mem_map.1 ha
   exact D e s
  ·intro e s
   simp at s
   rcases s with s | rfl
   ·have:=D e (by simpa using s);omega
   ·simp
 | some p=>
  obtain ⟨j,u⟩:=p
  obtain ⟨z1,z2,W⟩:=q3 j u rfl
  obtain ⟨e,O,e2⟩:=z2
  simp only[Nat.sub_zero] at O W
  have g:((l.modify j fun e=>{e with key:=S k,val:=v}).toList.map (·.born))=l.toList.map (·.born):=by
   apply List.ext_getElem?
   intro i
   simp only[Array.toList_modify,List.getElem?_map,List.getElem?_modify]
   by_cases E:j=i<;>cases l.toList[i]? <;>simp[E]
  have q:(Instr.keyThatStays (S k) (S k)).run P w= .ok (S k) w:=by
   simp[Instr.keyThatStays,Instr.sameBits,Hi]
  rw[Lh (w':={w with heap:=w.heap.setIfInBounds r (.map (l.modify j fun e=>{e with key:=S k,val:=v}) d)}) (by
   simp only[Instr.mapUpdate,Sem.run_bind,run_underlying tm.h,Result.andThen_ok,Instr.findKey,run_underlying A,J,I8 A,Q,Sem.run_pure]
   rw[show ((l[j]?).map (·.key)).getD (S k)=S k by rw[←Array.getElem?_toList,O];simp[e2]]
   simp only[q,Result.andThen_ok]
   exact n _ (.inr trivial) (by intros;simp))]
  refine h _ (z _) ⟨N,_,_,C _,?_,?_,?_⟩
  ·simp only[Array.toList_modify];exact W v
  ·rw[g];exact V
  ·intro x hx
   have:x.born∈l.toList.map (·.born):=by rw[←g];exact List.mem_map.2 ⟨x,hx,rfl⟩
   obtain ⟨y,hy,e⟩:=List.mem_map.1 this
   rw[←e];exact D y hy
end Go.Emb

namespace Go.Emb
open Go.RowKit
variable {P : Program} {w w0 w1 w' w'' : World} {K : Value → World → Prop}
theorem J3 {c b:Bool} {a:World→(Value→World→Prop)→Prop} (e:c=b→a w K) (d:c=(!b)→K undef w):Q0 (.bool c) b w a K:=by
 cases c<;>cases b
 ·rw[W9];exact e rfl
 ·rw[E2];exact d rfl
 ·rw[S4];exact d rfl
 ·rw[W5];exact e rfl
theorem Q7 {c:Bool} {t e:Prop} (b:c=true→t) (a:c=false→e):X1 (.bool c) t e:=by
 cases c
 ·rw[M5];exact a rfl
 ·rw[H7];exact b rfl
theorem Q8 {α:Type} {R:Q6→α→List Value→Prop} {sz:Nat} {σ:Q6} {v:Value} {xs:List α} {a e t:TypeId} {cs:List Bool} [ts:TS P a e] (h:Sl sz R σ v xs) (b:K (I xs.length) w):X3 P .len [a] t cs [v] w K:=by
 rw[X3H h];exact b
structure Kpt (D : Nat → Prop) (w w' : World) : Prop where
  os : w'.os = w.os
  tape : w'.tape = w.tape
  output : w'.output = w.output
  size : w.heap.size ≤ w'.heap.size
  block : ∀ k, k < w.heap.size → ¬ D k → w'.heap[k]? = w.heap[k]?
theorem Kpt.refl {D:Nat→Prop}:Kpt D w w:=⟨rfl,rfl,rfl,Nat.le_refl _,fun _ _ _=>rfl⟩
theorem Kpt.trans {D:Nat→Prop} (h:Kpt D w w') (k:Kpt D w' w''):Kpt D w w'':=
 ⟨k.os.trans h.os,k.tape.trans h.tape,k.output.trans h.output,Nat.le_trans h.size k.size,fun i b a=>(k.block i (Nat.lt_of_lt_of_le b h.size) a).trans (h.block i b a)⟩
theorem Kpt.of_below {D:Nat→Prop} (h:Below w.heap.size w w'):Kpt D w w':=⟨h.os,h.tape,h.output,h.size,fun k a _=>h.block k a⟩
theorem Kpt.of_grown {D:Nat→Prop} {row:Option Nat} (h:w.grownBy w' row) (a: ∀k,row=some k→D k):Kpt D w w':=⟨h.os,h.tape,h.output,h.size,fun k b c=>h.block k b (fun e=>c (a k e.symm))⟩
theorem Kpt.of_upd {D:Nat→Prop} {b:Nat} (h:Upd w b w') (a:D b):Kpt D w w':=⟨h.os,h.tape,h.output,by rw[h.size];exact Nat.le_refl _,fun k d c=>h.block k (fun e=>c (e▸a))⟩
theorem Kpt.mono {D D':Nat→Prop} (h:Kpt D w w') (c: ∀k,k<w.heap.size→D k→D' k):Kpt D' w w':=⟨h.os,h.tape,h.output,h.size,fun k a b=>h.block k a (fun e=>b (c k a e))⟩
theorem Kpt.below {D:Nat→Prop} (h:Kpt D w w') (b: ∀k,¬D k):Below w.heap.size w w':=⟨h.os,h.tape,h.output,h.size,fun k a=>h.block k a (b k)⟩
theorem Stp.kp {σ0 σ:Q6} {D:Nat→Prop} (a:Stp w0 σ0 w σ) (b:Kpt D w w') (f: ∀k,D k→w0.heap.size≤k∧σ k=none):Stp w0 σ0 w' σ:=by
 refine ⟨⟨b.os.trans a.bel.os,b.tape.trans a.bel.tape,b.output.trans a.bel.output,Nat.le_trans a.bel.size b.size,fun k c=>?_⟩,?_,a.le,a.old⟩
 ·refine (b.block k (Nat.lt_of_lt_of_le c a.bel.size) ?_).trans (a.bel.block k c)
  intro e;have:=(f k e).1;omega
 ·intro k o d
  refine (b.block k (a.sat.lt d) ?_).trans (a.sat k o d)
  intro e;rw[(f k e).2] at d;cases d
theorem Y3.kp {σ:Q6} {D:Nat→Prop} {k:Nat} {cs:List Value} (h:Y3 σ w k cs) (d:Kpt D w w') (a: ¬D k):Y3 σ w' k cs:=by
 have f:=h.lt
 obtain ⟨b,e,c⟩:=h
 exact ⟨b,e,(d.block k f a).trans c⟩
theorem C4.kp {σ:Q6} {D:Nat→Prop} {r:Nat} {m:List (List UInt8×Value)} (h:C4 σ w r m) (b:Kpt D w w') (a: ¬D r):C4 σ w' r m:=
 ⟨h.1,(b.block r h.lt a).symm▸h.2⟩
theorem V6.kp {α:Type} {R:Q6→α→List Value→Prop} {B sz:Nat} {e:TypeId} {σ:Q6} {v:Value} {xs:List α} {D:Nat→Prop} (h:V6 B e sz R σ w v xs) (n:Kpt D w w') (c: ∀k,v.ownBlock=some k→ ¬D k):V6 B e sz R σ w' v xs:=by
 obtain ⟨cells,i,m,o⟩:=h
 refine ⟨cells,⟨i.1,?_⟩,m,o⟩
 rcases i.2 with j | ⟨g,d,b,rfl,l,f,a⟩
 ·exact .inl j
 ·refine .inr ⟨g,d,b,rfl,l,?_,a⟩
  rw[n.block g (Array.getElem?_eq_some_iff.1 f).1 (c g rfl)];exact f
theorem bt {w w1 b:World} (a:Below w.heap.size w w1) (c:Below w1.heap.size w1 b):Below w.heap.size w b:=a.trans (c.mono a.size)
abbrev U0:Nat:=140737488351232
def U9 (_:Q6) (s:List UInt8) (cs:List Value):Prop:=cs=[S s]∧s.length≤U0
instance:Rep U9:=⟨fun _ h=>h,fun h u hu=>by rw[h.1] at hu;simp at hu;subst hu;rfl⟩
def Wv (_:Q6) (n:Int) (cs:List Value):Prop:=cs=[I n]∧ -9223372036854775808≤n∧n≤9223372036854775807
instance:Rep Wv:=⟨fun _ h=>h,fun h u hu=>by rw[h.1] at hu;simp at hu;subst hu;rfl⟩
def Q3o (_:Q6) (b:Bool) (cs:List Value):Prop:=cs=[.bool b]
instance:Rep Q3o:=⟨fun _ h=>h,fun h u hu=>by rw[h] at hu;simp at hu;subst hu;rfl⟩
def UpI (N:Nat) (a:Nat→World→Prop) (x:Value) (w:World):Prop:= ∃n:Nat,x=I n∧n≤N∧a n w
def UpM (N:Nat) (x:Value):Nat:=match x with | .int _ n=>N-n.toNat | _=>0
theorem U3 {A:(Value→World→Prop)→Value→(Nat→Value)→World→Prop} (N:Nat) (a:Nat→World→Prop) (e:a 0 w)
 (b: ∀n w d,n≤N→a n w→A (fun y w'=>UpI N a y w'∧UpM N y<UpM N (I n)) (I n) d w):lp (α:=Value) (.int .i64 0) w A:=by
 refine Wn (UpI N a) (fun x _=>UpM N x) ⟨0,rfl,Nat.zero_le _,e⟩ ?_
 rintro _ d w' ⟨n,rfl,c,f⟩
 exact b n w' d c f
theorem Y6 {N n:Nat} {a:Nat→World→Prop} (d:N≤9223372036854775807) (b:n<N) (c:a (n+1) w):UpI N a (.int .i64 (IntKind.i64.wrap (n+1))) w∧UpM N (.int .i64 (IntKind.i64.wrap (n+1)))<UpM N (I n):=by
 rw[F7 (by omega) (by omega)]
 exact ⟨⟨n+1,rfl,b,c⟩,by simp only[UpM];omega⟩
def Fu {α:Type} (N:Nat) (a:Nat→α→World→Prop) (x:α×Value) (w:World):Prop:= ∃n:Nat,x.2=I n∧n≤N∧a n x.1 w
def Mh {α:Type} (N:Nat) (x:α×Value):Nat:=UpM N x.2
theorem H0 {α:Type} {A:(α×Value→World→Prop)→α×Value→(Nat→Value)→World→Prop} {a:α} (N:Nat) (b:Nat→α→World→Prop) (h:b 0 a w)
 (c: ∀n a w d,n≤N→b n a w→A (fun y w'=>Fu N b y w'∧Mh N y<Mh N (a,I n)) (a,I n) d w):lp (α:=α×Value) (a, .int .i64 0) w A:=by
 refine Wn (Fu N b) (fun x _=>Mh N x) ⟨0,rfl,Nat.zero_le _,h⟩ ?_
 rintro ⟨a,x⟩ d w' ⟨n,f,g,e⟩
 simp only at f e
 subst f
 exact c n a w' d g e
theorem J6 {α:Type} {a c:α} {N n:Nat} {b:Nat→α→World→Prop} (f:N≤9223372036854775807) (d:n<N) (e:b (n+1) c w):Fu N b (c, .int .i64 (IntKind.i64.wrap (n+1))) w∧Mh N (c, .int .i64 (IntKind.i64.wrap (n+1)))<Mh N (a,I n):=by
 rw[F7 (by omega) (by omega)]
 exact ⟨⟨n+1,rfl,d,e⟩,by simp only[Mh,UpM];omega⟩
theorem M9 {α:Type} {R:Q6→α→List Value→Prop} {sz:Nat} {σ:Q6} {v:Value} {xs:List α} {t e:TypeId} {b:Nat} {z:Value} [TS P t e] [TZ P e sz b z] (h:Sl sz R σ v xs) {n:Nat} (c:n<xs.length)
 (f: ∀a cs,Z6 σ a cs→cs.length=sz→R σ xs[n] cs→K (.pointer (some a)) w):indexAddr P t v (I n) w K:=
 X3T h (by omega) (by simpa using c) (fun a cs i d g=>f a cs i d (by simpa using g))
theorem Y7 {t:TypeId} {sz c:Nat} {z:Value} {A:Value→Value→World→Prop} [tz:TZ P t sz c z] {σ:Q6} {cs:List Value} (n:X2 w σ) (i:z.cells.size=sz) (j:cs.length=sz) (o: ∀u∈cs,u.oneCell'=true)
 (h: ∀a w' e,Stp w σ w' e→Z6 e a cs→A (.pointer (some a)) undef w'):V8 P t w (fun p w=>Y0 P t p (.agg cs.toArray) w (fun u w=>A p u w)):=by
 refine Kh n fun b w1 f l g=>?_
 refine My g (by simpa using i) j (by rw[List.all_toArray];exact List.all_eq_true.2 o) fun r m d=>?_
 have k:Stp w σ r σ:=m.stp l f g.1
 obtain ⟨e,q,s,_⟩:=d.keep k f
 exact h _ _ _ q s
theorem U8 {t:TypeId} {d:Nat} {z:Value} {A:Value→Value→World→Prop} [tz:TZ P t 1 d z] {σ:Q6} {v:Value} (q:X2 w σ) (j:z.cells.size=1) (k:v.cells= #[v]) (r:v.oneCell'=true)
 (h: ∀a w' f,Stp w σ w' f→Z6 f a [v]→A (.pointer (some a)) undef w'):V8 P t w (fun p w=>Y0 P t p v w (fun u w=>A p u w)):=by
 refine Kh q fun b w1 g n i=>?_
 have l:z.cells.toList.length=1:=by simpa using j
 refine st0 i (by omega) k r fun y o c=>?_
 have m:Stp w σ y σ:=o.stp n g i.1
 have e:z.cells.toList.set 0 v=[v]:=by
  match hzl:z.cells.toList,l with
  | [x],_=>rfl
 rw[e] at c
 obtain ⟨f,s,B,_⟩:=c.keep m g
 exact h _ _ _ s B
theorem L4 {α:Type} {xs:List α} {p:α→Bool} {n:Nat} (h:n<xs.length):(xs.take (n+1)).any p=((xs.take n).any p||p xs[n]):=by
 rw[List.take_add_one,List.getElem?_eq_getElem h,List.any_append];simp
theorem S6 {α:Type} {xs:List α} {p:α→Bool} {n:Nat} (h:n<xs.length) (a:p xs[n]=true):xs.any p=true:=List.any_eq_true.2 ⟨_,List.getElem_mem h,a⟩
theorem E1 {α:Type} {xs:List α} {p:α→Bool} {n:Nat} (h: ¬n<xs.length):(xs.take n).any p=xs.any p:=by rw[List.take_of_length_le (by omega)]
end Go.Emb

namespace Go.Hm
open Go.Kd
structure Fld where
  name : X0
  kind : X0
  tr : Bool
deriving DecidableEq
structure Ins where
  op : X0
  n : Int
  s : X0
deriving DecidableEq
structure Cat where
  frm : Int
  to : Int
  at_ : Int
  cls : X0
deriving DecidableEq
structure Met where
  name : X0
  params : List X0
  result : X0
  abs : Bool
  locals : Int
  code : List Ins
  catches : List Cat
deriving DecidableEq
structure Cla where
  name : X0
  super : X0
  like : List X0
  iface : Bool
  abs : Bool
  fin : Bool
  fields : List Fld
  methods : List Hm.Met
deriving DecidableEq
def Fld.zero:Fld:=⟨[],[],false⟩
def Met.zero:Hm.Met:=⟨[],[],[],false,0,[],[]⟩
def Cla.zero:Cla:=⟨[],[],[],false,false,false,[],[]⟩
end Go.Hm

namespace Go.Emb
open Go.RowKit Go.Hm
abbrev Yz (n:Int):Prop:= -9223372036854775808≤n∧n≤9223372036854775807
def R9 (_:Q6) (f:Fld) (cs:List Value):Prop:=cs=[S f.name,S f.kind, .bool f.tr]∧f.name.length≤U0∧f.kind.length≤U0
def Qi (_:Q6) (i:Ins) (cs:List Value):Prop:=cs=[S i.op,I i.n,S i.s]∧i.op.length≤U0∧Yz i.n∧i.s.length≤U0
def Ju (_:Q6) (c:Cat) (cs:List Value):Prop:=cs=[I c.frm,I c.to,I c.at_,S c.cls]∧Yz c.frm∧Yz c.to∧Yz c.at_∧c.cls.length≤U0
def E5 (σ:Q6) (m:Hm.Met) (cs:List Value):Prop:= ∃pv a b,cs=[S m.name,pv,S m.result, .bool m.abs,I m.locals,a,b]∧Sl 1 U9 σ pv m.params∧Sl 3 Qi σ a m.code∧Sl 4 Ju σ b m.catches∧m.name.length≤U0∧m.result.length≤U0∧Yz m.locals
def V0 (σ:Q6) (c:Cla) (cs:List Value):Prop:= ∃b a mv,cs=[S c.name,S c.super,b, .bool c.iface, .bool c.abs, .bool c.fin,a,mv]∧Sl 1 U9 σ b c.like∧Sl 3 R9 σ a c.fields∧Sl 7 E5 σ mv c.methods∧c.name.length≤U0∧c.super.length≤U0
theorem A6 {α:Type} {sz:Nat} {R:Q6→α→List Value→Prop} {σ:Q6} {v:Value} {xs:List α} (h:Sl sz R σ v xs):v.oneCell'=true:=by
 obtain ⟨a,b,rfl,_⟩:=h;rfl
instance:Rep R9:=⟨fun _ h=>h,fun h u hu=>by rw[h.1] at hu;simp at hu;rcases hu with rfl | rfl | rfl<;>rfl⟩
instance:Rep Qi:=⟨fun _ h=>h,fun h u hu=>by rw[h.1] at hu;simp at hu;rcases hu with rfl | rfl | rfl<;>rfl⟩
instance:Rep Ju:=⟨fun _ h=>h,fun h u hu=>by rw[h.1] at hu;simp at hu;rcases hu with rfl | rfl | rfl | rfl<;>rfl⟩
instance:Rep E5:=⟨fun hk ⟨pv,cv,hv,h1,h2,h3,h4,h5⟩=>⟨pv,cv,hv,h1,h2.le hk,h3.le hk,h4.le hk,h5⟩,fun ⟨pv,cv,hv,h1,h2,h3,h4,h5⟩ u hu=>by
 rw[h1] at hu;simp at hu;rcases hu with rfl | rfl | rfl | rfl | rfl | rfl | rfl
 ·rfl
 ·exact A6 h2
 ·rfl
 ·rfl
 ·rfl
 ·exact A6 h3
 ·exact A6 h4⟩
instance:Rep V0:=⟨fun hk ⟨pv,cv,hv,h1,h2,h3,h4,h5⟩=>⟨pv,cv,hv,h1,h2.le hk,h3.le hk,h4.le hk,h5⟩,fun ⟨pv,cv,hv,h1,h2,h3,h4,h5⟩ u hu=>by
 rw[h1] at hu;simp at hu;rcases hu with rfl | rfl | rfl | rfl | rfl | rfl | rfl | rfl
 ·rfl
 ·rfl
 ·exact A6 h2
 ·rfl
 ·rfl
 ·rfl
 ·exact A6 h3
 ·exact A6 h4⟩
end Go.Emb
