/- Parts of a proof about the given program: its functions as texts of their own, what each computes, plain laws of that. The conditions of each stand in its statement. -/
import Derived.Test.YtjdiakhipmggjaaGreatDoorB1
import Derived.Below
import Derived.Maps.AppendAt
set_option linter.unnecessarySimpa false
set_option linter.defProp false
set_option linter.unusedSectionVars false
set_option linter.unusedVariables false
set_option linter.unusedSimpArgs false
set_option maxRecDepth 100000
namespace Go.Proofs.YtjdiakhipmggjaaGreatDoor
open Go.Emb
def Tj:V8:=[none,none,none,none,none,none,some ([38],[4,5,6,38,39,40,41,42,43,44,45,46,47,48,49,50,51]),none,none,none,none,none,none,none]
def Og (a0 a1:Value) (w:World) (K:Value→World→Prop):Prop:= box P T.o a1 w fun e w=>dr w fun b d=>Q6 b (fun φ7=> ∀w,d w→fieldAddr P T.o e 0 w (dk b φ7 w)) fun φ7=>Q6 b (fun φ8=> ∀t7 w,d w→φ7 t7 w→Q2 P T.c t7 w (dk b φ8 w)) fun φ8=>Q6 b (fun φ9=> ∀t8 w,d w→φ8 t8 w→Q1 P F.c3 [t8] w (dk b φ9 w)) fun φ9=>Q6 b (fun g=> ∀t9 w,d w→φ9 t9 w→Q3 P .eql T.c (.tmp 9) (.const (.string ⟨#[]⟩)) t9 (.string ⟨#[]⟩) w (dk b g w)) fun g=>Q6 b (fun ag=> ∀c w,d w→g c w→Q0 c true w (fun w J=>J a0 w) (dk b ag w)) fun ag=>Q6 b (fun j=> ∀c N w,d w→g c w→ag N w→Q0 c true w (nilCheck P N) (dk b j w)) fun j=>Q6 b (fun C=> ∀c t w,d w→g c w→j t w→Q0 c true w (fieldAddr P T.p t 0) (dk b C w)) fun C=>Q6 b (fun R=> ∀c w,d w→g c w→Q0 c true w (fieldAddr P T.o e 0) (dk b R w)) fun R=>Q6 b (fun E=> ∀c Q w,d w→g c w→C Q w→Q0 c true w (Q2 P T.r Q) (dk b E w)) fun E=>Q6 b (fun k=> ∀c W w,d w→g c w→R W w→Q0 c true w (Q2 P T.c W) (dk b k w)) fun k=>Q6 b (fun p=> ∀c q v w,d w→g c w→E q w→k v w→Q0 c true w (Q1 P F.aA [q,v]) (dk b p w)) fun p=>Q6 b (fun H=> ∀c V w,d w→g c w→p V w→Q0 c true w (J7 P .not V) (dk b H w)) fun H=>Q6 b (fun f=> ∀c Y w,d w→g c w→H Y w→Q0 c true w (fun w J=>J Y w) (dk b f w)) fun f=>Q6 b (fun i=> ∀a w,d w→f a w→Q0 a false w (fieldAddr P T.o e 1) (dk b i w)) fun i=>Q6 b (fun n=> ∀a w,d w→f a w→Q0 a false w (fun w J=>J a0 w) (dk b n w)) fun n=>Q6 b (fun l=> ∀a B w,d w→f a w→n B w→Q0 a false w (nilCheck P B) (dk b l w)) fun l=>Q6 b (fun af=> ∀a ai w,d w→f a w→l ai w→Q0 a false w (fieldAddr P T.p ai 0) (dk b af w)) fun af=>Q6 b (fun m=> ∀a w,d w→f a w→Q0 a false w (fieldAddr P T.o e 0) (dk b m w)) fun m=>Q6 b (fun Z=> ∀a U w,d w→f a w→i U w→Q0 a false w (Q2 P T.l U) (dk b Z w)) fun Z=>Q6 b (fun am=> ∀a ah w,d w→f a w→Z ah w→Q0 a false w (X3 P .len [T.l] T.e [false] [ah]) (dk b am w)) fun am=>Q6 b (fun o=> ∀a u w,d w→f a w→af u w→Q0 a false w (Q2 P T.r u) (dk b o w)) fun o=>Q6 b (fun A=> ∀a ac w,d w→f a w→m ac w→Q0 a false w (Q2 P T.c ac) (dk b A w)) fun A=>Q6 b (fun M=> ∀a ad O w,d w→f a w→o ad w→A O w→Q0 a false w (Q1 P F.a3 [ad,O]) (dk b M w)) fun M=>Q6 b (fun ak=> ∀a z w,d w→f a w→M z w→Q0 a false w (X3 P .len [T.k] T.e [false] [z]) (dk b ak w)) fun ak=>∀t7 t8 t9 c N t Q W q v V Y a U B ai u ac ah aq ad O z ax w,d w→φ7 t7 w→φ8 t8 w→φ9 t9 w→g c w→ag N w→j t w→C Q w→R W w→E q w→k v w→p V w→H Y w→f a w→i U w→n B w→l ai w→af u w→m ac w→Z ah w→am aq w→o ad w→A O w→M z w→ak ax w→ Q0 a false w (Q3 P .neq T.e (.tmp 23) (.tmp 31) aq ax) fun be w=>Q0 c true w (pick P a (.bool true) be) fun bi w=>pick P c bi (.bool false) w fun bc w=>X1 bc (K (.bool false) w) (fieldAddr P T.o e 1 w fun ba w=>Q2 P T.l ba w fun aw w=>X3 P .len [T.l] T.e [false] [aw] w fun bk w=>lp (α:=Value) (.int .i64 0) w fun ae x6 d_ w=>Q3 P .lss T.e (.tmp 38) (.tmp 37) x6 bk w fun bd w=>X1 bd (indexAddr P T.l aw x6 w fun bg w=>Q2 P T.f bg w fun a9 w=>W0 P T.f w fun h w=>Y0 P T.f h a9 w fun _u w=>dr w fun b d=>Q6 b (fun an=> ∀w,d w→Q2 P T.f h w (dk b an w)) fun an=>Q6 b (fun y=> ∀w,d w→Q2 P T.o e w (dk b y w)) fun y=>Q6 b (fun aj=> ∀L w,d w→y L w→Q1 P F.az [a0,L,x6] w (dk b aj w)) fun aj=>∀av L ay w,d w→an av w→y L w→aj ay w→ Q1 P F.ay [a0,av,ay] w fun bj w=>J7 P .not bj w fun bb w=>X1 bb (K (.bool false) w) (Q3 P .add T.e (.tmp 38) (.const (.int .i64 1)) x6 (.int .i64 1) w fun bh w=>ae bh w)) (dr w fun b d=>Q6 b (fun D=> ∀w,d w→nilCheck P a0 w (dk b D w)) fun D=>Q6 b (fun r=> ∀ab w,d w→D ab w→fieldAddr P T.p ab 0 w (dk b r w)) fun r=>Q6 b (fun X=> ∀w,d w→fieldAddr P T.o e 0 w (dk b X w)) fun X=>Q6 b (fun ao=> ∀aa w,d w→r aa w→Q2 P T.r aa w (dk b ao w)) fun ao=>Q6 b (fun al=> ∀s w,d w→X s w→Q2 P T.c s w (dk b al w)) fun al=>∀ab aa s ar az w,d w→D ab w→r aa w→X s w→ao ar w→al az w→ Q1 P F.s [ar,az] w fun bf w=>K bf w))
theorem Ty {a b:Value} {w:World} {K:Value→World→Prop} (h:Og a b w K):Q1 P F.bC [a,b] w K:=Q9 Tj Tryz.func55 rfl (by decide) (by kernel_rfl) h
def Ld (c d:Value) (w:World) (K:Value→World→Prop):Prop:= box P T.o c w fun a w=>Q2 P T.a5 d w fun e w=>Q2 P T.o a w fun f w=>Q1 P F.bC [e,f] w fun g w=>J7 P .not g w fun b w=>K b w
theorem Fv {a b:Value} {w:World} {K:Value→World→Prop} (h:Ld a b w K):Q1 P F.cq [a,b] w K:=Q9 (List.replicate 2 none) Tryz.func54 rfl (by decide) (by kernel_rfl) h
def Oc (d:Value) (w:World) (K:Value→World→Prop):Prop:= box P T.a5 d w fun a w=>Q2 P T.a5 a w fun e w=>nilCheck P e w fun f w=>fieldAddr P T.p f 3 w fun g w=>Q2 P T.g g w fun h w=>E8 P (.func F.cq) [] [a] w fun b w=>Q1 P F.n [h,b] w fun c w=>J7 P .not c w fun i w=>K i w
theorem Av {a:Value} {w:World} {K:Value→World→Prop} (h:Oc a w K):Q1 P F.bz [a] w K:=Q9 (List.replicate 2 none) Tryz.func23 rfl (by decide) (by kernel_rfl) h
def Q2Z (g c:Value) (w:World) (K:Value→World→Prop):Prop:= Q3 P .lss T.e (.tmp 6) (.const (.int .i64 0)) c (.int .i64 0) w fun a w=>Q0 a false w (fun w J=>J c w) fun h w=>Q0 a false w (Q3 P .gtr T.e (.tmp 9) (.const (.int .i64 1048576)) h (.int .i64 1048576)) fun b w=>pick P a (.bool true) b w fun e w=>X1 e (K (.tuple #[(.pointer none),(.int .i64 90)]) w) (H1 P T.p [(0,g),(1,c)] w fun d w=>box P T.p d w fun f w=>K (.tuple #[f,(.int .i64 0)]) w)
theorem Q8f {a b:Value} {w:World} {K:Value→World→Prop} (h:Q2Z a b w K):Q1 P F.cM [a,b] w K:=Q9 (List.replicate 5 none) Tryz.func15 rfl (by decide) (by kernel_rfl) h
def Pq:V8:=[none,none,none,none,none,some ([1,3],[1,3,10,11,12,13,14,15,16,17,18,19,20,21,22,23]),none,none,none,none]
def Lr (w:World) (K:Value→World→Prop):Prop:= H1 P T.b [(0,(.string ⟨#[79,98,106,101,99,116]⟩))] w fun n w=>H1 P T.n [(0,(.string ⟨#[119,104,97,116]⟩)),(1,(.string ⟨#[116,101,120,116]⟩))] w fun o w=>buildSlice P T.k 1 [(0,o)] w fun p w=>H1 P T.b [(0,(.string ⟨#[70,97,117,108,116]⟩)),(1,(.string ⟨#[79,98,106,101,99,116]⟩)),(6,p)] w fun l w=>buildSlice P T.i 2 [(0,n),(1,l)] w fun m w=>buildSlice P T.h 6 [(0,(.string ⟨#[78,117,108,108,70,97,117,108,116]⟩)),(1,(.string ⟨#[73,110,100,101,120,70,97,117,108,116]⟩)),(2,(.string ⟨#[67,97,115,116,70,97,117,108,116]⟩)),(3,(.string ⟨#[90,101,114,111,70,97,117,108,116]⟩)),(4,(.string ⟨#[82,111,111,109,70,97,117,108,116]⟩)),(5,(.string ⟨#[67,97,108,108,70,97,117,108,116]⟩))] w fun k w=>lp (α:=Value×Value) (m,(.int .i64 0)) w fun a b q w=>X3 P .len [T.h] T.e [false] [k] w fun c w=>Q3 P .lss T.e (.tmp 10) (.tmp 12) b.2 c w fun g w=>X1 g (indexAddr P T.h k b.2 w fun i w=>Q2 P T.c i w fun h w=>H1 P T.b [(0,h),(1,(.string ⟨#[70,97,117,108,116]⟩)),(5,(.bool true))] w fun f w=>buildSlice P T.i 1 [(0,f)] w fun j w=>X3 P .append [T.i,T.i] T.i [false,false] [b.1,j] w fun d w=>Q3 P .add T.e (.tmp 14) (.const (.int .i64 1)) b.2 (.int .i64 1) w fun e w=>a (d,e) w) (K b.1 w)
theorem Gv {w:World} {K:Value→World→Prop} (h:Lr w K):Q1 P F.bn [] w K:=Q9 Pq Tryz.func99 rfl (by decide) (by kernel_rfl) h
def Tp:V8:=[none,none,none,some ([3],[2,3,4,5,6,7,8,9,10,11,12,13,14,15,16,17,18,19,20,21,22,23,24,25,26,27,28,29,30,31,32,33,34,35,36,37]),none,none,none,none,none,none,none]
def Oy (Y:Value) (w:World) (K:Value→World→Prop):Prop:= box P T.b Y w fun a w=>lp (α:=Value) (.int .i64 0) w fun g i d_ w=>fieldAddr P T.b a 7 w fun t6 w=>Q2 P T.j t6 w fun Z w=>X3 P .len [T.j] T.e [false] [Z] w fun t8 w=>Q3 P .lss T.e (.tmp 5) (.tmp 8) i t8 w fun t9 w=>X1 t9 (fieldAddr P T.b a 7 w fun l w=>Q2 P T.j l w fun t w=>indexAddr P T.j t i w fun r w=>Q2 P T.d r w fun A w=>W0 P T.d w fun b w=>Y0 P T.d b A w fun _u w=>fieldAddr P T.d b 1 w fun v w=>Q2 P T.h v w fun y w=>X3 P .len [T.h] T.e [false] [y] w fun B w=>Q3 P .gtr T.e (.tmp 19) (.const (.int .i64 32)) B (.int .i64 32) w fun e w=>Q0 e false w (fieldAddr P T.d b 6) fun W w=>Q0 e false w (Q2 P T.s W) fun p w=>Q0 e false w (X3 P .len [T.s] T.e [false] [p]) fun L w=>Q0 e false w (Q3 P .gtr T.e (.tmp 24) (.const (.int .i64 32)) L (.int .i64 32)) fun X w=>pick P e (.bool true) X w fun d w=>Q0 d false w (fieldAddr P T.d b 5) fun E w=>Q0 d false w (Q2 P T.q E) fun o w=>Q0 d false w (X3 P .len [T.q] T.e [false] [o]) fun D w=>Q0 d false w (Q3 P .gtr T.e (.tmp 30) (.const (.int .i64 200)) D (.int .i64 200)) fun n w=>pick P d (.bool true) n w fun h w=>Q0 h false w (fieldAddr P T.d b 4) fun H w=>Q0 h false w (Q2 P T.e H) fun s w=>Q0 h false w (Q3 P .gtr T.e (.tmp 35) (.const (.int .i64 64)) s (.int .i64 64)) fun V w=>pick P h (.bool true) V w fun R w=>X1 R (K (.bool true) w) (Q3 P .add T.e (.tmp 10) (.const (.int .i64 1)) i (.int .i64 1) w fun q w=>g q w)) (fieldAddr P T.b a 2 w fun z w=>Q2 P T.h z w fun O w=>X3 P .len [T.h] T.e [false] [O] w fun J w=>Q3 P .gtr T.e (.tmp 40) (.const (.int .i64 32)) J (.int .i64 32) w fun c w=>Q0 c false w (fieldAddr P T.b a 6) fun m w=>Q0 c false w (Q2 P T.k m) fun U w=>Q0 c false w (X3 P .len [T.k] T.e [false] [U]) fun Q w=>Q0 c false w (Q3 P .gtr T.e (.tmp 45) (.const (.int .i64 32)) Q (.int .i64 32)) fun j w=>pick P c (.bool true) j w fun f w=>Q0 f false w (fieldAddr P T.b a 7) fun N w=>Q0 f false w (Q2 P T.j N) fun u w=>Q0 f false w (X3 P .len [T.j] T.e [false] [u]) fun M w=>Q0 f false w (Q3 P .gtr T.e (.tmp 51) (.const (.int .i64 32)) M (.int .i64 32)) fun k w=>pick P f (.bool true) k w fun C w=>K C w)
theorem Tl {a:Value} {w:World} {K:Value→World→Prop} (h:Oy a w K):Q1 P F.bJ [a] w K:=Q9 Tp Tryz.func147 rfl (by decide) (by kernel_rfl) h
def Ts:V8:=[none,none,none,some ([0,3],[0,3,4,5,6,7,8,9,10,11,12,13,14,15,16,17,18,19,20,21]),none,none,none,none]
def Nx (m:Value) (w:World) (K:Value→World→Prop):Prop:= lp (α:=Value×Value) (m,(.int .i64 0)) w fun a b q w=>X3 P .len [T.c] T.e [false] [b.1] w fun p w=>Q3 P .geq T.e (.tmp 5) (.const (.int .i64 2)) p (.int .i64 2) w fun c w=>Q0 c true w (fun w J=>J b.1 w) fun o w=>Q0 c true w (fun w J=>J b.1 w) fun n w=>Q0 c true w (X3 P .len [T.c] T.e [false] [n]) fun l w=>Q0 c true w (Q3 P .sub T.e (.tmp 10) (.const (.int .i64 2)) l (.int .i64 2)) fun e w=>Q0 c true w (R2 P T.c o (some e) none none) fun d w=>Q0 c true w (Q3 P .eql T.c (.tmp 12) (.const (.string ⟨#[91,93]⟩)) d (.string ⟨#[91,93]⟩)) fun h w=>pick P c h (.bool false) w fun f w=>X1 f (Q3 P .add T.e (.tmp 15) (.const (.int .i64 1)) b.2 (.int .i64 1) w fun j w=>X3 P .len [T.c] T.e [false] [b.1] w fun k w=>Q3 P .sub T.e (.tmp 19) (.const (.int .i64 2)) k (.int .i64 2) w fun i w=>R2 P T.c b.1 none (some i) none w fun g w=>a (g,j) w) (K b.2 w)
theorem Td {a:Value} {w:World} {K:Value→World→Prop} (h:Nx a w K):Q1 P F.a2 [a] w K:=Q9 Ts Tryz.func107 rfl (by decide) (by kernel_rfl) h
def Pl:V8:=[none,none,none,some ([4],[4,5,6,7]),none,none,none,none]
def Mc (a:Value) (w:World) (K:Value→World→Prop):Prop:= jn (α:=Value) w (fun b w=>Q3 P .eql T.c (.tmp 3) (.const (.string ⟨#[105,110,116]⟩)) a (.string ⟨#[105,110,116]⟩) w fun c w=>X1 c (b c w) (Q3 P .eql T.c (.tmp 3) (.const (.string ⟨#[98,111,111,108]⟩)) a (.string ⟨#[98,111,111,108]⟩) w fun d w=>X1 d (b d w) (Q3 P .eql T.c (.tmp 3) (.const (.string ⟨#[116,101,120,116]⟩)) a (.string ⟨#[116,101,120,116]⟩) w fun e w=>b e w))) fun f g w=>X1 f (K (.bool true) w) (K (.bool false) w)
theorem Pj {a:Value} {w:World} {K:Value→World→Prop} (h:Mc a w K):Q1 P F.y [a] w K:=Q9 Pl Tryz.func111 rfl (by decide) (by kernel_rfl) h
def Af:V8:=[none,none,none,some ([3],[2,3,4,5,6,7,8,9,10,11,12,13,14,15,16,17,18,19,20,21,22,23,24,25,26,27,28,29,30,31,32,33,34,35,36,37,38,39,40,41,42,43,44,45,46,47,48,49,50]),none,none,none,none,none,none,none]
def Ol (h:Value) (w:World) (K:Value→World→Prop):Prop:= lp (α:=Value) (.int .i64 0) w fun j g d_ w=>X3 P .len [T.c] T.e [false] [h] w fun t7 w=>Q3 P .lss T.e (.tmp 5) (.tmp 7) g t7 w fun t8 w=>X1 t8 (S6 P T.c h g w fun y w=>Q3 P .geq T.a3 (.tmp 13) (.const (.int .u8 97)) y (.int .u8 97) w fun c w=>Q0 c true w (fun w J=>J h w) fun E w=>Q0 c true w (fun w J=>J g w) fun A w=>Q0 c true w (S6 P T.c E A) fun B w=>Q0 c true w (Q3 P .leq T.a3 (.tmp 18) (.const (.int .u8 122)) B (.int .u8 122)) fun H w=>pick P c H (.bool false) w fun a w=>Q0 a false w (fun w J=>J h w) fun aa w=>Q0 a false w (fun w J=>J g w) fun t w=>Q0 a false w (S6 P T.c aa t) fun R w=>Q0 a false w (Q3 P .geq T.a3 (.tmp 24) (.const (.int .u8 65)) R (.int .u8 65)) fun n w=>Q0 a false w (fun w J=>J n w) fun d w=>Q0 d true w (fun w J=>J h w) fun O w=>Q0 d true w (fun w J=>J g w) fun N w=>Q0 d true w (S6 P T.c O N) fun r w=>Q0 d true w (Q3 P .leq T.a3 (.tmp 29) (.const (.int .u8 90)) r (.int .u8 90)) fun M w=>Q0 a false w (pick P d M (.bool false)) fun q w=>pick P a (.bool true) q w fun ab w=>J7 P .not ab w fun b w=>Q0 b true w (fun w J=>J g w) fun C w=>Q0 b true w (Q3 P .eql T.e (.tmp 36) (.const (.int .i64 0)) C (.int .i64 0)) fun X w=>Q0 b true w (fun w J=>J X w) fun e w=>Q0 e false w (fun w J=>J h w) fun W w=>Q0 e false w (fun w J=>J g w) fun Q w=>Q0 e false w (S6 P T.c W Q) fun s w=>Q0 e false w (Q3 P .lss T.a3 (.tmp 41) (.const (.int .u8 48)) s (.int .u8 48)) fun k w=>Q0 b true w (pick P e (.bool true) k) fun p w=>Q0 b true w (fun w J=>J p w) fun f w=>Q0 f false w (fun w J=>J h w) fun Z w=>Q0 f false w (fun w J=>J g w) fun l w=>Q0 f false w (S6 P T.c Z l) fun L w=>Q0 f false w (Q3 P .gtr T.a3 (.tmp 47) (.const (.int .u8 57)) L (.int .u8 57)) fun D w=>Q0 b true w (pick P f (.bool true) D) fun V w=>pick P b V (.bool false) w fun z w=>X1 z (K (.bool false) w) (Q3 P .add T.e (.tmp 9) (.const (.int .i64 1)) g (.int .i64 1) w fun U w=>j U w)) (X3 P .len [T.c] T.e [false] [h] w fun o w=>Q3 P .geq T.e (.tmp 52) (.const (.int .i64 1)) o (.int .i64 1) w fun i w=>Q0 i true w (fun w J=>J h w) fun u w=>Q0 i true w (X3 P .len [T.c] T.e [false] [u]) fun v w=>Q0 i true w (Q3 P .leq T.e (.tmp 56) (.const (.int .i64 32)) v (.int .i64 32)) fun Y w=>pick P i Y (.bool false) w fun m w=>K m w)
theorem Au {a:Value} {w:World} {K:Value→World→Prop} (h:Ol a w K):Q1 P F.aV [a] w K:=Q9 Af Tryz.func190 rfl (by decide) (by kernel_rfl) h
def Mw (b:Value) (w:World) (K:Value→World→Prop):Prop:= Q1 P F.aV [b] w fun a w=>Q0 a true w (fun w J=>J b w) fun e w=>Q0 a true w (S6 P T.c e (.int .i64 0)) fun c w=>Q0 a true w (Q3 P .leq T.a3 (.tmp 7) (.const (.int .u8 90)) c (.int .u8 90)) fun d w=>pick P a d (.bool false) w fun f w=>K f w
theorem Ko {a:Value} {w:World} {K:Value→World→Prop} (h:Mw a w K):Q1 P F.d [a] w K:=Q9 (List.replicate 2 none) Tryz.func160 rfl (by decide) (by kernel_rfl) h
def Lx (f:Value) (w:World) (K:Value→World→Prop):Prop:= Q1 P F.a2 [f] w fun m w=>X3 P .len [T.c] T.e [false] [f] w fun n w=>Q3 P .mul T.e (.const (.int .i64 2)) (.tmp 10) (.int .i64 2) m w fun i w=>Q3 P .sub T.e (.tmp 9) (.tmp 11) n i w fun j w=>R2 P T.c f none (some j) none w fun c w=>Q3 P .leq T.e (.tmp 14) (.const (.int .i64 3)) m (.int .i64 3) w fun a w=>Q0 a true w (fun w J=>J c w) fun e w=>Q0 a true w (Q1 P F.y [e]) fun g w=>Q0 a true w (fun w J=>J g w) fun b w=>Q0 b false w (fun w J=>J c w) fun d w=>Q0 b false w (Q1 P F.d [d]) fun l w=>Q0 a true w (pick P b (.bool true) l) fun k w=>pick P a k (.bool false) w fun h w=>K h w
theorem Kk {a:Value} {w:World} {K:Value→World→Prop} (h:Lx a w K):Q1 P F.e [a] w K:=Q9 (List.replicate 4 none) Tryz.func118 rfl (by decide) (by kernel_rfl) h
def Lc (b:Value) (w:World) (K:Value→World→Prop):Prop:= Q1 P F.aV [b] w fun a w=>Q0 a true w (fun w J=>J b w) fun e w=>Q0 a true w (S6 P T.c e (.int .i64 0)) fun c w=>Q0 a true w (Q3 P .geq T.a3 (.tmp 7) (.const (.int .u8 97)) c (.int .u8 97)) fun d w=>pick P a d (.bool false) w fun f w=>K f w
theorem Gi {a:Value} {w:World} {K:Value→World→Prop} (h:Lc a w K):Q1 P F.u [a] w K:=Q9 (List.replicate 2 none) Tryz.func181 rfl (by decide) (by kernel_rfl) h
def Nf (f h:Value) (w:World) (K:Value→World→Prop):Prop:= X3 P .len [T.c] T.e [false] [f] w fun n w=>Q3 P .lss T.e (.tmp 5) (.tmp 7) h n w fun b w=>Q0 b true w (fun w J=>J f w) fun g w=>Q0 b true w (fun w J=>J h w) fun k w=>Q0 b true w (S6 P T.c g k) fun l w=>Q0 b true w (Q3 P .geq T.a3 (.tmp 12) (.const (.int .u8 128)) l (.int .u8 128)) fun m w=>pick P b m (.bool false) w fun a w=>Q0 a true w (fun w J=>J f w) fun i w=>Q0 a true w (fun w J=>J h w) fun d w=>Q0 a true w (S6 P T.c i d) fun e w=>Q0 a true w (Q3 P .lss T.a3 (.tmp 18) (.const (.int .u8 192)) e (.int .u8 192)) fun j w=>pick P a j (.bool false) w fun c w=>K c w
theorem Gn {a b:Value} {w:World} {K:Value→World→Prop} (h:Nf a b w K):Q1 P F.r [a,b] w K:=Q9 (List.replicate 2 none) Tryz.func154 rfl (by decide) (by kernel_rfl) h
def Te:V8:=[none,none,some ([],[2,4,5,9,10,11,12,13,14,15,16,17,18,19,20,21,22,23,24,25,26,27,28,29,30,31,32,33,34,35,36,37,38,39,40,41,42,43,44,45,46,47,48,49,50,51,52,53,54,55,56,57,58,59,60,61,62,63,64,65,66,67,68,69,70,71,72,73,74,75,76,77,78,79,80,81,82,83,84,85,86,87,88,89,90,91,92,93,94,95,96,97,98,99,100,101,102,103,104,105,106]),none,none,none,none,none,none,none,none,none,none,none,none,none]
def Oz (c:Value) (w:World) (K:Value→World→Prop):Prop:= S6 P T.c c (.int .i64 0) w fun t7 w=>conv P T.a3 T.e t7 w fun X w=>jn (α:=Unit) w (fun J2 w=>Q3 P .lss T.e (.tmp 10) (.const (.int .i64 128)) X (.int .i64 128) w fun br w=>X1 br (K (.int .i64 1) w) (Q3 P .geq T.e (.tmp 13) (.const (.int .i64 194)) X (.int .i64 194) w fun ao w=>Q0 ao true w (fun w J=>J X w) fun bw w=>Q0 ao true w (Q3 P .lss T.e (.tmp 16) (.const (.int .i64 224)) bw (.int .i64 224)) fun be w=>pick P ao be (.bool false) w fun ap w=>Q0 ap true w (fun w J=>J c w) fun bd w=>Q0 ap true w (Q1 P F.r [bd,(.int .i64 1)]) fun bu w=>pick P ap bu (.bool false) w fun b1 w=>X1 b1 (K (.int .i64 2) w) (Q3 P .geq T.e (.tmp 24) (.const (.int .i64 224)) X (.int .i64 224) w fun ay w=>Q0 ay true w (fun w J=>J X w) fun bz w=>Q0 ay true w (Q3 P .lss T.e (.tmp 27) (.const (.int .i64 240)) bz (.int .i64 240)) fun bx w=>pick P ay bx (.bool false) w fun an w=>Q0 an true w (fun w J=>J c w) fun bp w=>Q0 an true w (Q1 P F.r [bp,(.int .i64 1)]) fun bm w=>pick P an bm (.bool false) w fun av w=>Q0 av true w (fun w J=>J c w) fun bb w=>Q0 av true w (Q1 P F.r [bb,(.int .i64 2)]) fun bl w=>pick P av bl (.bool false) w fun b0 w=>X1 b0 (dr w fun a b=>Q6 a (fun V=> ∀w,b w→Q3 P .rem T.e (.tmp 38) (.const (.int .i64 16)) X (.int .i64 16) w (dk a V w)) fun V=>Q6 a (fun g=> ∀E w,b w→V E w→Q3 P .mul T.e (.tmp 39) (.const (.int .i64 4096)) E (.int .i64 4096) w (dk a g w)) fun g=>Q6 a (fun o=> ∀w,b w→S6 P T.c c (.int .i64 1) w (dk a o w)) fun o=>Q6 a (fun y=> ∀f w,b w→o f w→Q3 P .rem T.a3 (.tmp 42) (.const (.int .u8 64)) f (.int .u8 64) w (dk a y w)) fun y=>Q6 a (fun m=> ∀w,b w→S6 P T.c c (.int .i64 2) w (dk a m w)) fun m=>Q6 a (fun t=> ∀Y w,b w→m Y w→Q3 P .rem T.a3 (.tmp 48) (.const (.int .u8 64)) Y (.int .u8 64) w (dk a t w)) fun t=>Q6 a (fun aa=> ∀R w,b w→y R w→conv P T.a3 T.e R w (dk a aa w)) fun aa=>Q6 a (fun U=> ∀H w,b w→aa H w→Q3 P .mul T.e (.tmp 44) (.const (.int .i64 64)) H (.int .i64 64) w (dk a U w)) fun U=>Q6 a (fun ak=> ∀ab M w,b w→g ab w→U M w→Q3 P .add T.e (.tmp 40) (.tmp 45) ab M w (dk a ak w)) fun ak=>Q6 a (fun ah=> ∀ae w,b w→t ae w→conv P T.a3 T.e ae w (dk a ah w)) fun ah=>∀E ab f R Y ae H M a3 az w,b w→V E w→g ab w→o f w→y R w→m Y w→t ae w→aa H w→U M w→ak a3 w→ah az w→ Q3 P .add T.e (.tmp 46) (.tmp 50) a3 az w fun ar w=>Q3 P .geq T.e (.tmp 52) (.const (.int .i64 2048)) ar (.int .i64 2048) w fun e w=>Q0 e true w (fun w J=>J ar w) fun a9 w=>Q0 e true w (Q3 P .lss T.e (.tmp 55) (.const (.int .i64 55296)) a9 (.int .i64 55296)) fun ba w=>Q0 e true w (fun w J=>J ba w) fun aw w=>Q0 aw false w (fun w J=>J ar w) fun bn w=>Q0 aw false w (Q3 P .gtr T.e (.tmp 58) (.const (.int .i64 57343)) bn (.int .i64 57343)) fun bh w=>Q0 e true w (pick P aw (.bool true) bh) fun bq w=>pick P e bq (.bool false) w fun bf w=>X1 bf (K (.int .i64 3) w) (J2 () w)) (Q3 P .geq T.e (.tmp 63) (.const (.int .i64 240)) X (.int .i64 240) w fun aq w=>Q0 aq true w (fun w J=>J X w) fun bs w=>Q0 aq true w (Q3 P .lss T.e (.tmp 66) (.const (.int .i64 245)) bs (.int .i64 245)) fun bv w=>pick P aq bv (.bool false) w fun am w=>Q0 am true w (fun w J=>J c w) fun bk w=>Q0 am true w (Q1 P F.r [bk,(.int .i64 1)]) fun bi w=>pick P am bi (.bool false) w fun aj w=>Q0 aj true w (fun w J=>J c w) fun bc w=>Q0 aj true w (Q1 P F.r [bc,(.int .i64 2)]) fun a8 w=>pick P aj a8 (.bool false) w fun al w=>Q0 al true w (fun w J=>J c w) fun a7 w=>Q0 al true w (Q1 P F.r [a7,(.int .i64 3)]) fun bo w=>pick P al bo (.bool false) w fun bj w=>X1 bj (dr w fun a b=>Q6 a (fun Q=> ∀w,b w→Q3 P .rem T.e (.tmp 81) (.const (.int .i64 8)) X (.int .i64 8) w (dk a Q w)) fun Q=>Q6 a (fun B=> ∀k w,b w→Q k w→Q3 P .mul T.e (.tmp 82) (.const (.int .i64 262144)) k (.int .i64 262144) w (dk a B w)) fun B=>Q6 a (fun af=> ∀w,b w→S6 P T.c c (.int .i64 1) w (dk a af w)) fun af=>Q6 a (fun n=> ∀C w,b w→af C w→Q3 P .rem T.a3 (.tmp 85) (.const (.int .u8 64)) C (.int .u8 64) w (dk a n w)) fun n=>Q6 a (fun v=> ∀w,b w→S6 P T.c c (.int .i64 2) w (dk a v w)) fun v=>Q6 a (fun N=> ∀D w,b w→v D w→Q3 P .rem T.a3 (.tmp 91) (.const (.int .u8 64)) D (.int .u8 64) w (dk a N w)) fun N=>Q6 a (fun h=> ∀w,b w→S6 P T.c c (.int .i64 3) w (dk a h w)) fun h=>Q6 a (fun i=> ∀q w,b w→h q w→Q3 P .rem T.a3 (.tmp 97) (.const (.int .u8 64)) q (.int .u8 64) w (dk a i w)) fun i=>Q6 a (fun ad=> ∀Z w,b w→n Z w→conv P T.a3 T.e Z w (dk a ad w)) fun ad=>Q6 a (fun j=> ∀z w,b w→ad z w→Q3 P .mul T.e (.tmp 87) (.const (.int .i64 4096)) z (.int .i64 4096) w (dk a j w)) fun j=>Q6 a (fun O=> ∀A W w,b w→B A w→j W w→Q3 P .add T.e (.tmp 83) (.tmp 88) A W w (dk a O w)) fun O=>Q6 a (fun ac=> ∀r w,b w→N r w→conv P T.a3 T.e r w (dk a ac w)) fun ac=>Q6 a (fun s=> ∀p w,b w→ac p w→Q3 P .mul T.e (.tmp 93) (.const (.int .i64 64)) p (.int .i64 64) w (dk a s w)) fun s=>Q6 a (fun ax=> ∀u l w,b w→O u w→s l w→Q3 P .add T.e (.tmp 89) (.tmp 94) u l w (dk a ax w)) fun ax=>Q6 a (fun ai=> ∀L w,b w→i L w→conv P T.a3 T.e L w (dk a ai w)) fun ai=>∀k A C Z D r q L z W u p l a5 a6 w,b w→Q k w→B A w→af C w→n Z w→v D w→N r w→h q w→i L w→ad z w→j W w→O u w→ac p w→s l w→ax a5 w→ai a6 w→ Q3 P .add T.e (.tmp 95) (.tmp 99) a5 a6 w fun ag w=>Q3 P .geq T.e (.tmp 101) (.const (.int .i64 65536)) ag (.int .i64 65536) w fun d w=>Q0 d true w (fun w J=>J ag w) fun a1 w=>Q0 d true w (Q3 P .leq T.e (.tmp 104) (.const (.int .i64 1114111)) a1 (.int .i64 1114111)) fun a2 w=>pick P d a2 (.bool false) w fun a4 w=>X1 a4 (K (.int .i64 4) w) (J2 () w)) (J2 () w))))) fun z2 d_ w=>K (.int .i64 0) w
theorem Aa {a:Value} {w:World} {K:Value→World→Prop} (h:Oz a w K):Q1 P F.bG [a] w K:=Q9 Te Tryz.func113 rfl (by decide) (by kernel_rfl) h
def Pn:V8:=[none,none,some ([0],[0,2,3,4,5,6,7,8,9,10,11,12]),none,none,none,none,none,none,none]
def Mn (e:Value) (w:World) (K:Value→World→Prop):Prop:= lp (α:=Value) e w fun a b h w=>Q3 P .neq T.c (.tmp 4) (.const (.string ⟨#[]⟩)) b (.string ⟨#[]⟩) w fun f w=>X1 f (Q1 P F.bG [b] w fun d w=>Q3 P .eql T.e (.tmp 8) (.const (.int .i64 0)) d (.int .i64 0) w fun g w=>X1 g (K (.bool false) w) (R2 P T.c b (some d) none none w fun c w=>a c w)) (K (.bool true) w)
theorem Po {a:Value} {w:World} {K:Value→World→Prop} (h:Mn a w K):Q1 P F.aH [a] w K:=Q9 Pn Tryz.func65 rfl (by decide) (by kernel_rfl) h
def Ds (w:World) (K:Value→World→Prop):Prop:= buildSlice P T.h 42 [(0,(.string ⟨#[105,110,116]⟩)),(1,(.string ⟨#[116,114,117,101]⟩)),(2,(.string ⟨#[102,97,108,115,101]⟩)),(3,(.string ⟨#[119,111,114,100]⟩)),(4,(.string ⟨#[110,117,108,108]⟩)),(5,(.string ⟨#[108,111,97,100]⟩)),(6,(.string ⟨#[115,116,111,114,101]⟩)),(7,(.string ⟨#[112,111,112]⟩)),(8,(.string ⟨#[100,117,112]⟩)),(9,(.string ⟨#[115,119,97,112]⟩)),(10,(.string ⟨#[97,100,100]⟩)),(11,(.string ⟨#[115,117,98]⟩)),(12,(.string ⟨#[109,117,108]⟩)),(13,(.string ⟨#[100,105,118]⟩)),(14,(.string ⟨#[114,101,109]⟩)),(15,(.string ⟨#[110,101,103]⟩)),(16,(.string ⟨#[108,101,115,115]⟩)),(17,(.string ⟨#[115,97,109,101]⟩)),(18,(.string ⟨#[110,111,116]⟩)),(19,(.string ⟨#[98,111,116,104]⟩)),(20,(.string ⟨#[106,111,105,110]⟩)),(21,(.string ⟨#[115,105,122,101]⟩)),(22,(.string ⟨#[106,117,109,112]⟩)),(23,(.string ⟨#[98,114,97,110,99,104]⟩)),(24,(.string ⟨#[110,101,119]⟩)),(25,(.string ⟨#[103,101,116]⟩)),(26,(.string ⟨#[112,117,116]⟩)),(27,(.string ⟨#[99,97,108,108]⟩)),(28,(.string ⟨#[97,114,114,97,121]⟩)),(29,(.string ⟨#[97,116]⟩)),(30,(.string ⟨#[115,101,116]⟩)),(31,(.string ⟨#[105,115]⟩)),(32,(.string ⟨#[99,97,115,116]⟩)),(33,(.string ⟨#[114,101,116,117,114,110]⟩)),(34,(.string ⟨#[116,104,114,111,119]⟩)),(35,(.string ⟨#[111,117,116]⟩)),(36,(.string ⟨#[101,113,117,97,108]⟩)),(37,(.string ⟨#[97,110,100]⟩)),(38,(.string ⟨#[111,114]⟩)),(39,(.string ⟨#[120,111,114]⟩)),(40,(.string ⟨#[115,104,108]⟩)),(41,(.string ⟨#[115,104,114]⟩))] w fun a w=>K a w
theorem Q0x {w:World} {K:Value→World→Prop} (h:Ds w K):Q1 P F.bU [] w K:=Q9 (List.replicate 2 none) Tryz.func233 rfl (by decide) (by kernel_rfl) h
def Fb:V8:=[none,none,none,none,some ([4],[2,4,6,7,8,9,10,11,12,13,14,15,16,17,18]),none,none,none,none,none,none]
def Ln (i:Value) (w:World) (K:Value→World→Prop):Prop:= Q1 P F.bU [] w fun g w=>lp (α:=Value) (.int .i64 0) w fun a b k w=>X3 P .len [T.h] T.e [false] [g] w fun h w=>Q3 P .lss T.e (.tmp 6) (.tmp 8) b h w fun j w=>X1 j (indexAddr P T.h g b w fun d w=>Q2 P T.c d w fun f w=>Q3 P .eql T.c (.tmp 15) (.tmp 16) f i w fun c w=>X1 c (K b w) (Q3 P .add T.e (.tmp 10) (.const (.int .i64 1)) b (.int .i64 1) w fun e w=>a e w)) (K (.int .i64 (-1)) w)
theorem Fy {a:Value} {w:World} {K:Value→World→Prop} (h:Ln a w K):Q1 P F.bg [a] w K:=Q9 Fb Tryz.func230 rfl (by decide) (by kernel_rfl) h
def Ia:V8:=[none,none,none,some ([4],[4,5,6,7,8,9]),none,none,none,none,none,some ([10],[10,11,12,13,14,15,16,17,18]),none,none,none,none,none,none,none,none,none,none,none,none]
def Mo (a:Value) (w:World) (K:Value→World→Prop):Prop:= jn (α:=Value) w (fun j w=>Q3 P .eql T.c (.tmp 3) (.const (.string ⟨#[105,110,116]⟩)) a (.string ⟨#[105,110,116]⟩) w fun p w=>X1 p (j p w) (Q3 P .eql T.c (.tmp 3) (.const (.string ⟨#[108,111,97,100]⟩)) a (.string ⟨#[108,111,97,100]⟩) w fun q w=>X1 q (j q w) (Q3 P .eql T.c (.tmp 3) (.const (.string ⟨#[115,116,111,114,101]⟩)) a (.string ⟨#[115,116,111,114,101]⟩) w fun n w=>X1 n (j n w) (Q3 P .eql T.c (.tmp 3) (.const (.string ⟨#[106,117,109,112]⟩)) a (.string ⟨#[106,117,109,112]⟩) w fun o w=>X1 o (j o w) (Q3 P .eql T.c (.tmp 3) (.const (.string ⟨#[98,114,97,110,99,104]⟩)) a (.string ⟨#[98,114,97,110,99,104]⟩) w fun t w=>j t w))))) fun u r w=>X1 u (K (.int .i64 1) w) (jn (α:=Value) w (fun b w=>Q3 P .eql T.c (.tmp 3) (.const (.string ⟨#[119,111,114,100]⟩)) a (.string ⟨#[119,111,114,100]⟩) w fun d w=>X1 d (b d w) (Q3 P .eql T.c (.tmp 3) (.const (.string ⟨#[110,101,119]⟩)) a (.string ⟨#[110,101,119]⟩) w fun c w=>X1 c (b c w) (Q3 P .eql T.c (.tmp 3) (.const (.string ⟨#[103,101,116]⟩)) a (.string ⟨#[103,101,116]⟩) w fun g w=>X1 g (b g w) (Q3 P .eql T.c (.tmp 3) (.const (.string ⟨#[112,117,116]⟩)) a (.string ⟨#[112,117,116]⟩) w fun e w=>X1 e (b e w) (Q3 P .eql T.c (.tmp 3) (.const (.string ⟨#[99,97,108,108]⟩)) a (.string ⟨#[99,97,108,108]⟩) w fun f w=>X1 f (b f w) (Q3 P .eql T.c (.tmp 3) (.const (.string ⟨#[97,114,114,97,121]⟩)) a (.string ⟨#[97,114,114,97,121]⟩) w fun i w=>X1 i (b i w) (Q3 P .eql T.c (.tmp 3) (.const (.string ⟨#[105,115]⟩)) a (.string ⟨#[105,115]⟩) w fun h w=>X1 h (b h w) (Q3 P .eql T.c (.tmp 3) (.const (.string ⟨#[99,97,115,116]⟩)) a (.string ⟨#[99,97,115,116]⟩) w fun m w=>b m w)))))))) fun s r w=>X1 s (K (.int .i64 2) w) (Q1 P F.bg [a] w fun l w=>Q3 P .lss T.e (.tmp 20) (.const (.int .i64 0)) l (.int .i64 0) w fun k w=>X1 k (K (.int .i64 (-1)) w) (K (.int .i64 0) w)))
theorem Iy {a:Value} {w:World} {K:Value→World→Prop} (h:Mo a w K):Q1 P F.bv [a] w K:=Q9 Ia Tryz.func225 rfl (by decide) (by kernel_rfl) h
def Gq:V8:=[none,none,none,some ([5],[2,3,4,5,6,7,8,9,10,11,12,13,14,15,16,17,18,19,20,21,22,23,24,25,26,27,28,29,30,31,32,33]),none,none,none,none,none,none]
def Lw (z:Value) (w:World) (K:Value→World→Prop):Prop:= lp (α:=Value) (.int .i64 0) w fun l t N w=>X3 P .len [T.c] T.e [false] [z] w fun M w=>Q3 P .lss T.e (.tmp 6) (.tmp 8) t M w fun L w=>X1 L (S6 P T.c z t w fun H w=>Q3 P .eql T.a3 (.tmp 14) (.const (.int .u8 46)) H (.int .u8 46) w fun E w=>X1 E (dr w fun b d=>Q6 b (fun u=> ∀w,d w→R2 P T.c z none (some t) none w (dk b u w)) fun u=>Q6 b (fun e=> ∀w,d w→Q3 P .add T.e (.tmp 20) (.const (.int .i64 1)) t (.int .i64 1) w (dk b e w)) fun e=>Q6 b (fun v=> ∀n w,d w→e n w→R2 P T.c z (some n) none none w (dk b v w)) fun v=>Q6 b (fun g=> ∀w,d w→R2 P T.c z none (some t) none w (dk b g w)) fun g=>Q6 b (fun c=> ∀r w,d w→g r w→Q1 P F.d [r] w (dk b c w)) fun c=>Q6 b (fun h=> ∀a w,d w→c a w→Q0 a true w (fun w J=>J z w) (dk b h w)) fun h=>Q6 b (fun q=> ∀a w,d w→c a w→Q0 a true w (fun w J=>J t w) (dk b q w)) fun q=>Q6 b (fun f=> ∀a j w,d w→c a w→q j w→Q0 a true w (Q3 P .add T.e (.tmp 29) (.const (.int .i64 1)) j (.int .i64 1)) (dk b f w)) fun f=>Q6 b (fun m=> ∀a p o w,d w→c a w→h p w→f o w→Q0 a true w (R2 P T.c p (some o) none none) (dk b m w)) fun m=>Q6 b (fun k=> ∀a i w,d w→c a w→m i w→Q0 a true w (Q1 P F.u [i]) (dk b k w)) fun k=>Q6 b (fun y=> ∀a s w,d w→c a w→k s w→pick P a s (.bool false) w (dk b y w)) fun y=>∀A n C r a p j o i s B w,d w→u A w→e n w→v C w→g r w→c a w→h p w→q j w→f o w→m i w→k s w→y B w→ K (.tuple #[A,C,B]) w) (Q3 P .add T.e (.tmp 10) (.const (.int .i64 1)) t (.int .i64 1) w fun D w=>l D w)) (K (.tuple #[(.string ⟨#[]⟩),(.string ⟨#[]⟩),(.bool false)]) w)
theorem Ky {a:Value} {w:World} {K:Value→World→Prop} (h:Lw a w K):Q1 P F.bw [a] w K:=Q9 Gq Tryz.func226 rfl (by decide) (by kernel_rfl) h
def Ix:V8:=[none,none,none,none,none,none,some ([4],[4,5,6,7,8,30,31,32,33,34,35,36,37,38,39,40,41,42,43,44,45,46,47,48,49,50,51,52,53,54,55,56,57,58,59,60,61,62,63,64,65,66,67,68,69,70,71,72,73,74,75,76,77,78,79,80,81,82,83,84,85,86,87,88,89,90,91,92,93,94,95,96,97,98,99,100,101,102,103,104,105,106,107,108,109,110]),none,none,none,none,none,some ([4,5],[4,5,59,60,61,62,63,64,65,66,67,68,69,70,71,72,73]),none,none,none,none,some ([82],[82,83,84]),none,none,none,none,none,none,none]
def Nl (a0:Value) (w:World) (K:Value→World→Prop):Prop:= box P T.v a0 w fun d w=>fieldAddr P T.v d 0 w fun t9 w=>Q2 P T.c t9 w fun ah w=>Q1 P F.bv [ah] w fun k w=>Q3 P .lss T.e (.tmp 12) (.const (.int .i64 0)) k (.int .i64 0) w fun Y w=>X1 Y (K (.int .i64 40) w) (Q3 P .eql T.e (.tmp 14) (.const (.int .i64 1)) k (.int .i64 1) w fun i w=>Q0 i false w (fieldAddr P T.v d 1) fun aa w=>Q0 i false w (Q2 P T.a1 aa) fun a4 w=>Q0 i false w (Q3 P .eql T.a1 (.tmp 18) (.const (.int .i64 0)) a4 (.int .i64 0)) fun a5 w=>pick P i (.bool true) a5 w fun e w=>Q0 e true w (fun w J=>J k w) fun bd w=>Q0 e true w (Q3 P .eql T.e (.tmp 22) (.const (.int .i64 2)) bd (.int .i64 2)) fun O w=>Q0 e true w (fun w J=>J O w) fun j w=>Q0 j false w (fieldAddr P T.v d 2) fun be w=>Q0 j false w (Q2 P T.c be) fun X w=>Q0 j false w (Q3 P .eql T.c (.tmp 26) (.const (.string ⟨#[]⟩)) X (.string ⟨#[]⟩)) fun a7 w=>Q0 e true w (pick P j (.bool true) a7) fun a6 w=>pick P e a6 (.bool false) w fun a w=>jn (α:=Value) w (fun n w=>Q3 P .eql T.e (.tmp 30) (.const (.int .i64 2)) k (.int .i64 2) w fun ay w=>X1 ay (fieldAddr P T.v d 0 w fun ao w=>Q2 P T.c ao w fun g w=>Q3 P .eql T.c (.tmp 33) (.const (.string ⟨#[119,111,114,100]⟩)) g (.string ⟨#[119,111,114,100]⟩) w fun ap w=>X1 ap (Q0 a true w (fieldAddr P T.v d 2) fun ba w=>Q0 a true w (Q2 P T.c ba) fun Z w=>Q0 a true w (X3 P .len [T.c] T.e [false] [Z]) fun a9 w=>Q0 a true w (Q3 P .leq T.e (.tmp 51) (.const (.int .i64 64)) a9 (.int .i64 64)) fun E w=>pick P a E (.bool false) w fun l w=>Q0 l true w (fieldAddr P T.v d 2) fun Q w=>Q0 l true w (Q2 P T.c Q) fun V w=>Q0 l true w (Q1 P F.aH [V]) fun bb w=>pick P l bb (.bool false) w fun aq w=>lp (α:=Value×Value) (aq,(.int .i64 0)) w fun f b d_ w=>fieldAddr P T.v d 2 w fun az w=>Q2 P T.c az w fun ab w=>X3 P .len [T.c] T.e [false] [ab] w fun af w=>Q3 P .lss T.e (.tmp 59) (.tmp 62) b.2 af w fun a3 w=>X1 a3 (Q0 b.1 true w (fieldAddr P T.v d 2) fun ar w=>Q0 b.1 true w (Q2 P T.c ar) fun aw w=>Q0 b.1 true w (fun w J=>J b.2 w) fun ak w=>Q0 b.1 true w (S6 P T.c aw ak) fun ag w=>Q0 b.1 true w (Q3 P .neq T.a3 (.tmp 71) (.const (.int .u8 10)) ag (.int .u8 10)) fun L w=>pick P b.1 L (.bool false) w fun ae w=>Q3 P .add T.e (.tmp 64) (.const (.int .i64 1)) b.2 (.int .i64 1) w fun ai w=>f (ae,ai) w) (n b.1 w)) (Q3 P .eql T.c (.tmp 33) (.const (.string ⟨#[110,101,119]⟩)) g (.string ⟨#[110,101,119]⟩) w fun N w=>X1 N (Q0 a true w (fieldAddr P T.v d 2) fun D w=>Q0 a true w (Q2 P T.c D) fun av w=>Q0 a true w (Q1 P F.d [av]) fun aj w=>pick P a aj (.bool false) w fun C w=>n C w) (jn (α:=Value) w (fun y w=>Q3 P .eql T.c (.tmp 33) (.const (.string ⟨#[105,115]⟩)) g (.string ⟨#[105,115]⟩) w fun q w=>X1 q (y q w) (Q3 P .eql T.c (.tmp 33) (.const (.string ⟨#[99,97,115,116]⟩)) g (.string ⟨#[99,97,115,116]⟩) w fun B w=>y B w)) fun a1 d_ w=>X1 a1 (Q0 a true w (fieldAddr P T.v d 2) fun ad w=>Q0 a true w (Q2 P T.c ad) fun a2 w=>Q0 a true w (Q1 P F.e [a2]) fun ac w=>pick P a ac (.bool false) w fun h w=>Q0 h true w (fieldAddr P T.v d 2) fun R w=>Q0 h true w (Q2 P T.c R) fun M w=>Q0 h true w (Q1 P F.y [M]) fun H w=>Q0 h true w (J7 P .not H) fun bc w=>pick P h bc (.bool false) w fun U w=>n U w) (Q3 P .eql T.c (.tmp 33) (.const (.string ⟨#[97,114,114,97,121]⟩)) g (.string ⟨#[97,114,114,97,121]⟩) w fun am w=>X1 am (Q0 a true w (fieldAddr P T.v d 2) fun p w=>Q0 a true w (Q2 P T.c p) fun t w=>Q0 a true w (Q1 P F.e [t]) fun z w=>pick P a z (.bool false) w fun c w=>Q0 c true w (fieldAddr P T.v d 2) fun v w=>Q0 c true w (Q2 P T.c v) fun o w=>Q0 c true w (Q1 P F.a2 [o]) fun r w=>Q0 c true w (Q3 P .lss T.e (.tmp 108) (.const (.int .i64 3)) r (.int .i64 3)) fun A w=>pick P c A (.bool false) w fun s w=>n s w) (fieldAddr P T.v d 2 w fun W w=>Q2 P T.c W w fun an w=>Q1 P F.bw [an] w fun m w=>ext P m 0 w fun bh w=>ext P m 1 w fun bi w=>ext P m 2 w fun a8 w=>Q0 a true w (fun w J=>J a8 w) fun ax w=>pick P a ax (.bool false) w fun al w=>n al w))))) (n a w)) fun z6 d_ w=>J7 P .not z6 w fun u w=>X1 u (K (.int .i64 41) w) (K (.int .i64 0) w))
theorem Il {a:Value} {w:World} {K:Value→World→Prop} (h:Nl a w K):Q1 P F.bu [a] w K:=Q9 Ix Tryz.func215 rfl (by decide) (by kernel_rfl) h
def Q0d:V8:=[none,none,none,some ([3],[2,3,4,5,6,7,8,9,10,11,12,13,14,15,16,17,18]),none,none,none,none,none,none,none]
def Es (h:Value) (w:World) (K:Value→World→Prop):Prop:= lp (α:=Value) (.int .i64 0) w fun a c k w=>X3 P .len [T.q] T.e [false] [h] w fun i w=>Q3 P .lss T.e (.tmp 5) (.tmp 7) c i w fun j w=>X1 j (indexAddr P T.q h c w fun g w=>Q2 P T.v g w fun f w=>Q1 P F.bu [f] w fun b w=>Q3 P .neq T.y (.tmp 16) (.const (.int .i64 0)) b (.int .i64 0) w fun d w=>X1 d (K b w) (Q3 P .add T.e (.tmp 9) (.const (.int .i64 1)) c (.int .i64 1) w fun e w=>a e w)) (K (.int .i64 0) w)
theorem Q0n {a:Value} {w:World} {K:Value→World→Prop} (h:Es a w K):Q1 P F.b2 [a] w K:=Q9 Q0d Tryz.func203 rfl (by decide) (by kernel_rfl) h
def Fa:V8:=[none,none,none,none,some ([3,4],[3,4,21,22,23,24,25,26,27,28,29,30,31,32,33,34,35,36]),none,none,none,none,none,none,none,none,none,some ([3,6],[3,6,7,60,61,62,63,64,65,66,67,68,69,70,71,72,73,74,75,76,77,78,79,80,81,82,83,84,85,86,87,88,89,90,91,92,93,94,95,96,97,98,99,100,101,102,103,104,105,106]),none,none,none,none,none]
def Lf (a0:Value) (w:World) (K:Value→World→Prop):Prop:= box P T.d a0 w fun d w=>fieldAddr P T.d d 0 w fun t8 w=>Q2 P T.c t8 w fun t9 w=>Q1 P F.u [t9] w fun g w=>Q0 g true w (fieldAddr P T.d d 2) fun ba w=>Q0 g true w (Q2 P T.c ba) fun ah w=>Q0 g true w (Q3 P .eql T.c (.tmp 13) (.const (.string ⟨#[]⟩)) ah (.string ⟨#[]⟩)) fun bf w=>Q0 g true w (fun w J=>J bf w) fun n w=>Q0 n false w (fieldAddr P T.d d 2) fun bn w=>Q0 n false w (Q2 P T.c bn) fun ak w=>Q0 n false w (Q1 P F.e [ak]) fun bj w=>Q0 g true w (pick P n (.bool true) bj) fun bo w=>pick P g bo (.bool false) w fun aj w=>lp (α:=Value×Value) (aj,(.int .i64 0)) w fun o e d_ w=>fieldAddr P T.d d 1 w fun bz w=>Q2 P T.h bz w fun ab w=>X3 P .len [T.h] T.e [false] [ab] w fun ay w=>Q3 P .lss T.e (.tmp 21) (.tmp 24) e.2 ay w fun b0 w=>X1 b0 (Q0 e.1 true w (fieldAddr P T.d d 1) fun ap w=>Q0 e.1 true w (Q2 P T.h ap) fun bc w=>Q0 e.1 true w (fun w J=>J e.2 w) fun a5 w=>Q0 e.1 true w (indexAddr P T.h bc a5) fun bs w=>Q0 e.1 true w (Q2 P T.c bs) fun av w=>Q0 e.1 true w (Q1 P F.e [av]) fun ag w=>pick P e.1 ag (.bool false) w fun a4 w=>Q3 P .add T.e (.tmp 26) (.const (.int .i64 1)) e.2 (.int .i64 1) w fun br w=>o (a4,br) w) (fieldAddr P T.d d 3 w fun bv w=>Q2 P T.u bv w fun al w=>X1 al (Q0 e.1 true w (fieldAddr P T.d d 4) fun bd w=>Q0 e.1 true w (Q2 P T.e bd) fun V w=>Q0 e.1 true w (Q3 P .eql T.e (.tmp 42) (.const (.int .i64 0)) V (.int .i64 0)) fun bb w=>pick P e.1 bb (.bool false) w fun k w=>Q0 k true w (fieldAddr P T.d d 5) fun a6 w=>Q0 k true w (Q2 P T.q a6) fun ao w=>Q0 k true w (X3 P .len [T.q] T.e [false] [ao]) fun bk w=>Q0 k true w (Q3 P .eql T.e (.tmp 48) (.const (.int .i64 0)) bk (.int .i64 0)) fun bu w=>pick P k bu (.bool false) w fun j w=>Q0 j true w (fieldAddr P T.d d 6) fun W w=>Q0 j true w (Q2 P T.s W) fun bp w=>Q0 j true w (X3 P .len [T.s] T.e [false] [bp]) fun bq w=>Q0 j true w (Q3 P .eql T.e (.tmp 54) (.const (.int .i64 0)) bq (.int .i64 0)) fun ac w=>pick P j ac (.bool false) w fun af w=>K af w) (fieldAddr P T.d d 5 w fun bw w=>Q2 P T.q bw w fun a7 w=>X3 P .len [T.q] T.e [false] [a7] w fun r w=>lp (α:=Value×Value) (e.1,(.int .i64 0)) w fun l b d_ w=>fieldAddr P T.d d 6 w fun am w=>Q2 P T.s am w fun aw w=>X3 P .len [T.s] T.e [false] [aw] w fun bg w=>Q3 P .lss T.e (.tmp 60) (.tmp 63) b.2 bg w fun bm w=>X1 bm (fieldAddr P T.d d 6 w fun bi w=>Q2 P T.s bi w fun a8 w=>indexAddr P T.s a8 b.2 w fun a2 w=>Q2 P T.t a2 w fun az w=>W0 P T.t w fun q w=>Y0 P T.t q az w fun _u w=>Q0 b.1 true w (fieldAddr P T.t q 0) fun ai w=>Q0 b.1 true w (Q2 P T.e ai) fun aa w=>Q0 b.1 true w (Q3 P .geq T.e (.tmp 75) (.const (.int .i64 0)) aa (.int .i64 0)) fun an w=>pick P b.1 an (.bool false) w fun h w=>Q0 h true w (fieldAddr P T.t q 0) fun a9 w=>Q0 h true w (Q2 P T.e a9) fun a1 w=>Q0 h true w (fieldAddr P T.t q 1) fun U w=>Q0 h true w (Q2 P T.e U) fun X w=>Q0 h true w (Q3 P .lss T.e (.tmp 80) (.tmp 82) a1 X) fun ax w=>pick P h ax (.bool false) w fun i w=>Q0 i true w (fieldAddr P T.t q 1) fun bl w=>Q0 i true w (Q2 P T.e bl) fun ar w=>Q0 i true w (fun w J=>J r w) fun be w=>Q0 i true w (Q3 P .leq T.e (.tmp 87) (.tmp 88) ar be) fun aq w=>pick P i aq (.bool false) w fun p w=>Q0 p true w (fieldAddr P T.t q 2) fun ad w=>Q0 p true w (Q2 P T.e ad) fun Z w=>Q0 p true w (Q3 P .geq T.e (.tmp 93) (.const (.int .i64 0)) Z (.int .i64 0)) fun Y w=>pick P p Y (.bool false) w fun m w=>Q0 m true w (fieldAddr P T.t q 2) fun ae w=>Q0 m true w (Q2 P T.e ae) fun a3 w=>Q0 m true w (fun w J=>J r w) fun bx w=>Q0 m true w (Q3 P .lss T.e (.tmp 98) (.tmp 99) a3 bx) fun C w=>pick P m C (.bool false) w fun f w=>Q0 f true w (fieldAddr P T.t q 3) fun E w=>Q0 f true w (Q2 P T.c E) fun v w=>Q0 f true w (Q1 P F.d [v]) fun B w=>pick P f B (.bool false) w fun D w=>Q3 P .add T.e (.tmp 65) (.const (.int .i64 1)) b.2 (.int .i64 1) w fun bh w=>l (D,bh) w) (Q0 b.1 true w (fun w J=>J r w) fun O w=>Q0 b.1 true w (Q3 P .gtr T.e (.tmp 109) (.const (.int .i64 0)) O (.int .i64 0)) fun z w=>pick P b.1 z (.bool false) w fun a w=>Q0 a true w (fieldAddr P T.d d 4) fun L w=>Q0 a true w (Q2 P T.e L) fun N w=>Q0 a true w (fieldAddr P T.d d 1) fun y w=>Q0 a true w (Q2 P T.h y) fun Q w=>Q0 a true w (X3 P .len [T.h] T.e [false] [Q]) fun R w=>Q0 a true w (Q3 P .gtr T.e (.tmp 114) (.tmp 117) N R) fun A w=>pick P a A (.bool false) w fun c w=>Q0 c true w (fieldAddr P T.d d 5) fun H w=>Q0 c true w (Q2 P T.q H) fun s w=>Q0 c true w (Q1 P F.b2 [s]) fun t w=>Q0 c true w (Q3 P .eql T.y (.tmp 123) (.const (.int .i64 0)) t (.int .i64 0)) fun M w=>pick P c M (.bool false) w fun u w=>K u w)))
theorem Fg {a:Value} {w:World} {K:Value→World→Prop} (h:Lf a w K):Q1 P F.a5 [a] w K:=Q9 Fa Tryz.func182 rfl (by decide) (by kernel_rfl) h
end Go.Proofs.YtjdiakhipmggjaaGreatDoor

set_option maxRecDepth 100000
namespace Go.Proofs.YtjdiakhipmggjaaGreatDoor
open Go.Emb
def Ie:V8:=[none,none,none,none,some ([3,4],[3,4,5,26,27,28,29,30,31,32,33,34,35,36,37,38,39,40,41,42,43,44,45,46,47,48,49,50,51,52,53,54,55,56,57,58,59,60,61,62,63,64,65,66,67,68,69,70]),none,none,none,none,none,some ([3,5],[3,5,52,53,54,55,56,57,58,59,60,61,62,63,64,65,66,67,68,69,70]),none,none,none,none,none,some ([3,6],[3,6,7,71,72,73,74,75,76,77,78,79,80,81,82,83,84,85,86,87,88,89,90,91,92,93,94,95,96,97,98,99,100,101,102,103,104,105,106,107,108,109,110,111,112,113,114,115,116,117,118,119,120,121,122]),none,none,none,none,none,some ([3,7],[3,7,102,103,104,105,106,107,108,109,110,111,112,113,114,115,116,117,118,119,120,121,122]),none,none,none,none,none,some ([3,8],[3,8,9,10,123,124,125,126,127,128,129,130,131,132,133,134,135,136,137,138,139,140,141,142,143,144,145,146,147,148,149,150,151,152,153,154,155,156,157,158,159,160,161,162,163,164,165,166,167,168,169,170,171,172,173,174]),none,none,none,none,none,none,some ([3,10],[3,10,158,159,160,161,162,163,164,165,166,167,168,169,170,171,172,173,174]),none,none,none,none]
def Mi (a0:Value) (w:World) (K:Value→World→Prop):Prop:= box P T.b a0 w fun i w=>fieldAddr P T.b i 0 w fun eb w=>Q2 P T.c eb w fun e1 w=>Q1 P F.d [e1] w fun a3 w=>Q0 a3 true w (fieldAddr P T.b i 1) fun d3 w=>Q0 a3 true w (Q2 P T.c d3) fun e4 w=>Q0 a3 true w (Q1 P F.d [e4]) fun d6 w=>pick P a3 d6 (.bool false) w fun ah w=>Q0 ah true w (fieldAddr P T.b i 0) fun er w=>Q0 ah true w (Q2 P T.c er) fun e3 w=>Q0 ah true w (fieldAddr P T.b i 1) fun e9 w=>Q0 ah true w (Q2 P T.c e9) fun ep w=>Q0 ah true w (Q3 P .neq T.c (.tmp 21) (.tmp 23) e3 ep) fun ex w=>pick P ah ex (.bool false) w fun eh w=>lp (α:=Value×Value) (eh,(.int .i64 0)) w fun bi v d_ w=>fieldAddr P T.b i 2 w fun ee w=>Q2 P T.h ee w fun e5 w=>X3 P .len [T.h] T.e [false] [e5] w fun ea w=>Q3 P .lss T.e (.tmp 26) (.tmp 29) v.2 ea w fun es w=>X1 es (dr w fun a b=>Q6 a (fun bv=> ∀w,b w→Q0 v.1 true w (fieldAddr P T.b i 2) (dk a bv w)) fun bv=>Q6 a (fun bn=> ∀w,b w→Q0 v.1 true w (fun w J=>J v.2 w) (dk a bn w)) fun bn=>Q6 a (fun ba=> ∀a4 w,b w→bv a4 w→Q0 v.1 true w (Q2 P T.h a4) (dk a ba w)) fun ba=>Q6 a (fun bk=> ∀a9 b4 w,b w→ba a9 w→bn b4 w→Q0 v.1 true w (indexAddr P T.h a9 b4) (dk a bk w)) fun bk=>Q6 a (fun bx=> ∀a5 w,b w→bk a5 w→Q0 v.1 true w (Q2 P T.c a5) (dk a bx w)) fun bx=>Q6 a (fun bj=> ∀a8 w,b w→bx a8 w→Q0 v.1 true w (Q1 P F.d [a8]) (dk a bj w)) fun bj=>Q6 a (fun j=> ∀bh w,b w→bj bh w→pick P v.1 bh (.bool false) w (dk a j w)) fun j=>Q6 a (fun bo=> ∀c w,b w→j c w→Q0 c true w (fieldAddr P T.b i 2) (dk a bo w)) fun bo=>Q6 a (fun bb=> ∀c w,b w→j c w→Q0 c true w (fun w J=>J v.2 w) (dk a bb w)) fun bb=>Q6 a (fun ay=> ∀c w,b w→j c w→Q0 c true w (fieldAddr P T.b i 0) (dk a ay w)) fun ay=>Q6 a (fun b1=> ∀c bw w,b w→j c w→bo bw w→Q0 c true w (Q2 P T.h bw) (dk a b1 w)) fun b1=>Q6 a (fun bm=> ∀c br bs w,b w→j c w→b1 br w→bb bs w→Q0 c true w (indexAddr P T.h br bs) (dk a bm w)) fun bm=>Q6 a (fun cc=> ∀c bu w,b w→j c w→bm bu w→Q0 c true w (Q2 P T.c bu) (dk a cc w)) fun cc=>Q6 a (fun cb=> ∀c bf w,b w→j c w→ay bf w→Q0 c true w (Q2 P T.c bf) (dk a cb w)) fun cb=>∀a4 b4 a9 a5 a8 bh c bw bs bf br bu dh d0 w,b w→bv a4 w→bn b4 w→ba a9 w→bk a5 w→bx a8 w→bj bh w→j c w→bo bw w→bb bs w→ay bf w→b1 br w→bm bu w→cc dh w→cb d0 w→ Q0 c true w (Q3 P .neq T.c (.tmp 47) (.tmp 49) dh d0) fun d5 w=>pick P c d5 (.bool false) w fun ef w=>lp (α:=Value×Value) (ef,(.int .i64 0)) w fun al e d_ w=>Q3 P .lss T.e (.tmp 52) (.tmp 53) e.2 v.2 w fun ed w=>X1 ed (dr w fun a b=>Q6 a (fun az=> ∀w,b w→Q0 e.1 true w (fieldAddr P T.b i 2) (dk a az w)) fun az=>Q6 a (fun bd=> ∀w,b w→Q0 e.1 true w (fun w J=>J e.2 w) (dk a bd w)) fun bd=>Q6 a (fun be=> ∀w,b w→Q0 e.1 true w (fieldAddr P T.b i 2) (dk a be w)) fun be=>Q6 a (fun a1=> ∀w,b w→Q0 e.1 true w (fun w J=>J v.2 w) (dk a a1 w)) fun a1=>Q6 a (fun b2=> ∀bq w,b w→az bq w→Q0 e.1 true w (Q2 P T.h bq) (dk a b2 w)) fun b2=>Q6 a (fun bl=> ∀bc a6 w,b w→b2 bc w→bd a6 w→Q0 e.1 true w (indexAddr P T.h bc a6) (dk a bl w)) fun bl=>Q6 a (fun b9=> ∀bp w,b w→bl bp w→Q0 e.1 true w (Q2 P T.c bp) (dk a b9 w)) fun b9=>Q6 a (fun ax=> ∀bg w,b w→be bg w→Q0 e.1 true w (Q2 P T.h bg) (dk a ax w)) fun ax=>Q6 a (fun b3=> ∀a7 bz w,b w→ax a7 w→a1 bz w→Q0 e.1 true w (indexAddr P T.h a7 bz) (dk a b3 w)) fun b3=>Q6 a (fun ca=> ∀b0 w,b w→b3 b0 w→Q0 e.1 true w (Q2 P T.c b0) (dk a ca w)) fun ca=>∀bq a6 bg bz bc bp c3 a7 b0 ct w,b w→az bq w→bd a6 w→be bg w→a1 bz w→b2 bc w→bl bp w→b9 c3 w→ax a7 w→b3 b0 w→ca ct w→ Q0 e.1 true w (Q3 P .neq T.c (.tmp 63) (.tmp 68) c3 ct) fun e2 w=>pick P e.1 e2 (.bool false) w fun e0 w=>Q3 P .add T.e (.tmp 55) (.const (.int .i64 1)) e.2 (.int .i64 1) w fun eq w=>al (e0,eq) w) (Q3 P .add T.e (.tmp 31) (.const (.int .i64 1)) v.2 (.int .i64 1) w fun d9 w=>bi (e.1,d9) w)) (lp (α:=Value×Value) (v.1,(.int .i64 0)) w fun ai f d_ w=>fieldAddr P T.b i 6 w fun em w=>Q2 P T.k em w fun eu w=>X3 P .len [T.k] T.e [false] [eu] w fun d4 w=>Q3 P .lss T.e (.tmp 71) (.tmp 74) f.2 d4 w fun d1 w=>X1 d1 (Q0 f.1 true w (fieldAddr P T.b i 6) fun ez w=>Q0 f.1 true w (Q2 P T.k ez) fun ej w=>Q0 f.1 true w (fun w J=>J f.2 w) fun ek w=>Q0 f.1 true w (indexAddr P T.k ej ek) fun ew w=>Q0 f.1 true w (fieldAddr P T.n ew 0) fun ei w=>Q0 f.1 true w (Q2 P T.c ei) fun d7 w=>Q0 f.1 true w (Q1 P F.u [d7]) fun ec w=>pick P f.1 ec (.bool false) w fun n w=>Q0 n true w (fieldAddr P T.b i 6) fun et w=>Q0 n true w (Q2 P T.k et) fun e7 w=>Q0 n true w (fun w J=>J f.2 w) fun ey w=>Q0 n true w (indexAddr P T.k e7 ey) fun d2 w=>Q0 n true w (fieldAddr P T.n d2 1) fun eo w=>Q0 n true w (Q2 P T.c eo) fun el w=>Q0 n true w (Q1 P F.e [el]) fun e8 w=>pick P n e8 (.bool false) w fun a2 w=>Q0 a2 true w (fieldAddr P T.b i 3) fun d8 w=>Q0 a2 true w (Q2 P T.u d8) fun eg w=>Q0 a2 true w (J7 P .not eg) fun cx w=>pick P a2 cx (.bool false) w fun df w=>lp (α:=Value×Value) (df,(.int .i64 0)) w fun ao d d_ w=>Q3 P .lss T.e (.tmp 102) (.tmp 103) d.2 f.2 w fun dl w=>X1 dl (dr w fun a b=>Q6 a (fun X=> ∀w,b w→Q0 d.1 true w (fieldAddr P T.b i 6) (dk a X w)) fun X=>Q6 a (fun af=> ∀w,b w→Q0 d.1 true w (fun w J=>J d.2 w) (dk a af w)) fun af=>Q6 a (fun r=> ∀w,b w→Q0 d.1 true w (fieldAddr P T.b i 6) (dk a r w)) fun r=>Q6 a (fun E=> ∀w,b w→Q0 d.1 true w (fun w J=>J f.2 w) (dk a E w)) fun E=>Q6 a (fun B=> ∀H w,b w→X H w→Q0 d.1 true w (Q2 P T.k H) (dk a B w)) fun B=>Q6 a (fun y=> ∀U s w,b w→B U w→af s w→Q0 d.1 true w (indexAddr P T.k U s) (dk a y w)) fun y=>Q6 a (fun ab=> ∀aa w,b w→y aa w→Q0 d.1 true w (fieldAddr P T.n aa 0) (dk a ab w)) fun ab=>Q6 a (fun aw=> ∀ad w,b w→ab ad w→Q0 d.1 true w (Q2 P T.c ad) (dk a aw w)) fun aw=>Q6 a (fun ae=> ∀R w,b w→r R w→Q0 d.1 true w (Q2 P T.k R) (dk a ae w)) fun ae=>Q6 a (fun q=> ∀M ag w,b w→ae M w→E ag w→Q0 d.1 true w (indexAddr P T.k M ag) (dk a q w)) fun q=>Q6 a (fun u=> ∀V w,b w→q V w→Q0 d.1 true w (fieldAddr P T.n V 0) (dk a u w)) fun u=>Q6 a (fun av=> ∀N w,b w→u N w→Q0 d.1 true w (Q2 P T.c N) (dk a av w)) fun av=>∀H s R ag U aa ad b8 M V N b5 w,b w→X H w→af s w→r R w→E ag w→B U w→y aa w→ab ad w→aw b8 w→ae M w→q V w→u N w→av b5 w→ Q0 d.1 true w (Q3 P .neq T.c (.tmp 114) (.tmp 120) b8 b5) fun c4 w=>pick P d.1 c4 (.bool false) w fun cd w=>Q3 P .add T.e (.tmp 105) (.const (.int .i64 1)) d.2 (.int .i64 1) w fun dv w=>ao (cd,dv) w) (Q3 P .add T.e (.tmp 76) (.const (.int .i64 1)) f.2 (.int .i64 1) w fun e6 w=>ai (d.1,e6) w)) (lp (α:=Value×Value) (f.1,(.int .i64 0)) w fun an h d_ w=>fieldAddr P T.b i 7 w fun c5 w=>Q2 P T.j c5 w fun cm w=>X3 P .len [T.j] T.e [false] [cm] w fun di w=>Q3 P .lss T.e (.tmp 123) (.tmp 126) h.2 di w fun dd w=>X1 dd (fieldAddr P T.b i 7 w fun dp w=>Q2 P T.j dp w fun dz w=>indexAddr P T.j dz h.2 w fun cs w=>Q2 P T.d cs w fun cl w=>W0 P T.d w fun t9 w=>Y0 P T.d t9 cl w fun _u w=>Q0 h.1 true w (Q2 P T.d t9) fun cr w=>Q0 h.1 true w (Q1 P F.a5 [cr]) fun c8 w=>pick P h.1 c8 (.bool false) w fun m w=>Q0 m true w (fieldAddr P T.d t9 3) fun dc w=>Q0 m true w (Q2 P T.u dc) fun cp w=>Q0 m true w (J7 P .not cp) fun cv w=>Q0 m true w (fun w J=>J cv w) fun ar w=>Q0 ar false w (fieldAddr P T.b i 4) fun dj w=>Q0 ar false w (Q2 P T.u dj) fun ce w=>Q0 m true w (pick P ar (.bool true) ce) fun ck w=>pick P m ck (.bool false) w fun l w=>Q0 l true w (fieldAddr P T.b i 3) fun dm w=>Q0 l true w (Q2 P T.u dm) fun dx w=>Q0 l true w (J7 P .not dx) fun dy w=>Q0 l true w (fun w J=>J dy w) fun am w=>Q0 am false w (fieldAddr P T.d t9 3) fun c7 w=>Q0 am false w (Q2 P T.u c7) fun dq w=>Q0 l true w (pick P am (.bool true) dq) fun cy w=>pick P l cy (.bool false) w fun cw w=>lp (α:=Value×Value) (cw,(.int .i64 0)) w fun aq g d_ w=>Q3 P .lss T.e (.tmp 158) (.tmp 159) g.2 h.2 w fun c1 w=>X1 c1 (dr w fun a b=>Q6 a (fun D=> ∀w,b w→Q0 g.1 true w (fieldAddr P T.b i 7) (dk a D w)) fun D=>Q6 a (fun Z=> ∀w,b w→Q0 g.1 true w (fun w J=>J g.2 w) (dk a Z w)) fun Z=>Q6 a (fun A=> ∀w,b w→Q0 g.1 true w (fieldAddr P T.d t9 0) (dk a A w)) fun A=>Q6 a (fun L=> ∀z w,b w→D z w→Q0 g.1 true w (Q2 P T.j z) (dk a L w)) fun L=>Q6 a (fun W=> ∀C p w,b w→L C w→Z p w→Q0 g.1 true w (indexAddr P T.j C p) (dk a W w)) fun W=>Q6 a (fun Y=> ∀t w,b w→W t w→Q0 g.1 true w (fieldAddr P T.d t 0) (dk a Y w)) fun Y=>Q6 a (fun aj=> ∀ac w,b w→Y ac w→Q0 g.1 true w (Q2 P T.c ac) (dk a aj w)) fun aj=>Q6 a (fun ap=> ∀Q w,b w→A Q w→Q0 g.1 true w (Q2 P T.c Q) (dk a ap w)) fun ap=>∀z p Q C t ac b6 b7 w,b w→D z w→Z p w→A Q w→L C w→W t w→Y ac w→aj b6 w→ap b7 w→ Q0 g.1 true w (Q3 P .neq T.c (.tmp 170) (.tmp 172) b6 b7) fun cf w=>pick P g.1 cf (.bool false) w fun cq w=>Q3 P .add T.e (.tmp 161) (.const (.int .i64 1)) g.2 (.int .i64 1) w fun c0 w=>aq (cq,c0) w) (Q3 P .add T.e (.tmp 128) (.const (.int .i64 1)) h.2 (.int .i64 1) w fun cn w=>an (g.1,cn) w)) (Q0 h.1 true w (fieldAddr P T.b i 3) fun c9 w=>Q0 h.1 true w (Q2 P T.u c9) fun cj w=>Q0 h.1 true w (J7 P .not cj) fun dn w=>Q0 h.1 true w (fun w J=>J dn w) fun o w=>Q0 o false w (fieldAddr P T.b i 4) fun ds w=>Q0 o false w (Q2 P T.u ds) fun c6 w=>Q0 o false w (fun w J=>J c6 w) fun O w=>Q0 O true w (fieldAddr P T.b i 1) fun du w=>Q0 O true w (Q2 P T.c du) fun cg w=>Q0 O true w (Q3 P .eql T.c (.tmp 185) (.const (.string ⟨#[79,98,106,101,99,116]⟩)) cg (.string ⟨#[79,98,106,101,99,116]⟩)) fun cz w=>Q0 o false w (pick P O cz (.bool false)) fun co w=>Q0 h.1 true w (pick P o (.bool true) co) fun db w=>pick P h.1 db (.bool false) w fun k w=>Q0 k true w (fieldAddr P T.b i 4) fun cu w=>Q0 k true w (Q2 P T.u cu) fun ci w=>Q0 k true w (fun w J=>J ci w) fun ak w=>Q0 ak true w (fieldAddr P T.b i 5) fun da w=>Q0 ak true w (Q2 P T.u da) fun c2 w=>Q0 k true w (pick P ak c2 (.bool false)) fun dt w=>Q0 k true w (J7 P .not dt) fun dg w=>pick P k dg (.bool false) w fun de w=>K de w)))
theorem Pr {a:Value} {w:World} {K:Value→World→Prop} (h:Mi a w K):Q1 P F.bq [a] w K:=Q9 Ie Tryz.func148 rfl (by decide) (by kernel_rfl) h
def Mh (c:Value) (w:World) (K:Value→World→Prop):Prop:= box P T.b c w fun a w=>Q2 P T.b a w fun d w=>Q1 P F.bJ [d] w fun e w=>X1 e (K (.int .i64 51) w) (Q2 P T.b a w fun f w=>Q1 P F.bq [f] w fun g w=>J7 P .not g w fun b w=>X1 b (K (.int .i64 50) w) (K (.int .i64 0) w))
theorem Iz {a:Value} {w:World} {K:Value→World→Prop} (h:Mh a w K):Q1 P F.bo [a] w K:=Q9 (List.replicate 8 none) Tryz.func100 rfl (by decide) (by kernel_rfl) h
def Tt:V8:=[none,none,none,some ([5],[4,5,6,7,8,9,10,11,12,13,14,15,16,17,18,19]),none,none,none,none,none,none]
def Da (h j:Value) (w:World) (K:Value→World→Prop):Prop:= lp (α:=Value) (.int .i64 0) w fun a b l w=>X3 P .len [T.i] T.e [false] [h] w fun i w=>Q3 P .lss T.e (.tmp 6) (.tmp 8) b i w fun k w=>X1 k (indexAddr P T.i h b w fun e w=>fieldAddr P T.b e 0 w fun g w=>Q2 P T.c g w fun d w=>Q3 P .eql T.c (.tmp 16) (.tmp 17) d j w fun c w=>X1 c (K b w) (Q3 P .add T.e (.tmp 10) (.const (.int .i64 1)) b (.int .i64 1) w fun f w=>a f w)) (K (.int .i64 (-1)) w)
theorem Ad {a b:Value} {w:World} {K:Value→World→Prop} (h:Da a b w K):Q1 P F.b [a,b] w K:=Q9 Tt Tryz.func101 rfl (by decide) (by kernel_rfl) h
def Bz:V8:=[none,none,none,none,none,none,none,some ([6],[4,6,7,28,29,30,31,32,33,34,35,36,37,38,39,40,41,42,43,44,45,46,47,48,49,50,51]),none,none,none,none,none,none,none]
def Ws (g V:Value) (w:World) (K:Value→World→Prop):Prop:= box P T.b V w fun b w=>fieldAddr P T.b b 1 w fun W w=>Q2 P T.c W w fun H w=>Q1 P F.b [g,H] w fun f w=>Q3 P .lss T.e (.tmp 12) (.const (.int .i64 0)) f (.int .i64 0) w fun c w=>Q0 c false w (fun w J=>J g w) fun n w=>Q0 c false w (fun w J=>J f w) fun u w=>Q0 c false w (indexAddr P T.i n u) fun q w=>Q0 c false w (fieldAddr P T.b q 3) fun r w=>Q0 c false w (Q2 P T.u r) fun v w=>pick P c (.bool true) v w fun d w=>Q0 d false w (fun w J=>J g w) fun Q w=>Q0 d false w (fun w J=>J f w) fun l w=>Q0 d false w (indexAddr P T.i Q l) fun D w=>Q0 d false w (fieldAddr P T.b D 5) fun R w=>Q0 d false w (Q2 P T.u R) fun o w=>pick P d (.bool true) o w fun B w=>X1 B (K (.int .i64 61) w) (lp (α:=Value) (.int .i64 0) w fun e m X w=>fieldAddr P T.b b 2 w fun k w=>Q2 P T.h k w fun z w=>X3 P .len [T.h] T.e [false] [z] w fun j w=>Q3 P .lss T.e (.tmp 28) (.tmp 31) m j w fun U w=>X1 U (fieldAddr P T.b b 2 w fun s w=>Q2 P T.h s w fun N w=>indexAddr P T.h N m w fun M w=>Q2 P T.c M w fun C w=>Q1 P F.b [g,C] w fun h w=>Q3 P .lss T.e (.tmp 42) (.const (.int .i64 0)) h (.int .i64 0) w fun a w=>Q0 a false w (fun w J=>J g w) fun O w=>Q0 a false w (fun w J=>J h w) fun i w=>Q0 a false w (indexAddr P T.i O i) fun y w=>Q0 a false w (fieldAddr P T.b y 3) fun t w=>Q0 a false w (Q2 P T.u t) fun L w=>Q0 a false w (J7 P .not L) fun p w=>pick P a (.bool true) p w fun E w=>X1 E (K (.int .i64 62) w) (Q3 P .add T.e (.tmp 33) (.const (.int .i64 1)) m (.int .i64 1) w fun A w=>e A w)) (K (.int .i64 0) w))
theorem By {a b:Value} {w:World} {K:Value→World→Prop} (h:Ws a b w K):Q1 P F.be [a,b] w K:=Q9 Bz Tryz.func102 rfl (by decide) (by kernel_rfl) h
def Ph:V8:=[none,none,none,none,some ([3,4],[3,4,5,6,7,8,13,14,15,16,17,18,19,20,21,22,23,24,25,26,27,28,29,30,31,32,33,34,35,36,37,38,39,40,41,42,43,44,45,46,47,48,49,50,51,52,53,54]),none,none,none,none,none,none,none,some ([7],[7,8,34,35,36,37,38,39,40,41,42,43,44,45,46,47,48,49,50]),none,none,some ([],[8,40,41,42,43,44,45,46,47,48,49,50]),none,none,none,none,some ([9],[9,10,11,55,56,57,58,59,60,61,62,63,64,65,66,67,68,69,70,71,72,73,74,75,76,77,78,79,80,81,82,83,84,85,86,87,88,89,90,91,92,93,94,95,96,97,98,99,100,101,102,103]),none,none,none,none,some ([10],[10,11,61,62,63,64,65,66,67,68,69,70,71,72,73,74,75,76,77,78,79,80,81,82,83,84,85,86,87,88,89,90,91,92,93,94,95,96,97,98,99,100,101,102,103]),none,none,none,none,some ([11],[11,67,68,69,70,71,72,73,74,75,76,77,78,79,80,81,82,83,84,85,86,87,88,89,90,91,92,93,94,95,96,97,98,99,100,101,102,103]),none,none,none,none]
def Md (a0:Value) (w:World) (K:Value→World→Prop):Prop:= buildSlice P T.a8 0 [] w fun bp w=>lp (α:=Value×Value) (bp,(.int .i64 0)) w fun ar r d_ w=>X3 P .len [T.i] T.e [false] [a0] w fun bh w=>Q3 P .lss T.e (.tmp 13) (.tmp 15) r.2 bh w fun bz w=>X1 bz (X3 P .len [T.i] T.e [false] [a0] w fun a7 w=>Dk P T.a6 a7 a7 w fun bd w=>dr w fun b d=>Q6 b (fun C=> ∀w,d w→indexAddr P T.i a0 r.2 w (dk b C w)) fun C=>Q6 b (fun B=> ∀aa w,d w→C aa w→fieldAddr P T.b aa 1 w (dk b B w)) fun B=>Q6 b (fun ah=> ∀w,d w→indexAddr P T.i a0 r.2 w (dk b ah w)) fun ah=>Q6 b (fun H=> ∀V w,d w→ah V w→fieldAddr P T.b V 2 w (dk b H w)) fun H=>Q6 b (fun ap=> ∀ay w,d w→B ay w→Q2 P T.c ay w (dk b ap w)) fun ap=>Q6 b (fun a2=> ∀R w,d w→ap R w→buildSlice P T.h 1 [(0,R)] w (dk b a2 w)) fun a2=>Q6 b (fun a4=> ∀ai w,d w→H ai w→Q2 P T.h ai w (dk b a4 w)) fun a4=>∀aa ay V ai R be ba w,d w→C aa w→B ay w→ah V w→H ai w→ap R w→a2 be w→a4 ba w→ X3 P .append [T.h,T.h] T.h [false,false] [be,ba] w fun bf w=>lp (α:=Value) (.int .i64 0) w fun p a5 d_ w=>X3 P .len [T.h] T.e [false] [bf] w fun bn w=>Q3 P .lss T.e (.tmp 34) (.tmp 36) a5 bn w fun b2 w=>X1 b2 (jn (α:=Unit) w (fun bb w=>indexAddr P T.h bf a5 w fun br w=>Q2 P T.c br w fun bm w=>Q1 P F.b [a0,bm] w fun a9 w=>Q3 P .geq T.e (.tmp 46) (.const (.int .i64 0)) a9 (.int .i64 0) w fun bj w=>X1 bj (indexAddr P T.a6 bd a9 w fun bi w=>Y0 P T.u bi (.bool true) w fun _u w=>bb () w) (bb () w)) fun b4 d_ w=>Q3 P .add T.e (.tmp 38) (.const (.int .i64 1)) a5 (.int .i64 1) w fun bk w=>p bk w) (buildSlice P T.a8 1 [(0,bd)] w fun b0 w=>X3 P .append [T.a8,T.a8] T.a8 [false,false] [r.1,b0] w fun b1 w=>Q3 P .add T.e (.tmp 17) (.const (.int .i64 1)) r.2 (.int .i64 1) w fun bw w=>ar (b1,bw) w)) (lp (α:=Value) (.int .i64 0) w fun q aj d_ w=>X3 P .len [T.i] T.e [false] [a0] w fun b3 w=>Q3 P .lss T.e (.tmp 55) (.tmp 57) aj b3 w fun bo w=>X1 bo (lp (α:=Value) (.int .i64 0) w fun n m d_ w=>X3 P .len [T.i] T.e [false] [a0] w fun bu w=>Q3 P .lss T.e (.tmp 61) (.tmp 63) m bu w fun bx w=>X1 bx (lp (α:=Value) (.int .i64 0) w fun o l d_ w=>X3 P .len [T.i] T.e [false] [a0] w fun bq w=>Q3 P .lss T.e (.tmp 67) (.tmp 69) l bq w fun bl w=>X1 bl (dr w fun b d=>Q6 b (fun U=> ∀w,d w→indexAddr P T.a8 r.1 m w (dk b U w)) fun U=>Q6 b (fun am=> ∀w,d w→indexAddr P T.a8 r.1 m w (dk b am w)) fun am=>Q6 b (fun a3=> ∀L w,d w→U L w→Q2 P T.a6 L w (dk b a3 w)) fun a3=>Q6 b (fun t=> ∀ad w,d w→am ad w→Q2 P T.a6 ad w (dk b t w)) fun t=>Q6 b (fun ab=> ∀s w,d w→t s w→indexAddr P T.a6 s l w (dk b ab w)) fun ab=>Q6 b (fun e=> ∀Z w,d w→ab Z w→Q2 P T.u Z w (dk b e w)) fun e=>Q6 b (fun E=> ∀a w,d w→e a w→Q0 a false w (fun w J=>J r.1 w) (dk b E w)) fun E=>Q6 b (fun aq=> ∀a w,d w→e a w→Q0 a false w (fun w J=>J m w) (dk b aq w)) fun aq=>Q6 b (fun z=> ∀a an Y w,d w→e a w→E an w→aq Y w→Q0 a false w (indexAddr P T.a8 an Y) (dk b z w)) fun z=>Q6 b (fun D=> ∀a w,d w→e a w→Q0 a false w (fun w J=>J aj w) (dk b D w)) fun D=>Q6 b (fun ag=> ∀a ak w,d w→e a w→z ak w→Q0 a false w (Q2 P T.a6 ak) (dk b ag w)) fun ag=>Q6 b (fun W=> ∀a X ax w,d w→e a w→ag X w→D ax w→Q0 a false w (indexAddr P T.a6 X ax) (dk b W w)) fun W=>Q6 b (fun af=> ∀a ac w,d w→e a w→W ac w→Q0 a false w (Q2 P T.u ac) (dk b af w)) fun af=>Q6 b (fun f=> ∀a M w,d w→e a w→af M w→Q0 a false w (fun w J=>J M w) (dk b f w)) fun f=>Q6 b (fun Q=> ∀c w,d w→f c w→Q0 c true w (fun w J=>J r.1 w) (dk b Q w)) fun Q=>Q6 b (fun av=> ∀c w,d w→f c w→Q0 c true w (fun w J=>J aj w) (dk b av w)) fun av=>Q6 b (fun ao=> ∀c A al w,d w→f c w→Q A w→av al w→Q0 c true w (indexAddr P T.a8 A al) (dk b ao w)) fun ao=>Q6 b (fun y=> ∀c w,d w→f c w→Q0 c true w (fun w J=>J l w) (dk b y w)) fun y=>Q6 b (fun v=> ∀c O w,d w→f c w→ao O w→Q0 c true w (Q2 P T.a6 O) (dk b v w)) fun v=>Q6 b (fun u=> ∀c N ae w,d w→f c w→v N w→y ae w→Q0 c true w (indexAddr P T.a6 N ae) (dk b u w)) fun u=>Q6 b (fun g=> ∀c aw w,d w→f c w→u aw w→Q0 c true w (Q2 P T.u aw) (dk b g w)) fun g=>Q6 b (fun i=> ∀a c j w,d w→e a w→f c w→g j w→Q0 a false w (pick P c j (.bool false)) (dk b i w)) fun i=>Q6 b (fun k=> ∀a h w,d w→e a w→i h w→pick P a (.bool true) h w (dk b k w)) fun k=>∀L ad a8 s Z a an Y ak ax X ac M c A al O ae N aw j h a1 w,d w→U L w→am ad w→a3 a8 w→t s w→ab Z w→e a w→E an w→aq Y w→z ak w→D ax w→ag X w→W ac w→af M w→f c w→Q A w→av al w→ao O w→y ae w→v N w→u aw w→g j w→i h w→k a1 w→ indexAddr P T.a6 a8 l w fun bc w=>Y0 P T.u bc a1 w fun _u w=>Q3 P .add T.e (.tmp 71) (.const (.int .i64 1)) l (.int .i64 1) w fun bg w=>o bg w) (Q3 P .add T.e (.tmp 65) (.const (.int .i64 1)) m (.int .i64 1) w fun bv w=>n bv w)) (Q3 P .add T.e (.tmp 59) (.const (.int .i64 1)) aj (.int .i64 1) w fun bs w=>q bs w)) (K r.1 w))
theorem Gz {a:Value} {w:World} {K:Value→World→Prop} (h:Md a w K):Q1 P F.ah [a] w K:=Q9 Ph Tryz.func103 rfl (by decide) (by kernel_rfl) h
def Q07:V8:=[none,none,none,none,none,none,some ([9],[8,9,16,17,18,19,20,21,22,23,24,25,26,27,28]),none,none,none,none,none,none,none,none,some ([1,11],[1,11,41,42,43,44,45,46,47,48,49,50,51,52,53,54,55,56]),none,none,none,none]
def Ev (y r X s:Value) (w:World) (K:Value→World→Prop):Prop:= Q3 P .lss T.e (.tmp 12) (.tmp 13) s X w fun D w=>X1 D (K r w) (lp (α:=Value) (.int .i64 0) w fun k J Y w=>X3 P .len [T.a7] T.e [false] [r] w fun L w=>Q3 P .lss T.e (.tmp 16) (.tmp 18) J L w fun M w=>X1 M (indexAddr P T.a7 r J w fun R w=>Q2 P T.e R w fun W w=>Q3 P .eql T.e (.tmp 25) (.tmp 26) W s w fun Q w=>X1 Q (K r w) (Q3 P .add T.e (.tmp 20) (.const (.int .i64 1)) J (.int .i64 1) w fun H w=>k H w)) (dr w fun a o=>Q6 a (fun g=> ∀w,o w→indexAddr P T.i y s w (dk a g w)) fun g=>Q6 a (fun f=> ∀e w,o w→g e w→fieldAddr P T.b e 1 w (dk a f w)) fun f=>Q6 a (fun i=> ∀w,o w→indexAddr P T.i y s w (dk a i w)) fun i=>Q6 a (fun d=> ∀m w,o w→i m w→fieldAddr P T.b m 2 w (dk a d w)) fun d=>Q6 a (fun j=> ∀n w,o w→f n w→Q2 P T.c n w (dk a j w)) fun j=>Q6 a (fun q=> ∀l w,o w→j l w→buildSlice P T.h 1 [(0,l)] w (dk a q w)) fun q=>Q6 a (fun p=> ∀h w,o w→d h w→Q2 P T.h h w (dk a p w)) fun p=>∀e n m h l t v w,o w→g e w→f n w→i m w→d h w→j l w→q t w→p v w→ X3 P .append [T.h,T.h] T.h [false,false] [t,v] w fun u w=>lp (α:=Value×Value) (r,(.int .i64 0)) w fun c b Y w=>X3 P .len [T.h] T.e [false] [u] w fun A w=>Q3 P .lss T.e (.tmp 41) (.tmp 43) b.2 A w fun V w=>X1 V (indexAddr P T.h u b.2 w fun N w=>Q2 P T.c N w fun O w=>Q1 P F.b [y,O] w fun C w=>Q1 P F.b0 [y,b.1,X,C] w fun E w=>Q3 P .add T.e (.tmp 45) (.const (.int .i64 1)) b.2 (.int .i64 1) w fun z w=>c (E,z) w) (buildSlice P T.a7 1 [(0,s)] w fun U w=>X3 P .append [T.a7,T.a7] T.a7 [false,false] [b.1,U] w fun B w=>K B w)))
theorem Q0A {c d a b:Value} {w:World} {K:Value→World→Prop} (h:Ev c d a b w K):Q1 P F.b0 [c,d,a,b] w K:=Q9 Q07 Tryz.func104 rfl (by decide) (by kernel_rfl) h
def Xj (u A:Value) (w:World) (K:Value→World→Prop):Prop:= Q1 P F.b [u,A] w fun v w=>Q3 P .lss T.e (.tmp 9) (.const (.int .i64 0)) v (.int .i64 0) w fun y w=>X1 y (K (.slice none 0 0) w) (dr w fun a b=>Q6 a (fun c=> ∀w,b w→indexAddr P T.i u v w (dk a c w)) fun c=>Q6 a (fun i=> ∀h w,b w→c h w→fieldAddr P T.b h 1 w (dk a i w)) fun i=>Q6 a (fun m=> ∀w,b w→indexAddr P T.i u v w (dk a m w)) fun m=>Q6 a (fun o=> ∀p w,b w→m p w→fieldAddr P T.b p 6 w (dk a o w)) fun o=>Q6 a (fun n=> ∀w,b w→buildSlice P T.k 0 [] w (dk a n w)) fun n=>Q6 a (fun d=> ∀l w,b w→i l w→Q2 P T.c l w (dk a d w)) fun d=>Q6 a (fun g=> ∀j w,b w→d j w→Q1 P F.p [u,j] w (dk a g w)) fun g=>Q6 a (fun q=> ∀f k w,b w→n f w→g k w→X3 P .append [T.k,T.k] T.k [false,false] [f,k] w (dk a q w)) fun q=>Q6 a (fun r=> ∀e w,b w→o e w→Q2 P T.k e w (dk a r w)) fun r=>∀h l p e f j k s t w,b w→c h w→i l w→m p w→o e w→n f w→d j w→g k w→q s w→r t w→ X3 P .append [T.k,T.k] T.k [false,false] [s,t] w fun z w=>K z w)
theorem Li {a b:Value} {w:World} {K:Value→World→Prop} (h:Xj a b w K):Q1 P F.p [a,b] w K:=Q9 (List.replicate 6 none) Tryz.func73 rfl (by decide) (by kernel_rfl) h
def Iu:V8:=[none,none,none,none,some ([8],[6,8,12,13,14,15,16,17,18,19,20,21,22,23,24,25]),none,none,none,none,none,none]
def Mx (l m k:Value) (w:World) (K:Value→World→Prop):Prop:= Q1 P F.p [l,m] w fun b w=>lp (α:=Value) (.int .i64 0) w fun a c n w=>X3 P .len [T.k] T.e [false] [b] w fun h w=>Q3 P .lss T.e (.tmp 12) (.tmp 14) c h w fun g w=>X1 g (indexAddr P T.k b c w fun d w=>fieldAddr P T.n d 0 w fun j w=>Q2 P T.c j w fun i w=>Q3 P .eql T.c (.tmp 22) (.tmp 23) i k w fun e w=>X1 e (K c w) (Q3 P .add T.e (.tmp 16) (.const (.int .i64 1)) c (.int .i64 1) w fun f w=>a f w)) (K (.int .i64 (-1)) w)
theorem Ku {b c a:Value} {w:World} {K:Value→World→Prop} (h:Mx b c a w K):Q1 P F.br [b,c,a] w K:=Q9 Iu Tryz.func149 rfl (by decide) (by kernel_rfl) h
def Ou (a:Value) (w:World) (K:Value→World→Prop):Prop:= X3 P .len [T.c] T.e [false] [a] w fun e w=>Q1 P F.a2 [a] w fun c w=>Q3 P .mul T.e (.const (.int .i64 2)) (.tmp 7) (.int .i64 2) c w fun d w=>Q3 P .sub T.e (.tmp 5) (.tmp 8) e d w fun f w=>R2 P T.c a none (some f) none w fun b w=>K b w
theorem Am {a:Value} {w:World} {K:Value→World→Prop} (h:Ou a w K):Q1 P F.aU [a] w K:=Q9 (List.replicate 2 none) Tryz.func153 rfl (by decide) (by kernel_rfl) h
def Od (p d:Value) (w:World) (K:Value→World→Prop):Prop:= Q3 P .eql T.c (.tmp 5) (.const (.string ⟨#[110,117,108,108]⟩)) d (.string ⟨#[110,117,108,108]⟩) w fun c w=>Q0 c false w (fun w J=>J d w) fun r w=>Q0 c false w (Q1 P F.e [r]) fun q w=>Q0 c false w (fun w J=>J q w) fun b w=>Q0 b true w (fun w J=>J d w) fun f w=>Q0 b true w (Q1 P F.aU [f]) fun e w=>Q0 b true w (Q1 P F.y [e]) fun i w=>Q0 b true w (fun w J=>J i w) fun a w=>Q0 a false w (fun w J=>J p w) fun g w=>Q0 a false w (fun w J=>J d w) fun m w=>Q0 a false w (Q1 P F.aU [m]) fun k w=>Q0 a false w (Q1 P F.b [g,k]) fun l w=>Q0 a false w (Q3 P .geq T.e (.tmp 18) (.const (.int .i64 0)) l (.int .i64 0)) fun n w=>Q0 b true w (pick P a (.bool true) n) fun j w=>Q0 c false w (pick P b j (.bool false)) fun h w=>pick P c (.bool true) h w fun o w=>K o w
theorem Ah {a b:Value} {w:World} {K:Value→World→Prop} (h:Od a b w K):Q1 P F.a1 [a,b] w K:=Q9 (List.replicate 2 none) Tryz.func106 rfl (by decide) (by kernel_rfl) h
def Np (f d:Value) (w:World) (K:Value→World→Prop):Prop:= Q3 P .neq T.c (.tmp 5) (.const (.string ⟨#[110,117,108,108]⟩)) d (.string ⟨#[110,117,108,108]⟩) w fun a w=>Q0 a true w (fun w J=>J f w) fun e w=>Q0 a true w (fun w J=>J d w) fun g w=>Q0 a true w (Q1 P F.a1 [e,g]) fun b w=>pick P a b (.bool false) w fun c w=>K c w
theorem Gu {a b:Value} {w:World} {K:Value→World→Prop} (h:Np a b w K):Q1 P F.bs [a,b] w K:=Q9 (List.replicate 2 none) Tryz.func150 rfl (by decide) (by kernel_rfl) h
def Tx:V8:=[none,none,none,none,some ([3,4],[3,4,5,6,7,8,9,10,11,12,13,14,15,16,17,18,19,20,21,22]),none,none,none,some ([3],[3,12,13,14,15]),none,none]
def Of (q:Value) (w:World) (K:Value→World→Prop):Prop:= box P T.d q w fun a w=>lp (α:=Value×Value) ((.string ⟨#[40]⟩),(.int .i64 0)) w fun b c r w=>fieldAddr P T.d a 1 w fun y w=>Q2 P T.h y w fun s w=>X3 P .len [T.h] T.e [false] [s] w fun v w=>Q3 P .lss T.e (.tmp 5) (.tmp 8) c.2 v w fun u w=>X1 u (jn (α:=Value) w (fun p w=>Q3 P .gtr T.e (.tmp 12) (.const (.int .i64 0)) c.2 (.int .i64 0) w fun i w=>X1 i (Q3 P .add T.c (.tmp 14) (.const (.string ⟨#[44]⟩)) c.1 (.string ⟨#[44]⟩) w fun e w=>p e w) (p c.1 w)) fun t r w=>fieldAddr P T.d a 1 w fun j w=>Q2 P T.h j w fun k w=>indexAddr P T.h k c.2 w fun h w=>Q2 P T.c h w fun g w=>Q3 P .add T.c (.tmp 16) (.tmp 21) t g w fun n w=>Q3 P .add T.e (.tmp 10) (.const (.int .i64 1)) c.2 (.int .i64 1) w fun d w=>b (n,d) w) (Q3 P .add T.c (.tmp 23) (.const (.string ⟨#[41]⟩)) c.1 (.string ⟨#[41]⟩) w fun m w=>fieldAddr P T.d a 2 w fun o w=>Q2 P T.c o w fun f w=>Q3 P .add T.c (.tmp 24) (.tmp 26) m f w fun l w=>K l w)
theorem Aq {a:Value} {w:World} {K:Value→World→Prop} (h:Of a w K):Q1 P F.aT [a] w K:=Q9 Tx Tryz.func151 rfl (by decide) (by kernel_rfl) h
def Q0J:V8:=[none,none,none,some ([5],[4,5,6,7,8,9,10,11,12,13,14,15,16,17,18,19,20,21]),none,none,none,none,none,none]
def Eh (l n:Value) (w:World) (K:Value→World→Prop):Prop:= box P T.b l w fun a w=>lp (α:=Value) (.int .i64 0) w fun b c q w=>fieldAddr P T.b a 7 w fun m w=>Q2 P T.j m w fun p w=>X3 P .len [T.j] T.e [false] [p] w fun o w=>Q3 P .lss T.e (.tmp 6) (.tmp 9) c o w fun k w=>X1 k (fieldAddr P T.b a 7 w fun f w=>Q2 P T.j f w fun e w=>indexAddr P T.j e c w fun j w=>fieldAddr P T.d j 0 w fun h w=>Q2 P T.c h w fun i w=>Q3 P .eql T.c (.tmp 18) (.tmp 19) i n w fun g w=>X1 g (K c w) (Q3 P .add T.e (.tmp 11) (.const (.int .i64 1)) c (.int .i64 1) w fun d w=>b d w)) (K (.int .i64 (-1)) w)
theorem Q0S {a b:Value} {w:World} {K:Value→World→Prop} (h:Eh a b w K):Q1 P F.b1 [a,b] w K:=Q9 Q0J Tryz.func183 rfl (by decide) (by kernel_rfl) h
def Kb:V8:=[none,none,none,some ([9],[6,8,9,10,11,12,13,14,15,16,17,18,19,20,21,22,23,24,25,26,27,28,29,30,31,32,33,34,35,36,37,38,39,40,41,42,43,44,45,46,47,48,49,50,51,52,53,54]),none,none,none,none,none,none,none,none,none,none,none,none]
def Na (B a1 a2:Value) (w:World) (K:Value→World→Prop):Prop:= box P T.b a1 w fun d w=>W0 P T.d w fun s w=>lp (α:=Value) (.int .i64 0) w fun n A d_ w=>fieldAddr P T.b d 2 w fun Q w=>Q2 P T.h Q w fun N w=>X3 P .len [T.h] T.e [false] [N] w fun O w=>Q3 P .lss T.e (.tmp 15) (.tmp 18) A O w fun R w=>X1 R (fieldAddr P T.b d 2 w fun X w=>Q2 P T.h X w fun D w=>indexAddr P T.h D A w fun W w=>Q2 P T.c W w fun V w=>Q1 P F.b [B,V] w fun H w=>indexAddr P T.i B H w fun U w=>Q2 P T.b U w fun E w=>W0 P T.b w fun a w=>Y0 P T.b a E w fun _u w=>Q2 P T.b a w fun ab w=>Q1 P F.b1 [ab,a2] w fun z w=>Q3 P .geq T.e (.tmp 35) (.const (.int .i64 0)) z (.int .i64 0) w fun aa w=>X1 aa (dr w fun b e=>Q6 b (fun j=> ∀w,e w→fieldAddr P T.b a 0 w (dk b j w)) fun j=>Q6 b (fun h=> ∀w,e w→fieldAddr P T.b a 7 w (dk b h w)) fun h=>Q6 b (fun o=> ∀m w,e w→j m w→Q2 P T.c m w (dk b o w)) fun o=>Q6 b (fun g=> ∀l w,e w→h l w→Q2 P T.j l w (dk b g w)) fun g=>Q6 b (fun i=> ∀k w,e w→g k w→indexAddr P T.j k z w (dk b i w)) fun i=>Q6 b (fun r=> ∀f w,e w→i f w→Q2 P T.d f w (dk b r w)) fun r=>∀m l v k f t w,e w→j m w→h l w→o v w→g k w→i f w→r t w→ Y0 P T.d s t w fun _u w=>Y7 P T.d s w fun u=>K (.tuple #[v,u,(.bool true)]) w) (Q2 P T.b a w fun C w=>Q1 P F.aK [B,C,a2] w fun q w=>ext P q 0 w fun Z w=>ext P q 1 w fun M w=>ext P q 2 w fun Y w=>W0 P T.d w fun c w=>Y0 P T.d c M w fun _u w=>X1 Y (dr w fun b e=>Q6 b (fun p=> ∀w,e w→Q2 P T.d c w (dk b p w)) fun p=>∀y w,e w→p y w→ Y0 P T.d s y w fun _u w=>Y7 P T.d s w fun u=>K (.tuple #[Z,u,(.bool true)]) w) (Q3 P .add T.e (.tmp 20) (.const (.int .i64 1)) A (.int .i64 1) w fun L w=>n L w))) (H1 P T.d [] w fun J w=>Y0 P T.d s J w fun _u w=>Y7 P T.d s w fun u=>K (.tuple #[(.string ⟨#[]⟩),u,(.bool false)]) w)
theorem Pe {b c a:Value} {w:World} {K:Value→World→Prop} (h:Na b c a w K):Q1 P F.aK [b,c,a] w K:=Q9 Kb Tryz.func184 rfl (by decide) (by kernel_rfl) h
def Gj:V8:=[none,none,none,some ([9],[6,8,9,10,18,19,20,21,22,23,24,25,26,27,28,29,30,31,32,33,34,35,36,37,38,39,40,41,42,43,44,45,46,47]),none,none,none,none,none,none,none,none,some ([11],[6,8,11,12,13,14,51,52,53,54,55,56,57,58,59,60,61,62,63,64,65,66,67,68,69,70,71,72,73]),none,none,none,none,none,none,none]
def Wq (c a1 a2:Value) (w:World) (K:Value→World→Prop):Prop:= W0 P T.d w fun y w=>Q1 P F.b [c,a1] w fun X w=>lp (α:=Value) X w fun i z d_ w=>Q3 P .geq T.e (.tmp 18) (.const (.int .i64 0)) z (.int .i64 0) w fun Z w=>X1 Z (indexAddr P T.i c z w fun O w=>Q2 P T.b O w fun aa w=>Q1 P F.b1 [aa,a2] w fun H w=>Q3 P .geq T.e (.tmp 33) (.const (.int .i64 0)) H (.int .i64 0) w fun ab w=>X1 ab (dr w fun a b=>Q6 a (fun m=> ∀w,b w→indexAddr P T.i c z w (dk a m w)) fun m=>Q6 a (fun g=> ∀p w,b w→m p w→fieldAddr P T.b p 0 w (dk a g w)) fun g=>Q6 a (fun j=> ∀w,b w→indexAddr P T.i c z w (dk a j w)) fun j=>Q6 a (fun n=> ∀e w,b w→j e w→fieldAddr P T.b e 7 w (dk a n w)) fun n=>Q6 a (fun s=> ∀l w,b w→g l w→Q2 P T.c l w (dk a s w)) fun s=>Q6 a (fun o=> ∀h w,b w→n h w→Q2 P T.j h w (dk a o w)) fun o=>Q6 a (fun k=> ∀q w,b w→o q w→indexAddr P T.j q H w (dk a k w)) fun k=>Q6 a (fun v=> ∀f w,b w→k f w→Q2 P T.d f w (dk a v w)) fun v=>∀p l e h E q f C w,b w→m p w→g l w→j e w→n h w→s E w→o q w→k f w→v C w→ Y0 P T.d y C w fun _u w=>Y7 P T.d y w fun A=>K (.tuple #[E,A,(.bool true)]) w) (indexAddr P T.i c z w fun Q w=>fieldAddr P T.b Q 1 w fun ac w=>Q2 P T.c ac w fun ah w=>Q1 P F.b [c,ah] w fun V w=>i V w)) (Q1 P F.b [c,a1] w fun W w=>lp (α:=Value) W w fun d r d_ w=>Q3 P .geq T.e (.tmp 51) (.const (.int .i64 0)) r (.int .i64 0) w fun M w=>X1 M (indexAddr P T.i c r w fun Y w=>Q2 P T.b Y w fun ae w=>Q1 P F.aK [c,ae,a2] w fun t w=>ext P t 0 w fun L w=>ext P t 1 w fun N w=>ext P t 2 w fun af w=>W0 P T.d w fun B w=>Y0 P T.d B N w fun _u w=>X1 af (dr w fun a b=>Q6 a (fun u=> ∀w,b w→Q2 P T.d B w (dk a u w)) fun u=>∀D w,b w→u D w→ Y0 P T.d y D w fun _u w=>Y7 P T.d y w fun A=>K (.tuple #[L,A,(.bool true)]) w) (indexAddr P T.i c r w fun R w=>fieldAddr P T.b R 1 w fun ag w=>Q2 P T.c ag w fun J w=>Q1 P F.b [c,J] w fun ad w=>d ad w)) (H1 P T.d [] w fun U w=>Y0 P T.d y U w fun _u w=>Y7 P T.d y w fun A=>K (.tuple #[(.string ⟨#[]⟩),A,(.bool false)]) w))
theorem Fi {b c a:Value} {w:World} {K:Value→World→Prop} (h:Wq b c a w K):Q1 P F.bf [b,c,a] w K:=Q9 Gj Tryz.func152 rfl (by decide) (by kernel_rfl) h
def Bm:V8:=[none,none,none,none,some ([6],[4,6,24,25,26,27,28,29,30,31,32,33,34,35,36,37,38,39,40,41]),none,none,none,none,none,none,none,none,some ([7,8],[7,8,43,44,45,46,47,48,49,50,51,52,53,54,55,56,57,58]),none,none,none,none,none,some ([7,9],[7,9,59,60,61,62,63,64,65,66,67,68,69,70,71,72,73,74,75,76,77,78,79,80,81,82,83,84,85,86,87,88,89]),none,none,some ([7],[7,66,67,68,69,70,71,72,73,74,75,76,77,78,79,80,81,82,83,84,85,86,87,88,89]),none,none,none,none,some ([10],[4,10,90,91,92,93,94,95,96,97,98,99,100,101,102]),none,none,none,none,none,none,none,none,none,some ([12,13],[12,13,106,107,108,109,110,111,112,113,114,115,116,117,118,119,120,121,122,123,124,125,126,127,128,129,130]),none,none,some ([12],[12,112,113,114,115,116,117,118,119,120,121,122,123,124,125,126,127,128,129,130]),none,none,none,some ([14],[4,14,15,131,132,133,134,135,136,137,138,139,140,141,142,143,144,145,146,147,148,149,150,151,152,153,154,155,156,157,158,159,160,161,162,163,164,165]),none,none,none,none,some ([15],[4,15,137,138,139,140,141,142,143,144,145,146,147,148,149,150,151,152,153,154,155,156,157,158,159,160,161,162,163,164,165]),none,none,none,none,none,none,none,some ([16],[4,16,17,18,19,166,167,168,169,170,171,172,173,174,175,176,177,178,179,180,181,182,183,184,185,186,187,188,189,190,191,192,193,194,195]),none,none,none,none,none,none,none]
def Vn (a0 a1:Value) (w:World) (K:Value→World→Prop):Prop:= indexAddr P T.i a0 a1 w fun eg w=>Q2 P T.b eg w fun dt w=>W0 P T.b w fun t5 w=>Y0 P T.b t5 dt w fun _u w=>lp (α:=Value) (.int .i64 0) w fun a9 x4 d_ w=>fieldAddr P T.b t5 6 w fun dl w=>Q2 P T.k dl w fun c1 w=>X3 P .len [T.k] T.e [false] [c1] w fun df w=>Q3 P .lss T.e (.tmp 24) (.tmp 27) x4 df w fun ec w=>X1 ec (dr w fun b c=>Q6 b (fun a8=> ∀w,c w→fieldAddr P T.b t5 1 w (dk b a8 w)) fun a8=>Q6 b (fun bc=> ∀w,c w→fieldAddr P T.b t5 6 w (dk b bc w)) fun bc=>Q6 b (fun bk=> ∀a7 w,c w→a8 a7 w→Q2 P T.c a7 w (dk b bk w)) fun bk=>Q6 b (fun be=> ∀a6 w,c w→bc a6 w→Q2 P T.k a6 w (dk b be w)) fun be=>Q6 b (fun bd=> ∀a4 w,c w→be a4 w→indexAddr P T.k a4 x4 w (dk b bd w)) fun bd=>Q6 b (fun bb=> ∀bf w,c w→bd bf w→fieldAddr P T.n bf 0 w (dk b bb w)) fun bb=>Q6 b (fun bm=> ∀a5 w,c w→bb a5 w→Q2 P T.c a5 w (dk b bm w)) fun bm=>∀a7 a6 cu a4 bf a5 b0 w,c w→a8 a7 w→bc a6 w→bk cu w→be a4 w→bd bf w→bb a5 w→bm b0 w→ Q1 P F.br [a0,cu,b0] w fun dg w=>Q3 P .geq T.e (.tmp 40) (.const (.int .i64 0)) dg (.int .i64 0) w fun db w=>X1 db (K (.int .i64 64) w) (Q3 P .add T.e (.tmp 29) (.const (.int .i64 1)) x4 (.int .i64 1) w fun dy w=>a9 dy w)) (buildSlice P T.h 0 [] w fun dm w=>lp (α:=Value×Value) (dm,(.int .i64 0)) w fun ap aq d_ w=>fieldAddr P T.b t5 6 w fun d5 w=>Q2 P T.k d5 w fun d6 w=>X3 P .len [T.k] T.e [false] [d6] w fun d7 w=>Q3 P .lss T.e (.tmp 43) (.tmp 46) aq.2 d7 w fun dx w=>X1 dx (fieldAddr P T.b t5 6 w fun dh w=>Q2 P T.k dh w fun cx w=>indexAddr P T.k cx aq.2 w fun de w=>fieldAddr P T.n de 1 w fun du w=>Q2 P T.c du w fun dv w=>buildSlice P T.h 1 [(0,dv)] w fun di w=>X3 P .append [T.h,T.h] T.h [false,false] [aq.1,di] w fun c6 w=>Q3 P .add T.e (.tmp 48) (.const (.int .i64 1)) aq.2 (.int .i64 1) w fun ee w=>ap (c6,ee) w) (lp (α:=Value×Value) (aq.1,(.int .i64 0)) w fun aw j d_ w=>fieldAddr P T.b t5 7 w fun da w=>Q2 P T.j da w fun c2 w=>X3 P .len [T.j] T.e [false] [c2] w fun d1 w=>Q3 P .lss T.e (.tmp 59) (.tmp 62) j.2 d1 w fun dc w=>X1 dc (jn (α:=Value) w (fun cv w=>fieldAddr P T.b t5 7 w fun ea w=>Q2 P T.j ea w fun c7 w=>indexAddr P T.j c7 j.2 w fun d4 w=>fieldAddr P T.d d4 1 w fun c3 w=>Q2 P T.h c3 w fun dq w=>X3 P .append [T.h,T.h] T.h [false,false] [j.1,dq] w fun cl w=>fieldAddr P T.b t5 7 w fun c0 w=>Q2 P T.j c0 w fun cy w=>indexAddr P T.j cy j.2 w fun ed w=>fieldAddr P T.d ed 2 w fun dn w=>Q2 P T.c dn w fun c8 w=>Q3 P .neq T.c (.tmp 79) (.const (.string ⟨#[]⟩)) c8 (.string ⟨#[]⟩) w fun d3 w=>X1 d3 (fieldAddr P T.b t5 7 w fun dp w=>Q2 P T.j dp w fun d2 w=>indexAddr P T.j d2 j.2 w fun c4 w=>fieldAddr P T.d c4 2 w fun dd w=>Q2 P T.c dd w fun d0 w=>buildSlice P T.h 1 [(0,d0)] w fun d8 w=>X3 P .append [T.h,T.h] T.h [false,false] [cl,d8] w fun dz w=>cv dz w) (cv cl w)) fun eh d_ w=>Q3 P .add T.e (.tmp 64) (.const (.int .i64 1)) j.2 (.int .i64 1) w fun c5 w=>aw (eh,c5) w) (lp (α:=Value) (.int .i64 0) w fun aj bn d_ w=>X3 P .len [T.h] T.e [false] [j.1] w fun cz w=>Q3 P .lss T.e (.tmp 90) (.tmp 92) bn cz w fun ds w=>X1 ds (indexAddr P T.h j.1 bn w fun dj w=>Q2 P T.c dj w fun b3 w=>Q1 P F.bs [a0,b3] w fun ck w=>J7 P .not ck w fun cr w=>X1 cr (K (.int .i64 65) w) (Q3 P .add T.e (.tmp 94) (.const (.int .i64 1)) bn (.int .i64 1) w fun ef w=>aj ef w)) (Q1 P F.ah [a0] w fun cm w=>buildSlice P T.j 0 [] w fun cp w=>lp (α:=Value×Value) (cp,(.int .i64 0)) w fun an f d_ w=>X3 P .len [T.i] T.e [false] [a0] w fun cn w=>Q3 P .lss T.e (.tmp 106) (.tmp 108) f.2 cn w fun cb w=>X1 cb (jn (α:=Value) w (fun b8 w=>Q3 P .eql T.e (.tmp 112) (.tmp 113) f.2 a1 w fun g w=>Q0 g false w (fun w J=>J cm w) fun cc w=>Q0 g false w (fun w J=>J a1 w) fun cw w=>Q0 g false w (indexAddr P T.a8 cc cw) fun co w=>Q0 g false w (Q2 P T.a6 co) fun ce w=>Q0 g false w (fun w J=>J f.2 w) fun b7 w=>Q0 g false w (indexAddr P T.a6 ce b7) fun b9 w=>Q0 g false w (Q2 P T.u b9) fun bo w=>pick P g (.bool true) bo w fun ch w=>X1 ch (indexAddr P T.i a0 f.2 w fun ci w=>fieldAddr P T.b ci 7 w fun ct w=>Q2 P T.j ct w fun bv w=>X3 P .append [T.j,T.j] T.j [false,false] [f.1,bv] w fun cq w=>b8 cq w) (b8 f.1 w)) fun dw d_ w=>Q3 P .add T.e (.tmp 110) (.const (.int .i64 1)) f.2 (.int .i64 1) w fun bs w=>an (dw,bs) w) (lp (α:=Value) (.int .i64 0) w fun al ai d_ w=>X3 P .len [T.j] T.e [false] [f.1] w fun b2 w=>Q3 P .lss T.e (.tmp 131) (.tmp 133) ai b2 w fun br w=>X1 br (lp (α:=Value) (.int .i64 0) w fun av ba d_ w=>Q3 P .lss T.e (.tmp 137) (.tmp 138) ba ai w fun cs w=>X1 cs (dr w fun b c=>Q6 b (fun L=> ∀w,c w→indexAddr P T.j f.1 ai w (dk b L w)) fun L=>Q6 b (fun M=> ∀ab w,c w→L ab w→fieldAddr P T.d ab 0 w (dk b M w)) fun M=>Q6 b (fun r=> ∀w,c w→indexAddr P T.j f.1 ba w (dk b r w)) fun r=>Q6 b (fun v=> ∀N w,c w→r N w→fieldAddr P T.d N 0 w (dk b v w)) fun v=>Q6 b (fun m=> ∀U w,c w→M U w→Q2 P T.c U w (dk b m w)) fun m=>Q6 b (fun q=> ∀W w,c w→v W w→Q2 P T.c W w (dk b q w)) fun q=>Q6 b (fun d=> ∀l ad w,c w→m l w→q ad w→Q3 P .eql T.c (.tmp 146) (.tmp 151) l ad w (dk b d w)) fun d=>Q6 b (fun u=> ∀a w,c w→d a w→Q0 a true w (fun w J=>J f.1 w) (dk b u w)) fun u=>Q6 b (fun V=> ∀a w,c w→d a w→Q0 a true w (fun w J=>J ai w) (dk b V w)) fun V=>Q6 b (fun E=> ∀a H aa w,c w→d a w→u H w→V aa w→Q0 a true w (indexAddr P T.j H aa) (dk b E w)) fun E=>Q6 b (fun R=> ∀a w,c w→d a w→Q0 a true w (fun w J=>J f.1 w) (dk b R w)) fun R=>Q6 b (fun Z=> ∀a w,c w→d a w→Q0 a true w (fun w J=>J ba w) (dk b Z w)) fun Z=>Q6 b (fun ae=> ∀a ag A w,c w→d a w→R ag w→Z A w→Q0 a true w (indexAddr P T.j ag A) (dk b ae w)) fun ae=>Q6 b (fun s=> ∀a z w,c w→d a w→E z w→Q0 a true w (Q2 P T.d z) (dk b s w)) fun s=>Q6 b (fun am=> ∀a y w,c w→d a w→s y w→Q0 a true w (Q1 P F.aT [y]) (dk b am w)) fun am=>Q6 b (fun ak=> ∀a C w,c w→d a w→ae C w→Q0 a true w (Q2 P T.d C) (dk b ak w)) fun ak=>∀ab U N W l ad a H aa z ag A C y bi bh w,c w→L ab w→M U w→r N w→v W w→m l w→q ad w→d a w→u H w→V aa w→E z w→R ag w→Z A w→ae C w→s y w→am bi w→ak bh w→ Q0 a true w (Q1 P F.aT [bh]) fun b4 w=>Q0 a true w (Q3 P .neq T.c (.tmp 158) (.tmp 163) bi b4) fun cd w=>pick P a cd (.bool false) w fun b5 w=>X1 b5 (K (.int .i64 66) w) (Q3 P .add T.e (.tmp 140) (.const (.int .i64 1)) ba (.int .i64 1) w fun cg w=>av cg w)) (Q3 P .add T.e (.tmp 135) (.const (.int .i64 1)) ai (.int .i64 1) w fun b1 w=>al b1 w)) (lp (α:=Value) (.int .i64 0) w fun ax bj d_ w=>X3 P .len [T.j] T.e [false] [f.1] w fun bu w=>Q3 P .lss T.e (.tmp 166) (.tmp 168) bj bu w fun af w=>Q0 af true w (fieldAddr P T.b t5 4) fun cj w=>Q0 af true w (Q2 P T.u cj) fun ca w=>Q0 af true w (J7 P .not ca) fun bp w=>pick P af bp (.bool false) w fun bz w=>X1 bz (dr w fun b c=>Q6 b (fun Q=> ∀w,c w→fieldAddr P T.b t5 0 w (dk b Q w)) fun Q=>Q6 b (fun B=> ∀w,c w→indexAddr P T.j f.1 bj w (dk b B w)) fun B=>Q6 b (fun t=> ∀O w,c w→B O w→fieldAddr P T.d O 0 w (dk b t w)) fun t=>Q6 b (fun n=> ∀Y w,c w→Q Y w→Q2 P T.c Y w (dk b n w)) fun n=>Q6 b (fun p=> ∀ac w,c w→t ac w→Q2 P T.c ac w (dk b p w)) fun p=>Q6 b (fun i=> ∀X o w,c w→n X w→p o w→Q1 P F.bf [a0,X,o] w (dk b i w)) fun i=>Q6 b (fun ar=> ∀e w,c w→i e w→ext P e 0 w (dk b ar w)) fun ar=>Q6 b (fun D=> ∀e w,c w→i e w→ext P e 1 w (dk b D w)) fun D=>Q6 b (fun az=> ∀e w,c w→i e w→ext P e 2 w (dk b az w)) fun az=>Q6 b (fun a3=> ∀w,c w→W0 P T.d w (dk b a3 w)) fun a3=>Sk b (fun ay=> ∀k h w,c w→a3 k w→D h w→Y0 P T.d k h w (dk b (ay [k,h]) w)) fun ay=>∀Y O ac X o e bx h bg k eb w,c w→Q Y w→B O w→t ac w→n X w→p o w→i e w→ar bx w→D h w→az bg w→a3 k w→ay [k,h] eb w→ J7 P .not bg w fun ao w=>Q0 ao false w (fieldAddr P T.d k 3) fun bw w=>Q0 ao false w (Q2 P T.u bw) fun cf w=>pick P ao (.bool true) cf w fun b6 w=>X1 b6 (K (.int .i64 67) w) (Q3 P .add T.e (.tmp 175) (.const (.int .i64 1)) bj (.int .i64 1) w fun bq w=>ax bq w)) (K (.int .i64 0) w)))))))
theorem Bq {a b:Value} {w:World} {K:Value→World→Prop} (h:Vn a b w K):Q1 P F.b9 [a,b] w K:=Q9 Bm Tryz.func105 rfl (by decide) (by kernel_rfl) h
end Go.Proofs.YtjdiakhipmggjaaGreatDoor

set_option maxRecDepth 100000
namespace Go.Proofs.YtjdiakhipmggjaaGreatDoor
open Go.Emb
def Q0f:V8:=[none,none,none,none,none,some ([5,7],[2,3,4,5,7,8,21,22,23,24,25,26,27,28,29,30,31,32,33,34,35,36,37,38,39,40,41,42]),none,none,none,none,none,none,none,none,none,some ([9],[2,3,4,9,43,44,45,46,47,48,49,50,51,52,53,54,55,56,57,58,59,60]),none,none,none,none,none,none,none,some ([10],[2,3,4,10,11,61,62,63,64,65,66,67,68,69,70,71,72,73,74,75,76]),none,none,none,none,none,none,none,none,none,some ([13],[2,3,4,13,79,80,81,82,83,84,85,86,87,88,89,90,91,92,93,94,95,96]),none,none,none,none,none,none,none,none,some ([14,15],[14,15,98,99,100,101,102,103,104,105,106,107,108,109,110]),none,none,none,none,none,some ([16],[2,3,4,16,17,111,112,113,114,115,116,117,118,119,120,121,122,123,124,125,126,127,128,129,130,131]),none,none,none,none,none,none,none]
def Em (l:Value) (w:World) (K:Value→World→Prop):Prop:= Q1 P F.bn [] w fun A w=>X3 P .len [T.i] T.e [false] [A] w fun b w=>lp (α:=Value×Value) (A,(.int .i64 0)) w fun n c t w=>X3 P .len [T.i] T.e [false] [l] w fun ae w=>Q3 P .lss T.e (.tmp 21) (.tmp 23) c.2 ae w fun av w=>X1 av (indexAddr P T.i l c.2 w fun aa w=>Q2 P T.b aa w fun ap w=>Q1 P F.bo [ap] w fun u w=>Q3 P .neq T.y (.tmp 32) (.const (.int .i64 0)) u (.int .i64 0) w fun ay w=>X1 ay (K (.tuple #[(.slice none 0 0),c.2,u]) w) (indexAddr P T.i l c.2 w fun az w=>Q2 P T.b az w fun ar w=>buildSlice P T.i 1 [(0,ar)] w fun ab w=>X3 P .append [T.i,T.i] T.i [false,false] [c.1,ab] w fun R w=>Q3 P .add T.e (.tmp 25) (.const (.int .i64 1)) c.2 (.int .i64 1) w fun ak w=>n (R,ak) w)) (lp (α:=Value) (.int .i64 0) w fun i g t w=>X3 P .len [T.i] T.e [false] [l] w fun a1 w=>Q3 P .lss T.e (.tmp 43) (.tmp 45) g a1 w fun U w=>X1 U (indexAddr P T.i l g w fun X w=>fieldAddr P T.b X 0 w fun an w=>Q2 P T.c an w fun ao w=>Q1 P F.b [c.1,ao] w fun af w=>Q3 P .add T.e (.tmp 56) (.tmp 57) b g w fun V w=>Q3 P .neq T.e (.tmp 55) (.tmp 58) af V w fun aw w=>X1 aw (K (.tuple #[(.slice none 0 0),g,(.int .i64 60)]) w) (Q3 P .add T.e (.tmp 47) (.const (.int .i64 1)) g (.int .i64 1) w fun al w=>i al w)) (lp (α:=Value) (.int .i64 0) w fun h o t w=>X3 P .len [T.i] T.e [false] [l] w fun ah w=>Q3 P .lss T.e (.tmp 61) (.tmp 63) o ah w fun am w=>X1 am (indexAddr P T.i l o w fun a2 w=>Q2 P T.b a2 w fun ax w=>Q1 P F.be [c.1,ax] w fun v w=>Q3 P .neq T.y (.tmp 73) (.const (.int .i64 0)) v (.int .i64 0) w fun aj w=>X1 aj (K (.tuple #[(.slice none 0 0),o,v]) w) (Q3 P .add T.e (.tmp 65) (.const (.int .i64 1)) o (.int .i64 1) w fun ai w=>h ai w)) (Q1 P F.ah [c.1] w fun W w=>lp (α:=Value) (.int .i64 0) w fun d j t w=>X3 P .len [T.i] T.e [false] [l] w fun Q w=>Q3 P .lss T.e (.tmp 79) (.tmp 81) j Q w fun Y w=>X1 Y (Q3 P .add T.e (.tmp 86) (.tmp 87) b j w fun ac w=>indexAddr P T.a8 W ac w fun aq w=>Q2 P T.a6 aq w fun a3 w=>Q3 P .add T.e (.tmp 91) (.tmp 92) b j w fun ad w=>indexAddr P T.a6 a3 ad w fun Z w=>Q2 P T.u Z w fun a4 w=>X1 a4 (K (.tuple #[(.slice none 0 0),j,(.int .i64 63)]) w) (Q3 P .add T.e (.tmp 83) (.const (.int .i64 1)) j (.int .i64 1) w fun O w=>d O w)) (buildSlice P T.a7 0 [] w fun ag w=>lp (α:=Value×Value) (ag,(.int .i64 0)) w fun f a t w=>X3 P .len [T.i] T.e [false] [l] w fun s w=>Q3 P .lss T.e (.tmp 98) (.tmp 100) a.2 s w fun B w=>X1 B (Q3 P .add T.e (.tmp 107) (.tmp 108) b a.2 w fun J w=>Q1 P F.b0 [c.1,a.1,b,J] w fun L w=>Q3 P .add T.e (.tmp 102) (.const (.int .i64 1)) a.2 (.int .i64 1) w fun y w=>f (L,y) w) (lp (α:=Value) (.int .i64 0) w fun k m t w=>X3 P .len [T.a7] T.e [false] [a.1] w fun D w=>Q3 P .lss T.e (.tmp 111) (.tmp 113) m D w fun M w=>X1 M (indexAddr P T.a7 a.1 m w fun z w=>Q2 P T.e z w fun C w=>Q1 P F.b9 [c.1,C] w fun p w=>Q3 P .neq T.y (.tmp 123) (.const (.int .i64 0)) p (.int .i64 0) w fun E w=>X1 E (dr w fun Tr Br=>Q6 Tr (fun e=> ∀w,Br w→indexAddr P T.a7 a.1 m w (dk Tr e w)) fun e=>∀q w,Br w→e q w→ Q2 P T.e q w fun H w=>Q3 P .sub T.e (.tmp 128) (.tmp 129) H b w fun r w=>K (.tuple #[(.slice none 0 0),r,p]) w) (Q3 P .add T.e (.tmp 115) (.const (.int .i64 1)) m (.int .i64 1) w fun N w=>k N w)) (K (.tuple #[c.1,(.int .i64 0),(.int .i64 0)]) w))))))
theorem Q0E {a:Value} {w:World} {K:Value→World→Prop} (h:Em a w K):Q1 P F.bM [a] w K:=Q9 Q0f Tryz.func56 rfl (by decide) (by kernel_rfl) h
def Nh (C:Value) (w:World) (K:Value→World→Prop):Prop:= W0 P T.a w fun e w=>Q1 P F.aw [] w fun m w=>Q1 P F.cL [m] w fun b w=>ext P b 0 w fun h w=>ext P b 1 w fun E w=>ext P b 2 w fun q w=>Q1 P F.aw [] w fun p w=>Q1 P F.bM [p] w fun c w=>ext P c 0 w fun A w=>ext P c 1 w fun D w=>ext P c 2 w fun t w=>Q3 P .rem T.ao (.tmp 25) (.const (.int .u16 301)) C (.int .u16 301) w fun o w=>conv P T.ao T.e o w fun i w=>Q3 P .neq T.y (.tmp 28) (.const (.int .i64 0)) q (.int .i64 0) w fun a w=>Q0 a false w (fun w J=>J t w) fun l w=>Q0 a false w (Q3 P .neq T.y (.tmp 31) (.const (.int .i64 0)) l (.int .i64 0)) fun B w=>pick P a (.bool true) B w fun d w=>Q0 d false w (fun w J=>J h w) fun n w=>Q0 d false w (Q3 P .eql T.r (.tmp 35) (.const (.pointer none)) n (.pointer none)) fun z w=>pick P d (.bool true) z w fun v w=>X1 v (H1 P T.a [] w fun r w=>Y0 P T.a e r w fun _u w=>Y7 P T.a e w fun g=>K (.tuple #[(.pointer none),g]) w) (Q1 P F.cM [h,i] w fun f w=>ext P f 0 w fun k w=>ext P f 1 w fun y w=>Q3 P .neq T.y (.tmp 45) (.const (.int .i64 0)) y (.int .i64 0) w fun j w=>X1 j (H1 P T.a [] w fun s w=>Y0 P T.a e s w fun _u w=>Y7 P T.a e w fun g=>K (.tuple #[(.pointer none),g]) w) (H1 P T.a [(0,A),(1,i)] w fun u w=>Y0 P T.a e u w fun _u w=>Y7 P T.a e w fun g=>K (.tuple #[k,g]) w))
theorem Iq {a:Value} {w:World} {K:Value→World→Prop} (h:Nh a w K):Q1 P F.ag [a] w K:=Q9 (List.replicate 12 none) Tryz.func24 rfl (by decide) (by kernel_rfl) h
def Q1U (c:Value) (w:World) (K:Value→World→Prop):Prop:= W0 P T.f w fun a w=>Q3 P .eql T.c (.tmp 3) (.const (.string ⟨#[105,110,116]⟩)) c (.string ⟨#[105,110,116]⟩) w fun h w=>X1 h (H1 P T.f [(0,(.int .i64 1))] w fun i w=>Y0 P T.f a i w fun _u w=>Y7 P T.f a w fun b=>K b w) (Q3 P .eql T.c (.tmp 3) (.const (.string ⟨#[98,111,111,108]⟩)) c (.string ⟨#[98,111,111,108]⟩) w fun g w=>X1 g (H1 P T.f [(0,(.int .i64 2))] w fun j w=>Y0 P T.f a j w fun _u w=>Y7 P T.f a w fun b=>K b w) (Q3 P .eql T.c (.tmp 3) (.const (.string ⟨#[116,101,120,116]⟩)) c (.string ⟨#[116,101,120,116]⟩) w fun d w=>X1 d (H1 P T.f [(0,(.int .i64 3))] w fun e w=>Y0 P T.f a e w fun _u w=>Y7 P T.f a w fun b=>K b w) (H1 P T.f [] w fun f w=>Y0 P T.f a f w fun _u w=>Y7 P T.f a w fun b=>K b w)))
theorem Q6e {a:Value} {w:World} {K:Value→World→Prop} (h:Q1U a w K):Q1 P F.ct [a] w K:=Q9 (List.replicate 10 none) Tryz.func29 rfl (by decide) (by kernel_rfl) h
def Hb (a y v:Value) (w:World) (K:Value→World→Prop):Prop:= nilCheck P a w fun z w=>fieldAddr P T.p z 2 w fun r w=>Q2 P T.e r w fun d w=>X3 P .len [T.l] T.e [false] [v] w fun h w=>Q3 P .add T.e (.const (.int .i64 1)) (.tmp 13) (.int .i64 1) h w fun e w=>Q3 P .add T.e (.tmp 11) (.tmp 14) d e w fun f w=>nilCheck P a w fun m w=>fieldAddr P T.p m 2 w fun l w=>Y0 P T.e l f w fun _u w=>nilCheck P a w fun j w=>fieldAddr P T.p j 3 w fun g w=>Q2 P T.g g w fun s w=>H1 P T.o [(0,y),(1,v)] w fun t w=>buildSlice P T.g 1 [(0,t)] w fun k w=>X3 P .append [T.g,T.g] T.g [false,false] [s,k] w fun p w=>nilCheck P a w fun n w=>fieldAddr P T.p n 3 w fun c w=>Y0 P T.g c p w fun _u w=>nilCheck P a w fun b w=>fieldAddr P T.p b 3 w fun u w=>Q2 P T.g u w fun q w=>X3 P .len [T.g] T.e [false] [q] w fun o w=>Q3 P .sub T.e (.tmp 34) (.const (.int .i64 1)) o (.int .i64 1) w fun i w=>K (.tuple #[i,(.int .i64 0)]) w
theorem Q1M {b c a:Value} {w:World} {K:Value→World→Prop} (h:Hb b c a w K):Q1 P F.b6 [b,c,a] w K:=Q9 (List.replicate 4 none) Tryz.func67 rfl (by decide) (by kernel_rfl) h
def Kv:V8:=[none,none,none,none,none,none,none,none,none,none,none,some ([7,31],[7,9,31,32,33,34,35,36,37,38,39,40,41]),none,none,none,none,none]
def Lv (f j:Value) (w:World) (K:Value→World→Prop):Prop:= nilCheck P f w fun k w=>fieldAddr P T.p k 0 w fun h w=>Q2 P T.r h w fun m w=>Q1 P F.aA [m,j] w fun l w=>J7 P .not l w fun r w=>X1 r (K (.tuple #[(.int .i64 0),(.int .i64 91)]) w) (nilCheck P f w fun o w=>fieldAddr P T.p o 0 w fun s w=>Q2 P T.r s w fun n w=>Q1 P F.a3 [n,j] w fun d w=>X3 P .len [T.k] T.e [false] [d] w fun B w=>Q3 P .add T.e (.const (.int .i64 1)) (.tmp 24) (.int .i64 1) B w fun H w=>Q1 P F.v [f] w fun z w=>Q3 P .gtr T.e (.tmp 25) (.tmp 27) H z w fun v w=>X1 v (K (.tuple #[(.int .i64 0),(.int .i64 90)]) w) (X3 P .len [T.k] T.e [false] [d] w fun u w=>lp (α:=Value×Value) ((.slice none 0 0),(.int .i64 0)) w fun a b L w=>Q3 P .lss T.e (.tmp 31) (.tmp 30) b.2 u w fun J w=>X1 J (indexAddr P T.k d b.2 w fun C w=>Q2 P T.n C w fun y w=>W0 P T.n w fun c w=>Y0 P T.n c y w fun _u w=>fieldAddr P T.n c 1 w fun p w=>Q2 P T.c p w fun E w=>Q1 P F.ct [E] w fun q w=>buildSlice P T.l 1 [(0,q)] w fun D w=>X3 P .append [T.l,T.l] T.l [false,false] [b.1,D] w fun A w=>Q3 P .add T.e (.tmp 31) (.const (.int .i64 1)) b.2 (.int .i64 1) w fun i w=>a (A,i) w) (Q1 P F.b6 [f,j,b.1] w fun e w=>ext P e 0 w fun g w=>ext P e 1 w fun t w=>K (.tuple #[g,t]) w)))
theorem Pm {a b:Value} {w:World} {K:Value→World→Prop} (h:Lv a b w K):Q1 P F.aG [a,b] w K:=Q9 Kv Tryz.func33 rfl (by decide) (by kernel_rfl) h
def Q42 (b:Value) (w:World) (K:Value→World→Prop):Prop:= Q1 P F.a0 [b] w fun g w=>J7 P .not g w fun a w=>Q0 a false w (fun w J=>J b w) fun f w=>Q0 a false w (Q1 P F.cu [f]) fun h w=>Q0 a false w (Q3 P .eql T.e (.tmp 9) (.const (.int .i64 3)) h (.int .i64 3)) fun c w=>pick P a (.bool true) c w fun d w=>X1 d (K (.tuple #[(.string ⟨#[]⟩),(.int .i64 30)]) w) (Q3 P .add T.c (.tmp 12) (.const (.string ⟨#[91,93]⟩)) b (.string ⟨#[91,93]⟩) w fun e w=>K (.tuple #[e,(.int .i64 0)]) w)
theorem Q98 {a:Value} {w:World} {K:Value→World→Prop} (h:Q42 a w K):Q1 P F.cQ [a] w K:=Q9 (List.replicate 5 none) Tryz.func68 rfl (by decide) (by kernel_rfl) h
def Ag:V8:=[none,none,none,none,none,none,none,none,none,none,none,none,some ([45],[11,45,46,47,48,49,50,51,52,53]),none,none,none,none,none]
def Ot (j i h:Value) (w:World) (K:Value→World→Prop):Prop:= Q1 P F.cQ [i] w fun f w=>ext P f 0 w fun p w=>ext P f 1 w fun t w=>Q3 P .neq T.y (.tmp 18) (.const (.int .i64 0)) t (.int .i64 0) w fun a w=>Q0 a false w (fun w J=>J j w) fun q w=>Q0 a false w (nilCheck P q) fun H w=>Q0 a false w (fieldAddr P T.p H 0) fun o w=>Q0 a false w (Q2 P T.r o) fun A w=>Q0 a false w (fun w J=>J i w) fun L w=>Q0 a false w (Q1 P F.s [A,L]) fun s w=>Q0 a false w (J7 P .not s) fun y w=>pick P a (.bool true) y w fun e w=>Q0 e false w (fun w J=>J i w) fun v w=>Q0 e false w (Q3 P .eql T.c (.tmp 30) (.const (.string ⟨#[110,117,108,108]⟩)) v (.string ⟨#[110,117,108,108]⟩)) fun n w=>pick P e (.bool true) n w fun M w=>X1 M (K (.tuple #[(.int .i64 0),(.int .i64 91)]) w) (Q3 P .lss T.a1 (.tmp 34) (.const (.int .i64 0)) h (.int .i64 0) w fun r w=>X1 r (K (.tuple #[(.int .i64 0),(.int .i64 93)]) w) (Q1 P F.v [j] w fun D w=>Q3 P .geq T.a1 (.tmp 37) (.tmp 39) h D w fun z w=>X1 z (K (.tuple #[(.int .i64 0),(.int .i64 90)]) w) (Dk P T.l h h w fun c w=>X3 P .len [T.l] T.e [false] [c] w fun E w=>lp (α:=Value) (.int .i64 0) w fun b d N w=>Q3 P .lss T.e (.tmp 45) (.tmp 44) d E w fun k w=>X1 k (Q1 P F.ct [i] w fun B w=>indexAddr P T.l c d w fun m w=>Y0 P T.f m B w fun _u w=>Q3 P .add T.e (.tmp 45) (.const (.int .i64 1)) d (.int .i64 1) w fun u w=>b u w) (Q1 P F.b6 [j,p,c] w fun g w=>ext P g 0 w fun l w=>ext P g 1 w fun C w=>K (.tuple #[l,C]) w))))
theorem Tn {b c a:Value} {w:World} {K:Value→World→Prop} (h:Ot b c a w K):Q1 P F.aN [b,c,a] w K:=Q9 Ag Tryz.func34 rfl (by decide) (by kernel_rfl) h
def Oq (a:Value) (w:World) (K:Value→World→Prop):Prop:= nilCheck P a w fun b w=>fieldAddr P T.p b 0 w fun c w=>Q2 P T.r c w fun d w=>K d w
theorem Tk {a:Value} {w:World} {K:Value→World→Prop} (h:Oq a w K):Q1 P F.bB [a] w K:=Q9 (List.replicate 2 none) Tryz.func35 rfl (by decide) (by kernel_rfl) h
def Mk (w:World) (K:Value→World→Prop):Prop:= Q1 P F.ag [(.int .u16 10)] w fun t8 w=>ext P t8 0 w fun d w=>ext P t8 1 w fun R w=>W0 P T.a w fun t2 w=>Y0 P T.a t2 R w fun _u w=>Q3 P .eql T.a5 (.tmp 11) (.const (.pointer none)) d (.pointer none) w fun n w=>X1 n (K (.bool false) w) (Q1 P F.aG [d,(.string ⟨#[90,101,114,111,70,97,117,108,116]⟩)] w fun k w=>ext P k 0 w fun C w=>ext P k 1 w fun y w=>Q1 P F.aN [d,(.string ⟨#[105,110,116]⟩),(.int .i64 3)] w fun l w=>ext P l 0 w fun u w=>ext P l 1 w fun Z w=>Q3 P .eql T.e (.tmp 23) (.const (.int .i64 0)) C (.int .i64 0) w fun i w=>Q0 i true w (fun w J=>J y w) fun t w=>Q0 i true w (Q3 P .eql T.y (.tmp 26) (.const (.int .i64 0)) t (.int .i64 0)) fun M w=>pick P i M (.bool false) w fun h w=>Q0 h true w (fun w J=>J u w) fun H w=>Q0 h true w (Q3 P .eql T.e (.tmp 30) (.const (.int .i64 1)) H (.int .i64 1)) fun p w=>pick P h p (.bool false) w fun j w=>Q0 j true w (fun w J=>J Z w) fun L w=>Q0 j true w (Q3 P .eql T.y (.tmp 34) (.const (.int .i64 0)) L (.int .i64 0)) fun s w=>pick P j s (.bool false) w fun e w=>Q0 e true w (fun w J=>J d w) fun A w=>Q0 e true w (Q1 P F.v [A]) fun W w=>Q0 e true w (Q3 P .eql T.e (.tmp 39) (.const (.int .i64 4)) W (.int .i64 4)) fun N w=>pick P e N (.bool false) w fun c w=>Q0 c true w (fun w J=>J d w) fun o w=>Q0 c true w (Q1 P F.b3 [o]) fun X w=>Q0 c true w (Q3 P .eql T.e (.tmp 44) (.const (.int .i64 2)) X (.int .i64 2)) fun Y w=>pick P c Y (.bool false) w fun a w=>Q0 a true w (fun w J=>J d w) fun z w=>Q0 a true w (Q1 P F.ax [z,(.int .i64 0)]) fun V w=>Q0 a true w (Q3 P .eql T.c (.tmp 49) (.const (.string ⟨#[90,101,114,111,70,97,117,108,116]⟩)) V (.string ⟨#[90,101,114,111,70,97,117,108,116]⟩)) fun v w=>pick P a v (.bool false) w fun f w=>Q0 f true w (fun w J=>J d w) fun D w=>Q0 f true w (Q1 P F.aX [D,(.int .i64 1)]) fun E w=>Q0 f true w (Q3 P .eql T.e (.tmp 54) (.const (.int .i64 3)) E (.int .i64 3)) fun q w=>pick P f q (.bool false) w fun g w=>Q0 g true w (fun w J=>J d w) fun m w=>Q0 g true w (Q1 P F.bz [m]) fun Q w=>pick P g Q (.bool false) w fun b w=>Q0 b true w (fun w J=>J d w) fun O w=>Q0 b true w (Q1 P F.bB [O]) fun r w=>Q0 b true w (Q3 P .neq T.r (.tmp 63) (.const (.pointer none)) r (.pointer none)) fun B w=>pick P b B (.bool false) w fun U w=>K U w)
theorem Pc {w:World} {K:Value→World→Prop} (h:Mk w K):Q1 P F.aF [] w K:=Q9 (List.replicate 8 none) Tryz.func14 rfl (by decide) (by kernel_rfl) h
def Ow (q r p:Value) (w:World) (K:Value→World→Prop):Prop:= Q1 P F.aD [q,r] w fun m w=>J7 P .not m w fun c w=>X1 c (K (.int .i64 92) w) (Q3 P .lss T.a1 (.tmp 13) (.const (.int .i64 0)) p (.int .i64 0) w fun a w=>Q0 a false w (fun w J=>J p w) fun i w=>Q0 a false w (fun w J=>J q w) fun g w=>Q0 a false w (nilCheck P g) fun h w=>Q0 a false w (fieldAddr P T.p h 3) fun j w=>Q0 a false w (Q2 P T.g j) fun f w=>Q0 a false w (fun w J=>J r w) fun d w=>Q0 a false w (indexAddr P T.g f d) fun n w=>Q0 a false w (fieldAddr P T.o n 1) fun b w=>Q0 a false w (Q2 P T.l b) fun l w=>Q0 a false w (X3 P .len [T.l] T.e [false] [l]) fun o w=>Q0 a false w (Q3 P .geq T.a1 (.tmp 16) (.tmp 25) i o) fun e w=>pick P a (.bool true) e w fun k w=>X1 k (K (.int .i64 93) w) (K (.int .i64 0) w))
theorem Tw {b c a:Value} {w:World} {K:Value→World→Prop} (h:Ow b c a w K):Q1 P F.aP [b,c,a] w K:=Q9 (List.replicate 7 none) Tryz.func50 rfl (by decide) (by kernel_rfl) h
def He (o p n:Value) (w:World) (K:Value→World→Prop):Prop:= W0 P T.f w fun b w=>Q1 P F.aP [o,p,n] w fun a w=>Q3 P .neq T.y (.tmp 13) (.const (.int .i64 0)) a (.int .i64 0) w fun e w=>X1 e (H1 P T.f [] w fun f w=>Y0 P T.f b f w fun _u w=>Y7 P T.f b w fun c=>K (.tuple #[c,a]) w) (nilCheck P o w fun i w=>fieldAddr P T.p i 3 w fun j w=>Q2 P T.g j w fun h w=>indexAddr P T.g h p w fun m w=>fieldAddr P T.o m 1 w fun d w=>Q2 P T.l d w fun l w=>indexAddr P T.l l n w fun g w=>Q2 P T.f g w fun k w=>Y0 P T.f b k w fun _u w=>Y7 P T.f b w fun c=>K (.tuple #[c,(.int .i64 0)]) w)
theorem Q1K {b c a:Value} {w:World} {K:Value→World→Prop} (h:He b c a w K):Q1 P F.c0 [b,c,a] w K:=Q9 (List.replicate 6 none) Tryz.func16 rfl (by decide) (by kernel_rfl) h
def Hh (D R N W:Value) (w:World) (K:Value→World→Prop):Prop:= box P T.f W w fun c w=>Q1 P F.aP [D,R,N] w fun E w=>Q3 P .neq T.y (.tmp 14) (.const (.int .i64 0)) E (.int .i64 0) w fun U w=>X1 U (K E w) (dr w fun a b=>Q6 a (fun d=> ∀w,b w→nilCheck P D w (dk a d w)) fun d=>Q6 a (fun m=> ∀j w,b w→d j w→fieldAddr P T.p j 3 w (dk a m w)) fun m=>Q6 a (fun C=> ∀w,b w→Q2 P T.f c w (dk a C w)) fun C=>Q6 a (fun s=> ∀u w,b w→m u w→Q2 P T.g u w (dk a s w)) fun s=>Q6 a (fun e=> ∀i w,b w→s i w→indexAddr P T.g i R w (dk a e w)) fun e=>Q6 a (fun p=> ∀v w,b w→e v w→Q2 P T.o v w (dk a p w)) fun p=>Q6 a (fun B=> ∀k w,b w→p k w→Q1 P F.az [D,k,N] w (dk a B w)) fun B=>∀j u H i v k L w,b w→d j w→m u w→C H w→s i w→e v w→p k w→B L w→ Q1 P F.ay [D,H,L] w fun O w=>J7 P .not O w fun V w=>X1 V (K (.int .i64 91) w) (dr w fun a b=>Q6 a (fun g=> ∀w,b w→nilCheck P D w (dk a g w)) fun g=>Q6 a (fun n=> ∀y w,b w→g y w→fieldAddr P T.p y 3 w (dk a n w)) fun n=>Q6 a (fun h=> ∀q w,b w→n q w→Q2 P T.g q w (dk a h w)) fun h=>Q6 a (fun f=> ∀o w,b w→h o w→indexAddr P T.g o R w (dk a f w)) fun f=>Q6 a (fun l=> ∀t w,b w→f t w→fieldAddr P T.o t 1 w (dk a l w)) fun l=>Q6 a (fun A=> ∀r w,b w→l r w→Q2 P T.l r w (dk a A w)) fun A=>Q6 a (fun z=> ∀w,b w→Q2 P T.f c w (dk a z w)) fun z=>∀y q o t r J M w,b w→g y w→n q w→h o w→f t w→l r w→A J w→z M w→ indexAddr P T.l J N w fun Q w=>Y0 P T.f Q M w fun _u w=>K (.int .i64 0) w))
theorem Q1C {c d a b:Value} {w:World} {K:Value→World→Prop} (h:Hh c d a b w K):Q1 P F.b4 [c,d,a,b] w K:=Q9 (List.replicate 10 none) Tryz.func22 rfl (by decide) (by kernel_rfl) h
def Eg (h:Value) (w:World) (K:Value→World→Prop):Prop:= box P T.m h w fun a w=>fieldAddr P T.m a 1 w fun i w=>Q2 P T.c i w fun j w=>X3 P .len [T.c] T.e [false] [j] w fun k w=>Q3 P .leq T.e (.tmp 5) (.const (.int .i64 100)) k (.int .i64 100) w fun b w=>Q0 b true w (fieldAddr P T.m a 4) fun g w=>Q0 b true w (fieldAddr P T.f g 2) fun l w=>Q0 b true w (Q2 P T.c l) fun c w=>Q0 b true w (X3 P .len [T.c] T.e [false] [c]) fun d w=>Q0 b true w (Q3 P .leq T.e (.tmp 11) (.const (.int .i64 5000)) d (.int .i64 5000)) fun e w=>pick P b e (.bool false) w fun f w=>K f w
theorem Q0P {a:Value} {w:World} {K:Value→World→Prop} (h:Eg a w K):Q1 P F.aY [a] w K:=Q9 (List.replicate 2 none) Tryz.func25 rfl (by decide) (by kernel_rfl) h
def Yn:V8:=[none,none,none,some ([8],[4,5,8,9,10,11,12,13,14,15,16,17,18]),none,none,none,none,none,none,none]
def F4 (g i:Value) (w:World) (K:Value→World→Prop):Prop:= X3 P .len [T.l] T.e [false] [g] w fun h w=>lp (α:=Value) (.int .i64 0) w fun a b k w=>Q3 P .lss T.e (.tmp 8) (.tmp 7) b h w fun j w=>X1 j (indexAddr P T.l g b w fun e w=>Q2 P T.f e w fun f w=>Z3 P i [f] w fun d w=>X1 d (K b w) (Q3 P .add T.e (.tmp 8) (.const (.int .i64 1)) b (.int .i64 1) w fun c w=>a c w)) (K (.int .i64 (-1)) w)
theorem Yt {a b:Value} {w:World} {K:Value→World→Prop} (h:F4 a b w K):Q1 P F.a4 [a,b] w K:=Q9 Yn Tryz.func119 rfl (by decide) (by kernel_rfl) h
def C3 (c d:Value) (w:World) (K:Value→World→Prop):Prop:= Q1 P F.a4 [c,d] w fun a w=>Q3 P .geq T.e (.tmp 7) (.const (.int .i64 0)) a (.int .i64 0) w fun b w=>K b w
theorem Qy {a b:Value} {w:World} {K:Value→World→Prop} (h:C3 a b w K):Q1 P F.k [a,b] w K:=Q9 (List.replicate 2 none) Tryz.func75 rfl (by decide) (by kernel_rfl) h
def Oi (g h:Value) (w:World) (K:Value→World→Prop):Prop:= box P T.f g w fun a w=>fieldAddr P T.f a 0 w fun i w=>Q2 P T.e i w fun j w=>Q3 P .eql T.e (.tmp 5) (.const (.int .i64 4)) j (.int .i64 4) w fun b w=>Q0 b true w (fieldAddr P T.f a 3) fun f w=>Q0 b true w (Q2 P T.e f) fun k w=>Q0 b true w (Q2 P T.e h) fun c w=>Q0 b true w (Q3 P .geq T.e (.tmp 9) (.tmp 10) k c) fun d w=>pick P b d (.bool false) w fun e w=>K e w
theorem Tz {a b:Value} {w:World} {K:Value→World→Prop} (h:Oi a b w K):Q1 P F.bF [a,b] w K:=Q9 (List.replicate 2 none) Tryz.func76 rfl (by decide) (by kernel_rfl) h
def Q1O:V8:=[none,none,none,none,some ([22],[5,22,23,24,25,26,27,28,29,30]),none,none,none,none,none,some ([],[6,31,32,33,34,35,36,37,38,39,40,41,42,43,44,45,46,47,48,49,50,51,52,53,54,55,56,57,58,59,60,61,62,63,64,65,66,67,68,69]),none,none,none,none]
def Hi (e a1:Value) (w:World) (K:Value→World→Prop):Prop:= box P T.e a1 w fun t3 w=>Q2 P T.e t3 w fun t7 w=>X3 P .max [T.e,T.e] T.e [false,true] [t7,(.int .i64 0)] w fun t8 w=>Y0 P T.e t3 t8 w fun _u w=>dr w fun a b=>Q6 a (fun v=> ∀w,b w→nilCheck P e w (dk a v w)) fun v=>Q6 a (fun V=> ∀y w,b w→v y w→fieldAddr P T.p y 3 w (dk a V w)) fun V=>Q6 a (fun C=> ∀w,b w→nilCheck P e w (dk a C w)) fun C=>Q6 a (fun L=> ∀k w,b w→C k w→fieldAddr P T.p k 3 w (dk a L w)) fun L=>Q6 a (fun af=> ∀J w,b w→V J w→Q2 P T.g J w (dk a af w)) fun af=>Q6 a (fun f=> ∀w,b w→Q2 P T.e t3 w (dk a f w)) fun f=>Q6 a (fun g=> ∀O w,b w→L O w→Q2 P T.g O w (dk a g w)) fun g=>Q6 a (fun j=> ∀q w,b w→g q w→X3 P .len [T.g] T.e [false] [q] w (dk a j w)) fun j=>Q6 a (fun ac=> ∀o M w,b w→f o w→j M w→X3 P .min [T.e,T.e] T.e [false,false] [o,M] w (dk a ac w)) fun ac=>∀y J k O al o q M an w,b w→v y w→V J w→C k w→L O w→af al w→f o w→g q w→j M w→ac an w→ R2 P T.g al none (some an) none w fun ah w=>X3 P .len [T.g] T.e [false] [ah] w fun ba w=>lp (α:=Value) (.int .i64 0) w fun Y x4 d_ w=>Q3 P .lss T.e (.tmp 22) (.tmp 21) x4 ba w fun aq w=>X1 aq (indexAddr P T.g ah x4 w fun aw w=>Q2 P T.o aw w fun bh w=>W0 P T.o w fun t5 w=>Y0 P T.o t5 bh w fun _u w=>fieldAddr P T.o t5 1 w fun ar w=>Q2 P T.l ar w fun be w=>E8 P (.func F.bF) [] [t3] w fun bd w=>Q1 P F.k [be,bd] w fun a7 w=>X1 a7 (K (.tuple #[]) w) (Q3 P .add T.e (.tmp 22) (.const (.int .i64 1)) x4 (.int .i64 1) w fun av w=>Y av w)) (lp (α:=Unit) () w fun c bn d_ w=>dr w fun a b=>Q6 a (fun H=> ∀w,b w→nilCheck P e w (dk a H w)) fun H=>Q6 a (fun t=> ∀A w,b w→H A w→fieldAddr P T.p A 3 w (dk a t w)) fun t=>Q6 a (fun h=> ∀W w,b w→t W w→Q2 P T.g W w (dk a h w)) fun h=>Q6 a (fun ad=> ∀u w,b w→h u w→X3 P .len [T.g] T.e [false] [u] w (dk a ad w)) fun ad=>Q6 a (fun ae=> ∀w,b w→Q2 P T.e t3 w (dk a ae w)) fun ae=>∀A W u ag ak w,b w→H A w→t W w→h u w→ad ag w→ae ak w→ Q3 P .gtr T.e (.tmp 35) (.tmp 36) ag ak w fun bg w=>X1 bg (nilCheck P e w fun az w=>fieldAddr P T.p az 3 w fun bf w=>Q2 P T.g bf w fun a8 w=>X3 P .len [T.g] T.e [false] [a8] w fun ap w=>Q3 P .sub T.e (.tmp 42) (.const (.int .i64 1)) ap (.int .i64 1) w fun am w=>dr w fun a b=>Q6 a (fun E=> ∀w,b w→nilCheck P e w (dk a E w)) fun E=>Q6 a (fun s=> ∀z w,b w→E z w→fieldAddr P T.p z 2 w (dk a s w)) fun s=>Q6 a (fun r=> ∀w,b w→nilCheck P e w (dk a r w)) fun r=>Q6 a (fun d=> ∀X w,b w→r X w→fieldAddr P T.p X 3 w (dk a d w)) fun d=>Q6 a (fun ab=> ∀D w,b w→s D w→Q2 P T.e D w (dk a ab w)) fun ab=>Q6 a (fun n=> ∀p w,b w→d p w→Q2 P T.g p w (dk a n w)) fun n=>Q6 a (fun B=> ∀U w,b w→n U w→indexAddr P T.g U am w (dk a B w)) fun B=>Q6 a (fun l=> ∀R w,b w→B R w→fieldAddr P T.o R 1 w (dk a l w)) fun l=>Q6 a (fun Z=> ∀Q w,b w→l Q w→Q2 P T.l Q w (dk a Z w)) fun Z=>Q6 a (fun N=> ∀i w,b w→Z i w→X3 P .len [T.l] T.e [false] [i] w (dk a N w)) fun N=>Q6 a (fun aa=> ∀m w,b w→N m w→Q3 P .add T.e (.const (.int .i64 1)) (.tmp 56) (.int .i64 1) m w (dk a aa w)) fun aa=>∀z D X p ai U R Q i m ao w,b w→E z w→s D w→r X w→d p w→ab ai w→n U w→B R w→l Q w→Z i w→N m w→aa ao w→ Q3 P .sub T.e (.tmp 47) (.tmp 57) ai ao w fun a2 w=>nilCheck P e w fun ax w=>fieldAddr P T.p ax 2 w fun a6 w=>Y0 P T.e a6 a2 w fun _u w=>nilCheck P e w fun a9 w=>fieldAddr P T.p a9 3 w fun bc w=>Q2 P T.g bc w fun ay w=>R2 P T.g ay none (some am) none w fun bb w=>nilCheck P e w fun a3 w=>fieldAddr P T.p a3 3 w fun a4 w=>Y0 P T.g a4 bb w fun _u w=>c () w) (K (.tuple #[]) w))
theorem Q1y {a b:Value} {w:World} {K:Value→World→Prop} (h:Hi a b w K):Q1 P F.c2 [a,b] w K:=Q9 Q1O Tryz.func40 rfl (by decide) (by kernel_rfl) h
def As:V8:=[none,none,some ([],[5,6,7]),none,some ([],[8,9,10]),none,some ([],[11,12,13]),none,none]
def On (b:Value) (w:World) (K:Value→World→Prop):Prop:= W0 P T.f w fun i w=>H1 P T.f [] w fun o w=>W0 P T.f w fun a w=>Y0 P T.f a o w fun _u w=>jn (α:=Unit) w (fun j w=>Q3 P .eql T.c (.tmp 5) (.const (.string ⟨#[105,110,116]⟩)) b (.string ⟨#[105,110,116]⟩) w fun p w=>X1 p (fieldAddr P T.f a 0 w fun m w=>Y0 P T.e m (.int .i64 1) w fun _u w=>j () w) (j () w)) fun r g w=>jn (α:=Unit) w (fun k w=>Q3 P .eql T.c (.tmp 8) (.const (.string ⟨#[98,111,111,108]⟩)) b (.string ⟨#[98,111,111,108]⟩) w fun n w=>X1 n (fieldAddr P T.f a 0 w fun f w=>Y0 P T.e f (.int .i64 2) w fun _u w=>k () w) (k () w)) fun s g w=>jn (α:=Unit) w (fun h w=>Q3 P .eql T.c (.tmp 11) (.const (.string ⟨#[116,101,120,116]⟩)) b (.string ⟨#[116,101,120,116]⟩) w fun c w=>X1 c (fieldAddr P T.f a 0 w fun e w=>Y0 P T.e e (.int .i64 3) w fun _u w=>h () w) (h () w)) fun q g w=>Q2 P T.f a w fun d w=>Y0 P T.f i d w fun _u w=>Y7 P T.f i w fun l=>K l w
theorem Tv {a:Value} {w:World} {K:Value→World→Prop} (h:On a w K):Q1 P F.aM [a] w K:=Q9 As Tryz.func30 rfl (by decide) (by kernel_rfl) h
def Tc:V8:=[none,none,none,none,some ([3,4],[3,4,7,8,9,10,11,12,13,14,15,16,17,18,19,20,21,22,23]),none,none,none,none]
def Ox (o:Value) (w:World) (K:Value→World→Prop):Prop:= box P T.a o w fun a w=>fieldAddr P T.a a 1 w fun r w=>Q2 P T.e r w fun s w=>lp (α:=Value×Value) (s,(.int .i64 0)) w fun b c t w=>fieldAddr P T.a a 2 w fun q w=>Q2 P T.g q w fun p w=>X3 P .len [T.g] T.e [false] [p] w fun m w=>Q3 P .lss T.e (.tmp 7) (.tmp 10) c.2 m w fun e w=>X1 e (fieldAddr P T.a a 2 w fun f w=>Q2 P T.g f w fun k w=>indexAddr P T.g k c.2 w fun j w=>fieldAddr P T.o j 1 w fun l w=>Q2 P T.l l w fun i w=>X3 P .len [T.l] T.e [false] [i] w fun g w=>Q3 P .add T.e (.const (.int .i64 1)) (.tmp 21) (.int .i64 1) g w fun n w=>Q3 P .sub T.e (.tmp 14) (.tmp 22) c.1 n w fun d w=>Q3 P .add T.e (.tmp 12) (.const (.int .i64 1)) c.2 (.int .i64 1) w fun h w=>b (d,h) w) (K c.1 w)
theorem To {a:Value} {w:World} {K:Value→World→Prop} (h:Ox a w K):Q1 P F.aO [a] w K:=Q9 Tc Tryz.func37 rfl (by decide) (by kernel_rfl) h
def Vl (j k:Value) (w:World) (K:Value→World→Prop):Prop:= Q1 P F.b [j,k] w fun i w=>Q3 P .geq T.e (.tmp 9) (.const (.int .i64 0)) i (.int .i64 0) w fun a w=>Q0 a true w (fun w J=>J j w) fun f w=>Q0 a true w (fun w J=>J i w) fun h w=>Q0 a true w (indexAddr P T.i f h) fun e w=>Q0 a true w (fieldAddr P T.b e 4) fun g w=>Q0 a true w (Q2 P T.u g) fun d w=>Q0 a true w (J7 P .not d) fun b w=>pick P a b (.bool false) w fun c w=>K c w
theorem Bn {a b:Value} {w:World} {K:Value→World→Prop} (h:Vl a b w K):Q1 P F.b7 [a,b] w K:=Q9 (List.replicate 3 none) Tryz.func72 rfl (by decide) (by kernel_rfl) h
def Fd:V8:=[none,none,none,none,none,none,none,none,none,none,none,some ([8],[8,28,29,30,31,32,33,34,35,36,37,38,39,40,41,42,43,44]),none,none,none,none,none]
def Lb (a0 X:Value) (w:World) (K:Value→World→Prop):Prop:= box P T.a a0 w fun a w=>W0 P T.a w fun H w=>fieldAddr P T.a a 0 w fun t9 w=>Q2 P T.i t9 w fun al w=>Q1 P F.b7 [al,X] w fun R w=>J7 P .not R w fun ab w=>X1 ab (Q2 P T.a a w fun Z w=>Y0 P T.a H Z w fun _u w=>Y7 P T.a H w fun L=>K (.tuple #[L,(.int .i64 91)]) w) (fieldAddr P T.a a 0 w fun Y w=>Q2 P T.i Y w fun ae w=>Q1 P F.p [ae,X] w fun D w=>X3 P .len [T.k] T.e [false] [D] w fun ac w=>Q3 P .add T.e (.const (.int .i64 1)) (.tmp 20) (.int .i64 1) ac w fun aa w=>Q2 P T.a a w fun ad w=>Q1 P F.aO [ad] w fun W w=>Q3 P .gtr T.e (.tmp 21) (.tmp 23) aa W w fun ai w=>X1 ai (Q2 P T.a a w fun an w=>Y0 P T.a H an w fun _u w=>Y7 P T.a H w fun L=>K (.tuple #[L,(.int .i64 90)]) w) (H1 P T.o [(0,X)] w fun ah w=>W0 P T.o w fun c w=>Y0 P T.o c ah w fun _u w=>lp (α:=Value) (.int .i64 0) w fun e E d_ w=>X3 P .len [T.k] T.e [false] [D] w fun ag w=>Q3 P .lss T.e (.tmp 28) (.tmp 30) E ag w fun V w=>X1 V (dr w fun b d=>Q6 b (fun k=> ∀w,d w→fieldAddr P T.o c 1 w (dk b k w)) fun k=>Q6 b (fun h=> ∀w,d w→indexAddr P T.k D E w (dk b h w)) fun h=>Q6 b (fun j=> ∀p w,d w→h p w→fieldAddr P T.n p 1 w (dk b j w)) fun j=>Q6 b (fun A=> ∀r w,d w→k r w→Q2 P T.l r w (dk b A w)) fun A=>Q6 b (fun f=> ∀v w,d w→j v w→Q2 P T.c v w (dk b f w)) fun f=>Q6 b (fun m=> ∀s w,d w→f s w→Q1 P F.aM [s] w (dk b m w)) fun m=>Q6 b (fun C=> ∀l w,d w→m l w→buildSlice P T.l 1 [(0,l)] w (dk b C w)) fun C=>∀r p v M s l J w,d w→k r w→h p w→j v w→A M w→f s w→m l w→C J w→ X3 P .append [T.l,T.l] T.l [false,false] [M,J] w fun U w=>fieldAddr P T.o c 1 w fun am w=>Y0 P T.l am U w fun _u w=>Q3 P .add T.e (.tmp 32) (.const (.int .i64 1)) E (.int .i64 1) w fun ak w=>e ak w) (dr w fun b d=>Q6 b (fun o=> ∀w,d w→fieldAddr P T.a a 2 w (dk b o w)) fun o=>Q6 b (fun i=> ∀w,d w→buildSlice P T.g 0 [] w (dk b i w)) fun i=>Q6 b (fun t=> ∀g w,d w→o g w→Q2 P T.g g w (dk b t w)) fun t=>Q6 b (fun B=> ∀y q w,d w→i y w→t q w→X3 P .append [T.g,T.g] T.g [false,false] [y,q] w (dk b B w)) fun B=>Q6 b (fun n=> ∀w,d w→Q2 P T.o c w (dk b n w)) fun n=>Q6 b (fun z=> ∀u w,d w→n u w→buildSlice P T.g 1 [(0,u)] w (dk b z w)) fun z=>∀g y q O u N w,d w→o g w→i y w→t q w→B O w→n u w→z N w→ X3 P .append [T.g,T.g] T.g [false,false] [O,N] w fun aj w=>fieldAddr P T.a a 2 w fun Q w=>Y0 P T.g Q aj w fun _u w=>Q2 P T.a a w fun af w=>Y0 P T.a H af w fun _u w=>Y7 P T.a H w fun L=>K (.tuple #[L,(.int .i64 0)]) w)))
theorem Fo {a b:Value} {w:World} {K:Value→World→Prop} (h:Lb a b w K):Q1 P F.bc [a,b] w K:=Q9 Fd Tryz.func57 rfl (by decide) (by kernel_rfl) h
def Kw:V8:=[none,none,none,none,none,none,none,none,none,none,none,none,none,some ([9],[9,41,42,43,44,45,46,47,48,49,50,51,52]),none,none,none,none,none]
def Ls (a0 D N:Value) (w:World) (K:Value→World→Prop):Prop:= box P T.a a0 w fun a w=>W0 P T.a w fun u w=>Q3 P .eql T.c (.tmp 10) (.const (.string ⟨#[110,117,108,108]⟩)) D (.string ⟨#[110,117,108,108]⟩) w fun e w=>Q0 e false w (fieldAddr P T.a a 0) fun aa w=>Q0 e false w (Q2 P T.i aa) fun X w=>Q0 e false w (fun w J=>J D w) fun W w=>Q0 e false w (Q1 P F.a1 [X,W]) fun af w=>Q0 e false w (J7 P .not af) fun ad w=>pick P e (.bool true) ad w fun l w=>Q0 l false w (fun w J=>J D w) fun ab w=>Q0 l false w (Q1 P F.a2 [ab]) fun Y w=>Q0 l false w (Q3 P .gtr T.e (.tmp 21) (.const (.int .i64 2)) Y (.int .i64 2)) fun ar w=>pick P l (.bool true) ar w fun V w=>X1 V (Q2 P T.a a w fun aj w=>Y0 P T.a u aj w fun _u w=>Y7 P T.a u w fun y=>K (.tuple #[y,(.int .i64 91)]) w) (Q3 P .lss T.a1 (.tmp 25) (.const (.int .i64 0)) N (.int .i64 0) w fun Z w=>X1 Z (Q2 P T.a a w fun ah w=>Y0 P T.a u ah w fun _u w=>Y7 P T.a u w fun y=>K (.tuple #[y,(.int .i64 93)]) w) (Q3 P .gtr T.a1 (.tmp 28) (.const (.int .i64 1048576)) N (.int .i64 1048576) w fun d w=>Q0 d false w (fun w J=>J N w) fun U w=>Q0 d false w (Q3 P .add T.e (.const (.int .i64 1)) (.tmp 31) (.int .i64 1) U) fun av w=>Q0 d false w (Q2 P T.a a) fun am w=>Q0 d false w (Q1 P F.aO [am]) fun ag w=>Q0 d false w (Q3 P .gtr T.e (.tmp 32) (.tmp 34) av ag) fun ac w=>pick P d (.bool true) ac w fun aq w=>X1 aq (Q2 P T.a a w fun ao w=>Y0 P T.a u ao w fun _u w=>Y7 P T.a u w fun y=>K (.tuple #[y,(.int .i64 90)]) w) (Q3 P .add T.c (.tmp 38) (.const (.string ⟨#[91,93]⟩)) D (.string ⟨#[91,93]⟩) w fun an w=>H1 P T.o [(0,an)] w fun ai w=>W0 P T.o w fun c w=>Y0 P T.o c ai w fun _u w=>lp (α:=Value) (.int .i64 0) w fun g L d_ w=>Q3 P .lss T.a1 (.tmp 41) (.tmp 42) L N w fun Q w=>X1 Q (dr w fun b f=>Q6 b (fun n=> ∀w,f w→fieldAddr P T.o c 1 w (dk b n w)) fun n=>Q6 b (fun B=> ∀h w,f w→n h w→Q2 P T.l h w (dk b B w)) fun B=>Q6 b (fun m=> ∀w,f w→Q1 P F.aM [D] w (dk b m w)) fun m=>Q6 b (fun v=> ∀q w,f w→m q w→buildSlice P T.l 1 [(0,q)] w (dk b v w)) fun v=>∀h M q H w,f w→n h w→B M w→m q w→v H w→ X3 P .append [T.l,T.l] T.l [false,false] [M,H] w fun ak w=>fieldAddr P T.o c 1 w fun O w=>Y0 P T.l O ak w fun _u w=>Q3 P .add T.a1 (.tmp 44) (.const (.int .i64 1)) L (.int .i64 1) w fun ap w=>g ap w) (dr w fun b f=>Q6 b (fun k=> ∀w,f w→fieldAddr P T.a a 2 w (dk b k w)) fun k=>Q6 b (fun t=> ∀w,f w→buildSlice P T.g 0 [] w (dk b t w)) fun t=>Q6 b (fun r=> ∀o w,f w→k o w→Q2 P T.g o w (dk b r w)) fun r=>Q6 b (fun A=> ∀p j w,f w→t p w→r j w→X3 P .append [T.g,T.g] T.g [false,false] [p,j] w (dk b A w)) fun A=>Q6 b (fun i=> ∀w,f w→Q2 P T.o c w (dk b i w)) fun i=>Q6 b (fun z=> ∀s w,f w→i s w→buildSlice P T.g 1 [(0,s)] w (dk b z w)) fun z=>∀o p j E s C w,f w→k o w→t p w→r j w→A E w→i s w→z C w→ X3 P .append [T.g,T.g] T.g [false,false] [E,C] w fun al w=>fieldAddr P T.a a 2 w fun R w=>Y0 P T.g R al w fun _u w=>Q2 P T.a a w fun ae w=>Y0 P T.a u ae w fun _u w=>Y7 P T.a u w fun y=>K (.tuple #[y,(.int .i64 0)]) w))))
theorem Pa {b c a:Value} {w:World} {K:Value→World→Prop} (h:Ls b c a w K):Q1 P F.bl [b,c,a] w K:=Q9 Kw Tryz.func58 rfl (by decide) (by kernel_rfl) h
def Q1z:V8:=[none,none,some ([],[4,14,15,16,17,18,19,20,21,22,23,24,25,26,27,28,29,30,31,32,33,34,35,36,37,38,39,40,41,42,43,44,45,46,47,48,49,50,51,52,53,54,55,56,57,58,59,60,61,62,63,64,65,66,67,68,69,70,71,72,73,74,75,76,77,78,79,80,81,82,83,84,85,86,87,88,89,90]),none,none,none,none,none,none,none,none,none,none,none,none,none,none,none,none,none]
def Hl (a0 a1:Value) (w:World) (K:Value→World→Prop):Prop:= box P T.a a0 w fun t2 w=>box P T.f a1 w fun c w=>fieldAddr P T.f c 3 w fun t6 w=>Q2 P T.e t6 w fun t7 w=>Q3 P .eql T.e (.tmp 7) (.const (.int .i64 0)) t7 (.int .i64 0) w fun l w=>Q0 l true w (fieldAddr P T.f c 2) fun O w=>Q0 l true w (Q2 P T.c O) fun ah w=>Q0 l true w (Q3 P .eql T.c (.tmp 11) (.const (.string ⟨#[]⟩)) ah (.string ⟨#[]⟩)) fun aa w=>pick P l aa (.bool false) w fun a w=>jn (α:=Unit) w (fun k w=>fieldAddr P T.f c 0 w fun ai w=>Q2 P T.e ai w fun d w=>Q3 P .eql T.e (.tmp 15) (.const (.int .i64 0)) d (.int .i64 0) w fun z w=>X1 z (Q0 a true w (fieldAddr P T.f c 1) fun y w=>Q0 a true w (Q2 P T.a1 y) fun ak w=>Q0 a true w (Q3 P .eql T.a1 (.tmp 21) (.const (.int .i64 0)) ak (.int .i64 0)) fun a3 w=>pick P a a3 (.bool false) w fun t w=>X1 t (K (.string ⟨#[110,117,108,108]⟩) w) (k () w)) (Q3 P .eql T.e (.tmp 15) (.const (.int .i64 1)) d (.int .i64 1) w fun a4 w=>X1 a4 (X1 a (K (.string ⟨#[105,110,116]⟩) w) (k () w)) (Q3 P .eql T.e (.tmp 15) (.const (.int .i64 2)) d (.int .i64 2) w fun ar w=>X1 ar (Q0 a true w (fieldAddr P T.f c 1) fun ad w=>Q0 a true w (Q2 P T.a1 ad) fun V w=>Q0 a true w (Q3 P .eql T.a1 (.tmp 32) (.const (.int .i64 0)) V (.int .i64 0)) fun ax w=>Q0 a true w (fun w J=>J ax w) fun g w=>Q0 g false w (fieldAddr P T.f c 1) fun u w=>Q0 g false w (Q2 P T.a1 u) fun U w=>Q0 g false w (Q3 P .eql T.a1 (.tmp 36) (.const (.int .i64 1)) U (.int .i64 1)) fun ay w=>Q0 a true w (pick P g (.bool true) ay) fun A w=>pick P a A (.bool false) w fun Q w=>X1 Q (K (.string ⟨#[98,111,111,108]⟩) w) (k () w)) (Q3 P .eql T.e (.tmp 15) (.const (.int .i64 3)) d (.int .i64 3) w fun af w=>X1 af (fieldAddr P T.f c 1 w fun o w=>Q2 P T.a1 o w fun ac w=>Q3 P .eql T.a1 (.tmp 43) (.const (.int .i64 0)) ac (.int .i64 0) w fun j w=>Q0 j true w (fieldAddr P T.f c 3) fun W w=>Q0 j true w (Q2 P T.e W) fun B w=>Q0 j true w (Q3 P .eql T.e (.tmp 47) (.const (.int .i64 0)) B (.int .i64 0)) fun am w=>pick P j am (.bool false) w fun e w=>Q0 e true w (fieldAddr P T.f c 2) fun aw w=>Q0 e true w (Q2 P T.c aw) fun q w=>Q0 e true w (X3 P .len [T.c] T.e [false] [q]) fun ap w=>Q0 e true w (Q3 P .leq T.e (.tmp 53) (.const (.int .i64 4096)) ap (.int .i64 4096)) fun aq w=>pick P e aq (.bool false) w fun f w=>Q0 f true w (fieldAddr P T.f c 2) fun az w=>Q0 f true w (Q2 P T.c az) fun X w=>Q0 f true w (Q1 P F.aH [X]) fun M w=>pick P f M (.bool false) w fun ae w=>X1 ae (K (.string ⟨#[116,101,120,116]⟩) w) (k () w)) (Q3 P .eql T.e (.tmp 15) (.const (.int .i64 4)) d (.int .i64 4) w fun H w=>X1 H (fieldAddr P T.f c 1 w fun aj w=>Q2 P T.a1 aj w fun an w=>Q3 P .eql T.a1 (.tmp 64) (.const (.int .i64 0)) an (.int .i64 0) w fun h w=>Q0 h true w (fieldAddr P T.f c 2) fun al w=>Q0 h true w (Q2 P T.c al) fun Y w=>Q0 h true w (Q3 P .eql T.c (.tmp 68) (.const (.string ⟨#[]⟩)) Y (.string ⟨#[]⟩)) fun ab w=>pick P h ab (.bool false) w fun i w=>Q0 i true w (fieldAddr P T.f c 3) fun s w=>Q0 i true w (Q2 P T.e s) fun E w=>Q0 i true w (Q3 P .geq T.e (.tmp 73) (.const (.int .i64 0)) E (.int .i64 0)) fun v w=>pick P i v (.bool false) w fun b w=>Q0 b true w (fieldAddr P T.f c 3) fun av w=>Q0 b true w (Q2 P T.e av) fun p w=>Q0 b true w (fieldAddr P T.a t2 2) fun Z w=>Q0 b true w (Q2 P T.g Z) fun R w=>Q0 b true w (X3 P .len [T.g] T.e [false] [R]) fun n w=>Q0 b true w (Q3 P .lss T.e (.tmp 78) (.tmp 81) p n) fun r w=>pick P b r (.bool false) w fun L w=>X1 L (fieldAddr P T.a t2 2 w fun m w=>Q2 P T.g m w fun N w=>fieldAddr P T.f c 3 w fun ao w=>Q2 P T.e ao w fun D w=>indexAddr P T.g N D w fun ag w=>fieldAddr P T.o ag 0 w fun C w=>Q2 P T.c C w fun a2 w=>K a2 w) (k () w)) (k () w)))))) fun z2 d_ w=>K (.string ⟨#[]⟩) w
theorem Q1J {a b:Value} {w:World} {K:Value→World→Prop} (h:Hl a b w K):Q1 P F.c1 [a,b] w K:=Q9 Q1z Tryz.func32 rfl (by decide) (by kernel_rfl) h
def Ea (k g e:Value) (w:World) (K:Value→World→Prop):Prop:= Q1 P F.a1 [k,g] w fun v w=>J7 P .not v w fun b w=>Q0 b false w (fun w J=>J k w) fun y w=>Q0 b false w (fun w J=>J e w) fun z w=>Q0 b false w (Q1 P F.a1 [y,z]) fun Q w=>Q0 b false w (J7 P .not Q) fun H w=>pick P b (.bool true) H w fun d w=>Q0 d false w (fun w J=>J g w) fun E w=>Q0 d false w (fun w J=>J e w) fun C w=>Q0 d false w (Q3 P .eql T.c (.tmp 20) (.tmp 21) E C) fun ac w=>pick P d (.bool true) ac w fun u w=>X1 u (Q3 P .eql T.c (.tmp 24) (.tmp 25) g e w fun c w=>Q0 c true w (fun w J=>J k w) fun V w=>Q0 c true w (fun w J=>J g w) fun s w=>Q0 c true w (Q1 P F.a1 [V,s]) fun U w=>pick P c U (.bool false) w fun r w=>K r w) (Q1 P F.y [g] w fun i w=>Q0 i false w (fun w J=>J e w) fun D w=>Q0 i false w (Q1 P F.y [D]) fun M w=>pick P i (.bool true) M w fun j w=>Q0 j false w (fun w J=>J e w) fun Z w=>Q0 j false w (Q3 P .eql T.c (.tmp 39) (.const (.string ⟨#[110,117,108,108]⟩)) Z (.string ⟨#[110,117,108,108]⟩)) fun W w=>pick P j (.bool true) W w fun t w=>X1 t (K (.bool false) w) (Q3 P .eql T.c (.tmp 42) (.const (.string ⟨#[110,117,108,108]⟩)) g (.string ⟨#[110,117,108,108]⟩) w fun f w=>Q0 f false w (fun w J=>J e w) fun ab w=>Q0 f false w (Q3 P .eql T.c (.tmp 45) (.const (.string ⟨#[79,98,106,101,99,116]⟩)) ab (.string ⟨#[79,98,106,101,99,116]⟩)) fun n w=>pick P f (.bool true) n w fun R w=>X1 R (K (.bool true) w) (Q1 P F.b [k,g] w fun l w=>Q1 P F.b [k,e] w fun m w=>Q3 P .geq T.e (.tmp 54) (.const (.int .i64 0)) l (.int .i64 0) w fun h w=>Q0 h true w (fun w J=>J m w) fun aa w=>Q0 h true w (Q3 P .geq T.e (.tmp 57) (.const (.int .i64 0)) aa (.int .i64 0)) fun o w=>pick P h o (.bool false) w fun a w=>Q0 a true w (fun w J=>J k w) fun N w=>Q0 a true w (Q1 P F.ah [N]) fun X w=>Q0 a true w (fun w J=>J l w) fun A w=>Q0 a true w (indexAddr P T.a8 X A) fun O w=>Q0 a true w (Q2 P T.a6 O) fun Y w=>Q0 a true w (fun w J=>J m w) fun B w=>Q0 a true w (indexAddr P T.a6 Y B) fun L w=>Q0 a true w (Q2 P T.u L) fun p w=>pick P a p (.bool false) w fun q w=>K q w)))
theorem Q0V {b c a:Value} {w:World} {K:Value→World→Prop} (h:Ea b c a w K):Q1 P F.bR [b,c,a] w K:=Q9 (List.replicate 12 none) Tryz.func63 rfl (by decide) (by kernel_rfl) h
def Oe (m n l:Value) (w:World) (K:Value→World→Prop):Prop:= box P T.a m w fun b w=>box P T.f n w fun c w=>Q2 P T.a b w fun k w=>Q2 P T.f c w fun o w=>Q1 P F.c1 [k,o] w fun d w=>Q3 P .neq T.c (.tmp 11) (.const (.string ⟨#[]⟩)) d (.string ⟨#[]⟩) w fun a w=>Q0 a true w (fieldAddr P T.a b 0) fun i w=>Q0 a true w (Q2 P T.i i) fun j w=>Q0 a true w (fun w J=>J d w) fun g w=>Q0 a true w (fun w J=>J l w) fun e w=>Q0 a true w (Q1 P F.bR [j,g,e]) fun f w=>pick P a f (.bool false) w fun h w=>K h w
theorem Ao {b c a:Value} {w:World} {K:Value→World→Prop} (h:Oe b c a w K):Q1 P F.bA [b,c,a] w K:=Q9 (List.replicate 3 none) Tryz.func28 rfl (by decide) (by kernel_rfl) h
def Nv (d:Value) (w:World) (K:Value→World→Prop):Prop:= X3 P .len [T.c] T.e [false] [d] w fun l w=>Q3 P .lss T.e (.tmp 6) (.const (.int .i64 3)) l (.int .i64 3) w fun c w=>Q0 c false w (fun w J=>J d w) fun s w=>Q0 c false w (fun w J=>J l w) fun q w=>Q0 c false w (Q3 P .sub T.e (.tmp 10) (.const (.int .i64 2)) q (.int .i64 2)) fun g w=>Q0 c false w (R2 P T.c s (some g) none none) fun e w=>Q0 c false w (Q3 P .neq T.c (.tmp 12) (.const (.string ⟨#[91,93]⟩)) e (.string ⟨#[91,93]⟩)) fun i w=>pick P c (.bool true) i w fun a w=>Q0 a false w (fun w J=>J d w) fun m w=>Q0 a false w (Q1 P F.a2 [m]) fun j w=>Q0 a false w (Q3 P .gtr T.e (.tmp 17) (.const (.int .i64 3)) j (.int .i64 3)) fun k w=>pick P a (.bool true) k w fun b w=>Q0 b false w (fun w J=>J d w) fun h w=>Q0 b false w (Q1 P F.e [h]) fun r w=>Q0 b false w (J7 P .not r) fun f w=>pick P b (.bool true) f w fun p w=>X1 p (K (.string ⟨#[]⟩) w) (Q3 P .sub T.e (.tmp 26) (.const (.int .i64 2)) l (.int .i64 2) w fun o w=>R2 P T.c d none (some o) none w fun n w=>K n w)
theorem Ae {a:Value} {w:World} {K:Value→World→Prop} (h:Nv a w K):Q1 P F.bD [a] w K:=Q9 (List.replicate 6 none) Tryz.func71 rfl (by decide) (by kernel_rfl) h
end Go.Proofs.YtjdiakhipmggjaaGreatDoor

set_option maxRecDepth 100000
namespace Go.Proofs.YtjdiakhipmggjaaGreatDoor
open Go.Emb
def Om (n o m:Value) (w:World) (K:Value→World→Prop):Prop:= box P T.a n w fun b w=>box P T.o o w fun a w=>fieldAddr P T.o a 0 w fun q w=>Q2 P T.c q w fun p w=>Q1 P F.bD [p] w fun c w=>Q3 P .neq T.c (.tmp 11) (.const (.string ⟨#[]⟩)) c (.string ⟨#[]⟩) w fun d w=>X1 d (K c w) (fieldAddr P T.a b 0 w fun e w=>Q2 P T.i e w fun f w=>fieldAddr P T.o a 0 w fun k w=>Q2 P T.c k w fun i w=>Q1 P F.p [f,i] w fun j w=>indexAddr P T.k j m w fun h w=>fieldAddr P T.n h 1 w fun g w=>Q2 P T.c g w fun l w=>K l w)
theorem Al {b c a:Value} {w:World} {K:Value→World→Prop} (h:Om b c a w K):Q1 P F.bE [b,c,a] w K:=Q9 (List.replicate 6 none) Tryz.func74 rfl (by decide) (by kernel_rfl) h
def Mz (v e u:Value) (w:World) (K:Value→World→Prop):Prop:= box P T.a v w fun b w=>Q3 P .lss T.e (.tmp 7) (.const (.int .i64 0)) e (.int .i64 0) w fun c w=>Q0 c false w (fun w J=>J e w) fun r w=>Q0 c false w (fieldAddr P T.a b 2) fun g w=>Q0 c false w (Q2 P T.g g) fun d w=>Q0 c false w (X3 P .len [T.g] T.e [false] [d]) fun k w=>Q0 c false w (Q3 P .geq T.e (.tmp 10) (.tmp 13) r k) fun h w=>pick P c (.bool true) h w fun i w=>X1 i (K (.int .i64 92) w) (Q3 P .lss T.a1 (.tmp 16) (.const (.int .i64 0)) u (.int .i64 0) w fun a w=>Q0 a false w (fun w J=>J u w) fun n w=>Q0 a false w (fieldAddr P T.a b 2) fun m w=>Q0 a false w (Q2 P T.g m) fun j w=>Q0 a false w (fun w J=>J e w) fun s w=>Q0 a false w (indexAddr P T.g j s) fun f w=>Q0 a false w (fieldAddr P T.o f 1) fun q w=>Q0 a false w (Q2 P T.l q) fun t w=>Q0 a false w (X3 P .len [T.l] T.e [false] [t]) fun l w=>Q0 a false w (Q3 P .geq T.a1 (.tmp 19) (.tmp 26) n l) fun p w=>pick P a (.bool true) p w fun o w=>X1 o (K (.int .i64 93) w) (K (.int .i64 0) w))
theorem Kn {b c a:Value} {w:World} {K:Value→World→Prop} (h:Mz b c a w K):Q1 P F.aJ [b,c,a] w K:=Q9 (List.replicate 8 none) Tryz.func108 rfl (by decide) (by kernel_rfl) h
def El (a0 B D a3:Value) (w:World) (K:Value→World→Prop):Prop:= box P T.a a0 w fun a w=>box P T.f a3 w fun c w=>W0 P T.a w fun s w=>Q2 P T.a a w fun Q w=>Q1 P F.aJ [Q,B,D] w fun v w=>Q3 P .neq T.y (.tmp 17) (.const (.int .i64 0)) v (.int .i64 0) w fun R w=>X1 R (Q2 P T.a a w fun W w=>Y0 P T.a s W w fun _u w=>Y7 P T.a s w fun t=>K (.tuple #[t,v]) w) (dr w fun b k=>Q6 b (fun f=> ∀w,k w→fieldAddr P T.a a 2 w (dk b f w)) fun f=>Q6 b (fun o=> ∀w,k w→Q2 P T.a a w (dk b o w)) fun o=>Q6 b (fun q=> ∀w,k w→Q2 P T.f c w (dk b q w)) fun q=>Q6 b (fun m=> ∀w,k w→Q2 P T.a a w (dk b m w)) fun m=>Q6 b (fun d=> ∀l w,k w→f l w→Q2 P T.g l w (dk b d w)) fun d=>Q6 b (fun g=> ∀n w,k w→d n w→indexAddr P T.g n B w (dk b g w)) fun g=>Q6 b (fun e=> ∀j w,k w→g j w→Q2 P T.o j w (dk b e w)) fun e=>Q6 b (fun p=> ∀h i w,k w→m h w→e i w→Q1 P F.bE [h,i,D] w (dk b p w)) fun p=>∀l u A h n j i y w,k w→f l w→o u w→q A w→m h w→d n w→g j w→e i w→p y w→ Q1 P F.bA [u,A,y] w fun J w=>J7 P .not J w fun ac w=>X1 ac (Q2 P T.a a w fun aa w=>Y0 P T.a s aa w fun _u w=>Y7 P T.a s w fun t=>K (.tuple #[t,(.int .i64 91)]) w) (buildSlice P T.g 0 [] w fun Z w=>fieldAddr P T.a a 2 w fun O w=>Q2 P T.g O w fun ab w=>X3 P .append [T.g,T.g] T.g [false,false] [Z,ab] w fun r w=>buildSlice P T.l 0 [] w fun V w=>indexAddr P T.g r B w fun L w=>fieldAddr P T.o L 1 w fun C w=>Q2 P T.l C w fun H w=>X3 P .append [T.l,T.l] T.l [false,false] [V,H] w fun z w=>Q2 P T.f c w fun Y w=>indexAddr P T.l z D w fun U w=>Y0 P T.f U Y w fun _u w=>indexAddr P T.g r B w fun E w=>fieldAddr P T.o E 1 w fun X w=>Y0 P T.l X z w fun _u w=>fieldAddr P T.a a 2 w fun M w=>Y0 P T.g M r w fun _u w=>Q2 P T.a a w fun N w=>Y0 P T.a s N w fun _u w=>Y7 P T.a s w fun t=>K (.tuple #[t,(.int .i64 0)]) w))
theorem Q05 {c d a b:Value} {w:World} {K:Value→World→Prop} (h:El c d a b w K):Q1 P F.bN [c,d,a,b] w K:=Q9 (List.replicate 14 none) Tryz.func59 rfl (by decide) (by kernel_rfl) h
def Dr (p o n:Value) (w:World) (K:Value→World→Prop):Prop:= box P T.a p w fun a w=>W0 P T.f w fun c w=>Q2 P T.a a w fun q w=>Q1 P F.aJ [q,o,n] w fun b w=>Q3 P .neq T.y (.tmp 13) (.const (.int .i64 0)) b (.int .i64 0) w fun e w=>X1 e (H1 P T.f [] w fun f w=>Y0 P T.f c f w fun _u w=>Y7 P T.f c w fun d=>K (.tuple #[d,b]) w) (fieldAddr P T.a a 2 w fun i w=>Q2 P T.g i w fun j w=>indexAddr P T.g j o w fun h w=>fieldAddr P T.o h 1 w fun g w=>Q2 P T.l g w fun l w=>indexAddr P T.l l n w fun k w=>Q2 P T.f k w fun m w=>Y0 P T.f c m w fun _u w=>Y7 P T.f c w fun d=>K (.tuple #[d,(.int .i64 0)]) w)
theorem Q0B {b c a:Value} {w:World} {K:Value→World→Prop} (h:Dr b c a w K):Q1 P F.bO [b,c,a] w K:=Q9 (List.replicate 6 none) Tryz.func60 rfl (by decide) (by kernel_rfl) h
def Q0z:V8:=[none,some ([1],[1,8,9]),none,none,none,some ([5],[5,6,7,10,11,12,13,14,15,16,17,18,19,20,21,22,23,24,25,26,27,28,29,30,31,32,33,34,35,36,37,38,39,40,41,42,43,44,45,46,47,48,49,50,51]),none,none,none,none,some ([6],[6,7,22,23,24,25,26,27,28,29,30,31,32,33,34,35,36,37,38,39,40,41,42,43,44,45,46,47,48,49,50,51]),none,none,none,none,none,none,some ([],[52,53,54,55,56,57,58,59,60,61,62,63]),none,none]
def Ei (a0 a1:Value) (w:World) (K:Value→World→Prop):Prop:= box P T.a a0 w fun e w=>W0 P T.a w fun j w=>jn (α:=Value) w (fun J1 w=>Q3 P .lss T.e (.tmp 8) (.const (.int .i64 0)) a1 (.int .i64 0) w fun t9 w=>X1 t9 (J1 (.int .i64 0) w) (J1 a1 w)) fun i n w=>lp (α:=Value) (.int .i64 0) w fun d h n w=>Q3 P .lss T.e (.tmp 10) (.tmp 11) h i w fun a w=>Q0 a true w (fun w J=>J h w) fun y w=>Q0 a true w (fieldAddr P T.a e 2) fun v w=>Q0 a true w (Q2 P T.g v) fun Q w=>Q0 a true w (X3 P .len [T.g] T.e [false] [Q]) fun D w=>Q0 a true w (Q3 P .lss T.e (.tmp 14) (.tmp 17) y D) fun H w=>pick P a H (.bool false) w fun R w=>X1 R (lp (α:=Value) (.int .i64 0) w fun b f n w=>fieldAddr P T.a e 2 w fun t w=>Q2 P T.g t w fun ad w=>indexAddr P T.g ad h w fun A w=>fieldAddr P T.o A 1 w fun aa w=>Q2 P T.l aa w fun X w=>X3 P .len [T.l] T.e [false] [X] w fun q w=>Q3 P .lss T.e (.tmp 22) (.tmp 29) f q w fun W w=>X1 W (fieldAddr P T.a e 2 w fun ag w=>Q2 P T.g ag w fun Z w=>indexAddr P T.g Z h w fun ak w=>fieldAddr P T.o ak 1 w fun ai w=>Q2 P T.l ai w fun M w=>indexAddr P T.l M f w fun ab w=>Q2 P T.f ab w fun s w=>W0 P T.f w fun r w=>Y0 P T.f r s w fun _u w=>fieldAddr P T.f r 0 w fun k w=>Q2 P T.e k w fun o w=>Q3 P .eql T.e (.tmp 43) (.const (.int .i64 4)) o (.int .i64 4) w fun c w=>Q0 c true w (fieldAddr P T.f r 3) fun l w=>Q0 c true w (Q2 P T.e l) fun U w=>Q0 c true w (fun w J=>J i w) fun L w=>Q0 c true w (Q3 P .geq T.e (.tmp 47) (.tmp 48) U L) fun ah w=>pick P c ah (.bool false) w fun E w=>X1 E (Q2 P T.a e w fun ae w=>Y0 P T.a j ae w fun _u w=>Y7 P T.a j w fun p=>K p w) (Q3 P .add T.e (.tmp 31) (.const (.int .i64 1)) f (.int .i64 1) w fun al w=>b al w)) (Q3 P .add T.e (.tmp 20) (.const (.int .i64 1)) h (.int .i64 1) w fun B w=>d B w)) (jn (α:=Unit) w (fun g w=>fieldAddr P T.a e 2 w fun V w=>Q2 P T.g V w fun Y w=>X3 P .len [T.g] T.e [false] [Y] w fun u w=>Q3 P .lss T.e (.tmp 52) (.tmp 55) i u w fun z w=>X1 z (buildSlice P T.g 0 [] w fun aj w=>fieldAddr P T.a e 2 w fun m w=>Q2 P T.g m w fun af w=>R2 P T.g af none (some i) none w fun N w=>X3 P .append [T.g,T.g] T.g [false,false] [aj,N] w fun ac w=>fieldAddr P T.a e 2 w fun C w=>Y0 P T.g C ac w fun _u w=>g () w) (g () w)) fun ap n w=>Q2 P T.a e w fun O w=>Y0 P T.a j O w fun _u w=>Y7 P T.a j w fun p=>K p w)
theorem Q0e {a b:Value} {w:World} {K:Value→World→Prop} (h:Ei a b w K):Q1 P F.bP [a,b] w K:=Q9 Q0z Tryz.func61 rfl (by decide) (by kernel_rfl) h
def Hk (a0 a1 a2:Value) (w:World) (K:Value→World→Prop):Prop:= box P T.a a1 w fun t4 w=>box P T.m a2 w fun s w=>W0 P T.a w fun t6 w=>fieldAddr P T.m s 0 w fun eu w=>Q2 P T.e eu w fun a4 w=>Q3 P .eql T.e (.tmp 23) (.const (.int .i64 0)) a4 (.int .i64 0) w fun ej w=>X1 ej (Q2 P T.a t4 w fun eh w=>fieldAddr P T.m s 1 w fun es w=>Q2 P T.c es w fun ef w=>Q1 P F.bc [eh,ef] w fun dm w=>ext P dm 0 w fun ee w=>ext P dm 1 w fun ct w=>W0 P T.a w fun t8 w=>Y0 P T.a t8 ee w fun _u w=>fieldAddr P T.m s 1 w fun d8 w=>Q2 P T.c d8 w fun eb w=>Q1 P F.aG [a0,eb] w fun d6 w=>ext P d6 0 w fun c2 w=>ext P d6 1 w fun ea w=>dr w fun a b=>Q6 a (fun n=> ∀w,b w→Q3 P .eql T.y (.tmp 41) (.tmp 42) ct ea w (dk a n w)) fun n=>Q6 a (fun bm=> ∀d w,b w→n d w→Q0 d true w (fun w J=>J ct w) (dk a bm w)) fun bm=>Q6 a (fun b8=> ∀d cc w,b w→n d w→bm cc w→Q0 d true w (Q3 P .neq T.y (.tmp 45) (.const (.int .i64 0)) cc (.int .i64 0)) (dk a b8 w)) fun b8=>Q6 a (fun aw=> ∀d cf w,b w→n d w→b8 cf w→Q0 d true w (fun w J=>J cf w) (dk a aw w)) fun aw=>Q6 a (fun a9=> ∀m w,b w→aw m w→Q0 m true w (fun w J=>J c2 w) (dk a a9 w)) fun a9=>Q6 a (fun b6=> ∀m bp w,b w→aw m w→a9 bp w→Q0 m true w (Q3 P .eql T.e (.tmp 48) (.const (.int .i64 0)) bp (.int .i64 0)) (dk a b6 w)) fun b6=>Q6 a (fun a7=> ∀d m cj w,b w→n d w→aw m w→b6 cj w→Q0 d true w (pick P m cj (.bool false)) (dk a a7 w)) fun a7=>Q6 a (fun u=> ∀d be w,b w→n d w→a7 be w→Q0 d true w (fun w J=>J be w) (dk a u w)) fun u=>Q6 a (fun b7=> ∀h w,b w→u h w→Q0 h false w (fun w J=>J ct w) (dk a b7 w)) fun b7=>Q6 a (fun bk=> ∀h a8 w,b w→u h w→b7 a8 w→Q0 h false w (Q3 P .eql T.y (.tmp 52) (.const (.int .i64 0)) a8 (.int .i64 0)) (dk a bk w)) fun bk=>Q6 a (fun t=> ∀h ch w,b w→u h w→bk ch w→Q0 h false w (fun w J=>J ch w) (dk a t w)) fun t=>Q6 a (fun ck=> ∀g w,b w→t g w→Q0 g true w (fun w J=>J c2 w) (dk a ck w)) fun ck=>Q6 a (fun bq=> ∀g w,b w→t g w→Q0 g true w (fieldAddr P T.a t4 2) (dk a bq w)) fun bq=>Q6 a (fun bx=> ∀w,b w→Q2 P T.a t8 w (dk a bx w)) fun bx=>Q6 a (fun ba=> ∀g b5 w,b w→t g w→bq b5 w→Q0 g true w (Q2 P T.g b5) (dk a ba w)) fun ba=>Q6 a (fun b2=> ∀g bu w,b w→t g w→ba bu w→Q0 g true w (X3 P .len [T.g] T.e [false] [bu]) (dk a b2 w)) fun b2=>Q6 a (fun bb=> ∀g b4 bl w,b w→t g w→ck b4 w→b2 bl w→Q0 g true w (Q3 P .eql T.e (.tmp 55) (.tmp 58) b4 bl) (dk a bb w)) fun bb=>Q6 a (fun ci=> ∀h g ca w,b w→u h w→t g w→bb ca w→Q0 h false w (pick P g ca (.bool false)) (dk a ci w)) fun ci=>Q6 a (fun bo=> ∀d h bn w,b w→n d w→u h w→ci bn w→Q0 d true w (pick P h (.bool true) bn) (dk a bo w)) fun bo=>Q6 a (fun cu=> ∀d bf w,b w→n d w→bo bf w→pick P d bf (.bool false) w (dk a cu w)) fun cu=>Sk a (fun k=> ∀aq w,b w→bx aq w→Y0 P T.a t6 aq w (dk a (k [aq]) w)) fun k=>∀d cc cf m bp cj be h a8 ch g b4 b5 aq bu bl ca bn bf dp cs w,b w→n d w→bm cc w→b8 cf w→aw m w→a9 bp w→b6 cj w→a7 be w→u h w→b7 a8 w→bk ch w→t g w→ck b4 w→bq b5 w→bx aq w→ba bu w→b2 bl w→bb ca w→ci bn w→bo bf w→cu dp w→k [aq] cs w→ Y7 P T.a t6 w fun r0=>K (.tuple #[r0,dp]) w) (Q3 P .eql T.e (.tmp 23) (.const (.int .i64 1)) a4 (.int .i64 1) w fun eg w=>X1 eg (Q2 P T.a t4 w fun eq w=>fieldAddr P T.m s 1 w fun er w=>Q2 P T.c er w fun ed w=>fieldAddr P T.m s 2 w fun ep w=>Q2 P T.a1 ep w fun eo w=>Q1 P F.bl [eq,ed,eo] w fun c4 w=>ext P c4 0 w fun em w=>ext P c4 1 w fun cv w=>W0 P T.a w fun dv w=>Y0 P T.a dv em w fun _u w=>fieldAddr P T.m s 1 w fun d9 w=>Q2 P T.c d9 w fun et w=>fieldAddr P T.m s 2 w fun ek w=>Q2 P T.a1 ek w fun ec w=>Q1 P F.aN [a0,et,ec] w fun du w=>ext P du 0 w fun dg w=>ext P du 1 w fun el w=>dr w fun a b=>Q6 a (fun l=> ∀w,b w→Q3 P .eql T.y (.tmp 84) (.tmp 85) cv el w (dk a l w)) fun l=>Q6 a (fun b1=> ∀c w,b w→l c w→Q0 c true w (fun w J=>J cv w) (dk a b1 w)) fun b1=>Q6 a (fun ce=> ∀c cg w,b w→l c w→b1 cg w→Q0 c true w (Q3 P .neq T.y (.tmp 88) (.const (.int .i64 0)) cg (.int .i64 0)) (dk a ce w)) fun ce=>Q6 a (fun ar=> ∀c b9 w,b w→l c w→ce b9 w→Q0 c true w (fun w J=>J b9 w) (dk a ar w)) fun ar=>Q6 a (fun bh=> ∀o w,b w→ar o w→Q0 o true w (fun w J=>J dg w) (dk a bh w)) fun bh=>Q6 a (fun cd=> ∀o cb w,b w→ar o w→bh cb w→Q0 o true w (Q3 P .eql T.e (.tmp 91) (.const (.int .i64 0)) cb (.int .i64 0)) (dk a cd w)) fun cd=>Q6 a (fun br=> ∀c o bc w,b w→l c w→ar o w→cd bc w→Q0 c true w (pick P o bc (.bool false)) (dk a br w)) fun br=>Q6 a (fun v=> ∀c b3 w,b w→l c w→br b3 w→Q0 c true w (fun w J=>J b3 w) (dk a v w)) fun v=>Q6 a (fun bv=> ∀i w,b w→v i w→Q0 i false w (fun w J=>J cv w) (dk a bv w)) fun bv=>Q6 a (fun bs=> ∀i cl w,b w→v i w→bv cl w→Q0 i false w (Q3 P .eql T.y (.tmp 95) (.const (.int .i64 0)) cl (.int .i64 0)) (dk a bs w)) fun bs=>Q6 a (fun r=> ∀i bd w,b w→v i w→bs bd w→Q0 i false w (fun w J=>J bd w) (dk a r w)) fun r=>Q6 a (fun b0=> ∀f w,b w→r f w→Q0 f true w (fun w J=>J dg w) (dk a b0 w)) fun b0=>Q6 a (fun bz=> ∀f w,b w→r f w→Q0 f true w (fieldAddr P T.a t4 2) (dk a bz w)) fun bz=>Q6 a (fun bi=> ∀w,b w→Q2 P T.a dv w (dk a bi w)) fun bi=>Q6 a (fun B=> ∀f bw w,b w→r f w→bz bw w→Q0 f true w (Q2 P T.g bw) (dk a B w)) fun B=>Q6 a (fun al=> ∀f U w,b w→r f w→B U w→Q0 f true w (X3 P .len [T.g] T.e [false] [U]) (dk a al w)) fun al=>Q6 a (fun C=> ∀f bj ag w,b w→r f w→b0 bj w→al ag w→Q0 f true w (Q3 P .eql T.e (.tmp 98) (.tmp 101) bj ag) (dk a C w)) fun C=>Q6 a (fun W=> ∀i f an w,b w→v i w→r f w→C an w→Q0 i false w (pick P f an (.bool false)) (dk a W w)) fun W=>Q6 a (fun ai=> ∀c i X w,b w→l c w→v i w→W X w→Q0 c true w (pick P i (.bool true) X) (dk a ai w)) fun ai=>Q6 a (fun a5=> ∀c aj w,b w→l c w→ai aj w→pick P c aj (.bool false) w (dk a a5 w)) fun a5=>Sk a (fun k=> ∀av w,b w→bi av w→Y0 P T.a t6 av w (dk a (k [av]) w)) fun k=>∀c cg b9 o cb bc b3 i cl bd f bj bw av U ag an X aj cr cs w,b w→l c w→b1 cg w→ce b9 w→ar o w→bh cb w→cd bc w→br b3 w→v i w→bv cl w→bs bd w→r f w→b0 bj w→bz bw w→bi av w→B U w→al ag w→C an w→W X w→ai aj w→a5 cr w→k [av] cs w→ Y7 P T.a t6 w fun r0=>K (.tuple #[r0,cr]) w) (Q3 P .eql T.e (.tmp 23) (.const (.int .i64 2)) a4 (.int .i64 2) w fun cz w=>X1 cz (Q2 P T.a t4 w fun df w=>fieldAddr P T.m s 3 w fun ds w=>Q2 P T.e ds w fun c1 w=>fieldAddr P T.m s 2 w fun dx w=>Q2 P T.a1 dx w fun d2 w=>fieldAddr P T.m s 4 w fun d3 w=>Q2 P T.f d3 w fun dq w=>Q1 P F.bN [df,c1,d2,dq] w fun cp w=>ext P cp 0 w fun d7 w=>ext P cp 1 w fun dt w=>W0 P T.a w fun d1 w=>Y0 P T.a d1 d7 w fun _u w=>dr w fun a b=>Q6 a (fun af=> ∀w,b w→fieldAddr P T.m s 3 w (dk a af w)) fun af=>Q6 a (fun N=> ∀w,b w→fieldAddr P T.m s 2 w (dk a N w)) fun N=>Q6 a (fun ab=> ∀w,b w→fieldAddr P T.m s 4 w (dk a ab w)) fun ab=>Q6 a (fun Q=> ∀w,b w→Q2 P T.a d1 w (dk a Q w)) fun Q=>Q6 a (fun ac=> ∀Y w,b w→af Y w→Q2 P T.e Y w (dk a ac w)) fun ac=>Q6 a (fun A=> ∀ad w,b w→N ad w→Q2 P T.a1 ad w (dk a A w)) fun A=>Q6 a (fun M=> ∀L w,b w→ab L w→Q2 P T.f L w (dk a M w)) fun M=>Q6 a (fun z=> ∀y aa ah w,b w→ac y w→A aa w→M ah w→Q1 P F.b4 [a0,y,aa,ah] w (dk a z w)) fun z=>Q6 a (fun a3=> ∀ae w,b w→z ae w→Q3 P .eql T.y (.tmp 127) (.tmp 128) ae dt w (dk a a3 w)) fun a3=>Sk a (fun a6=> ∀p w,b w→Q p w→Y0 P T.a t6 p w (dk a (a6 [p]) w)) fun a6=>∀Y ad L p y aa ah ae cn ei w,b w→af Y w→N ad w→ab L w→Q p w→ac y w→A aa w→M ah w→z ae w→a3 cn w→a6 [p] ei w→ Y7 P T.a t6 w fun r0=>K (.tuple #[r0,cn]) w) (Q3 P .eql T.e (.tmp 23) (.const (.int .i64 3)) a4 (.int .i64 3) w fun d4 w=>X1 d4 (Q2 P T.a t4 w fun c7 w=>fieldAddr P T.m s 3 w fun c0 w=>Q2 P T.e c0 w fun dl w=>fieldAddr P T.m s 2 w fun c5 w=>Q2 P T.a1 c5 w fun c6 w=>Q1 P F.bO [c7,dl,c6] w fun cq w=>ext P cq 0 w fun dy w=>ext P cq 1 w fun d5 w=>W0 P T.f w fun dz w=>Y0 P T.f dz dy w fun _u w=>fieldAddr P T.m s 3 w fun c9 w=>Q2 P T.e c9 w fun dw w=>fieldAddr P T.m s 2 w fun dn w=>Q2 P T.a1 dn w fun cy w=>Q1 P F.c0 [a0,dw,cy] w fun cm w=>ext P cm 0 w fun c8 w=>ext P cm 1 w fun di w=>W0 P T.f w fun dj w=>Y0 P T.f dj c8 w fun _u w=>dr w fun a b=>Q6 a (fun O=> ∀w,b w→Q2 P T.a t4 w (dk a O w)) fun O=>Q6 a (fun E=> ∀w,b w→Q2 P T.f dz w (dk a E w)) fun E=>Q6 a (fun D=> ∀w,b w→Q2 P T.f dj w (dk a D w)) fun D=>Q6 a (fun j=> ∀ao ap w,b w→E ao w→D ap w→Q3 P .eql T.f (.tmp 151) (.tmp 152) ao ap w (dk a j w)) fun j=>Q6 a (fun ak=> ∀e w,b w→j e w→Q0 e true w (fun w J=>J d5 w) (dk a ak w)) fun ak=>Q6 a (fun Z=> ∀e w,b w→j e w→Q0 e true w (fun w J=>J di w) (dk a Z w)) fun Z=>Q6 a (fun H=> ∀e am V w,b w→j e w→ak am w→Z V w→Q0 e true w (Q3 P .eql T.y (.tmp 155) (.tmp 156) am V) (dk a H w)) fun H=>Q6 a (fun ay=> ∀e R w,b w→j e w→H R w→pick P e R (.bool false) w (dk a ay w)) fun ay=>Sk a (fun cw=> ∀q w,b w→O q w→Y0 P T.a t6 q w (dk a (cw [q]) w)) fun cw=>∀q ao ap e am V R co u9 w,b w→O q w→E ao w→D ap w→j e w→ak am w→Z V w→H R w→ay co w→cw [q] u9 w→ Y7 P T.a t6 w fun r0=>K (.tuple #[r0,co]) w) (Q3 P .eql T.e (.tmp 23) (.const (.int .i64 4)) a4 (.int .i64 4) w fun dc w=>X1 dc (fieldAddr P T.m s 3 w fun db w=>Q2 P T.e db w fun da w=>Q1 P F.c2 [a0,da] w fun ew w=>Q2 P T.a t4 w fun dd w=>fieldAddr P T.m s 3 w fun de w=>Q2 P T.e de w fun cx w=>Q1 P F.bP [dd,cx] w fun c3 w=>Y0 P T.a t6 c3 w fun _u w=>Y7 P T.a t6 w fun r0=>K (.tuple #[r0,(.bool true)]) w) (Q2 P T.a t4 w fun d0 w=>Y0 P T.a t6 d0 w fun _u w=>Y7 P T.a t6 w fun r0=>K (.tuple #[r0,(.bool true)]) w)))))
theorem Q1A {b c a:Value} {w:World} {K:Value→World→Prop} (h:Hk b c a w K):Q1 P F.aC [b,c,a] w K:=Q9 (List.replicate 22 none) Tryz.func26 rfl (by decide) (by kernel_rfl) h
def Sm:V8:=[none,none,none,none,none,none,none,some ([7],[4,7,8,9,21,22,23,24,25,26,27,28,29,30,31,32,33,34,35,36,37,38,39,40,41,42,43,44,45,46,47,48,49,50,51,52,53,54,55,56,57,58,59,60,61,62,63,64,65,66,67,68,69,70]),none,none,none,some ([],[31,32,33,34,35,36,37,38,39,40,41,42,43,44,45]),none,none,none,none,some ([8,9],[8,9,46,47,48,49,50,51,52,53,54,55,56,57]),none,none,none,none,none,none]
def Je (a0 q:Value) (w:World) (K:Value→World→Prop):Prop:= Q1 P F.ag [a0] w fun h w=>ext P h 0 w fun a w=>ext P h 1 w fun u w=>W0 P T.a w fun o w=>Y0 P T.a o u w fun _u w=>Q1 P F.aF [] w fun t w=>J7 P .not t w fun f w=>Q0 f false w (fun w J=>J a w) fun C w=>Q0 f false w (Q3 P .eql T.a5 (.tmp 18) (.const (.pointer none)) C (.pointer none)) fun M w=>pick P f (.bool true) M w fun z w=>X1 z (K (.bool false) w) (lp (α:=Value) (.int .i64 0) w fun d k d_ w=>X3 P .len [T.a0] T.e [false] [q] w fun r w=>Q3 P .lss T.e (.tmp 21) (.tmp 23) k r w fun g w=>Q0 g true w (fun w J=>J k w) fun y w=>Q0 g true w (Q3 P .lss T.e (.tmp 26) (.const (.int .i64 60)) y (.int .i64 60)) fun R w=>pick P g R (.bool false) w fun O w=>X1 O (jn (α:=Unit) w (fun j w=>indexAddr P T.a0 q k w fun X w=>Q2 P T.m X w fun Q w=>Q1 P F.aY [Q] w fun v w=>X1 v (sq w fun w=>indexAddr P T.a0 q k w fun p w=>Q2 P T.a o w fun E w=>Q2 P T.m p w fun l w=>Q1 P F.aC [a,E,l] w fun i w=>ext P i 0 w fun aa w=>ext P i 1 w fun af w=>Y0 P T.a o aa w fun _u w=>j () w) (j () w)) fun ae d_ w=>lp (α:=Value×Value) ((.int .i64 0),(.int .i64 0)) w fun b c d_ w=>Q1 P F.b3 [a] w fun D w=>Q3 P .lss T.e (.tmp 46) (.tmp 48) c.2 D w fun Y w=>X1 Y (Q1 P F.aX [a,c.2] w fun s w=>Q3 P .add T.e (.const (.int .i64 1)) (.tmp 55) (.int .i64 1) s w fun A w=>Q3 P .add T.e (.tmp 52) (.tmp 56) c.1 A w fun ab w=>Q3 P .add T.e (.tmp 50) (.const (.int .i64 1)) c.2 (.int .i64 1) w fun V w=>b (ab,V) w) (Q1 P F.v [a] w fun W w=>Q3 P .rem T.ao (.tmp 60) (.const (.int .u16 301)) a0 (.int .u16 301) w fun H w=>conv P T.ao T.e H w fun U w=>Q3 P .sub T.e (.tmp 62) (.tmp 63) U c.1 w fun L w=>Q3 P .neq T.e (.tmp 59) (.tmp 64) W L w fun e w=>Q0 e false w (fun w J=>J a w) fun B w=>Q0 e false w (Q1 P F.v [B]) fun m w=>Q0 e false w (Q3 P .lss T.e (.tmp 68) (.const (.int .i64 0)) m (.int .i64 0)) fun n w=>pick P e (.bool true) n w fun Z w=>X1 Z (K (.bool false) w) (Q3 P .add T.e (.tmp 29) (.const (.int .i64 1)) k (.int .i64 1) w fun N w=>d N w))) (K (.bool true) w))
theorem Rl {a b:Value} {w:World} {K:Value→World→Prop} (h:Je a b w K):Q1 P F.c5 [a,b] w K:=Q9 Sm Tryz.func5 rfl (by decide) (by kernel_rfl) h
end Go.Proofs.YtjdiakhipmggjaaGreatDoor

set_option maxRecDepth 100000
namespace Go.Proofs.YtjdiakhipmggjaaGreatDoor
open Go.Emb
end Go.Proofs.YtjdiakhipmggjaaGreatDoor


namespace Go.Emb
open Go.RowKit (Below)
variable {P : Program} {w w' : World} {K : Value → World → Prop}
theorem X9 {s:Sem Value} {v:Value} (h:s.run P w= .ok v w'):op P (sv s) w K=K v w':=by
 rw[T9];unfold P5 sv;simp[h]
theorem Ww {s:Sem Unit} (h:s.run P w= .ok () w'):op P (su s) w K=K undef w':=by
 rw[T9];unfold P5 su;simp[h]
abbrev S (l:List UInt8):Value:= .string ⟨l.toArray⟩
abbrev I (n:Int):Value:= .int .i64 n
theorem Dw {b:Bool} {x y:Value}:pick P (.bool b) x y w K=K (if b then x else y) w:=by
 unfold pick;rw[T9];unfold P5;cases b<;>simp[asBool]
theorem M4 {x y:Value}:pick P (.bool true) x y w K=K x w:=by rw[Dw];rfl
theorem W8 {x y:Value}:pick P (.bool false) x y w K=K y w:=by rw[Dw];rfl
theorem Q9R {a b:Bool} {u:Value}:pick P (.bool a) (if a=true then .bool b else u) (.bool false) w K=K (.bool (a&&b)) w:=by
 rw[Dw];cases a<;>rfl
theorem X1N {a b:Bool} {u:Value}:pick P (.bool a) (.bool true) (if a=false then .bool b else u) w K=K (.bool (a||b)) w:=by
 rw[Dw];cases a<;>rfl
theorem W2 {c:World→(Value→World→Prop)→Prop}:Q0 (.bool true) true w c K=c w K:=by rw[Dy];simp[Me]
theorem W6 {c:World→(Value→World→Prop)→Prop}:Q0 (.bool false) false w c K=c w K:=by rw[Dy];simp[Me]
theorem R6 {c:World→(Value→World→Prop)→Prop}:Q0 (.bool true) false w c K=K undef w:=by rw[Dy];simp[Me]
theorem E0 {c:World→(Value→World→Prop)→Prop}:Q0 (.bool false) true w c K=K undef w:=by rw[Dy];simp[Me]
theorem O7 {b:Bool} {c:World→(Value→World→Prop)→Prop}:Q0 undef b w c K=K undef w:=by rw[Dy];rfl
theorem X0f {a b:Bool} {v:Value}:Q0 (.bool a) b w (fun w J=>J v w) K=K (if a=b then v else undef) w:=by
 rw[Dy];unfold Me;by_cases h:a=b<;>simp[h]
theorem Q5O {b:Bool} {t e:Prop}:X1 (.bool b) t e=if b=true then t else e:=by rw[Q4Q];cases b<;>rfl
theorem H4 {t e:Prop}:X1 (.bool true) t e=t:=by rw[Q5O];simp
theorem M5 {t e:Prop}:X1 (.bool false) t e=e:=by rw[Q5O];simp
section ints
variable {k : IntKind} {t : TypeId} {ox oy : Operand} {a b : Int}
theorem Fw:Q3 P .add t ox oy (.int k a) (.int k b) w K=K (.int k (k.wrap (a+b))) w:=X9 (by simp[eqGuard,Go.binOp,Op.intArith])
theorem Q1x:Q3 P .sub t ox oy (.int k a) (.int k b) w K=K (.int k (k.wrap (a-b))) w:=X9 (by simp[eqGuard,Go.binOp,Op.intArith])
theorem Q7q:Q3 P .mul t ox oy (.int k a) (.int k b) w K=K (.int k (k.wrap (a*b))) w:=X9 (by simp[eqGuard,Go.binOp,Op.intArith])
theorem Q3Q:Q3 P .lss t ox oy (.int k a) (.int k b) w K=K (.bool (decide (a<b))) w:=X9 (by simp[eqGuard,Go.binOp,Op.intCmp])
theorem Q3E:Q3 P .leq t ox oy (.int k a) (.int k b) w K=K (.bool (decide (a≤b))) w:=X9 (by simp[eqGuard,Go.binOp,Op.intCmp])
theorem Ra:Q3 P .gtr t ox oy (.int k a) (.int k b) w K=K (.bool (decide (b<a))) w:=X9 (by simp[eqGuard,Go.binOp,Op.intCmp])
theorem Q1a:Q3 P .geq t ox oy (.int k a) (.int k b) w K=K (.bool (decide (b≤a))) w:=X9 (by simp[eqGuard,Go.binOp,Op.intCmp])
theorem Q1o:Q3 P .eql t ox oy (.int k a) (.int k b) w K=K (.bool (decide (a=b))) w:=X9 (by
 simp[eqGuard,Go.binOp,Op.intCmp];rfl)
theorem Q3o:Q3 P .neq t ox oy (.int k a) (.int k b) w K=K (.bool (!decide (a=b))) w:=X9 (by
 simp[eqGuard,Go.binOp,Op.intCmp];rfl)
end ints
theorem Q3s {b:Bool}:J7 P .not (.bool b) w K=K (.bool (!b)) w:=X9 (by simp[Op.unary])
section bools
variable {t : TypeId} {ox oy : Operand} {a b : Bool}
theorem Q2e (d:Nat) (h:P.underlying t=some .bool):(Op.equalIn (d+1) t (.bool a) (.bool b)).run P w= .ok (a==b) w:=by
 simp[Op.equalIn,run_underlying h]
theorem Gg (h:P.underlying t=some .bool):(Op.equal t (.bool a) (.bool b)).run P w= .ok (a==b) w:=Q2e 9999 h
theorem Q5N (h:P.underlying t=some .bool):Q3 P .eql t ox oy (.bool a) (.bool b) w K=K (.bool (a==b)) w:=X9 (by
 simp[eqGuard,Go.binOp,Gg h])
theorem Q5P (h:P.underlying t=some .bool):Q3 P .neq t ox oy (.bool a) (.bool b) w K=K (.bool (!(a==b))) w:=X9 (by
 simp[eqGuard,Go.binOp,Gg h])
end bools
theorem Jy {vs:List Value} {i:Nat} {v:Value} (h:vs[i]? =some v):ext P (.tuple vs.toArray) i w K=K v w:=X9 (by
 simp[Instr.extract,h])
theorem X2J {a b:Value}:ext P (.tuple #[a,b]) 0 w K=K a w:=Jy (vs:=[a,b]) rfl
theorem X2m {a b:Value}:ext P (.tuple #[a,b]) 1 w K=K b w:=Jy (vs:=[a,b]) rfl
theorem X10 {a b c:Value}:ext P (.tuple #[a,b,c]) 0 w K=K a w:=Jy (vs:=[a,b,c]) rfl
theorem X0O {a b c:Value}:ext P (.tuple #[a,b,c]) 1 w K=K b w:=Jy (vs:=[a,b,c]) rfl
theorem X0K {a b c:Value}:ext P (.tuple #[a,b,c]) 2 w K=K c w:=Jy (vs:=[a,b,c]) rfl
theorem S7 {n:Int} (c: -9223372036854775808≤n) (d:n≤9223372036854775807):IntKind.i64.wrap n=n:=by
 have e:n % 18446744073709551616=n∨n % 18446744073709551616=n+18446744073709551616:=by omega
 show (if (true&&decide (n % 18446744073709551616≥9223372036854775808))=true then n % 18446744073709551616-18446744073709551616 else n % 18446744073709551616)=n
 simp only[Bool.true_and,decide_eq_true_eq]
 split<;>omega
theorem w32 {n:Int} (c: -2147483648≤n) (d:n≤2147483647):IntKind.i32.wrap n=n:=by
 show (if (true&&decide (n % 4294967296≥2147483648))=true then n % 4294967296-4294967296 else n % 4294967296)=n
 simp only[Bool.true_and,decide_eq_true_eq]
 split<;>omega
section strs
variable {t : TypeId} {ox oy : Operand} {a b : List UInt8}
theorem Q3t (a b:List UInt8):(a==b)=decide (a=b):=by rw[Bool.eq_iff_iff];simp
theorem Bk:Q3 P .eql t ox oy (S a) (S b) w K=K (.bool (decide (a=b))) w:=X9 (by
 simp[eqGuard,Go.binOp,Op.stringOp,Q3t])
theorem Bh:Q3 P .neq t ox oy (S a) (S b) w K=K (.bool (!decide (a=b))) w:=X9 (by
 simp[eqGuard,Go.binOp,Op.stringOp,Q3t])
theorem G9 (l:List UInt8):(ByteArray.mk l.toArray).size=l.length:=by simp[ByteArray.size]
theorem Q8D (a b:List UInt8):ByteArray.mk a.toArray++ByteArray.mk b.toArray=ByteArray.mk (a++b).toArray:=by
 apply ByteArray.ext;simp
theorem X39:IntKind.i64.max=9223372036854775807:=by decide
theorem Q20 (h:a.length+b.length≤9223372036854775807):Q3 P .add t ox oy (S a) (S b) w K=K (S (a++b)) w:=X9 (by
 have c: ¬(((a.length+b.length:Nat):Int)>IntKind.i64.max):=by rw[X39];omega
 simp only[eqGuard,Go.binOp,Op.stringOp,G9,Q8D]
 simp only[if_neg c]
 simp)
theorem R1 {cs:List Bool} {r:TypeId} (c:P.underlying t=some .string):X3 P .len [t] r cs [S a] w K=K (I a.length) w:=by
 have h:(Builtin.len_ #[t] r #[S a]).run P w= .ok (I a.length) w:=by
  simp[Builtin.len_,run_underlying c,G9,goInt]
 exact X9 h
theorem Xm {i:Int} (d:P.underlying t=some .string) (c:0≤i) (h:i.toNat<a.length):S6 P t (S a) (I i) w K=K (.int .u8 (a[i.toNat]'h).toNat) w:=X9 (by
 simp only[Instr.index,asIntOf,Sem.run_bind,Sem.run_pure,Result.andThen_ok,run_underlying d,c,if_true]
 have:(ByteArray.mk a.toArray)[i.toNat]? =some (a[i.toNat]'h):=by
  rw[getElem?_pos _ _ (by rw[G9];exact h)]
  rfl
 rw[this];simp)
theorem Q32 (l:List UInt8) (i j:Nat):(ByteArray.mk l.toArray).extract i j=ByteArray.mk ((l.take j).drop i).toArray:=by
 apply ByteArray.ext
 apply Array.ext'
 simp[List.drop_take]
theorem Un {i:Int} (d:P.underlying t=some .string) (c:0≤i) (h:i≤a.length):R2 P t (S a) (some (I i)) none none w K=K (S (a.drop i.toNat)) w:=X9 (by
 simp[Instr.sliceAt,Instr.slice,Instr.sliceBounds,Instr.sliceBound,asIntOf,run_underlying d,c,h,G9,Q32])
theorem P8 {i:Int} (d:P.underlying t=some .string) (c:0≤i) (h:i≤a.length):R2 P t (S a) none (some (I i)) none w K=K (S (a.take i.toNat)) w:=X9 (by
 simp[Instr.sliceAt,Instr.slice,Instr.sliceBounds,Instr.sliceBound,asIntOf,run_underlying d,c,h,G9,Q32])
end strs
theorem Rn {s d:TypeId} {k j:IntKind} {n:Int} {ds:TypeDesc} (e:P.underlying s=some ds) (c:P.underlying d=some (.int k)):conv P s d (.int j n) w K=K (.int k (k.wrap n)) w:=X9 (by
 simp[Go.convert,run_underlying e,run_underlying c,Conv.intToInt])
def Q12 (w:World) (r:Nat) (o:Obj):World:={w with heap:=w.heap.setIfInBounds r o}
theorem Q49 {B r:Nat} {a w:World} {o:Obj} (h:Below B a w) (d:B≤r):Below B a (Q12 w r o):=
 h.trans ⟨rfl,rfl,rfl,by simp[Q12],fun k c=>by simp only[Q12];rw[Array.getElem?_setIfInBounds_ne (by omega)]⟩
theorem Q7s {w:World} {r:Nat} {o:Obj} (h:r<w.heap.size):(Q12 w r o).heap[r]? =some o:=by
 simp only[Q12];rw[Array.getElem?_setIfInBounds_self_of_lt h]
theorem X1Y {t:TypeId} {a:List UInt8} (c:P.underlying t=some .string):rng P t (S a) w K=K (.pointer (some ⟨w.heap.size,0,none⟩)) (w.alloc (.stringIter ⟨a.toArray⟩ 0)):=X9 (by
 simp[Instr.range,run_underlying c])
theorem X1H {t:TypeId} {r pos:Nat} {s:ByteArray} (h:w.heap[r]? =some (.stringIter s pos)) (d:pos<s.size):
 W3 P (.pointer (some ⟨r,0,none⟩)) true t w K=K (.tuple #[.bool true,I pos, .int .i32 (Utf8.decode s pos).1]) (Q12 w r (.stringIter s (pos+(Utf8.decode s pos).2))):=X9 (by
 have c: ∀(k:Obj→Sem Value),(getObj r>>=k).run P w=(k (.stringIter s pos)).run P w:=by
  intro k;rw[Sem.run_bind];simp[getObj,Sem.run,h]
 have e: ∀o,(setObj r o).run P w= .ok () (Q12 w r o):=by intro o;simp[setObj,Sem.run,h,Q12]
 unfold Instr.next
 simp only[c,d,if_true]
 simp[e,goInt])
theorem Q6F {t:TypeId} {r pos:Nat} {s:ByteArray} (h:w.heap[r]? =some (.stringIter s pos)) (d: ¬pos<s.size):
 W3 P (.pointer (some ⟨r,0,none⟩)) true t w K=K (.tuple #[.bool false]) w:=X9 (by
 have c: ∀(k:Obj→Sem Value),(getObj r>>=k).run P w=(k (.stringIter s pos)).run P w:=by
  intro k;rw[Sem.run_bind];simp[getObj,Sem.run,h]
 unfold Instr.next
 simp only[c,d,if_false]
 simp)
theorem X0Y {a:Value}:ext P (.tuple #[a]) 0 w K=K a w:=Jy (vs:=[a]) rfl
theorem Q8v {s:ByteArray} {i:Nat} (h:(s.get! i).toNat<128):Utf8.decode s i=((s.get! i).toNat,1):=by
 unfold Utf8.decode
 simp only[Nat.add_zero]
 rw[if_pos h]
theorem Q6s {s:ByteArray} {i:Nat} (h: ¬(s.get! i).toNat<128):128≤(Utf8.decode s i).1:=by
 unfold Utf8.decode
 simp only[Nat.add_zero]
 rw[if_neg h]
 repeat' split
 all_goals (simp only[Utf8.runeError] at*;try omega)
 all_goals (simp only[Bool.and_eq_true,decide_eq_true_eq,ge_iff_le] at*;omega)
theorem Q65 {s:ByteArray} {i:Nat}:1≤(Utf8.decode s i).2:=by
 unfold Utf8.decode
 simp only
 repeat' split
 all_goals simp
def Kx (p:Int→Bool) (s:ByteArray):Nat→Nat→Bool
 | 0,_=>true
 | n+1,i=>if i<s.size then p (Utf8.decode s i).1&&Kx p s n (i+(Utf8.decode s i).2) else true
theorem Q3A {a:List UInt8} {i:Nat} (h:i<a.length):(ByteArray.mk a.toArray).get! i=a[i]:=by
 show (ByteArray.mk a.toArray).data[i]! =a[i]
 simp[h]
theorem Q8h (p:Int→Bool) (e: ∀c:Int,128≤c→p c=false) (a:List UInt8): ∀(n i:Nat),a.length-i≤n→Kx p ⟨a.toArray⟩ n i=(a.drop i).all (fun b=>p b.toNat):=by
 intro n
 induction n with
 | zero=>intro i h;rw[List.drop_eq_nil_of_le (by omega)];rfl
 | succ n g=>
  intro i h
  simp only[Kx,G9]
  split
  ·rename_i d
   rw[List.drop_eq_getElem_cons d,List.all_cons]
   by_cases f:a[i].toNat<128
   ·rw[Q8v (by rw[Q3A d];exact f),Q3A d]
    simp only
    rw[g (i+1) (by omega)]
   ·have j:=Q6s (s:=⟨a.toArray⟩) (i:=i) (by rw[Q3A d];exact f)
    rw[e _ (by omega),e _ (by omega)];rfl
  ·rename_i d;rw[List.drop_eq_nil_of_le (by omega)];rfl
theorem U6 {α:Type} {A:(α→World→Prop)→World→Prop} {B:α→(Nat→Value)→World→Prop} (h:A (fun x w=> ∀d,B x d w) w):jn w A B:=Up _ h (fun _ d _ c=>c d)
theorem X4 {d:World→World→Prop} {A c:(Value→World→Prop)→Prop} (V:Value) (h:A (fun v _=>v=V)) (e:c (fun v _=>v=V)):Q6 d A c:=
 E7 _ (fun _ _ _ h _=>h) h e
theorem De {w w0:World} {A:(World→World→Prop)→(World→Prop)→Prop} (e:Below w0.heap.size w0 w)
 (h:A (fun w w'=>Below w.heap.size w w') (fun w'=>Below w0.heap.size w0 w')):dr w A:=
 Im _ _ e.drew (fun _ _ c d=>c.trans (d.mono c.size)) h
theorem Q3e {w w':World} {v V:Value} (c:Below w.heap.size w w') (h:v=V):dk (fun w w'=>Below w.heap.size w w') (fun v _=>v=V) w v w':=⟨c,h⟩
theorem X6 {w:World} {v V:Value} (h:v=V):dk (fun w w'=>Below w.heap.size w w') (fun v _=>v=V) w v w:=⟨Below.refl _ _,h⟩
theorem Q6t {n:Nat} {fn:Func} {e:Array Value→Sem Value} {xs:List Value} {v:Value} (i:P.funcs[n]? =some fn) (l:(fn.name== "runtime.NumGoroutine")=false) (m:fn.body.isNone=true)
 (j:(Extern.findNext fn).isNone=true) (o:Extern.find fn=some e) (g:(e xs.toArray).run P w= .ok v w) (h:K v w):Q1 P n xs w K:=by
 have c:Extern.findNext fn=none:=by simpa using j
 have d: ¬fn.name= "runtime.NumGoroutine":=by simpa using l
 have f:fn.body=none:=by simpa using m
 unfold Q1
 rw[T9]
 unfold P5 callFunc
 simp[i,d,f,c,o,g,h]
theorem Q3d {α:Type} (p:α→Bool) (c:Nat→Bool): ∀(l:List α),(∀i (h:i<l.length),c i=p l[i])→(List.range l.length).find? c=l.findIdx? p
 | [],_=>rfl
 | x::l,h=>by
  rw[List.length_cons,List.range_succ_eq_map,List.find?_cons,List.findIdx?_cons]
  have e:c 0=p x:=h 0 (by simp)
  rw[e]
  cases p x
  ·simp only[Bool.false_eq_true,if_false]
   rw[List.find?_map]
   have:=Q3d p (c ∘ Nat.succ) l (fun i d=>h (i+1) (by simpa using d))
   rw[this]
  ·rfl
def Mr:=And.intro @M4 <| And.intro @W8 <| And.intro @O7 <| And.intro @Fw <| And.intro @Q1x <| And.intro @Q7q <| And.intro @Q3Q <| And.intro @Q3E <| And.intro @Ra <| And.intro @Q1a <| And.intro @Q1o <| And.intro @Q3o <| And.intro @Q3s <| And.intro @Bk <| And.intro @Bh <| And.intro @X2J <| And.intro @X2m <| And.intro @X10 <| And.intro @X0O <| And.intro @X0K <| And.intro @X0Y <| And.intro @Q9R <| And.intro @X1N <| And.intro @W2 <| And.intro @W6 <| And.intro @R6 <| And.intro @E0 <| And.intro @X0f <| And.intro @H4 <| @M5
def Mp:=And.intro @M4 <| And.intro @W8 <| And.intro @O7 <| And.intro @Fw <| And.intro @Q1x <| And.intro @Q7q <| And.intro @Q3Q <| And.intro @Q3E <| And.intro @Ra <| And.intro @Q1a <| And.intro @Q1o <| And.intro @Q3o <| And.intro @Q3s <| And.intro @Bk <| And.intro @Bh <| And.intro @X2J <| And.intro @X2m <| And.intro @X10 <| And.intro @X0O <| And.intro @X0K <| And.intro @X0Y <| And.intro @W2 <| And.intro @W6 <| And.intro @R6 <| And.intro @E0 <| And.intro @H4 <| @M5
def Mb:=And.intro @Bool.true_eq_false <| And.intro @Bool.false_eq_true <| And.intro @Bool.not_true <| And.intro @Bool.not_false <| And.intro @Bool.and_true <| And.intro @Bool.true_and <| And.intro @Bool.and_false <| And.intro @Bool.false_and <| And.intro @Bool.or_true <| And.intro @Bool.true_or <| And.intro @Bool.or_false <| @Bool.false_or
end Go.Emb

namespace Go.Kd
abbrev X0:=List UInt8
def Xa (c:Int):Bool:=decide (65≤c)&&decide (c≤90)
def A4 (c:Int):Bool:=decide (97≤c)&&decide (c≤122)
def F5 (c:Int):Bool:=decide (48≤c)&&decide (c≤57)
def S2 (c:Int):Bool:=Xa c||A4 c||F5 c
def name (s:X0):Bool:=match s with
 | []=>false
 | c::_=>decide (s.length≤32)&& !F5 c.toNat&&s.all (fun b=>S2 b.toNat)
def M6 (s:X0):Bool:=match s with
 | []=>false
 | c::_=>name s&&Xa c.toNat
def D1 (s:X0):Bool:=match s with
 | []=>false
 | c::_=>name s&&A4 c.toNat
def plain (s:X0):Bool:=decide (s=[105,110,116])||decide (s=[98,111,111,108])||decide (s=[116,101,120,116])
def arr (s:X0):Bool:=decide (2≤s.length)&&decide (s.drop (s.length-2)=[91,93])
def cutA (s:X0):X0:=s.take (s.length-2)
def Yl:Nat→X0→X0×Nat
 | 0,s=>(s,0)
 | n+1,s=>if arr s then ((Yl n (cutA s)).1,(Yl n (cutA s)).2+1) else (s,0)
def base (s:X0):X0×Nat:=Yl s.length s
def right (s:X0):Bool:=decide ((base s).2≤3)&&(plain (base s).1||M6 (base s).1)
def elem (s:X0):X0:=if arr s&&right s then cutA s else []
def Xf (s:X0):Nat:=if right s then (base s).2 else 0
def Qv (s:X0):X0×X0×Bool:=match s with
 | []=>([],[],false)
 | c::r=>if c=46 then ([],r,true) else ((c::(Qv r).1),(Qv r).2.1,(Qv r).2.2)
def Zh (s:X0):Bool:=(Qv s).2.2&&M6 (Qv s).1&&D1 (Qv s).2.1
def Q1j (c:UInt8) (s:X0):Int:=match s.findIdx? (fun b=>decide (b=c)) with
 | some i=>i
 | none=> -1
def Q35 (s:X0) (o:Option Nat):X0×X0×Bool:=match o with
 | some i=>(s.take i,s.drop (i+1),true)
 | none=>(s,[],false)
theorem Kh (s:X0):Qv s=Q35 s (s.findIdx? (fun b=>decide (b=46))):=by
 induction s with
 | nil=>rfl
 | cons c r a=>
  rw[List.findIdx?_cons]
  simp only[Qv]
  by_cases h:c=46
  ·simp[h,Q35]
  ·simp only[h,if_false,decide_false,Bool.false_eq_true]
   rw[a]
   cases r.findIdx? (fun b=>decide (b=46)) with
   | none=>simp[Q35]
   | some i=>simp[Q35]
end Go.Kd

namespace Go.Proofs.YtjdiakhipmggjaaGreatDoor
open Go.Emb Go.RowKit Go.Kd
variable {w : World} {K : Value → World → Prop}
theorem X8:P.underlying T.c=some .string:=by kernel_rfl
theorem Ks:P.underlying T.e=some (.int .i64):=by kernel_rfl
theorem Q2N:P.underlying T.u=some .bool:=by kernel_rfl
theorem Q3L:P.underlying T.a3=some (.int .u8):=by kernel_rfl
theorem Q6V:P.underlying T.an=some (.int .i32):=by kernel_rfl
theorem Q7h (c:Int) (h:K (.bool (Xa c)) w):Q1 P F.ci [.int .i32 c] w K:=Q5s (by
 unfold Q0C
 (try simp only[↓Mr,Mr,Mb,reduceIte])
 cases a:decide (65≤c)<;>simp only[a,↓Mr,Mr,Mb,reduceIte]<;>simpa [Xa,a] using h)
theorem Q6Y (c:Int) (h:K (.bool (A4 c)) w):Q1 P F.cj [.int .i32 c] w K:=Q5B (by
 unfold Q06
 (try simp only[↓Mr,Mr,Mb,reduceIte])
 cases a:decide (97≤c)<;>simp only[a,↓Mr,Mr,Mb,reduceIte]<;>simpa [A4,a] using h)
theorem X1b (c:Int) (h:K (.bool (S2 c)) w):Q1 P F.ca [.int .i32 c] w K:=Q4y (by
 unfold Py
 refine Q7h c ?_
 cases a:Xa c
 ·(try simp only[↓Mr,Mr,Mb,reduceIte])
  refine Q6Y c ?_
  cases b:A4 c
  ·(try simp only[↓Mr,Mr,Mb,reduceIte])
   cases d:decide (48≤c)
   ·(try simp only[↓Mr,Mr,Mb,reduceIte])
    simpa [S2,F5,a,b,d] using h
   ·(try simp only[↓Mr,Mr,Mb,reduceIte])
    simpa [S2,F5,a,b,d] using h
  ·(try simp only[↓Mr,Mr,Mb,reduceIte])
   simpa [S2,a,b] using h
 ·(try simp only[↓Mr,Mr,Mb,reduceIte])
  simpa [S2,a] using h)
theorem X36 (a:List UInt8) (f:Value) (p:Int→Bool) (l: ∀(c:Int) (w:World) (K:Value→World→Prop),K (.bool (p c)) w→Z3 P f [.int .i32 c] w K)
 (h: ∀w',Below w.heap.size w w'→K (.bool (Kx p ⟨a.toArray⟩ a.length 0)) w'):Q1 P F.cB [S a,f] w K:=Q7J (by
 unfold Q2U
 rw[X1Y X8]
 refine Vv (fun _ w'=> ∃pos n:Nat,a.length-pos≤n∧Kx p ⟨a.toArray⟩ a.length 0=Kx p ⟨a.toArray⟩ n pos∧Below w.heap.size w w'∧w'.heap[w.heap.size]? =some (.stringIter ⟨a.toArray⟩ pos))
  (fun _ w'=>match w'.heap[w.heap.size]? with | some (.stringIter _ pos)=>a.length-pos | _=>0) ⟨0,a.length,by omega,rfl,(Below.refl _ _).alloc (Nat.le_refl _) _,heap_alloc_new w _⟩ ?_
 rintro _ _ w1 ⟨pos,n,r,b,j,e⟩
 by_cases g:pos<a.length
 ·rw[X1H e (by rw[G9];exact g)]
  (try simp only[↓Mr,Mr,Mb,reduceIte])
  refine l _ _ _ ?_
  obtain ⟨n,rfl⟩: ∃m,n=m+1:=⟨n-1,by omega⟩
  simp only[Kx,G9,g,if_true] at b
  have q:=Q65 (s:=⟨a.toArray⟩) (i:=pos)
  have d:w.heap.size<w1.heap.size:=(Array.getElem?_eq_some_iff.1 e).1
  cases k:p (Utf8.decode ⟨a.toArray⟩ pos).1
  ·(try simp only[↓Mr,Mr,Mb,reduceIte])
   rw[k] at b
   have:=h _ (Q49 (o:= .stringIter ⟨a.toArray⟩ (pos+(Utf8.decode ⟨a.toArray⟩ pos).2)) j (Nat.le_refl _))
   rw[b] at this
   exact this
  ·(try simp only[↓Mr,Mr,Mb,reduceIte])
   rw[k] at b
   refine ⟨⟨_,n,?_,b,Q49 j (Nat.le_refl _),Q7s d⟩,?_⟩
   ·omega
   ·simp only[Q7s d,e];omega
 ·rw[Q6F e (by rw[G9];exact g)]
  (try simp only[↓Mr,Mr,Mb,reduceIte])
  have:Kx p ⟨a.toArray⟩ n pos=true:=by
   cases n with
   | zero=>rfl
   | succ n=>simp only[Kx,G9,g,if_false]
  rw[←this,←b]
  exact h _ j)
theorem Q7F (c:Int) (h:128≤c):S2 c=false:=by
 simp[S2,Xa,A4,F5];omega
theorem Q5W (a:List UInt8) (n:a.length≤140737488355328) (h: ∀w',Below w.heap.size w w'→K (.bool (name a)) w'):Q1 P F.c4 [S a] w K:=Q69 (by
 unfold Q1X
 have e: ∀c r,a=c::r→(decide (a.length≤32)&& !F5 c.toNat)=true→Q1 P F.cB [S a,(.func (.func F.ca) #[] #[])] w K:=by
  intro c r l b
  refine X36 a _ S2 (fun c w K h=>Z6 (first:=[]) (caps:=[]) (X1b c h)) fun w' m=>?_
  rw[Q8h _ Q7F a _ _ (by omega)]
  have:=h w' m
  rw[l] at this b⊢
  simp only[name] at this
  rw[b,Bool.true_and] at this
  simpa using this
 cases a with
 | nil=>
  simp only[↓Mr,Mr,Mb,reduceIte,decide_true]
  exact h w (Below.refl _ _)
 | cons c r=>
  have g:decide (c::r=[])=false:=by simp
  simp only[↓Mr,Mr,Mb,reduceIte,g,R1 X8]
  by_cases k:(c::r).length≤32
  ·have d:r.length≤31:=by simpa using k
   have b:decide ((32:Int)<((c::r).length:Int))=false:=by simp only[decide_eq_false_iff_not];omega
   simp only[↓Mr,Mr,Mb,reduceIte,b]
   rw[Xm X8 (by omega) (by simp)]
   (try simp only[↓Mr,Mr,Mb,reduceIte])
   have j:(c::r)[(0:Int).toNat]'(by simp)=c:=rfl
   simp only[j]
   cases f:decide ((48:Int)≤(c.toNat:Int))
   ·(try simp only[↓Mr,Mr,Mb,reduceIte])
    exact e c r rfl (by simp[F5,d,f])
   ·(try simp only[↓Mr,Mr,Mb,reduceIte])
    rw[Xm X8 (by omega) (by simp)]
    simp only[↓Mr,Mr,Mb,reduceIte,j]
    cases i:decide ((c.toNat:Int)≤57)
    ·(try simp only[↓Mr,Mr,Mb,reduceIte])
     exact e c r rfl (by simp only[F5,f,i];simp[d])
    ·(try simp only[↓Mr,Mr,Mb,reduceIte])
     have:name (c::r)=false:=by simp only[name,F5,f,i];simp
     rw[←this];exact h w (Below.refl _ _)
  ·have b:decide ((32:Int)<((c::r).length:Int))=true:=by simp only[decide_eq_true_eq];omega
   simp only[↓Mr,Mr,Mb,reduceIte,b]
   have:name (c::r)=false:=by simp only[name];rw[decide_eq_false k];rfl
   rw[←this];exact h w (Below.refl _ _))
theorem Hz (a:List UInt8) (f:a.length≤140737488355328) (h: ∀w',Below w.heap.size w w'→K (.bool (M6 a)) w'):Q1 P F.ai [S a] w K:=Q57 (by
 unfold Q0R
 refine Q5W a f fun w1 b=>?_
 cases a with
 | nil=>
  simp only[name,↓Mr,Mr,Mb,reduceIte]
  exact h w1 b
 | cons c r=>
  cases d:name (c::r)
  ·(try simp only[↓Mr,Mr,Mb,reduceIte])
   have:=h w1 b
   simp only[M6,d] at this
   simpa using this
  ·(try simp only[↓Mr,Mr,Mb,reduceIte])
   rw[Xm X8 (by omega) (by simp)]
   have e:(c::r)[(0:Int).toNat]'(by simp)=c:=rfl
   simp only[e]
   rw[Rn Q3L Q6V,w32 (by omega) (by have:=c.toNat_lt;omega)]
   refine Q7h _ ?_
   (try simp only[↓Mr,Mr,Mb,reduceIte])
   have:=h w1 b
   simp only[M6,d] at this
   simpa using this)
theorem Rb (a:List UInt8) (h:K (.bool (plain a)) w):Q1 P F.aL [S a] w K:=Q55 (by
 unfold Q0G
 (try simp only[↓Mr,Mr,Mb,reduceIte])
 cases b:decide (a=[105,110,116])<;>(try simp only[↓Mr,Mr,Mb,reduceIte])
 ·cases c:decide (a=[98,111,111,108])<;>(try simp only[↓Mr,Mr,Mb,reduceIte])<;>simpa [plain,b,c] using h
 ·simpa [plain,b] using h)
def Uc (a b:List UInt8):Bool:=decide (b.length≤a.length)&&decide (a.drop (a.length-b.length)=b)
theorem Dg (a b:List UInt8) (e:a.length≤140737488355328) (f:b.length≤140737488355328) (h:K (.bool (Uc a b)) w):Q1 P F.ab [S a,S b] w K:=Ce (by
 unfold Uw
 rw[R1 X8,R1 X8]
 (try simp only[↓Mr,Mr,Mb,reduceIte])
 by_cases d:b.length≤a.length
 ·have c:decide ((b.length:Int)≤a.length)=true:=by simp only[decide_eq_true_eq];omega
  simp only[↓Mr,Mr,Mb,reduceIte,c,R1 X8]
  rw[S7 (by omega) (by omega),Un X8 (by omega) (by omega)]
  (try simp only[↓Mr,Mr,Mb,reduceIte])
  rw[show ((a.length:Int)-b.length).toNat=a.length-b.length from by omega]
  simpa [Uc,d] using h
 ·have c:decide ((b.length:Int)≤a.length)=false:=by simp only[decide_eq_false_iff_not];omega
  simp only[↓Mr,Mr,Mb,reduceIte,c]
  simpa [Uc,d] using h)
theorem Q6C (a b:List UInt8) (c:a.length≤140737488355328) (d:b.length≤140737488355328) (h:K (.bool (Uc a b)) w):Q1 P F.bK [S a,S b] w K:=Ak (by
 unfold Oj
 exact Dg a b c d h)
def Dl (a b:List UInt8):List UInt8:=if Uc a b then a.take (a.length-b.length) else a
theorem Q45 {a b:List UInt8} (h:Uc a b=true):b.length≤a.length:=by
 simp only[Uc,Bool.and_eq_true,decide_eq_true_eq] at h;exact h.1
theorem Q5l (a b:List UInt8) (d:a.length≤140737488355328) (e:b.length≤140737488355328) (h:K (S (Dl a b)) w):Q1 P F.bt [S a,S b] w K:=Gs (by
 unfold Mv
 refine Rd ?_
 unfold Jr
 refine Dg a b d e ?_
 cases c:Uc a b
 ·(try simp only[↓Mr,Mr,Mb,reduceIte])
  simpa [Dl,c] using h
 ·have f:=Q45 c
  simp only[↓Mr,Mr,Mb,reduceIte,R1 X8]
  rw[S7 (by omega) (by omega),P8 X8 (by omega) (by omega)]
  rw[show ((a.length:Int)-b.length).toNat=a.length-b.length from by omega]
  simpa [Dl,c] using h)
theorem Q6c (a b:List UInt8) (d:a.length≤140737488355328) (e:b.length≤140737488355328) (h:K (.tuple #[S (Dl a b), .bool (Uc a b)]) w):Q1 P F.bI [S a,S b] w K:=Ar (by
 unfold Nz
 refine Cj ?_
 unfold Uy
 refine Dg a b d e ?_
 cases c:Uc a b
 ·(try simp only[↓Mr,Mr,Mb,reduceIte])
  simpa [Dl,c] using h
 ·have f:=Q45 c
  simp only[↓Mr,Mr,Mb,reduceIte,R1 X8]
  rw[S7 (by omega) (by omega),P8 X8 (by omega) (by omega)]
  rw[show ((a.length:Int)-b.length).toNat=a.length-b.length from by omega]
  (try simp only[↓Mr,Mr,Mb,reduceIte])
  simpa [Dl,c] using h)
theorem Q33 (a:List UInt8):Uc a [91,93]=arr a:=rfl
theorem Q1S (a:List UInt8):Dl a [91,93]=if arr a then Kd.cutA a else a:=rfl
theorem I4 {a:List UInt8} (h:arr a=true):(Kd.cutA a).length+2=a.length:=by
 simp only[arr,Bool.and_eq_true,decide_eq_true_eq] at h
 simp only[Kd.cutA,List.length_take];omega
theorem Q2R: ∀(n m:Nat) (a:List UInt8),a.length≤n→a.length≤m→Yl n a=Yl m a
 | 0,0,a,_,_=>rfl
 | 0,m+1,a,h,_=>by
  have:a=[]:=List.eq_nil_of_length_eq_zero (by omega)
  subst this;rfl
 | n+1,0,a,_,h=>by
  have:a=[]:=List.eq_nil_of_length_eq_zero (by omega)
  subst this;rfl
 | n+1,m+1,a,b,c=>by
  simp only[Yl]
  split
  ·rename_i h
   have:=I4 h
   rw[Q2R n m (Kd.cutA a) (by omega) (by omega)]
  ·rfl
theorem Xo (a:List UInt8):base a=if arr a then ((base (Kd.cutA a)).1,(base (Kd.cutA a)).2+1) else (a,0):=by
 unfold base
 cases b:a.length with
 | zero=>
  have:a=[]:=List.eq_nil_of_length_eq_zero b
  subst this;rfl
 | succ n=>
  simp only[Yl]
  split
  ·rename_i h
   have:=I4 h
   rw[Q2R n (Kd.cutA a).length (Kd.cutA a) (by omega) (Nat.le_refl _)]
  ·rfl
theorem Q1n (a:List UInt8):(base a).1.length+2*(base a).2=a.length:=by
 have key: ∀n (a:List UInt8),(Yl n a).1.length+2*(Yl n a).2=a.length:=by
  intro n
  induction n with
  | zero=>intro a;simp[Yl]
  | succ n b=>
   intro a
   simp only[Yl]
   split
   ·rename_i h
    have:=I4 h
    have:=b (Kd.cutA a)
    simp only;omega
   ·simp
 exact key _ a
theorem Q8X (a:List UInt8) (e:a.length≤140737488355328) (h:K (.tuple #[S (base a).1,I (base a).2]) w):Q1 P F.cv [S a] w K:=Q6d (by
 unfold Q2a
 refine Vv (fun x w'=>w'=w∧ ∃(b:List UInt8) (n:Nat),x=(S b,I n)∧b.length+2*n=a.length∧base a=((base b).1,(base b).2+n)) (fun x _=>match x.1 with | .string s=>s.size | _=>0)
  ⟨rfl,a,0,rfl,by omega,rfl⟩ ?_
 rintro _ _ _ ⟨rfl,b,n,rfl,g,c⟩
 refine Q6C b _ (by omega) (by simp) ?_
 rw[Q33]
 cases d:arr b
 ·(try simp only[↓Mr,Mr,Mb,reduceIte])
  rw[Xo b,d] at c
  simp only[Bool.false_eq_true,if_false,Nat.zero_add] at c
  rw[c] at h;exact h
 ·(try simp only[↓Mr,Mr,Mb,reduceIte])
  refine Q5l b _ (by omega) (by simp) ?_
  rw[Q1S,d]
  simp only[↓Mr,Mr,Mb,reduceIte,if_true]
  have f:=I4 d
  rw[S7 (by omega) (by omega)]
  refine ⟨⟨by first | rfl | trivial,Kd.cutA b,n+1,by simp,by omega,?_⟩,?_⟩
  ·rw[c,Xo b,d];simp;omega
  ·simp only[G9];omega)
theorem Ze (a:List UInt8) (e:a.length≤140737488355328) (h: ∀w',Below w.heap.size w w'→K (.bool (right a)) w'):Q1 P F.a0 [S a] w K:=Q5G (by
 unfold Q0u
 have g:=Q1n a
 refine Q8X a e ?_
 (try simp only[↓Mr,Mr,Mb,reduceIte])
 by_cases b:(base a).2≤3
 ·have c:decide (((base a).2:Int)≤3)=true:=by simp only[decide_eq_true_eq];omega
  simp only[↓Mr,Mr,Mb,reduceIte,c]
  refine Rb _ ?_
  cases d:plain (base a).1
  ·(try simp only[↓Mr,Mr,Mb,reduceIte])
   refine Hz _ (by omega) fun w1 f=>?_
   (try simp only[↓Mr,Mr,Mb,reduceIte])
   have:=h w1 f
   simp only[right,b,d] at this
   simpa using this
  ·(try simp only[↓Mr,Mr,Mb,reduceIte])
   have:=h w (Below.refl _ _)
   simp only[right,b,d] at this
   simpa using this
 ·have c:decide (((base a).2:Int)≤3)=false:=by simp only[decide_eq_false_iff_not];omega
  simp only[↓Mr,Mr,Mb,reduceIte,c]
  have:=h w (Below.refl _ _)
  simp only[right,b] at this
  simpa using this)
theorem Q5g (a:List UInt8) (c:a.length≤140737488355328) (h: ∀w',Below w.heap.size w w'→K (S (elem a)) w'):Q1 P F.c3 [S a] w K:=Q6h (by
 unfold Q2c
 refine Q6c a _ c (by simp) ?_
 rw[Q33,Q1S]
 (try simp only[↓Mr,Mr,Mb,reduceIte])
 cases b:arr a
 ·(try simp only[↓Mr,Mr,Mb,reduceIte])
  have:=h w (Below.refl _ _)
  simp only[elem,b] at this
  exact this
 ·(try simp only[↓Mr,Mr,Mb,reduceIte])
  refine Ze a c fun w1 e=>?_
  have:=h w1 e
  cases d:right a
  ·(try simp only[↓Mr,Mr,Mb,reduceIte])
   simp only[elem,b,d] at this
   exact this
  ·simp only[↓Mr,Mr,Mb,reduceIte,if_true]
   simp only[elem,b,d] at this
   exact this)
theorem Q9F (a:List UInt8) (b:a.length≤140737488355328) (h: ∀w',Below w.heap.size w w'→K (I (Xf a)) w'):Q1 P F.cu [S a] w K:=Q6j (by
 unfold Q1W
 refine Q8X a b ?_
 (try simp only[↓Mr,Mr,Mb,reduceIte])
 refine Ze a b fun w1 c=>?_
 have:=h w1 c
 cases d:right a<;>(try simp only[↓Mr,Mr,Mb,reduceIte])<;>simpa [Xf,d] using this)
theorem X3K (a:List UInt8) (i:a.length≤140737488355320) (h: ∀w',Below w.heap.size w w'→K (if right a&&decide (Xf a≠3) then .tuple #[S (a++[91,93]),I 0] else .tuple #[S [],I 30]) w'):Q1 P F.cQ [S a] w K:=Q98 (by
 unfold Q42
 refine Ze a (by omega) fun w1 d=>?_
 cases e:right a
 ·(try simp only[↓Mr,Mr,Mb,reduceIte])
  have:=h w1 d
  simp only[e] at this
  simpa using this
 ·(try simp only[↓Mr,Mr,Mb,reduceIte])
  refine Q9F a (by omega) fun g b=>?_
  have:=h g (d.trans (b.mono d.size))
  by_cases f:Xf a=3
  ·have c:decide ((Xf a:Int)=3)=true:=by simp only[decide_eq_true_eq];omega
   simp only[↓Mr,Mr,Mb,reduceIte,c]
   simp only[e,f] at this
   simpa using this
  ·have c:decide ((Xf a:Int)=3)=false:=by simp only[decide_eq_false_iff_not];omega
   simp only[↓Mr,Mr,Mb,reduceIte,c]
   rw[Q20 (by simp;omega)]
   simp only[e] at this
   simpa [f] using this)
end Go.Proofs.YtjdiakhipmggjaaGreatDoor

namespace Go.Proofs.YtjdiakhipmggjaaGreatDoor
open Go.Emb Go.RowKit Go.Kd
variable {w : World} {K : Value → World → Prop}
theorem Q1G (a:List UInt8) (c:UInt8) (h:K (I (Q1j c a)) w):Q1 P F.bZ [S a, .int .u8 c.toNat] w K:=by
 refine Q6t (e:=Extern.BytealgIndexByte.indexByte) Tryz.func231 (by decide) rfl (by kernel_rfl) (by kernel_rfl) ?_ h
 have g:((List.range (ByteArray.mk a.toArray).size).find? fun i=>(ByteArray.mk a.toArray)[i]! ==c)=a.findIdx? (fun b=>decide (b=c)):=by
  rw[G9]
  refine Q3d _ _ a fun i d=>?_
  have:(ByteArray.mk a.toArray)[i]! =a[i]:=by
   rw[getElem!_pos _ _ (by rw[G9];exact d)];rfl
  rw[this,Bool.eq_iff_iff];simp
 have f:((c.toNat:Int).toNat.toUInt8)=c:=by simp
 have:=run_indexByte_string (P:=P) ⟨a.toArray⟩ c.toNat w
 rw[f] at this
 refine this.trans ?_
 unfold firstIdx Q1j
 rw[g]
 cases a.findIdx? (fun b=>decide (b=c))<;>rfl
theorem X0d (a:List UInt8) (c:UInt8) (h:K (I (Q1j c a)) w):Q1 P F.bL [S a,S [c]] w K:=Aj (by
 unfold Oa
 simp only[R1 X8]
 have j:decide ((([c]:List UInt8).length:Int)=0)=false:=rfl
 have f:decide ((([c]:List UInt8).length:Int)=1)=true:=rfl
 simp only[Q1o,j,f]
 simp only[↓Mr,Mr,Mb,reduceIte]
 have b:S6 P T.c (S [c]) (I 0) w fun e w=>Q1 P F.au [S a,e] w fun d w=>K d w:=by
  rw[Xm X8 (by omega) (by simp)]
  refine Ci ?_
  unfold Uv
  exact Q1G a c h
 cases i:decide ([c]=a)
 ·(try simp only[↓Mr,Mr,Mb,reduceIte])
  exact b
 ·(try simp only[↓Mr,Mr,Mb,reduceIte])
  have g:[c]=a:=by simpa using i
  have:Q1j c a=0:=by rw[←g];simp[Q1j,List.findIdx?_cons]
  rw[this] at h;exact h)
theorem Q9W {c:UInt8} {a:List UInt8} {i:Nat} (h:a.findIdx? (fun b=>decide (b=c))=some i):i<a.length:=by
 have:=List.findIdx?_eq_some_iff_getElem.1 h
 exact this.1
theorem X3e (a:List UInt8) (g:a.length≤140737488355328) (h: ∀w',Below w.heap.size w w'→K (.tuple #[S (Qv a).1,S (Qv a).2.1, .bool (Qv a).2.2]) w'):Q1 P F.cz [S a,S [46]] w K:=Q4D (by
 unfold Pt
 refine Q1L ?_
 unfold Hg
 refine X0d a 46 ?_
 rw[Kh] at h
 unfold Q1j
 cases c:a.findIdx? (fun b=>decide (b=46)) with
 | none=>
  simp only[↓Mr,Mr,Mb,reduceIte,show decide ((0:Int)≤ -1)=false from rfl]
  have:=h w (Below.refl _ _)
  rw[c] at this;exact this
 | some i=>
  have f:=Q9W c
  have d:decide ((0:Int)≤(i:Int))=true:=by simp
  simp only[Q1a,d]
  simp only[↓Mr,Mr,Mb,reduceIte]
  refine De (Below.refl _ w) ?_
  refine X4 (S (a.take i)) (fun w1 _=>?_) ?_
  ·rw[P8 X8 (by omega) (by omega)];exact X6 (by simp)
  refine X4 (I 1) (fun w1 _=>?_) ?_
  ·rw[R1 X8];exact X6 rfl
  refine X4 (I (i+1)) ?_ ?_
  ·rintro _ w1 _ rfl
   rw[Fw,S7 (by omega) (by omega)];exact X6 rfl
  refine X4 (S (a.drop (i+1))) ?_ ?_
  ·rintro _ w1 _ rfl
   rw[Un X8 (by omega) (by omega)];exact X6 (by simp)
  rintro _ _ _ _ w1 e rfl rfl rfl rfl
  (try simp only[↓Mr,Mr,Mb,reduceIte])
  have:=h w1 e
  rw[c] at this;exact this)
theorem X1z (a:List UInt8) (t:a.length≤140737488355328) (h: ∀w',Below w.heap.size w w'→K (if Zh a then .tuple #[S (Qv a).1,S (Qv a).2.1,I 0] else .tuple #[S [],S [],I 30]) w'):Q1 P F.cG [S a] w K:=Q5p (by
 unfold Q0y
 refine X3e a t fun w1 e=>?_
 have s:(Qv a).1.length≤a.length∧(Qv a).2.1.length≤a.length:=by
  rw[Kh]
  cases a.findIdx? (fun b=>decide (b=46))<;>simp[Q35]
  omega
 generalize A:(Qv a).1=p at h s
 generalize z:(Qv a).2.1=q at h s
 have i:Zh a=((Qv a).2.2&&M6 p&&D1 q):=by rw[Zh,A,z]
 cases g:(Qv a).2.2
 ·simp only[↓Mr,Mr,Mb,reduceIte]
  have:=h w1 e
  rw[i,g] at this;simpa using this
 ·simp only[↓Mr,Mr,Mb,reduceIte]
  refine Hz p (by omega) fun u m=>?_
  have d:=e.trans (m.mono e.size)
  cases o:M6 p
  ·(try simp only[↓Mr,Mr,Mb,reduceIte])
   have:=h u d
   rw[i,g,o] at this;simpa using this
  ·(try simp only[↓Mr,Mr,Mb,reduceIte])
   refine Q5W q (by omega) fun y j=>?_
   have f:=d.trans (j.mono d.size)
   have:=h y f
   rw[i,g,o] at this
   cases l:name q
   ·(try simp only[↓Mr,Mr,Mb,reduceIte])
    have n:D1 q=false:=by cases q with | nil=>rfl | cons c r=>simp[D1,l]
    rw[n] at this;simpa using this
   ·(try simp only[↓Mr,Mr,Mb,reduceIte])
    cases q with
    | nil=>simp[name] at l
    | cons c r=>
     rw[Xm X8 (by omega) (by simp)]
     have k:(c::r)[(0:Int).toNat]'(by simp)=c:=rfl
     (try simp only[↓Mr,Mr,Mb,reduceIte])
     rw[k,Rn Q3L Q6V,w32 (by omega) (by have:=c.toNat_lt;omega)]
     refine Q6Y _ ?_
     have n:D1 (c::r)=A4 c.toNat:=by simp[D1,l]
     rw[n] at this
     cases v:A4 c.toNat<;>(try simp only[↓Mr,Mr,Mb,reduceIte])<;>rw[v] at this<;>simpa using this)
theorem Eu (a:List UInt8) (h:K (.bool (plain a)) w):Q1 P F.y [S a] w K:=Pj (by
 unfold Mc
 refine U6 ?_
 (try simp only[↓Mr,Mr,Mb,reduceIte])
 cases b:decide (a=[105,110,116])
 ·cases c:decide (a=[98,111,111,108])
  ·cases d:decide (a=[116,101,120,116])<;>(try simp only[↓Mr,Mr,Mb,reduceIte])<;>intro _<;>(try simp only[↓Mr,Mr,Mb,reduceIte])<;>simpa [plain,b,c,d] using h
  ·(try simp only[↓Mr,Mr,Mb,reduceIte])
   intro _
   (try simp only[↓Mr,Mr,Mb,reduceIte])
   simpa [plain,b,c] using h
 ·(try simp only[↓Mr,Mr,Mb,reduceIte])
  intro _
  (try simp only[↓Mr,Mr,Mb,reduceIte])
  simpa [plain,b] using h)
def X0H (a:List UInt8) (w:World) (x:Value) (w':World):Prop:=
 w=w'∧ ∃i:Nat,x=I i∧i≤a.length∧(0<i→(a.head?.map fun c=>F5 c.toNat)=some false)∧(a.take i).all (fun b=>S2 b.toNat)=true
def Q4J (a:List UInt8) (x:Value):Nat:=match x with | .int _ i=>a.length-i.toNat | _=>0
theorem Q61 (a:List UInt8) (O:a.length≤140737488355328) (h:K (.bool (name a)) w):Q1 P F.aV [S a] w K:=Au (by
 unfold Ol
 refine Vv (X0H a w) (fun x _=>Q4J a x) ⟨rfl,0,rfl,by omega,by omega,by simp⟩ ?_
 rintro _ _ _ ⟨rfl,i,rfl,Q,M,j⟩
 rw[R1 X8]
 (try simp only[↓Mr,Mr,Mb,reduceIte])
 by_cases m:i<a.length
 ·have C:decide ((i:Int)<a.length)=true:=by simp only[decide_eq_true_eq];omega
  simp only[C,↓Mr,Mr,Mb,reduceIte]
  have d: ∀B:Value→World→Prop,S6 P T.c (S a) (I i) w B=B (.int .u8 (a[i]'m).toNat) w:=fun B=>by
   rw[Xm X8 (by omega) (by simpa using m)];simp
  generalize q:a[i]=c at d
  have e:S2 c.toNat=false∨(i=0∧F5 c.toNat=true)→name a=false:=by
   intro y
   cases a with
   | nil=>rfl
   | cons L r=>
    simp only[name]
    rcases y with y | ⟨rfl,y⟩
    ·have:(L::r).all (fun b=>S2 b.toNat)=false:=by
      rw[List.all_eq_false]
      exact ⟨c,by rw[←q];exact List.getElem_mem _,by simp[y]⟩
     rw[this];simp
    ·simp only[List.getElem_cons_zero] at q
     rw[q,y];simp
  have f:S2 c.toNat=true→(i=0→F5 c.toNat=false)→X0H a w (I (IntKind.i64.wrap ((i:Int)+1))) w∧Q4J a (I (IntKind.i64.wrap ((i:Int)+1)))<Q4J a (I i):=by
   intro E D
   rw[S7 (by omega) (by omega)]
   refine ⟨⟨rfl,i+1,by simp,by omega,fun _=>?_,?_⟩,by simp only[Q4J];omega⟩
   ·by_cases p:0<i
    ·exact M p
    ·obtain rfl:i=0:=by omega
     cases a with
     | nil=>simp at m
     | cons L r=>simp only[List.getElem_cons_zero] at q;subst q;simp[D rfl]
   ·rw[List.take_add_one,List.getElem?_eq_getElem m,q]
    simp[j,E]
  have H:=c.toNat_lt
  have t:decide ((i:Int)=0)=decide (i=0):=by rw[Bool.eq_iff_iff];simp
  by_cases o:97≤(c.toNat:Int)
  ·by_cases J:(c.toNat:Int)≤122
   ·simp only[d,decide_eq_true o,decide_eq_true J,↓Mr,Mr,Mb,reduceIte]
    exact f (by simp[S2,A4,o,J]) (fun _=>by simp[F5];omega)
   ·have n:(65:Int)≤c.toNat:=by omega
    have s: ¬(c.toNat:Int)≤90:=by omega
    have g: ¬(c.toNat:Int)<48:=by omega
    have k:(57:Int)<c.toNat:=by omega
    simp only[d,decide_eq_true o,decide_eq_false J,decide_eq_true n,decide_eq_false s,decide_eq_false g,decide_eq_true k,t,↓Mr,Mr,Mb,reduceIte]
    have l:=e (.inl (by simp[S2,Xa,A4,F5];omega))
    rw[l] at h
    cases decide (i=0)<;>(try simp only[d,decide_eq_false g,decide_eq_true k,↓Mr,Mr,Mb,reduceIte])<;>exact h
  ·by_cases n:(65:Int)≤c.toNat
   ·by_cases s:(c.toNat:Int)≤90
    ·simp only[d,decide_eq_false o,decide_eq_true n,decide_eq_true s,↓Mr,Mr,Mb,reduceIte]
     exact f (by simp[S2,Xa,n,s]) (fun _=>by simp[F5];omega)
    ·have g: ¬(c.toNat:Int)<48:=by omega
     have k:(57:Int)<c.toNat:=by omega
     simp only[d,decide_eq_false o,decide_eq_true n,decide_eq_false s,decide_eq_false g,decide_eq_true k,t,↓Mr,Mr,Mb,reduceIte]
     have l:=e (.inl (by simp[S2,Xa,A4,F5];omega))
     rw[l] at h
     cases decide (i=0)<;>(try simp only[d,decide_eq_false g,decide_eq_true k,↓Mr,Mr,Mb,reduceIte])<;>exact h
   ·by_cases g:(c.toNat:Int)<48
    ·simp only[d,decide_eq_false o,decide_eq_false n,decide_eq_true g,t,↓Mr,Mr,Mb,reduceIte]
     have l:=e (.inl (by simp[S2,Xa,A4,F5];omega))
     rw[l] at h
     cases decide (i=0)<;>(try simp only[d,decide_eq_true g,↓Mr,Mr,Mb,reduceIte])<;>exact h
    ·by_cases k:(57:Int)<c.toNat
     ·simp only[d,decide_eq_false o,decide_eq_false n,decide_eq_false g,decide_eq_true k,t,↓Mr,Mr,Mb,reduceIte]
      have l:=e (.inl (by simp[S2,Xa,A4,F5];omega))
      rw[l] at h
      cases decide (i=0)<;>(try simp only[d,decide_eq_false g,decide_eq_true k,↓Mr,Mr,Mb,reduceIte])<;>exact h
     ·have u:F5 c.toNat=true:=by simp[F5];omega
      simp only[d,decide_eq_false o,decide_eq_false n,decide_eq_false g,decide_eq_false k,t,↓Mr,Mr,Mb,reduceIte]
      by_cases p:i=0
      ·have l:=e (.inr ⟨p,u⟩)
       rw[l] at h
       simp only[decide_eq_true p,d,decide_eq_false g,decide_eq_false k,↓Mr,Mr,Mb,reduceIte]
       exact h
      ·simp only[decide_eq_false p,d,decide_eq_false g,decide_eq_false k,↓Mr,Mr,Mb,reduceIte]
       exact f (by simp[S2,u]) (fun h=>absurd h p)
 ·have C:decide ((i:Int)<a.length)=false:=by simp only[decide_eq_false_iff_not];omega
  obtain rfl:i=a.length:=by omega
  simp only[C,↓Mr,Mr,Mb,reduceIte]
  rw[R1 X8]
  cases a with
  | nil=>
   have A:decide ((1:Int)≤(([]:List UInt8).length:Int))=false:=rfl
   simp only[A,↓Mr,Mr,Mb,reduceIte];exact h
  | cons c r=>
   have A:decide ((1:Int)≤((c::r).length:Int))=true:=by simp only[decide_eq_true_eq,List.length_cons];omega
   have v:=M (by simp)
   simp only[List.head?_cons,Option.map_some,Option.some.injEq] at v
   simp only[List.take_length] at j
   have z:name (c::r)=decide ((c::r).length≤32):=by simp only[name,v,j];simp
   have N:decide (((c::r).length:Int)≤32)=decide ((c::r).length≤32):=by rw[Bool.eq_iff_iff];simp only[decide_eq_true_eq];omega
   simp only[A,R1 X8,N,↓Mr,Mr,Mb,reduceIte]
   rw[←z];exact h)
theorem Ig {c:UInt8} {r:List UInt8} (h:name (c::r)=true):S2 c.toNat=true∧F5 c.toNat=false:=by
 simp only[name,Bool.and_eq_true,List.all_cons,Bool.not_eq_true'] at h
 exact ⟨h.2.1,h.1.2⟩
theorem Ya (a:List UInt8) (e:a.length≤140737488355328) (h:K (.bool (M6 a)) w):Q1 P F.d [S a] w K:=Ko (by
 unfold Mw
 refine Q61 a e ?_
 cases a with
 | nil=>simp only[name,↓Mr,Mr,Mb,reduceIte];exact h
 | cons c r=>
  cases b:name (c::r)
  ·(try simp only[↓Mr,Mr,Mb,reduceIte])
   simpa [M6,b] using h
  ·(try simp only[↓Mr,Mr,Mb,reduceIte])
   rw[Xm X8 (by omega) (by simp)]
   have d:(c::r)[(0:Int).toNat]'(by simp)=c:=rfl
   (try simp only[↓Mr,Mr,Mb,reduceIte])
   rw[d]
   obtain ⟨f,g⟩:=Ig b
   have:decide ((c.toNat:Int)≤90)=Xa c.toNat:=by
    simp only[S2,Xa,A4,F5,Bool.or_eq_true,Bool.and_eq_true,Bool.and_eq_false_iff,decide_eq_true_eq,decide_eq_false_iff_not] at f g⊢
    rw[Bool.eq_iff_iff];simp only[Bool.and_eq_true,decide_eq_true_eq];omega
   rw[this]
   simpa [M6,b] using h)
theorem Ip (a:List UInt8) (e:a.length≤140737488355328) (h:K (.bool (D1 a)) w):Q1 P F.u [S a] w K:=Gi (by
 unfold Lc
 refine Q61 a e ?_
 cases a with
 | nil=>simp only[name,↓Mr,Mr,Mb,reduceIte];exact h
 | cons c r=>
  cases b:name (c::r)
  ·(try simp only[↓Mr,Mr,Mb,reduceIte])
   simpa [D1,b] using h
  ·(try simp only[↓Mr,Mr,Mb,reduceIte])
   rw[Xm X8 (by omega) (by simp)]
   have d:(c::r)[(0:Int).toNat]'(by simp)=c:=rfl
   (try simp only[↓Mr,Mr,Mb,reduceIte])
   rw[d]
   obtain ⟨f,g⟩:=Ig b
   have:decide ((97:Int)≤c.toNat)=A4 c.toNat:=by
    simp only[S2,Xa,A4,F5,Bool.or_eq_true,Bool.and_eq_true,Bool.and_eq_false_iff,decide_eq_true_eq,decide_eq_false_iff_not] at f g⊢
    rw[Bool.eq_iff_iff];simp only[Bool.and_eq_true,decide_eq_true_eq];omega
   rw[this]
   simpa [D1,b] using h)
def X3o (a:List UInt8) (w:World) (x:Value×Value) (w':World):Prop:=
 w=w'∧ ∃(b:List UInt8) (n:Nat),x=(S b,I n)∧b.length+2*n=a.length∧(base a).2=(base b).2+n
def X0J (x:Value×Value):Nat:=match x.1 with | .string s=>s.size | _=>0
theorem Sd (a:List UInt8) (j:a.length≤140737488355328) (h:K (I (base a).2) w):Q1 P F.a2 [S a] w K:=Td (by
 unfold Nx
 refine Vv (X3o a w) (fun x _=>X0J x) ⟨rfl,a,0,rfl,by omega,rfl⟩ ?_
 rintro _ _ _ ⟨rfl,b,n,rfl,k,c⟩
 rw[R1 X8]
 (try simp only[↓Mr,Mr,Mb,reduceIte])
 by_cases f:2≤b.length
 ·have e:decide ((2:Int)≤b.length)=true:=by simp only[decide_eq_true_eq];omega
  simp only[e,R1 X8,↓Mr,Mr,Mb,reduceIte]
  rw[S7 (by omega) (by omega),Un X8 (by omega) (by omega)]
  rw[show ((b.length:Int)-2).toNat=b.length-2 from by omega]
  have g:decide (b.drop (b.length-2)=[91,93])=arr b:=by simp[arr,f]
  simp only[g,↓Mr,Mr,Mb,reduceIte]
  cases d:arr b
  ·(try simp only[↓Mr,Mr,Mb,reduceIte])
   rw[Xo b,d] at c
   simp only[Bool.false_eq_true,if_false,Nat.zero_add] at c
   rw[c] at h;exact h
  ·(try simp only[R1 X8,↓Mr,Mr,Mb,reduceIte])
   rw[P8 X8 (by omega) (by omega)]
   rw[show ((b.length:Int)-2).toNat=b.length-2 from by omega]
   have i:=I4 d
   refine ⟨⟨rfl,Kd.cutA b,n+1,?_,by omega,?_⟩,?_⟩
   ·simp only[Kd.cutA,Prod.mk.injEq,true_and]
    first | rfl | (rw[S7 (by omega) (by omega)];rfl)
   ·rw[c,Xo b,d];simp;omega
   ·simp only[X0J,G9,List.length_take];omega
 ·have e:decide ((2:Int)≤b.length)=false:=by simp only[decide_eq_false_iff_not];omega
  simp only[e,↓Mr,Mr,Mb,reduceIte]
  have d:arr b=false:=by simp[arr,f]
  rw[Xo b,d] at c
  simp only[Bool.false_eq_true,if_false,Nat.zero_add] at c
  rw[c] at h;exact h)
theorem Q4g (a:List UInt8):a.take (a.length-2*(base a).2)=(base a).1:=by
 have key: ∀n (a:List UInt8),a.take (a.length-2*(Yl n a).2)=(Yl n a).1:=by
  intro n
  induction n with
  | zero=>intro a;simp[Yl]
  | succ n b=>
   intro a
   simp only[Yl]
   split
   ·rename_i h
    have c:=I4 h
    simp only
    rw[←b (Kd.cutA a)]
    rw[Kd.cutA,List.take_take,List.length_take]
    congr 1
    omega
   ·simp
 exact key _ a
theorem Jz (a:List UInt8) (e:a.length≤140737488355328) (h:K (.bool (right a)) w):Q1 P F.e [S a] w K:=Kk (by
 unfold Lx
 have f:=Q1n a
 refine Sd a e ?_
 rw[R1 X8]
 (try simp only[↓Mr,Mr,Mb,reduceIte])
 rw[S7 (n:=2*((base a).2:Int)) (by omega) (by omega),S7 (by omega) (by omega),P8 X8 (by omega) (by omega)]
 rw[show ((a.length:Int)-2*((base a).2:Int)).toNat=a.length-2*(base a).2 from by omega,Q4g]
 (try simp only[↓Mr,Mr,Mb,reduceIte])
 by_cases b:(base a).2≤3
 ·have c:decide (((base a).2:Int)≤3)=true:=by simp only[decide_eq_true_eq];omega
  simp only[c,↓Mr,Mr,Mb,reduceIte]
  refine Eu _ ?_
  cases d:plain (base a).1
  ·(try simp only[↓Mr,Mr,Mb,reduceIte])
   refine Ya _ (by omega) ?_
   (try simp only[↓Mr,Mr,Mb,reduceIte])
   simpa [right,b,d] using h
  ·(try simp only[↓Mr,Mr,Mb,reduceIte])
   simpa [right,b,d] using h
 ·have c:decide (((base a).2:Int)≤3)=false:=by simp only[decide_eq_false_iff_not];omega
  simp only[c,↓Mr,Mr,Mb,reduceIte]
  simpa [right,b] using h)
theorem X1i {a:List UInt8} (h:arr a=true):2≤a.length:=by simp only[arr,Bool.and_eq_true,decide_eq_true_eq] at h;exact h.1
theorem Q4p {a:List UInt8} (h:arr a=true) (c:right a=true):3≤a.length:=by
 have d:=X1i h
 refine Nat.lt_of_le_of_ne d fun e=>?_
 have f:=I4 h
 have b:Kd.cutA a=[]:=List.eq_nil_of_length_eq_zero (by omega)
 simp only[right,Xo a,h,if_true,b] at c
 revert c;decide
theorem X0v (a:List UInt8) (e:a.length≤140737488355328) (h:K (S (elem a)) w):Q1 P F.bD [S a] w K:=Ae (by
 unfold Nv
 rw[R1 X8]
 (try simp only[↓Mr,Mr,Mb,reduceIte])
 by_cases j:a.length<3
 ·have b:decide ((a.length:Int)<3)=true:=by simp only[decide_eq_true_eq];omega
  simp only[b,↓Mr,Mr,Mb,reduceIte]
  have g:elem a=[]:=by
   simp only[elem]
   split
   ·rename_i hh
    simp only[Bool.and_eq_true] at hh
    have:=Q4p hh.1 hh.2
    omega
   ·rfl
  rw[g] at h;exact h
 ·have b:decide ((a.length:Int)<3)=false:=by simp only[decide_eq_false_iff_not];omega
  simp only[b,↓Mr,Mr,Mb,reduceIte]
  rw[S7 (by omega) (by omega),Un X8 (by omega) (by omega)]
  rw[show ((a.length:Int)-2).toNat=a.length-2 from by omega]
  have i:decide (a.drop (a.length-2)=[91,93])=arr a:=by simp[arr];omega
  (try simp only[↓Mr,Mr,Mb,reduceIte])
  (try simp only[i,↓Mr,Mr,Mb,reduceIte])
  cases c:arr a
  ·(try simp only[↓Mr,Mr,Mb,reduceIte])
   simpa [elem,c] using h
  ·(try simp only[↓Mr,Mr,Mb,reduceIte])
   refine Sd a e ?_
   (try simp only[↓Mr,Mr,Mb,reduceIte])
   by_cases f:(base a).2≤3
   ·have b:decide ((3:Int)<((base a).2:Int))=false:=by simp only[decide_eq_false_iff_not];omega
    simp only[b,↓Mr,Mr,Mb,reduceIte]
    refine Jz a e ?_
    cases d:right a
    ·(try simp only[↓Mr,Mr,Mb,reduceIte])
     simpa [elem,c,d] using h
    ·(try simp only[↓Mr,Mr,Mb,reduceIte])
     try rw[S7 (by omega) (by omega)]
     rw[P8 X8 (by omega) (by omega)]
     rw[show ((a.length:Int)-2).toNat=a.length-2 from by omega]
     simpa [elem,c,d,Kd.cutA] using h
   ·have b:decide ((3:Int)<((base a).2:Int))=true:=by simp only[decide_eq_true_eq];omega
    simp only[b,↓Mr,Mr,Mb,reduceIte]
    have d:right a=false:=by simp[right,f]
    simpa [elem,c,d] using h)
def X2Q (a:List UInt8) (w:World) (x:Value) (w':World):Prop:=
 w=w'∧ ∃n:Nat,x=I n∧n≤a.length∧(∀i,(h:i<n)→(b:i<a.length)→a[i]≠46)
def Q9y (a:List UInt8) (x:Value):Nat:=match x with | .int _ n=>(a.length-n).toNat | _=>0
theorem Q4f (a:List UInt8) (L:a.length≤140737488355328) (h: ∀w',Below w.heap.size w w'→K (if (Qv a).2.2 then .tuple #[S (Qv a).1,S (Qv a).2.1, .bool (Zh a)] else .tuple #[S [],S [], .bool false]) w'):Q1 P F.bw [S a] w K:=Ky (by
 unfold Lw
 refine Vv (X2Q a w) (fun x _=>Q9y a x) ⟨rfl,0,rfl,by omega,by omega⟩ ?_
 rintro _ _ _ ⟨rfl,n,rfl,M,y⟩
 rw[R1 X8]
 (try simp only[↓Mr,Mr,Mb,reduceIte])
 by_cases C:n<a.length
 ·have r:decide ((n:Int)<a.length)=true:=by simp only[decide_eq_true_eq];omega
  simp only[r,↓Mr,Mr,Mb,reduceIte]
  rw[Xm X8 (by omega) (by omega)]
  (try simp only[↓Mr,Mr,Mb,reduceIte])
  simp only[Int.toNat_natCast]
  have J:decide (((a[n]).toNat:Int)=46)=decide (a[n]=46):=by
   rw[Bool.eq_iff_iff];simp only[decide_eq_true_eq]
   constructor
   ·intro e;exact UInt8.toNat_inj.1 (by have:(46:UInt8).toNat=46:=rfl;omega)
   ·intro e;rw[e];rfl
  rw[J]
  by_cases m:a[n]=46
  ·simp only[m,decide_true,↓Mr,Mr,Mb,reduceIte]
   have l:Qv a=(a.take n,a.drop (n+1),true):=by
    have:a.findIdx? (fun b=>decide (b=46))=some n:=by
     rw[List.findIdx?_eq_some_iff_getElem]
     exact ⟨C,by simpa using m,fun j H=>by simpa using y j H (by omega)⟩
    rw[Kh,this];rfl
   have v:Zh a=(M6 (a.take n)&&D1 (a.drop (n+1))):=by simp[Zh,l]
   rw[l,v] at h
   have o:((n:Int)+1).toNat=n+1:=by omega
   have q:(a.take n).length≤140737488355328:=by simp only[List.length_take];omega
   have s:(a.drop (n+1)).length≤140737488355328:=by simp only[List.length_drop];omega
   have A: ∀{w:World} {K:Value→World→Prop},K (S (a.take n)) w→R2 P T.c (S a) none (some (I n)) none w K:=by
    intro w K h
    rw[P8 X8 (by omega) (by omega),show ((n:Int)).toNat=n from by omega];exact h
   have B: ∀{w:World} {K:Value→World→Prop},K (S (a.drop (n+1))) w→R2 P T.c (S a) (some (I (n+1))) none none w K:=by
    intro w K h
    rw[Un X8 (by omega) (by omega),o];exact h
   refine De (Below.refl _ _) ?_
   refine X4 (S (a.take n)) (fun w c=>A (X6 rfl)) ?_
   refine X4 (I (n+1)) (fun w c=>X6 (by rw[S7 (by omega) (by omega)])) ?_
   refine X4 (S (a.drop (n+1))) (fun t w c e=>by rw[e];exact B (X6 rfl)) ?_
   refine X4 (S (a.take n)) (fun w c=>A (X6 rfl)) ?_
   refine X4 (.bool (M6 (a.take n))) (fun t w c e=>by rw[e];exact Ya _ q (X6 rfl)) ?_
   cases k:M6 (a.take n)
   ·refine X4 undef (fun t w c e=>by rw[e,E0];exact X6 rfl) ?_
    refine X4 undef (fun t w c e=>by rw[e,E0];exact X6 rfl) ?_
    refine X4 undef (fun t f w c e d=>by rw[e,E0];exact X6 rfl) ?_
    refine X4 undef (fun t f p w c e d g=>by rw[e,E0];exact X6 rfl) ?_
    refine X4 undef (fun t f w c e d=>by rw[e,E0];exact X6 rfl) ?_
    refine X4 (.bool false) (fun t f w c e d=>by rw[e,W8];exact X6 rfl) ?_
    rintro _ _ _ _ _ _ _ _ _ _ _ w1 c rfl rfl rfl rfl rfl rfl rfl rfl rfl rfl rfl
    rw[k] at h
    exact h w1 (by simpa using c)
   ·refine X4 (S a) (fun t w c e=>by rw[e,W2];exact X6 rfl) ?_
    refine X4 (I n) (fun t w c e=>by rw[e,W2];exact X6 rfl) ?_
    refine X4 (I (n+1)) (fun t f w c e d=>by rw[e,d,W2];simp only[↓Mr,Mr,Mb,reduceIte];exact X6 (by rw[S7 (by omega) (by omega)])) ?_
    refine X4 (S (a.drop (n+1))) (fun t f p w c e d g=>by rw[e,d,g,W2];exact B (X6 rfl)) ?_
    refine X4 (.bool (D1 (a.drop (n+1)))) (fun t f w c e d=>by rw[e,d,W2];exact Ip _ s (X6 rfl)) ?_
    refine X4 (.bool (D1 (a.drop (n+1)))) (fun t f w c e d=>by rw[e,d,M4];exact X6 rfl) ?_
    rintro _ _ _ _ _ _ _ _ _ _ _ w1 c rfl rfl rfl rfl rfl rfl rfl rfl rfl rfl rfl
    rw[k] at h
    exact h w1 (by simpa using c)
  ·simp only[m,decide_false,↓Mr,Mr,Mb,reduceIte]
   rw[S7 (by omega) (by omega)]
   refine ⟨⟨rfl,n+1,rfl,by omega,fun i z E=>?_⟩,?_⟩
   ·by_cases u:i=n
    ·subst u;exact m
    ·exact y i (by omega) E
   ·simp only[Q9y];omega
 ·have r:decide ((n:Int)<a.length)=false:=by simp only[decide_eq_false_iff_not];omega
  simp only[r,↓Mr,Mr,Mb,reduceIte]
  have l:(Qv a).2.2=false∧(Qv a).1=a∧(Qv a).2.1=[]:=by
   have:a.findIdx? (fun b=>decide (b=46))=none:=by
    rw[List.findIdx?_eq_none_iff]
    intro x D
    obtain ⟨i,z,rfl⟩:=List.getElem_of_mem D
    simpa using y i (by omega) z
   rw[Kh,this];exact ⟨rfl,rfl,rfl⟩
  rw[l.1] at h
  exact h w (Below.refl _ _))
end Go.Proofs.YtjdiakhipmggjaaGreatDoor

namespace Go.Emb
open Go.RowKit
class TZ (P : Program) (t : TypeId) (sz b : outParam Nat) (z : outParam Value) : Prop where
  h : (P.info? t).map (fun i => (i.size, i.bytes, i.zero)) = some (sz, b, some z)
def Q8w:Option TypeDesc→Bool
 | some (.struct _)=>true
 | some (.array _ _)=>true
 | none=>true
 | _=>false
class TG (P : Program) (t : TypeId) (g : outParam Bool) : Prop where
  h : (Q8w (P.underlying t), (P.underlying t).isSome) = (g, true)
class TS (P : Program) (t : TypeId) (e : outParam TypeId) : Prop where
  h : P.underlying t = some (.slice e)
class TA (P : Program) (t : TypeId) (n : outParam Nat) (e : outParam TypeId) : Prop where
  h : P.underlying t = some (.array n e)
class TM (P : Program) (t : TypeId) (k e : outParam TypeId) : Prop where
  h : P.underlying t = some (.map k e)
def Q3x (d:Option TypeDesc) (k:Nat):Option (Nat×TypeId):=match d with
 | some (.struct a)=>(a[k]?).map fun f=>(f.offset,f.type)
 | _=>none
class TF (P : Program) (t : TypeId) (k : Nat) (off : outParam Nat) (ft : outParam TypeId) : Prop where
  h : Q3x (P.underlying t) k = some (off, ft)
variable {P : Program} {w w0 w1 w' w'' : World} {K : Value → World → Prop}
theorem TZ.info {t:TypeId} {sz b:Nat} {z:Value} (h:TZ P t sz b z): ∃i,P.info? t=some i∧i.size=sz∧i.bytes=b∧i.zero=some z:=by
 obtain ⟨i,a,e⟩:=Option.map_eq_some_iff.1 h.h
 simp only[Prod.mk.injEq] at e
 exact ⟨i,a,e.1,e.2.1,e.2.2⟩
theorem L2 {t:TypeId} {sz b:Nat} {z:Value} (h:TZ P t sz b z) (w:World):(sizeOf t).run P w= .ok sz w:=by
 obtain ⟨i,a,rfl,_⟩:=h.info
 simp[sizeOf,typeInfo,a]
theorem Zf {t:TypeId} {sz b:Nat} {z:Value} (h:TZ P t sz b z) (w:World):(zeroValue t).run P w= .ok z w:=by
 obtain ⟨i,a,_,_,c⟩:=h.info
 simp[zeroValue,typeInfo,a,c]
theorem Xu {t:TypeId} {g:Bool} (h:TG P t g) (w:World):(isAgg t).run P w= .ok g w:=by
 have hh:=h.h
 simp only[Prod.mk.injEq] at hh
 obtain ⟨c,b⟩:=hh
 cases a:P.underlying t with
 | none=>rw[a] at b;cases b
 | some d=>
  rw[a] at c
  have:=run_underlying (P:=P) (w:=w) a
  simp only[isAgg,Sem.run_bind,this,Result.andThen_ok]
  cases d<;>simp_all [Q8w]
theorem Q3C (a:Addr) (i j:Nat):(a.add i).add j=a.add (i+j):=by
 unfold Addr.add
 by_cases b:i=0
 ·simp[b]
 ·by_cases c:j=0
  ·simp[c]
  ·simp[b,c,Nat.add_assoc]
theorem add_zero (a:Addr):a.add 0=a:=by simp[Addr.add]
theorem R9 (a:Addr) (i:Nat):(a.add i).block=a.block:=by unfold Addr.add;split<;>rfl
theorem A7 (a:Addr) (i:Nat):(a.add i).off=a.off+i:=by unfold Addr.add;split<;>simp_all
theorem I1 {a:Addr} (h:a.spot=none) (i:Nat):(a.add i).spot=none:=by unfold Addr.add;split<;>simp_all
abbrev Q5:=Nat→Option Obj
def X2 (w:World) (σ:Q5):Prop:= ∀b o,σ b=some o→w.heap[b]? =some o
structure Stp (w : World) (σ : Q5) (w' : World) (σ' : Q5) : Prop where
  bel : Below w.heap.size w w'
  sat : X2 w' σ'
  le : ∀ b o, σ b = some o → σ' b = some o
  old : ∀ b, b < w.heap.size → σ' b = σ b
theorem X2.lt {σ:Q5} (h:X2 w σ) {b:Nat} {o:Obj} (a:σ b=some o):b<w.heap.size:=(Array.getElem?_eq_some_iff.1 (h b o a)).1
theorem X2.below {σ:Q5} (h:X2 w σ) (a:Below w.heap.size w w'):X2 w' σ:=fun b o e=>(a.block b (h.lt e)).trans (h b o e)
theorem Stp.refl {σ:Q5} (h:X2 w σ):Stp w σ w σ:=⟨Below.refl _ _,h,fun _ _ e=>e,fun _ _=>rfl⟩
theorem Stp.trans {σ0 σ1 c:Q5} (h:Stp w σ0 w' σ1) (k:Stp w' σ1 w'' c):Stp w σ0 w'' c:=
 ⟨h.bel.trans (k.bel.mono h.bel.size),k.sat,fun b o e=>k.le b o (h.le b o e),fun b a=>(k.old b (Nat.lt_of_lt_of_le a h.bel.size)).trans (h.old b a)⟩
theorem Stp.of_below {σ:Q5} (h:X2 w σ) (a:Below w.heap.size w w'):Stp w σ w' σ:=⟨a,h.below a,fun _ _ e=>e,fun _ _=>rfl⟩
def Q5.put (σ:Q5) (b:Nat) (o:Obj):Q5:=fun k=>if k=b then some o else σ k
theorem X2.none {σ:Q5} (h:X2 w σ) {b:Nat} (a:w.heap.size≤b):σ b=none:=by
 cases e:σ b with
 | none=>rfl
 | some o=>have:=h.lt e;omega
theorem Stp.alloc {σ:Q5} (h:X2 w σ) (o:Obj):Stp w σ (w.alloc o) (σ.put w.heap.size o):=by
 refine ⟨(Below.refl _ _).alloc (Nat.le_refl _) o,?_,?_,?_⟩
 ·intro b p e
  by_cases a:b=w.heap.size
  ·subst a
   simp only[Q5.put,if_true] at e
   cases e
   exact heap_alloc_new w o
  ·simp only[Q5.put,if_neg a] at e
   rw[Below.heap_alloc w o b (h.lt e)];exact h b p e
 ·intro b p e
  have:=h.lt e
  simp only[Q5.put];rw[if_neg (by omega)];exact e
 ·intro b a
  simp only[Q5.put];rw[if_neg (by omega)]
theorem Stp.own {σ:Q5} (h:X2 w σ) (o:Obj):Stp w σ (w.alloc o) σ:=Stp.of_below h ((Below.refl _ _).alloc (Nat.le_refl _) o)
def Z4 (σ:Q5) (a:Addr) (cs:List Value):Prop:=a.spot=none∧ ∃arr e b,σ a.block=some (.cells arr e b)∧ ∀i v,cs[i]? =some v→arr[a.off+i]? =some v
theorem Z4.up {σ σ':Q5} {a:Addr} {cs:List Value} (h:Z4 σ a cs) (b:Stp w σ w' σ'):Z4 σ' a cs:=by
 obtain ⟨c,arr,e,g,d,f⟩:=h
 exact ⟨c,arr,e,g,b.le _ _ d,f⟩
theorem Z4.cell {σ:Q5} {a:Addr} {cs:List Value} (h:Z4 σ a cs) (f:X2 w σ) {i:Nat} {v:Value} (g:cs[i]? =some v):w.cell? (a.add i)=some v:=by
 obtain ⟨b,arr,e,j,c,d⟩:=h
 have:=f _ _ c
 unfold World.cell?
 rw[R9,this,A7,I1 b]
 exact d i v g
def Y1 (σ:Q5) (w:World) (b:Nat) (cs:List Value):Prop:=σ b=none∧ ∃e,w.heap[b]? =some (.cells cs.toArray e (0,0))
theorem Y1.lt {σ:Q5} {b:Nat} {cs:List Value} (h:Y1 σ w b cs):b<w.heap.size:=by
 obtain ⟨_,e,h⟩:=h
 exact (Array.getElem?_eq_some_iff.1 h).1
theorem Y1.up {σ σ':Q5} {b:Nat} {cs:List Value} (h:Y1 σ w b cs) (a:Stp w σ w' σ'):Y1 σ' w' b cs:=by
 have c:=h.lt
 obtain ⟨d,e,f⟩:=h
 exact ⟨(a.old b c).trans d,e,(a.bel.block b c).trans f⟩
theorem Y1.cell {σ:Q5} {b:Nat} {cs:List Value} (h:Y1 σ w b cs) {i:Nat} {v:Value} (c:cs[i]? =some v):w.cell? ((⟨b,0,none⟩:Addr).add i)=some v:=by
 obtain ⟨_,e,a⟩:=h
 unfold World.cell?
 rw[R9,A7,I1 rfl]
 simp only[a]
 simpa using c
theorem Y1.keep {σ σ0:Q5} {b:Nat} {cs:List Value} (h:Y1 σ w b cs) (d:Stp w0 σ0 w σ) (m:w0.heap.size≤b): ∃σ',Stp w0 σ0 w σ'∧Z4 σ' ⟨b,0,none⟩ cs∧(∀k o,σ k=some o→σ' k=some o)∧(∀k,k≠b→σ' k=σ k):=by
 obtain ⟨g,e,j⟩:=h
 refine ⟨σ.put b (.cells cs.toArray e (0,0)),⟨d.bel,?_,?_,?_⟩,⟨rfl,cs.toArray,e,(0,0),by simp[Q5.put],?_⟩,?_,?_⟩
 ·intro k o c
  by_cases a:k=b
  ·subst a;simp only[Q5.put,if_true] at c;cases c;exact j
  ·simp only[Q5.put,if_neg a] at c;exact d.sat k o c
 ·intro k o c
  by_cases a:k=b
  ·subst a;have:=d.le _ _ c;rw[g] at this;cases this
  ·simp only[Q5.put,if_neg a];exact d.le _ _ c
 ·intro k f
  simp only[Q5.put];rw[if_neg (by omega)];exact d.old k f
 ·intro i v l;simpa using l
 ·intro k o c
  by_cases a:k=b
  ·subst a;rw[g] at c;cases c
  ·simp only[Q5.put,if_neg a];exact c
 ·intro k a;simp only[Q5.put,if_neg a]
theorem Q7g (t:TypeId) (v:Value) (w:World):(Instr.box t v).run P w= .ok (.pointer (some ⟨w.heap.size,0,none⟩)) (w.alloc (.cells v.cells t)):=by
 simp[Instr.box,newVar,newRow]
theorem Q38 {σ:Q5} (a:X2 w σ) (cs:Array Value) (t:TypeId):Y1 σ (w.alloc (.cells cs t)) w.heap.size cs.toList:=
 ⟨a.none (Nat.le_refl _),t,by simpa using heap_alloc_new w (.cells cs t)⟩
theorem Q83 {σ:Q5} (cs:Array Value) (t:TypeId):Z4 (σ.put w.heap.size (.cells cs t)) ⟨w.heap.size,0,none⟩ cs.toList:=
 ⟨rfl,cs,t,(0,0),by simp[Q5.put],fun i v h=>by simpa using h⟩
theorem E4 {σ:Q5} {t:TypeId} {v:Value} (b:X2 w σ) (h: ∀a w' σ',Stp w σ w' σ'→Z4 σ' a v.cells.toList→K (.pointer (some a)) w'):box P t v w K:=by
 unfold box;rw[X9 (Q7g t v w)]
 exact h _ _ _ (Stp.alloc b _) (Q83 _ t)
theorem Q53 {σ:Q5} {t:TypeId} {v:Value} (a:X2 w σ) (h: ∀b w',w.heap.size≤b→Stp w σ w' σ→Y1 σ w' b v.cells.toList→K (.pointer (some ⟨b,0,none⟩)) w'):box P t v w K:=by
 unfold box;rw[X9 (Q7g t v w)]
 exact h _ _ (Nat.le_refl _) (Stp.own a _) (Q38 a _ t)
theorem Iv {σ:Q5} {t:TypeId} {sz a:Nat} {z:Value} [tz:TZ P t sz a z] (c:X2 w σ) (h: ∀b w',w.heap.size≤b→Stp w σ w' σ→Y1 σ w' b z.cells.toList→K (.pointer (some ⟨b,0,none⟩)) w'):W0 P t w K:=by
 unfold W0
 have:(Instr.alloc t true (.tuple #[])).run P w= .ok (.pointer (some ⟨w.heap.size,0,none⟩)) (w.alloc (.cells z.cells t)):=by
  simp[Instr.alloc,Zf tz,newVar,newRow]
 rw[X9 this]
 exact h _ _ (Nat.le_refl _) (Stp.own c _) (Q38 c _ t)
theorem A6 {t:TypeId} [tg:TG P t false] {a:Addr} {v:Value} (b:w.cell? a=some v) (h:K v w):Q2 P t (.pointer (some a)) w K:=by
 unfold Q2
 rw[X9 (v:=v) (w':=w) (by simp[Instr.loadAt,Instr.sureAddr,loadVar,Xu tg,b])]
 exact h
theorem Ik {t:TypeId} {sz b:Nat} {z:Value} [tg:TG P t true] [tz:TZ P t sz b z] {a:Addr} {cs:List Value} (d:cs.length=sz) (c: ∀j v,cs[j]? =some v→w.cell? (a.add j)=some v) (h:K (.agg cs.toArray) w):Q2 P t (.pointer (some a)) w K:=by
 unfold Q2
 have:=run_loadCells_list (P:=P) w a cs c
 rw[d] at this
 rw[X9 (v:= .agg cs.toArray) (w':=w) (by simp[Instr.loadAt,Instr.sureAddr,loadVar,Xu tg,L2 tz,this])]
 exact h
theorem ld {σ:Q5} {t:TypeId} [TG P t false] {a:Addr} {cs:List Value} {i:Nat} {v:Value} (c:X2 w σ) (b:Z4 σ a cs) (d:cs[i]? =some v) (h:K v w):Q2 P t (.pointer (some (a.add i))) w K:=
 A6 (b.cell c d) h
theorem X7 {σ:Q5} {t:TypeId} [TG P t false] {a:Addr} {cs:List Value} {v:Value} (c:X2 w σ) (b:Z4 σ a cs) (d:cs[0]? =some v) (h:K v w):Q2 P t (.pointer (some a)) w K:=by
 have:=ld (P:=P) (t:=t) c b d h
 rwa [add_zero] at this
theorem Y4 {σ:Q5} {t:TypeId} {sz b:Nat} {z:Value} [TG P t true] [TZ P t sz b z] {a:Addr} {cs:List Value} (f:X2 w σ) (c:Z4 σ a cs) (d:cs.length=sz) (h:K (.agg cs.toArray) w):Q2 P t (.pointer (some a)) w K:=
 Ik d (fun _ _ g=>c.cell f g) h
theorem Xx {σ:Q5} {t:TypeId} [TG P t false] {b:Nat} {cs:List Value} {i:Nat} {v:Value} (a:Y1 σ w b cs) (c:cs[i]? =some v) (h:K v w):Q2 P t (.pointer (some ((⟨b,0,none⟩:Addr).add i))) w K:=
 A6 (a.cell c) h
theorem Q7N {σ:Q5} {t:TypeId} [TG P t false] {b:Nat} {cs:List Value} {v:Value} (a:Y1 σ w b cs) (c:cs[0]? =some v) (h:K v w):Q2 P t (.pointer (some ⟨b,0,none⟩)) w K:=by
 have:=Xx (P:=P) (t:=t) a c h
 rwa [add_zero] at this
theorem Si {σ:Q5} {t:TypeId} {sz a:Nat} {z:Value} [TG P t true] [TZ P t sz a z] {b:Nat} {cs:List Value} (c:Y1 σ w b cs) (d:cs.length=sz) (h:K (.agg cs.toArray) w):Q2 P t (.pointer (some ⟨b,0,none⟩)) w K:=
 Ik d (fun _ _ f=>c.cell f) h
theorem V1 {t:TypeId} {sz a:Nat} {z:Value} [tg:TG P t true] [tz:TZ P t sz a z] {σ:Q5} {b:Nat} {cs:List Value} {K:Value→Prop} (c:Y1 σ w b cs) (d:cs.length=sz) (h:K (.agg cs.toArray)):Y7 P t (.pointer (some ⟨b,0,none⟩)) w K:=by
 rw[Q3a]
 refine ⟨_,?_,h⟩
 have:=run_loadCells_list (P:=P) w ⟨b,0,none⟩ cs (fun _ _ f=>c.cell f)
 rw[d] at this
 simp[asAddr,loadVar,Xu tg,L2 tz,this]
structure Upd (w : World) (b : Nat) (w' : World) : Prop where
  os : w'.os = w.os
  tape : w'.tape = w.tape
  output : w'.output = w.output
  size : w'.heap.size = w.heap.size
  block : ∀ k, k ≠ b → w'.heap[k]? = w.heap[k]?
theorem Upd.stp {σ0 σ:Q5} {b:Nat} (c:Upd w b w') (a:Stp w0 σ0 w σ) (h:w0.heap.size≤b) (g:σ b=none):Stp w0 σ0 w' σ:=by
 refine ⟨⟨c.os.trans a.bel.os,c.tape.trans a.bel.tape,c.output.trans a.bel.output,by rw[c.size];exact a.bel.size,fun k f=>(c.block k (by omega)).trans (a.bel.block k f)⟩,?_,a.le,a.old⟩
 intro k o d
 rw[c.block k (by intro e;subst e;rw[g] at d;cases d)]
 exact a.sat k o d
theorem Y1.upd {σ:Q5} {b k:Nat} {cs:List Value} (h:Y1 σ w k cs) (c:Upd w b w') (a:k≠b):Y1 σ w' k cs:=by
 obtain ⟨d,e,f⟩:=h
 exact ⟨d,e,(c.block k a).trans f⟩
theorem My {b:Nat} {cs:Array Value} {a:Array Value} {e:TypeId} (h:w.heap[b]? =some (.cells a e (0,0))):Upd w b (w.setRow b cs)∧(w.setRow b cs).heap[b]? =some (.cells cs e (0,0)):=by
 have d:=(Array.getElem?_eq_some_iff.1 h).1
 refine ⟨⟨rfl,rfl,rfl,by simp[World.setRow],fun k c=>?_⟩,?_⟩
 ·simp only[World.setRow,Array.getElem?_modify]
  rw[if_neg (by omega)]
 ·simp only[World.setRow,Array.getElem?_modify,if_true,h]
  rfl
theorem Nk {t:TypeId} {sz c:Nat} {z:Value} [tz:TZ P t sz c z] {σ:Q5} {b:Nat} {cs ds:List Value} (m:Y1 σ w b cs) (n:cs.length=sz) (d:ds.length=sz) (l:ds.toArray.all (·.oneCell')=true)
 (h: ∀w',Upd w b w'→Y1 σ w' b ds→K undef w'):Y0 P t (.pointer (some ⟨b,0,none⟩)) (.agg ds.toArray) w K:=by
 obtain ⟨j,e,f⟩:=m
 unfold Y0
 obtain ⟨i,k,a,_⟩:=tz.info
 have:=run_storeVar_row (P:=P) w b e t cs.toArray ds.toArray f (by simp[k,a,d]) (by simp[n,d]) l
 rw[Ww (w':=w.setRow b ds.toArray) (by simpa [Instr.storeAt,Instr.sureAddr] using this)]
 obtain ⟨g,hh⟩:=My (cs:=ds.toArray) f
 exact h _ g ⟨j,e,hh⟩
theorem Q74 {cs:List Value} {i:Nat} {v:Value} (a:i<cs.length):(cs.take i++[v]++cs.drop (i+1))=cs.set i v:=by
 rw[List.set_eq_take_append_cons_drop,if_pos a];simp
theorem Ug {t:TypeId} {c:Nat} {z:Value} [tz:TZ P t 1 c z] {σ:Q5} {b i:Nat} {cs:List Value} {v:Value} (n:Y1 σ w b cs) (j:i<cs.length) (m:v.cells= #[v]) (l:v.oneCell'=true)
 (h: ∀w',Upd w b w'→Y1 σ w' b (cs.set i v)→K undef w'):Y0 P t (.pointer (some ((⟨b,0,none⟩:Addr).add i))) v w K:=by
 obtain ⟨g,e,d⟩:=n
 unfold Y0
 have a:(⟨b,0,none⟩:Addr).add i=⟨b,i,none⟩:=by unfold Addr.add;split<;>simp_all
 have:=run_storeCells_at P b i e [v] 0 cs.toArray w d (by simp;omega) (by simpa using l)
 simp only[Nat.add_zero] at this
 obtain ⟨f,hh⟩:=My (cs:=(cs.set i v).toArray) d
 have k:(List.take i cs.toArray.toList++[v]++List.drop (i+[v].length) cs.toArray.toList).toArray=(cs.set i v).toArray:=by
  rw[←Q74 j];simp
 rw[k] at this
 rw[Ww (w':=w.setRow b (cs.set i v).toArray) (by simp[Instr.storeAt,Instr.sureAddr,a,storeVar,L2 tz,m,this])]
 exact h _ f ⟨g,e,hh⟩
theorem st0 {t:TypeId} {a:Nat} {z:Value} [tz:TZ P t 1 a z] {σ:Q5} {b:Nat} {cs:List Value} {v:Value} (g:Y1 σ w b cs) (c:0<cs.length) (f:v.cells= #[v]) (d:v.oneCell'=true)
 (h: ∀w',Upd w b w'→Y1 σ w' b (cs.set 0 v)→K undef w'):Y0 P t (.pointer (some ⟨b,0,none⟩)) v w K:=by
 have:=Ug (P:=P) (t:=t) g c f d h
 rwa [add_zero] at this
class NZ (n : Nat) : Prop where
  h : (n == 0) = false
instance (n:Nat):NZ (n+1):=⟨rfl⟩
theorem fa {t:TypeId} {k b:Nat} {g:TypeId} {sz c:Nat} {z:Value} [tf:TF P t k b g] [tz:TZ P g sz c z] [nz:NZ sz] {a:Addr}:fieldAddr P t (.pointer (some a)) k w K=K (.pointer (some (a.add b))) w:=by
 unfold fieldAddr
 have hh:=tf.h
 unfold Q3x at hh
 split at hh
 ·rename_i o j
  obtain ⟨f,i,d⟩:=Option.map_eq_some_iff.1 hh
  simp only[Prod.mk.injEq] at d
  obtain ⟨l,m⟩:=d
  subst m l
  have n: ¬sz=0:=by simpa using nz.h
  exact X9 (by simp[Instr.fieldAt,run_underlying j,i,Instr.sureAddr,fieldPlace,L2 tz,n])
 ·cases hh
theorem Ro {t e:TypeId} {sz b:Nat} {z:Value} [ts:TS P t e] [tz:TZ P e sz b z] {a:Addr} {n c:Nat} {k:IntKind} {i:Int} (f:0≤i) (d:i<n):indexAddr P t (.slice (some a) n c) (.int k i) w K=K (.pointer (some (a.add (i.toNat*sz)))) w:=by
 unfold indexAddr
 exact X9 (by simp[Instr.indexAt,run_underlying ts.h,asIntOf,L2 tz,f,d])
theorem Q9D {t e:TypeId} {n sz b:Nat} {z:Value} [ta:TA P t n e] [tz:TZ P e sz b z] {a:Addr} {k:IntKind} {i:Int} (d:0≤i) (c:i<n):indexAddr P t (.pointer (some a)) (.int k i) w K=K (.pointer (some (a.add (i.toNat*sz)))) w:=by
 unfold indexAddr
 exact X9 (by simp[Instr.indexAt,run_underlying ta.h,asIntOf,Instr.sureAddr,L2 tz,d,c])
theorem M3 {a:Addr}:nilCheck P (.pointer (some a)) w K=K (.pointer (some a)) w:=by
 unfold nilCheck
 rw[T9];unfold P5
 simp[execOp]
class Rep {α : Type} (R : Q5 → α → List Value → Prop) : Prop where
  up : ∀ {σ σ' : Q5} {x : α} {cs : List Value}, (∀ b o, σ b = some o → σ' b = some o) → R σ x cs → R σ' x cs
  one : ∀ {σ : Q5} {x : α} {cs : List Value}, R σ x cs → ∀ u ∈ cs, u.oneCell' = true
def Sl {α:Type} (sz:Nat) (R:Q5→α→List Value→Prop) (σ:Q5) (v:Value) (xs:List α):Prop:=
 ∃a c,v= .slice a xs.length c∧xs.length≤c∧c≤maxLen∧(a=none→c=0)∧
  ∀b,a=some b→(0<xs.length→b.spot=none)∧ ∀i x,xs[i]? =some x→ ∃cs,Z4 σ (b.add (i*sz)) cs∧cs.length=sz∧R σ x cs
theorem Z4.le {σ σ':Q5} {a:Addr} {cs:List Value} (h:Z4 σ a cs) (c: ∀b o,σ b=some o→σ' b=some o):Z4 σ' a cs:=by
 obtain ⟨d,arr,e,i,f,g⟩:=h
 exact ⟨d,arr,e,i,c _ _ f,g⟩
section
variable {α : Type} {R : Q5 → α → List Value → Prop} {sz : Nat} {σ σ' : Q5} {v : Value} {xs : List α}
theorem Sl.le [hr:Rep R] (h:Sl sz R σ v xs) (d: ∀b o,σ b=some o→σ' b=some o):Sl sz R σ' v xs:=by
 obtain ⟨a,c,q,j,k,l,f⟩:=h
 refine ⟨a,c,q,j,k,l,fun b g=>⟨(f b g).1,fun i x r=>?_⟩⟩
 obtain ⟨cs,m,n,p⟩:=(f b g).2 i x r
 exact ⟨cs,m.le d,n,hr.up d p⟩
theorem Sl.up [Rep R] (h:Sl sz R σ v xs) (a:Stp w σ w' σ'):Sl sz R σ' v xs:=h.le a.le
theorem Sl.max (h:Sl sz R σ v xs):xs.length≤9223372036854775807:=by
 obtain ⟨a,c,d,g,b,f⟩:=h
 simp only[maxLen] at b;omega
theorem Sl.nil:Sl sz R σ (.slice none 0 0) ([]:List α):=⟨none,0,rfl,by simp,by simp,fun _=>rfl,fun b a=>by cases a⟩
theorem Q1r {c e t:TypeId} {cs:List Bool} [ts:TS P c e] {a:Option Addr} {n b:Nat}:X3 P .len [c] t cs [.slice a n b] w K=K (I n) w:=by
 have h:(Builtin.len_ #[c] t #[.slice a n b]).run P w= .ok (I n) w:=by
  simp[Builtin.len_,run_underlying ts.h,goInt]
 exact X9 h
theorem X2g {b e t:TypeId} {cs:List Bool} [ts:TS P b e] (h:Sl sz R σ v xs):X3 P .len [b] t cs [v] w K=K (I xs.length) w:=by
 obtain ⟨a,c,rfl,_⟩:=h
 exact Q1r
theorem X3A {t e:TypeId} {c:Nat} {z:Value} [TS P t e] [TZ P e sz c z] (h:Sl sz R σ v xs) {k:IntKind} {i:Int} (p:0≤i) (n:i.toNat<xs.length)
 (m: ∀a cs,Z4 σ a cs→cs.length=sz→R σ xs[i.toNat] cs→K (.pointer (some a)) w):indexAddr P t v (.int k i) w K:=by
 obtain ⟨a,d,rfl,q,r,f,o⟩:=h
 cases a with
 | none=>have:=f rfl;omega
 | some b=>
  rw[Ro p (by omega)]
  obtain ⟨cs,g,j,l⟩:=(o b rfl).2 i.toNat xs[i.toNat] (by simp[n])
  exact m _ cs g j l
end
theorem Stp.turn {σ0 σ:Q5} {row:Option Nat} (b:w.grownBy w' row) (a:Stp w0 σ0 w σ) (f: ∀k,row=some k→w0.heap.size≤k∧σ k=none):Stp w0 σ0 w' σ:=by
 refine ⟨⟨b.os.trans a.bel.os,b.tape.trans a.bel.tape,b.output.trans a.bel.output,Nat.le_trans a.bel.size b.size,fun k d=>?_⟩,?_,a.le,a.old⟩
 ·refine (b.block k (Nat.lt_of_lt_of_le d a.bel.size) ?_).trans (a.bel.block k d)
  intro e;have:=(f k e.symm).1;omega
 ·intro k o c
  refine (b.block k (a.sat.lt c) ?_).trans (a.sat k o c)
  intro e;rw[(f k e.symm).2] at c;cases c
theorem Y1.turn {σ:Q5} {row:Option Nat} {k:Nat} {cs:List Value} (h:Y1 σ w k cs) (b:w.grownBy w' row) (a:some k≠row):Y1 σ w' k cs:=by
 have f:=h.lt
 obtain ⟨c,e,d⟩:=h
 exact ⟨c,e,(b.block k f a).trans d⟩
def V5 {α:Type} (B:Nat) (e:TypeId) (sz:Nat) (R:Q5→α→List Value→Prop) (σ:Q5) (w:World) (v:Value) (xs:List α):Prop:=
 ∃cells,w.ownsRow B e sz v xs.length cells∧(∀k,v.ownBlock=some k→σ k=none)∧ ∀i x,xs[i]? =some x→R σ x ((cells.drop (i*sz)).take sz)
section
variable {α : Type} {R : Q5 → α → List Value → Prop} {B sz : Nat} {e : TypeId} {σ σ' : Q5} {v u : Value} {xs ys : List α}
theorem V5.nil:V5 B e sz R σ w (.slice none 0 0) ([]:List α):=⟨[],World.ownsRow_nil w B e sz,by intro k a;simp[Value.ownBlock] at a,by intro i x h;simp at h⟩
theorem V5.mem (h:V5 B e sz R σ w v xs): ∀k,v.ownBlock=some k→B≤k∧k<w.heap.size∧σ k=none:=by
 obtain ⟨cells,d,f,_⟩:=h
 intro k c
 obtain ⟨a,b⟩:=d.lt k c
 exact ⟨a,b,f k c⟩
theorem V5.up [hr:Rep R] (h:V5 B e sz R σ w v xs) (a:Stp w σ w' σ'):V5 B e sz R σ' w' v xs:=by
 obtain ⟨cells,c,g,j⟩:=h
 refine ⟨cells,c.kept ⟨a.bel.os,a.bel.tape,a.bel.output,a.bel.size,fun k f _=>a.bel.block k f⟩ (by cases b:v.ownBlock<;>simp) (row:=none),?_,fun i x d=>hr.up a.le (j i x d)⟩
 intro k b
 rw[a.old k (c.lt k b).2];exact g k b
theorem Sl.cells (h:Sl sz R σ v xs) (E:X2 w σ) [hr:Rep R]: ∃(a:Option Addr) (d:Nat) (c:List Value),v= .slice a xs.length d∧(a=none→d=0)∧c.length=xs.length*sz∧(∀b,a=some b→ ∀j u,c[j]? =some u→w.cell? (b.add j)=some u)∧(∀u∈c,u.oneCell'=true)∧
 ∀i x,xs[i]? =some x→R σ x ((c.drop (i*sz)).take sz):=by
 obtain ⟨a,d,rfl,L,M,o,A⟩:=h
 cases a with
 | none=>
  have Q:=o rfl
  have f:xs=[]:=List.eq_nil_of_length_eq_zero (by omega)
  subst f
  exact ⟨none,d,[],rfl,o,by simp,fun b J=>(by cases J),by simp,by simp⟩
 | some b=>
  obtain ⟨C,l⟩:=A b rfl
  clear A
  have key: ∀(ys:List α) (k:Nat),(∀i x,ys[i]? =some x→ ∃cs,Z4 σ (b.add ((k+i)*sz)) cs∧cs.length=sz∧R σ x cs)→
   ∃c:List Value,c.length=ys.length*sz∧(∀j u,c[j]? =some u→w.cell? (b.add (k*sz+j))=some u)∧(∀u∈c,u.oneCell'=true)∧ ∀i x,ys[i]? =some x→R σ x ((c.drop (i*sz)).take sz):=by
   intro ys
   induction ys with
   | nil=>intro k _;exact ⟨[],by simp,by simp,by simp,by simp⟩
   | cons y r H=>
    intro k s
    obtain ⟨cs,D,t,z⟩:=s 0 y rfl
    obtain ⟨c,p,m,n,g⟩:=H (k+1) (fun i x f=>by
     have:=s (i+1) x (by simpa using f)
     rwa [show k+1+i=k+(i+1) by omega])
    refine ⟨cs++c,by simp[p,t,Nat.add_mul,Nat.add_comm],?_,?_,?_⟩
    ·intro j u hu
     by_cases O:j<sz
     ·rw[List.getElem?_append_left (by omega)] at hu
      have:=D.cell E hu
      rwa [Q3C,Nat.add_zero] at this
     ·rw[List.getElem?_append_right (by omega)] at hu
      have:=m _ _ hu
      rwa [t,show (k+1)*sz+(j-sz)=k*sz+j by rw[Nat.add_mul];omega] at this
    ·intro u hu
     rcases List.mem_append.1 hu with hu | hu
     ·exact hr.one z u hu
     ·exact n u hu
    ·intro i x f
     cases i with
     | zero=>
      simp at f;subst f
      simp only[Nat.zero_mul,List.drop_zero]
      rw[List.take_append_of_le_length (by omega),List.take_of_length_le (by omega)];exact z
     | succ i=>
      have:=g i x (by simpa using f)
      rw[show (i+1)*sz=cs.length+i*sz by rw[Nat.add_mul];omega,List.drop_append]
      simpa [List.drop_eq_nil_of_le] using this
  obtain ⟨c,p,m,n,g⟩:=key xs 0 (fun i x f=>by rw[Nat.zero_add];exact l i x f)
  refine ⟨some b,d,c,rfl,o,p,?_,n,g⟩
  intro N q j u hu
  cases q
  have:=m j u hu
  rwa [Nat.zero_mul,Nat.zero_add] at this
end
section
variable {α : Type} {R : Q5 → α → List Value → Prop} {sz : Nat} {e : TypeId} {σ σ0 : Q5} {v u : Value} {xs ys : List α}
theorem Wj (cells a:List Value) (n i:Nat) (c:cells.length=n*sz) (b:i<n):((cells++a).drop (i*sz)).take sz=(cells.drop (i*sz)).take sz:=by
 have h:i*sz+sz≤n*sz:=by rw[←Nat.succ_mul];exact Nat.mul_le_mul_right _ b
 rw[List.drop_append_of_le_length (by omega),List.take_append_of_le_length (by simp only[List.length_drop];omega)]
theorem app {t A:TypeId} {p:Nat} {z:Value} {cs:List Bool} [ts:TS P t e] [tz:TZ P e sz p z] [hr:Rep R] (D:Stp w0 σ0 w σ) (Y:V5 w0.heap.size e sz R σ w v xs) (O:Sl sz R σ u ys) (L:(z.cells.size==sz&&decide (0<sz))=true)
 (hb:(xs.length+ys.length)*p≤140737488355328) (hm:xs.length+ys.length≤9223372036854775807)
 (h: ∀f w',w.grownBy w' v.ownBlock→Stp w0 σ0 w' σ→V5 w0.heap.size e sz R σ w' f (xs++ys)→(f.ownBlock=v.ownBlock∨ ∀k,f.ownBlock=some k→w.heap.size≤k)→K f w'):X3 P .append [t,t] A cs [v,u] w K:=by
 obtain ⟨cells,s,Q,h3⟩:=Y
 obtain ⟨a,l,c,rfl,X,U,n3,Z,n5⟩:=O.cells D.sat
 obtain ⟨i,H,E,J,q⟩:=tz.info
 have r: ∀f w',(Builtin.append_ #[t,t] A #[v, .slice a ys.length l]).run P w= .ok f w'→w'.ownsRow w0.heap.size e sz f (xs.length+ys.length) (cells++c)→w.grownBy w' v.ownBlock→(f.ownBlock=v.ownBlock∨f.ownBlock=some w.heap.size)→X3 P .append [t,t] A cs [v, .slice a ys.length l] w K:=by
  intro f w' y d m hat
  have o:(builtin .append #[t,t] A cs.toArray #[v, .slice a ys.length l]).run P w= .ok (.value f) w':=by
   simp[builtin,y]
  unfold X3
  rw[T9];unfold P5
  rw[o]
  refine h f w' m (Stp.turn m D fun k n=>⟨(s.lt k n).1,Q k n⟩) ⟨cells++c,by rw[List.length_append];exact d,?_,?_⟩ ?_
  ·intro k n
   rcases hat with hat | hat
   ·exact Q k (hat▸n)
   ·rw[hat] at n;cases n;exact D.sat.none (Nat.le_refl _)
  ·intro j x C
   by_cases W:j<xs.length
   ·rw[List.getElem?_append_left W] at C
    rw[Wj cells c xs.length j s.1 W]
    exact h3 j x C
   ·rw[List.getElem?_append_right (by omega)] at C
    have:=n5 _ _ C
    rw[show j*sz=cells.length+(j-xs.length)*sz by rw[s.1,←Nat.add_mul];congr 1;omega,List.drop_append]
    simpa [List.drop_eq_nil_of_le] using this
  ·rcases hat with hat | hat
   ·exact .inl hat
   ·right;intro k n;rw[hat] at n;cases n;exact Nat.le_refl _
 simp only[Bool.and_eq_true,beq_iff_eq,decide_eq_true_eq] at L
 cases a with
 | some b=>
  obtain ⟨f,w',g1,g2,g3,_,g5⟩:=run_append_own_at (P:=P) w w0.heap.size t A e i z sz p ts.h H q E J L.1 L.2 v xs.length cells s b ys.length l c U (n3 b rfl) Z (by simp only[maxLen];omega) hb D.bel.size
  exact r f w' g1 g2 g3 g5
 | none=>
  have hy:ys=[]:=List.eq_nil_of_length_eq_zero (by obtain ⟨a',V,e',q1,_,q3,_⟩:=O;injection e' with _ e2 e3;have:=X rfl;subst e3;omega)
  have M:=X rfl
  subst hy M
  have hn:c=[]:=List.eq_nil_of_length_eq_zero (by simpa using U)
  subst hn
  have d:=s
  rcases s.2 with ⟨rfl,h0⟩ | ⟨g,l,ai,rfl,ab,hg,N,_⟩
  ·refine r (.slice none 0 0) w ?_ (by simpa using d) (World.grownBy.refl w _) (.inl rfl)
   simp[Builtin.append_,run_underlying ts.h,sizeOf,typeInfo,H,Builtin.lenOf,Builtin.firstCells]
  ·refine r _ w ?_ (by simpa using d) (World.grownBy.refl w _) (.inl rfl)
   simp[Builtin.append_,run_underlying ts.h,sizeOf,typeInfo,H,Builtin.lenOf,Builtin.firstCells,N,storeCells]
end
section
variable {α : Type} {R : Q5 → α → List Value → Prop} {sz : Nat} {e : TypeId} {σ σ0 : Q5} {v u : Value} {xs ys : List α}
theorem Q5.put_le {w:World} (d:X2 w σ) {b:Nat} (h:σ b=none) (o:Obj): ∀k p,σ k=some p→(σ.put b o) k=some p:=by
 intro k p c
 by_cases a:k=b
 ·subst a;rw[h] at c;cases c
 ·simp only[Q5.put,if_neg a];exact c
theorem Stp.put {b:Nat} {o:Obj} (d:Stp w0 σ0 w σ) (f:σ b=none) (h:w0.heap.size≤b) (g:w.heap[b]? =some o):Stp w0 σ0 w (σ.put b o):=by
 refine ⟨d.bel,?_,fun k p a=>Q5.put_le d.sat f o k p (d.le k p a),?_⟩
 ·intro k p a
  by_cases c:k=b
  ·subst c;simp only[Q5.put,if_true] at a;cases a;exact g
  ·simp only[Q5.put,if_neg c] at a;exact d.sat k p a
 ·intro k a
  simp only[Q5.put];rw[if_neg (by omega)];exact d.old k a
theorem V5.keep [hr:Rep R] (h:V5 w0.heap.size e sz R σ w v xs) (q:Stp w0 σ0 w σ): ∃σ',Stp w0 σ0 w σ'∧Sl sz R σ' v xs∧(∀k o,σ k=some o→σ' k=some o)∧(∀k,some k≠v.ownBlock→σ' k=σ k):=by
 obtain ⟨cells,s,z,A⟩:=h
 rcases s.2 with ⟨rfl,J⟩ | ⟨g,l,d,rfl,H,y,p,f,C,m⟩
 ·have:xs=[]:=List.eq_nil_of_length_eq_zero J
  subst this
  exact ⟨σ,q,Sl.nil,fun _ _ h=>h,fun _ _=>rfl⟩
 ·have r:=z g rfl
  have a:=Q5.put_le q.sat r (.cells d e (0,0))
  refine ⟨σ.put g (.cells d e (0,0)),q.put r H y,⟨_,l,rfl,p,f,by simp,?_⟩,a,?_⟩
  ·intro b n
   cases n
   refine ⟨fun _=>rfl,fun i x t=>⟨(cells.drop (i*sz)).take sz,⟨I1 rfl _,d,e,(0,0),by rw[R9];simp[Q5.put],?_⟩,?_,hr.up a (A i x t)⟩⟩
   ·intro j u c
    rw[A7]
    rw[List.getElem?_take] at c
    split at c
    ·rw[List.getElem?_drop,←m,List.getElem?_take] at c
     split at c
     ·simpa using c
     ·cases c
    ·cases c
   ·have D:i<xs.length:=(List.getElem?_eq_some_iff.1 t).1
    have h:i*sz+sz≤xs.length*sz:=by rw[←Nat.succ_mul];exact Nat.mul_le_mul_right _ D
    rw[List.length_take,List.length_drop,s.1];omega
  ·intro k E
   have:k≠g:=by intro e;subst e;exact E rfl
   simp only[Q5.put,if_neg this]
theorem Sl.piece {a:Option Addr} {n d:Nat} (h:Sl sz R σ (.slice a n d) xs) (l m:Nat) (O:l+m≤xs.length):Sl sz R σ (.slice (if d=l then a else a.map (·.add (l*sz))) m (d-l)) ((xs.drop l).take m):=by
 obtain ⟨N,o,y,L,M,t,p⟩:=h
 injection y with r s E
 subst r s E
 have c:((xs.drop l).take m).length=m:=by simp;omega
 refine ⟨_,d-l,by rw[c],by rw[c];omega,by omega,?_,?_⟩
 ·intro q
  split at q
  ·omega
  ·cases a with
   | none=>have:=t rfl;omega
   | some b=>simp at q
 ·intro b g
  split at g
  ·rename_i H
   obtain ⟨k,j⟩:=p b g
   have J:m=0:=by omega
   subst J
   exact ⟨fun h=>by simp at h,by simp⟩
  ·cases a with
   | none=>simp at g
   | some C=>
    simp only[Option.map_some,Option.some.injEq] at g
    obtain ⟨k,j⟩:=p C rfl
    subst g
    refine ⟨fun h=>I1 (k (by rw[c] at h;omega)) _,fun i x f=>?_⟩
    rw[List.getElem?_take] at f
    split at f
    ·rw[List.getElem?_drop] at f
     obtain ⟨cs,z,A,D⟩:=j _ _ f
     refine ⟨cs,?_,A,D⟩
     rw[Q3C,←Nat.add_mul];exact z
    ·cases f
theorem Dq {t:TypeId} {i:Nat} {z:Value} [ts:TS P t e] [tz:TZ P e sz i z] (h:Sl sz R σ v xs) (c d:Option Value) (l m:Nat) (f:c=none∧l=0∨c=some (I l)) (j:d=none∧m=xs.length∨d=some (I m)) (g:l≤m) (C:m≤xs.length)
 (n: ∀k,Sl sz R σ k ((xs.drop l).take (m-l))→K k w):R2 P t v c d none w K:=by
 have p:=h
 obtain ⟨a,b,rfl,q,r,s,A⟩:=h
 have hh: ∀w:World,(Instr.sliceBounds true xs.length b c d none).run P w= .ok (l,m,b) w:=by
  intro w
  have D:(m:Int)≤b:=by omega
  have y:(l:Int)≤m:=by omega
  have o:m≤b:=by omega
  rcases f with ⟨rfl,rfl⟩ | rfl<;>rcases j with ⟨rfl,rfl⟩ | rfl<;>
   simp[Instr.sliceBounds,Instr.sliceBound,asIntOf,o,g]<;>intros<;>omega
 unfold R2
 have:(Instr.sliceAt t (.slice a xs.length b) c d none).run P w= .ok (.slice (if b=l then a else a.map (·.add (l*sz))) (m-l) (b-l)) w:=by
  simp[Instr.sliceAt,run_underlying ts.h,Instr.slice,hh,L2 tz]
 rw[X9 this]
 exact n _ (p.piece l (m-l) (by omega))
def en:Nat→List Value→List (Nat×Value)
 | _,[]=>[]
 | i,v::r=>(i,v)::en (i+1) r
theorem Q8S (off:Nat): ∀(vs:List Value) (k:Nat) (cs:Array Value),off+k+vs.length≤cs.size→
 ((vs.zipIdx k).foldl (fun cs (p:Value×Nat)=>cs.setIfInBounds (off+p.2) p.1) cs).toList=cs.toList.take (off+k)++vs++cs.toList.drop (off+k+vs.length):=by
 intro vs
 induction vs with
 | nil=>intro k cs _;simp
 | cons v r ih=>
  intro k cs h
  simp only[List.length_cons] at h
  rw[List.zipIdx_cons,List.foldl_cons,ih (k+1) _ (by simp;omega)]
  simp only[Array.toList_setIfInBounds,List.length_cons]
  apply List.ext_getElem?
  intro i
  simp only[List.getElem?_append,List.length_take,List.length_set,Array.length_toList,List.getElem?_take,List.getElem?_drop,List.length_append,List.getElem?_set,List.length_cons]
  rcases Nat.lt_trichotomy i (off+k) with hi | hi | hi
  ·simp[show i<off+(k+1) by omega,hi,show i<min (off+(k+1)) cs.size by omega,show i<min (off+(k+1)) cs.size+r.length by omega,show i<min (off+k) cs.size by omega,show i<min (off+k) cs.size+(r.length+1) by omega,show off+k≠i by omega]
  ·subst hi
   simp[show off+k<off+(k+1) by omega,show off+k<min (off+(k+1)) cs.size by omega,show off+k<min (off+(k+1)) cs.size+r.length by omega,show¬off+k<min (off+k) cs.size by omega,show off+k<min (off+k) cs.size+(r.length+1) by omega,show off+k<cs.size by omega,show off+k-min (off+k) cs.size=0 by omega]
  ·by_cases h2:i<off+(k+1)+r.length
   ·simp[show¬i<min (off+(k+1)) cs.size by omega,show i<min (off+(k+1)) cs.size+r.length by omega,show¬i<min (off+k) cs.size by omega,show i<min (off+k) cs.size+(r.length+1) by omega,show i-min (off+k) cs.size=(i-min (off+(k+1)) cs.size)+1 by omega]
   ·simp only[show¬i<min (off+(k+1)) cs.size+r.length by omega,show¬i<min (off+k) cs.size+(r.length+1) by omega,if_false]
    rw[show off+(k+1)+r.length+(i-(min (off+(k+1)) cs.size+r.length))=i by omega,show off+k+(r.length+1)+(i-(min (off+k) cs.size+(r.length+1)))=i by omega,if_neg (by omega)]
theorem Q6U (sz:Nat): ∀(vs:List Value) (i:Nat) (cs:Array Value),(i+vs.length)*sz≤cs.size→(∀v∈vs,v.cells.size=sz)→
 ∃cs',Instr.fill (fun i=>some (i*sz,sz)) cs (en i vs)=some cs'∧cs'.toList=cs.toList.take (i*sz)++vs.flatMap (·.cells.toList)++cs.toList.drop ((i+vs.length)*sz):=by
 intro vs
 induction vs with
 | nil=>intro i cs _ _;exact ⟨cs,rfl,by simp⟩
 | cons v r ih=>
  intro i cs h hv
  have hv0:=hv v (by simp)
  simp only[List.length_cons] at h
  have h1:i*sz+sz≤cs.size:=by
   have:(i+1)*sz≤(i+(r.length+1))*sz:=Nat.mul_le_mul_right _ (by omega)
   rw[Nat.succ_mul] at this;omega
  have hset:=Q8S (i*sz) v.cells.toList 0 cs (by simp;omega)
  simp only[Nat.add_zero] at hset
  have e1:v.cells.zipIdx.foldl (fun cs (p:Value×Nat)=>cs.setIfInBounds (i*sz+p.2) p.1) cs=(v.cells.toList.zipIdx 0).foldl (fun cs (p:Value×Nat)=>cs.setIfInBounds (i*sz+p.2) p.1) cs:=by
   rw[←Array.foldl_toList,Array.toList_zipIdx]
  have hsz':((v.cells.toList.zipIdx 0).foldl (fun cs (p:Value×Nat)=>cs.setIfInBounds (i*sz+p.2) p.1) cs).size=cs.size:=by
   rw[←Array.length_toList,hset]
   simp;omega
  obtain ⟨cs',q1,q2⟩:=ih (i+1) _ (by rw[hsz'];rw[show i+1+r.length=i+(r.length+1) by omega];exact h) (fun u hu=>hv u (by simp[hu]))
  refine ⟨cs',?_,?_⟩
  ·simp only[en,Instr.fill]
   rw[if_neg (by simp[hv0];omega)]
   rw[e1];exact q1
  ·rw[q2,hset]
   simp only[List.flatMap_cons,List.length_cons,Array.length_toList,hv0]
   have e2:(i+1)*sz=i*sz+sz:=by rw[Nat.succ_mul]
   have e3:(i+(r.length+1))*sz=i*sz+sz+r.length*sz:=by rw[Nat.add_mul,Nat.succ_mul];omega
   have e4:(i+1+r.length)*sz=i*sz+sz+r.length*sz:=by rw[Nat.add_mul,Nat.succ_mul]
   rw[e2,e3,e4]
   have t1:(cs.toList.take (i*sz)).length=i*sz:=by simp;omega
   have t2:(cs.toList.take (i*sz)++v.cells.toList).length=i*sz+sz:=by rw[List.length_append,t1];simp[hv0]
   have k1: ∀C:List Value,(cs.toList.take (i*sz)++v.cells.toList++C).take (i*sz+sz)=cs.toList.take (i*sz)++v.cells.toList:=by
    intro C
    rw[List.take_append_of_le_length (by omega),List.take_of_length_le (by omega)]
   have k2: ∀(C:List Value) (n:Nat),(cs.toList.take (i*sz)++v.cells.toList++C).drop (i*sz+sz+n)=C.drop n:=by
    intro C n
    rw[List.drop_append,t2,List.drop_eq_nil_of_le (by omega),List.nil_append]
    congr 1;omega
   rw[k1,k2,List.drop_drop]
   simp only[List.append_assoc]
theorem Hf {t:TypeId} {by_:Nat} {z:Value} [ts:TS P t e] [tz:TZ P e sz by_ z] (vs:List Value) (hv: ∀v∈vs,v.cells.size=sz) (hsm:vs.length*sz≤16777216) (w:World):
 ∃cells:Array Value,(Instr.buildSlice t vs.length (en 0 vs).toArray).run P w= .ok (.slice (some ⟨w.heap.size,0,none⟩) vs.length vs.length) (w.alloc (.cells cells e))∧cells.toList=vs.flatMap (·.cells.toList):=by
 have h2: ¬vs.length*sz>2 ^ 24:=by omega
 by_cases h:vs.length*sz=0
 ·obtain ⟨cells,hf,hl⟩:=Q6U sz vs 0 ((Array.range (vs.length*sz)).map ((#[]:Array Value)[· % (#[]:Array Value).size]!)) (by simp) hv
  refine ⟨cells,?_,by rw[hl];simp⟩
  simp only[Instr.buildSlice,Sem.run_bind,run_underlying ts.h,Result.andThen_ok,L2 tz,if_neg h2,if_pos h,Sem.run_pure,hf]
  simp[newRow]
 ·obtain ⟨cells,hf,hl⟩:=Q6U sz vs 0 ((Array.range (vs.length*sz)).map (z.cells[· % z.cells.size]!)) (by simp) hv
  refine ⟨cells,?_,by rw[hl];simp⟩
  simp only[Instr.buildSlice,Sem.run_bind,run_underlying ts.h,Result.andThen_ok,L2 tz,if_neg h2,if_neg h,Sem.run_pure,Zf tz,hf]
  simp[newRow]
theorem Q8r {vs:List Value} (d: ∀v∈vs,v.cells.size=sz) (i:Nat) (v:Value) (h:vs[i]? =some v):((vs.flatMap (·.cells.toList)).drop (i*sz)).take sz=v.cells.toList:=by
 induction vs generalizing i with
 | nil=>simp at h
 | cons a r f=>
  have b:=d a (by simp)
  cases i with
  | zero=>
   simp at h;subst h
   rw[List.flatMap_cons,Nat.zero_mul,List.drop_zero,List.take_append_of_le_length (by simp[b]),List.take_of_length_le (by simp[b])]
  | succ i=>
   rw[List.flatMap_cons,Nat.succ_mul,List.drop_append,List.drop_eq_nil_of_le (by simp[b]),List.nil_append]
   rw[show i*sz+sz-a.cells.toList.length=i*sz by simp[b]]
   exact f (fun v c=>d v (by simp[c])) i (by simpa using h)
theorem Q2d {vs:List Value} (b: ∀v∈vs,v.cells.size=sz):(vs.flatMap (·.cells.toList)).length=vs.length*sz:=by
 induction vs with
 | nil=>simp
 | cons a r c=>
  rw[List.flatMap_cons,List.length_append,c (fun v h=>b v (by simp[h]))]
  simp[b a (by simp),Nat.succ_mul,Nat.add_comm]
def Q0a (R:Q5→α→List Value→Prop) (σ:Q5):List Value→List α→Prop
 | [],[]=>True
 | v::vs,x::xs=>R σ x v.cells.toList∧Q0a R σ vs xs
 | _,_=>False
theorem Q0a.len {vs:List Value} (h:Q0a R σ vs xs):vs.length=xs.length:=by
 induction vs generalizing xs with
 | nil=>cases xs with
  | nil=>rfl
  | cons=>exact h.elim
 | cons v r a=>cases xs with
  | nil=>exact h.elim
  | cons x y=>simp[a h.2]
theorem Q0a.get {vs:List Value} (h:Q0a R σ vs xs) {i:Nat} {x:α} (a:xs[i]? =some x): ∃v,vs[i]? =some v∧R σ x v.cells.toList:=by
 induction vs generalizing xs i with
 | nil=>cases xs with
  | nil=>simp at a
  | cons=>exact h.elim
 | cons v r c=>cases xs with
  | nil=>exact h.elim
  | cons y ys=>
   cases i with
   | zero=>simp at a;subst a;exact ⟨v,rfl,h.1⟩
   | succ i=>obtain ⟨u,d,b⟩:=c h.2 (i:=i) (by simpa using a);exact ⟨u,by simpa using d,b⟩
theorem Yu {t:TypeId} {l:Nat} {z:Value} {n:Nat} {a:List (Nat×Value)} [ts:TS P t e] [tz:TZ P e sz l z] (m:Stp w0 σ0 w σ) (vs:List Value) (xs:List α) (A:n=vs.length) (s:a=en 0 vs) (c: ∀v∈vs,v.cells.size=sz) (b:(decide (0<sz)&&decide (vs.length*sz≤16777216))=true) (o:Q0a R σ vs xs)
 (h: ∀v w',Stp w σ w' σ→V5 w0.heap.size e sz R σ w' v xs→(∀k,v.ownBlock=some k→w.heap.size≤k)→K v w'):buildSlice P t n a w K:=by
 subst A s
 simp only[Bool.and_eq_true,decide_eq_true_eq] at b
 obtain ⟨g,b⟩:=b
 obtain ⟨cells,r,d⟩:=Hf (P:=P) (t:=t) vs c b w
 unfold buildSlice
 rw[X9 r]
 have f:=o.len
 refine h _ _ (Stp.own m.sat _) ⟨cells.toList,⟨by rw[d,Q2d c,f], .inr ⟨_,_,cells,by rw[f],m.bel.size,heap_alloc_new w _,by omega,?_,?_,?_⟩⟩,?_,?_⟩ ?_
 ·simp only[maxLen]
  have:vs.length*1≤vs.length*sz:=Nat.mul_le_mul_left _ g
  omega
 ·rw[←Array.length_toList,d,Q2d c,f]
 ·rw[List.take_of_length_le (by rw[d,Q2d c,f];exact Nat.le_refl _)]
 ·intro k j;cases j;exact m.sat.none (Nat.le_refl _)
 ·intro i x y
  obtain ⟨v,q,p⟩:=o.get y
  rw[d,Q8r c i v q];exact p
 ·intro k j;cases j;exact Nat.le_refl _
theorem P6 [Rep R] {t:TypeId} {c:Nat} {z:Value} {n:Nat} {a:List (Nat×Value)} [ts:TS P t e] [tz:TZ P e sz c z] (j:X2 w σ) (vs:List Value) (xs:List α) (o:n=vs.length) (l:a=en 0 vs) (m: ∀v∈vs,v.cells.size=sz) (b:(decide (0<sz)&&decide (vs.length*sz≤16777216))=true) (g:Q0a R σ vs xs)
 (h: ∀v w' σ',Stp w σ w' σ'→Sl sz R σ' v xs→K v w'):buildSlice P t n a w K:=by
 refine Yu (Stp.refl j) vs xs o l m b g fun v w' k d _=>?_
 obtain ⟨σ',f,i,_⟩:=d.keep k
 exact h v w' σ' f i
theorem X1J {t:TypeId} {k a:Nat} {c:TypeId} [tf:TF P t k a c] [tg:TG P c false] {cs:Array Value} {v:Value} (l:cs[a]? =some v):G1 P t (.agg cs) k w K=K v w:=by
 unfold G1
 have hh:=tf.h
 unfold Q3x at hh
 split at hh
 ·rename_i m g
  obtain ⟨f,d,b⟩:=Option.map_eq_some_iff.1 hh
  simp only[Prod.mk.injEq] at b
  obtain ⟨i,j⟩:=b
  subst j i
  exact X9 (by simp[Instr.field,run_underlying g,d,asAgg,part,Xu tg,l])
 ·cases hh
theorem A9 {f:Fn} {first caps:List Value}:E8 P f first caps w K=K (.func f first.toArray caps.toArray) w:=X9 (by simp[Instr.makeFunc])
theorem W1 {t:TypeId} {a:List (Nat×Value)} {cells:Array Value} (h:P.built t a=some cells) (b:K (.agg cells) w):H1 P t a w K:=by
 unfold H1
 rw[X9 (run_build w t a.toArray cells h)];exact b
end
def H0 (o:Option Obj) (m:List (List UInt8×Value)):Prop:=
 ∃b a,o=some (.map b a)∧b.toList.map (fun e=>(e.key,e.val))=m.map (fun p=>(S p.1,p.2))∧(b.toList.map (·.born)).Pairwise (· < ·)∧ ∀e∈b.toList,e.born<a
def S8 (m:List (List UInt8×Value)) (k:List UInt8):Option Value:=match m with
 | []=>none
 | p::r=>if p.1=k then some p.2 else S8 r k
def Wn (m:List (List UInt8×Value)) (k:List UInt8) (v:Value):List (List UInt8×Value):=match m with
 | []=>[(k,v)]
 | p::r=>if p.1=k then (k,v)::r else p::Wn r k v
theorem Eb (a b:List UInt8):((⟨a.toArray⟩:ByteArray)==⟨b.toArray⟩)=decide (a=b):=by
 rw[←Q3t]
 show (a.toArray==b.toArray)=_
 simp
theorem Ba (k:List UInt8): ∀(c:List MapEntry) (m:List (List UInt8×Value)) (i:Nat),c.map (fun e=>(e.key,e.val))=m.map (fun p=>(S p.1,p.2))→
 ∃r,Instr.findNow .string (S k) c i=some r∧r.map (·.2)=S8 m k∧(∀j v,r=some (j,v)→i≤j∧(∃e,c[j-i]? =some e∧e.key=S k)∧ ∀u,(c.modify (j-i) fun e=>{e with key:=S k,val:=u}).map (fun e=>(e.key,e.val))=(Wn m k u).map (fun p=>(S p.1,p.2)))∧
  (r=none→ ∀u,Wn m k u=m++[(k,u)]):=by
 intro c
 induction c with
 | nil=>
  intro m i h
  cases m with
  | nil=>exact ⟨none,rfl,rfl,(by simp),fun _ u=>rfl⟩
  | cons=>simp at h
 | cons e r s=>
  intro m i h
  cases m with
  | nil=>simp at h
  | cons p q=>
   simp only[List.map_cons,List.cons.injEq,Prod.mk.injEq] at h
   obtain ⟨⟨f,g⟩,l⟩:=h
   simp only[Instr.findNow,f,Instr.sameNow,Eb]
   by_cases a:p.1=k
   ·have d:decide (k=p.1)=true:=by simp[a]
    simp only[d]
    refine ⟨_,rfl,by simp[S8,a,g],?_,by simp⟩
    intro j v b
    cases b
    refine ⟨Nat.le_refl _,⟨e,by simp,by rw[f,a]⟩,fun u=>?_⟩
    simp[Wn,a,l]
   ·have d:decide (k=p.1)=false:=by simp;exact fun e=>a e.symm
    simp only[d]
    obtain ⟨A,t,o,n,C⟩:=s q (i+1) l
    refine ⟨A,t,by simp[S8,a,o],?_,?_⟩
    ·intro j v b
     obtain ⟨E,z,D⟩:=n j v b
     refine ⟨by omega,by rw[show j-i=(j-(i+1))+1 by omega];simpa using z,fun u=>?_⟩
     have:=D u
     rw[show j-i=(j-(i+1))+1 by omega]
     simp[Wn,a,f,g,this]
    ·intro y u
     simp[Wn,a,C y u]
theorem G8 {t:TypeId} (a:P.underlying t=some .string) (b:Bool) (k:List UInt8) (w:World):(Instr.checkKey b 10000 t (S k)).run P w= .ok () w:=by
 unfold Instr.checkKey
 simp[run_underlying a]
theorem Q2x {t g f:TypeId} {sz d:Nat} {z:Value} [tm:TM P t g f] [tz:TZ P f sz d z] (b:P.underlying g=some .string) {r:Nat} {m:List (List UInt8×Value)} (s:H0 (w.heap[r]?) m) (k:List UInt8):
 lookup P t (.map (some r)) (S k) true w K=K (match S8 m k with | some v=> .tuple #[v, .bool true] | none=> .tuple #[z, .bool false]) w:=by
 obtain ⟨i,a,o,n,y,A⟩:=s
 obtain ⟨q,j,c,C,D⟩:=Ba k i.toList m 0 n
 unfold lookup
 refine X9 ?_
 simp only[Instr.lookup,Sem.run_bind,run_underlying tm.h,Result.andThen_ok,Instr.findKey,run_underlying b,j,G8 b]
 have l:(getObj r).run P w= .ok (.map i a) w:=by simp[getObj,Sem.run,o]
 simp only[l,Result.andThen_ok,Sem.run_bind,Sem.run_pure,G8 b,run_underlying b,j]
 cases q with
 | none=>simp at c;rw[←c];simp[Zf tz]
 | some p=>simp at c;rw[←c];simp
theorem Q4q {t f d:TypeId} {sz c:Nat} {z:Value} [tm:TM P t f d] [tz:TZ P d sz c z] (i:P.underlying f=some .string) {r:Nat} {m:List (List UInt8×Value)} (s:H0 (w.heap[r]?) m) (k:List UInt8):
 lookup P t (.map (some r)) (S k) false w K=K ((S8 m k).getD z) w:=by
 obtain ⟨g,a,o,l,y,A⟩:=s
 obtain ⟨q,n,b,C,D⟩:=Ba k g.toList m 0 l
 unfold lookup
 refine X9 ?_
 have j:(getObj r).run P w= .ok (.map g a) w:=by simp[getObj,Sem.run,o]
 simp only[Instr.lookup,Sem.run_bind,run_underlying tm.h,Result.andThen_ok,Instr.findKey,run_underlying i,n,G8 i,j,Sem.run_pure]
 cases q with
 | none=>simp at b;rw[←b];simp[Zf tz]
 | some p=>simp at b;rw[←b];simp
def C2 (σ:Q5) (w:World) (r:Nat) (m:List (List UInt8×Value)):Prop:=σ r=none∧H0 (w.heap[r]?) m
def Xd (σ:Q5) (r:Nat) (m:List (List UInt8×Value)):Prop:=H0 (σ r) m
theorem Xd.is {σ:Q5} {r:Nat} {m:List (List UInt8×Value)} (h:Xd σ r m) (d:X2 w σ):H0 (w.heap[r]?) m:=by
 obtain ⟨f,a,b,c⟩:=h
 exact ⟨f,a,d _ _ b,c⟩
theorem Xd.le {σ σ':Q5} {r:Nat} {m:List (List UInt8×Value)} (h:Xd σ r m) (c: ∀b o,σ b=some o→σ' b=some o):Xd σ' r m:=by
 obtain ⟨g,a,d,f⟩:=h
 exact ⟨g,a,c _ _ d,f⟩
theorem Xd.up {σ σ':Q5} {r:Nat} {m:List (List UInt8×Value)} (h:Xd σ r m) (a:Stp w σ w' σ'):Xd σ' r m:=h.le a.le
theorem C2.lt {σ:Q5} {r:Nat} {m:List (List UInt8×Value)} (h:C2 σ w r m):r<w.heap.size:=by
 obtain ⟨_,c,a,b,_⟩:=h
 exact (Array.getElem?_eq_some_iff.1 b).1
theorem C2.up {σ σ':Q5} {r:Nat} {m:List (List UInt8×Value)} (h:C2 σ w r m) (a:Stp w σ w' σ'):C2 σ' w' r m:=by
 have b:=h.lt
 exact ⟨(a.old r b).trans h.1,(a.bel.block r b).symm▸h.2⟩
theorem Q3h {t:TypeId} {σ:Q5} (a:X2 w σ) (h: ∀r w',w.heap.size≤r→Stp w σ w' σ→C2 σ w' r []→K (.map (some r)) w'):Ib P t none w K:=by
 unfold Ib
 rw[X9 (v:= .map (some w.heap.size)) (w':=w.alloc (.map #[] 0)) (by simp[Instr.makeMap])]
 exact h _ _ (Nat.le_refl _) (Stp.own a _) ⟨a.none (Nat.le_refl _), #[],0,heap_alloc_new w _,rfl,by simp,by simp⟩
theorem C2.keep {σ σ0:Q5} {r:Nat} {m:List (List UInt8×Value)} (h:C2 σ w r m) (d:Stp w0 σ0 w σ) (j:w0.heap.size≤r): ∃σ',Stp w0 σ0 w σ'∧Xd σ' r m∧(∀k o,σ k=some o→σ' k=some o)∧(∀k,k≠r→σ' k=σ k):=by
 obtain ⟨c,b,a,g,i⟩:=h
 exact ⟨σ.put r (.map b a),d.put c j g,⟨b,a,by simp[Q5.put],i⟩,Q5.put_le d.sat c _,fun k f=>by simp only[Q5.put,if_neg f]⟩
theorem Ir {t O Y:TypeId} [tm:TM P t O Y] (A:P.underlying O=some .string) {σ:Q5} {r:Nat} {m:List (List UInt8×Value)} (hm:C2 σ w r m) (k:List UInt8) (v:Value)
 (h: ∀w',Upd w r w'→C2 σ w' r (Wn m k v)→K undef w'):mapUpdate P t (.map (some r)) (S k) v w K:=by
 obtain ⟨V,l,d,H,M,N,E⟩:=hm
 obtain ⟨r',Q,q2,q3,q4⟩:=Ba k l.toList m 0 M
 have J:(getObj r).run P w= .ok (.map l d) w:=by simp[getObj,Sem.run,H]
 have hl:=(Array.getElem?_eq_some_iff.1 H).1
 have n: ∀o,o=Obj.map l d∨True→(∀c e f,o≠ .cells c e f)→(setObj r o).run P w= .ok () {w with heap:=w.heap.setIfInBounds r o}:=by
  intro o _ _
  simp[setObj,Sem.run,H]
 have z: ∀o,Upd w r {w with heap:=w.heap.setIfInBounds r o}:=fun o=>⟨rfl,rfl,rfl,by simp,fun k A=>by simp only[Array.getElem?_setIfInBounds];rw[if_neg (by omega)]⟩
 have C: ∀o,({w with heap:=w.heap.setIfInBounds r o}:World).heap[r]? =some o:=fun o=>by simp[Array.getElem?_setIfInBounds,hl]
 unfold mapUpdate
 cases r' with
 | none=>
  rw[Ww (w':={w with heap:=w.heap.setIfInBounds r (.map (l.push {key:=S k,val:=v,born:=d}) (d+1))}) (by
   simp only[Instr.mapUpdate,Sem.run_bind,run_underlying tm.h,Result.andThen_ok,Instr.findKey,run_underlying A,Q,G8 A,J,Sem.run_pure]
   exact n _ (.inr trivial) (by intros;simp))]
  refine h _ (z _) ⟨V,_,_,C _,?_,?_,?_⟩
  ·rw[q4 rfl];simp[M]
  ·simp only[Array.toList_push,List.map_append,List.map_cons,List.map_nil]
   rw[List.pairwise_append]
   refine ⟨N,by simp,?_⟩
   intro a X b U
   simp at U;subst U
   obtain ⟨e,s,rfl⟩:=List.mem_map.1 X
   exact E e s
  ·intro e s
   simp at s
   rcases s with s | rfl
   ·have:=E e (by simpa using s);omega
   ·simp
 | some p=>
  obtain ⟨j,u⟩:=p
  obtain ⟨z1,z2,W⟩:=q3 j u rfl
  obtain ⟨e,L,Z⟩:=z2
  simp only[Nat.sub_zero] at L W
  have g:((l.modify j fun e=>{e with key:=S k,val:=v}).toList.map (·.born))=l.toList.map (·.born):=by
   apply List.ext_getElem?
   intro i
   simp only[Array.toList_modify,List.getElem?_map,List.getElem?_modify]
   by_cases D:j=i<;>cases l.toList[i]? <;>simp[D]
  have q:(Instr.keyThatStays (S k) (S k)).run P w= .ok (S k) w:=by
   simp[Instr.keyThatStays,Instr.sameBits,Eb]
  rw[Ww (w':={w with heap:=w.heap.setIfInBounds r (.map (l.modify j fun e=>{e with key:=S k,val:=v}) d)}) (by
   simp only[Instr.mapUpdate,Sem.run_bind,run_underlying tm.h,Result.andThen_ok,Instr.findKey,run_underlying A,Q,G8 A,J,Sem.run_pure]
   rw[show ((l[j]?).map (·.key)).getD (S k)=S k by rw[←Array.getElem?_toList,L];simp[Z]]
   simp only[q,Result.andThen_ok]
   exact n _ (.inr trivial) (by intros;simp))]
  refine h _ (z _) ⟨V,_,_,C _,?_,?_,?_⟩
  ·simp only[Array.toList_modify];exact W v
  ·rw[g];exact N
  ·intro x hx
   have:x.born∈l.toList.map (·.born):=by rw[←g];exact List.mem_map.2 ⟨x,hx,rfl⟩
   obtain ⟨y,hy,e⟩:=List.mem_map.1 this
   rw[←e];exact E y hy
end Go.Emb

namespace Go.Emb
open Go.RowKit
variable {P : Program} {w w0 w1 w' w'' : World} {K : Value → World → Prop}
theorem Z8 {c b:Bool} {a:World→(Value→World→Prop)→Prop} (d:c=b→a w K) (e:c=(!b)→K undef w):Q0 (.bool c) b w a K:=by
 cases c<;>cases b
 ·rw[W6];exact d rfl
 ·rw[E0];exact e rfl
 ·rw[R6];exact e rfl
 ·rw[W2];exact d rfl
theorem Q7 {c:Bool} {t e:Prop} (a:c=true→t) (b:c=false→e):X1 (.bool c) t e:=by
 cases c
 ·rw[M5];exact b rfl
 ·rw[H4];exact a rfl
theorem Q8 {α:Type} {R:Q5→α→List Value→Prop} {sz:Nat} {σ:Q5} {v:Value} {xs:List α} {a e t:TypeId} {cs:List Bool} [ts:TS P a e] (h:Sl sz R σ v xs) (b:K (I xs.length) w):X3 P .len [a] t cs [v] w K:=by
 rw[X2g h];exact b
structure Kpt (D : Nat → Prop) (w w' : World) : Prop where
  os : w'.os = w.os
  tape : w'.tape = w.tape
  output : w'.output = w.output
  size : w.heap.size ≤ w'.heap.size
  block : ∀ k, k < w.heap.size → ¬ D k → w'.heap[k]? = w.heap[k]?
theorem Kpt.refl {D:Nat→Prop}:Kpt D w w:=⟨rfl,rfl,rfl,Nat.le_refl _,fun _ _ _=>rfl⟩
theorem Kpt.trans {D:Nat→Prop} (h:Kpt D w w') (k:Kpt D w' w''):Kpt D w w'':=
 ⟨k.os.trans h.os,k.tape.trans h.tape,k.output.trans h.output,Nat.le_trans h.size k.size,fun i a b=>(k.block i (Nat.lt_of_lt_of_le a h.size) b).trans (h.block i a b)⟩
theorem Kpt.of_below {D:Nat→Prop} (h:Below w.heap.size w w'):Kpt D w w':=⟨h.os,h.tape,h.output,h.size,fun k a _=>h.block k a⟩
theorem Kpt.of_grown {D:Nat→Prop} {row:Option Nat} (h:w.grownBy w' row) (c: ∀k,row=some k→D k):Kpt D w w':=⟨h.os,h.tape,h.output,h.size,fun k a b=>h.block k a (fun e=>b (c k e.symm))⟩
theorem Kpt.of_upd {D:Nat→Prop} {b:Nat} (h:Upd w b w') (c:D b):Kpt D w w':=⟨h.os,h.tape,h.output,by rw[h.size];exact Nat.le_refl _,fun k d a=>h.block k (fun e=>a (e▸c))⟩
theorem Kpt.mono {D b:Nat→Prop} (h:Kpt D w w') (d: ∀k,k<w.heap.size→D k→b k):Kpt b w w':=⟨h.os,h.tape,h.output,h.size,fun k a c=>h.block k a (fun e=>c (d k a e))⟩
theorem Kpt.below {D:Nat→Prop} (h:Kpt D w w') (b: ∀k,¬D k):Below w.heap.size w w':=⟨h.os,h.tape,h.output,h.size,fun k a=>h.block k a (b k)⟩
theorem Stp.kp {σ0 σ:Q5} {D:Nat→Prop} (a:Stp w0 σ0 w σ) (b:Kpt D w w') (f: ∀k,D k→w0.heap.size≤k∧σ k=none):Stp w0 σ0 w' σ:=by
 refine ⟨⟨b.os.trans a.bel.os,b.tape.trans a.bel.tape,b.output.trans a.bel.output,Nat.le_trans a.bel.size b.size,fun k c=>?_⟩,?_,a.le,a.old⟩
 ·refine (b.block k (Nat.lt_of_lt_of_le c a.bel.size) ?_).trans (a.bel.block k c)
  intro e;have:=(f k e).1;omega
 ·intro k o d
  refine (b.block k (a.sat.lt d) ?_).trans (a.sat k o d)
  intro e;rw[(f k e).2] at d;cases d
theorem Y1.kp {σ:Q5} {D:Nat→Prop} {k:Nat} {cs:List Value} (h:Y1 σ w k cs) (b:Kpt D w w') (a: ¬D k):Y1 σ w' k cs:=by
 have f:=h.lt
 obtain ⟨c,e,d⟩:=h
 exact ⟨c,e,(b.block k f a).trans d⟩
theorem C2.kp {σ:Q5} {D:Nat→Prop} {r:Nat} {m:List (List UInt8×Value)} (h:C2 σ w r m) (b:Kpt D w w') (a: ¬D r):C2 σ w' r m:=
 ⟨h.1,(b.block r h.lt a).symm▸h.2⟩
theorem V5.kp {α:Type} {R:Q5→α→List Value→Prop} {B sz:Nat} {e:TypeId} {σ:Q5} {v:Value} {xs:List α} {D:Nat→Prop} (h:V5 B e sz R σ w v xs) (m:Kpt D w w') (c: ∀k,v.ownBlock=some k→ ¬D k):V5 B e sz R σ w' v xs:=by
 obtain ⟨cells,i,l,j⟩:=h
 refine ⟨cells,⟨i.1,?_⟩,l,j⟩
 rcases i.2 with n | ⟨g,b,d,rfl,o,f,a⟩
 ·exact .inl n
 ·refine .inr ⟨g,b,d,rfl,o,?_,a⟩
  rw[m.block g (Array.getElem?_eq_some_iff.1 f).1 (c g rfl)];exact f
theorem bt {w w1 b:World} (a:Below w.heap.size w w1) (c:Below w1.heap.size w1 b):Below w.heap.size w b:=a.trans (c.mono a.size)
abbrev U0:Nat:=140737488351232
def U9 (_:Q5) (s:List UInt8) (cs:List Value):Prop:=cs=[S s]∧s.length≤U0
instance:Rep U9:=⟨fun _ h=>h,fun h u hu=>by rw[h.1] at hu;simp at hu;subst hu;rfl⟩
def Wl (_:Q5) (n:Int) (cs:List Value):Prop:=cs=[I n]∧ -9223372036854775808≤n∧n≤9223372036854775807
instance:Rep Wl:=⟨fun _ h=>h,fun h u hu=>by rw[h.1] at hu;simp at hu;subst hu;rfl⟩
def Q2y (_:Q5) (b:Bool) (cs:List Value):Prop:=cs=[.bool b]
instance:Rep Q2y:=⟨fun _ h=>h,fun h u hu=>by rw[h] at hu;simp at hu;subst hu;rfl⟩
def UpI (N:Nat) (a:Nat→World→Prop) (x:Value) (w:World):Prop:= ∃n:Nat,x=I n∧n≤N∧a n w
def UpM (N:Nat) (x:Value):Nat:=match x with | .int _ n=>N-n.toNat | _=>0
theorem U1 {A:(Value→World→Prop)→Value→(Nat→Value)→World→Prop} (N:Nat) (a:Nat→World→Prop) (f:a 0 w)
 (b: ∀n w d,n≤N→a n w→A (fun y w'=>UpI N a y w'∧UpM N y<UpM N (I n)) (I n) d w):lp (α:=Value) (.int .i64 0) w A:=by
 refine Vv (UpI N a) (fun x _=>UpM N x) ⟨0,rfl,Nat.zero_le _,f⟩ ?_
 rintro _ d w' ⟨n,rfl,c,e⟩
 exact b n w' d c e
theorem Y6 {N n:Nat} {a:Nat→World→Prop} (d:N≤9223372036854775807) (b:n<N) (c:a (n+1) w):UpI N a (.int .i64 (IntKind.i64.wrap (n+1))) w∧UpM N (.int .i64 (IntKind.i64.wrap (n+1)))<UpM N (I n):=by
 rw[S7 (by omega) (by omega)]
 exact ⟨⟨n+1,rfl,b,c⟩,by simp only[UpM];omega⟩
def Bv {α:Type} (N:Nat) (a:Nat→α→World→Prop) (x:α×Value) (w:World):Prop:= ∃n:Nat,x.2=I n∧n≤N∧a n x.1 w
def Nn {α:Type} (N:Nat) (x:α×Value):Nat:=UpM N x.2
theorem E3 {α:Type} {A:(α×Value→World→Prop)→α×Value→(Nat→Value)→World→Prop} {a:α} (N:Nat) (b:Nat→α→World→Prop) (h:b 0 a w)
 (c: ∀n a w d,n≤N→b n a w→A (fun y w'=>Bv N b y w'∧Nn N y<Nn N (a,I n)) (a,I n) d w):lp (α:=α×Value) (a, .int .i64 0) w A:=by
 refine Vv (Bv N b) (fun x _=>Nn N x) ⟨0,rfl,Nat.zero_le _,h⟩ ?_
 rintro ⟨a,x⟩ d w' ⟨n,f,g,e⟩
 simp only at f e
 subst f
 exact c n a w' d g e
theorem Z9 {α:Type} {a c:α} {N n:Nat} {b:Nat→α→World→Prop} (f:N≤9223372036854775807) (d:n<N) (e:b (n+1) c w):Bv N b (c, .int .i64 (IntKind.i64.wrap (n+1))) w∧Nn N (c, .int .i64 (IntKind.i64.wrap (n+1)))<Nn N (a,I n):=by
 rw[S7 (by omega) (by omega)]
 exact ⟨⟨n+1,rfl,d,e⟩,by simp only[Nn,UpM];omega⟩
theorem M9 {α:Type} {R:Q5→α→List Value→Prop} {sz:Nat} {σ:Q5} {v:Value} {xs:List α} {t e:TypeId} {b:Nat} {z:Value} [TS P t e] [TZ P e sz b z] (h:Sl sz R σ v xs) {n:Nat} (i:n<xs.length)
 (f: ∀a cs,Z4 σ a cs→cs.length=sz→R σ xs[n] cs→K (.pointer (some a)) w):indexAddr P t v (I n) w K:=
 X3A h (by omega) (by simpa using i) (fun a cs g c d=>f a cs g c (by simpa using d))
theorem Y9 {t:TypeId} {sz c:Nat} {z:Value} {A:Value→Value→World→Prop} [tz:TZ P t sz c z] {σ:Q5} {cs:List Value} (m:X2 w σ) (o:z.cells.size=sz) (r:cs.length=sz) (q: ∀u∈cs,u.oneCell'=true)
 (h: ∀a w' d,Stp w σ w' d→Z4 d a cs→A (.pointer (some a)) undef w'):W0 P t w (fun p w=>Y0 P t p (.agg cs.toArray) w (fun u w=>A p u w)):=by
 refine Iv m fun b w1 f n g=>?_
 refine Nk g (by simpa using o) r (by rw[List.all_toArray];exact List.all_eq_true.2 q) fun j i e=>?_
 have s:Stp w σ j σ:=i.stp n f g.1
 obtain ⟨d,k,l,_⟩:=e.keep s f
 exact h _ _ _ k l
theorem U7 {t:TypeId} {d:Nat} {z:Value} {A:Value→Value→World→Prop} [tz:TZ P t 1 d z] {σ:Q5} {v:Value} (n:X2 w σ) (q:z.cells.size=1) (s:v.cells= #[v]) (r:v.oneCell'=true)
 (h: ∀a w' f,Stp w σ w' f→Z4 f a [v]→A (.pointer (some a)) undef w'):W0 P t w (fun p w=>Y0 P t p v w (fun u w=>A p u w)):=by
 refine Iv n fun b w1 g o i=>?_
 have y:z.cells.toList.length=1:=by simpa using q
 refine st0 i (by omega) s r fun k j c=>?_
 have B:Stp w σ k σ:=j.stp o g i.1
 have e:z.cells.toList.set 0 v=[v]:=by
  match hzl:z.cells.toList,y with
  | [x],_=>rfl
 rw[e] at c
 obtain ⟨f,l,m,_⟩:=c.keep B g
 exact h _ _ _ l m
theorem L4 {α:Type} {xs:List α} {p:α→Bool} {n:Nat} (h:n<xs.length):(xs.take (n+1)).any p=((xs.take n).any p||p xs[n]):=by
 rw[List.take_add_one,List.getElem?_eq_getElem h,List.any_append];simp
theorem S1 {α:Type} {xs:List α} {p:α→Bool} {n:Nat} (h:n<xs.length) (a:p xs[n]=true):xs.any p=true:=List.any_eq_true.2 ⟨_,List.getElem_mem h,a⟩
theorem D9 {α:Type} {xs:List α} {p:α→Bool} {n:Nat} (h: ¬n<xs.length):(xs.take n).any p=xs.any p:=by rw[List.take_of_length_le (by omega)]
end Go.Emb

namespace Go.Hm
open Go.Kd
structure Fld where
  name : X0
  kind : X0
  tr : Bool
deriving DecidableEq
structure Ins where
  op : X0
  n : Int
  s : X0
deriving DecidableEq
structure Cat where
  frm : Int
  to : Int
  at_ : Int
  cls : X0
deriving DecidableEq
structure Met where
  name : X0
  params : List X0
  result : X0
  abs : Bool
  locals : Int
  code : List Ins
  catches : List Cat
deriving DecidableEq
structure Cla where
  name : X0
  super : X0
  like : List X0
  iface : Bool
  abs : Bool
  fin : Bool
  fields : List Fld
  methods : List Hm.Met
deriving DecidableEq
def Fld.zero:Fld:=⟨[],[],false⟩
def Met.zero:Hm.Met:=⟨[],[],[],false,0,[],[]⟩
def Cla.zero:Cla:=⟨[],[],[],false,false,false,[],[]⟩
end Go.Hm

namespace Go.Emb
open Go.RowKit Go.Hm
abbrev Yc (n:Int):Prop:= -9223372036854775808≤n∧n≤9223372036854775807
def R3 (_:Q5) (f:Fld) (cs:List Value):Prop:=cs=[S f.name,S f.kind, .bool f.tr]∧f.name.length≤U0∧f.kind.length≤U0
def Qk (_:Q5) (i:Ins) (cs:List Value):Prop:=cs=[S i.op,I i.n,S i.s]∧i.op.length≤U0∧Yc i.n∧i.s.length≤U0
def Ui (_:Q5) (c:Cat) (cs:List Value):Prop:=cs=[I c.frm,I c.to,I c.at_,S c.cls]∧Yc c.frm∧Yc c.to∧Yc c.at_∧c.cls.length≤U0
def E5 (σ:Q5) (m:Hm.Met) (cs:List Value):Prop:= ∃pv a b,cs=[S m.name,pv,S m.result, .bool m.abs,I m.locals,a,b]∧Sl 1 U9 σ pv m.params∧Sl 3 Qk σ a m.code∧Sl 4 Ui σ b m.catches∧m.name.length≤U0∧m.result.length≤U0∧Yc m.locals
def V0 (σ:Q5) (c:Cla) (cs:List Value):Prop:= ∃b a mv,cs=[S c.name,S c.super,b, .bool c.iface, .bool c.abs, .bool c.fin,a,mv]∧Sl 1 U9 σ b c.like∧Sl 3 R3 σ a c.fields∧Sl 7 E5 σ mv c.methods∧c.name.length≤U0∧c.super.length≤U0
theorem T3 {α:Type} {sz:Nat} {R:Q5→α→List Value→Prop} {σ:Q5} {v:Value} {xs:List α} (h:Sl sz R σ v xs):v.oneCell'=true:=by
 obtain ⟨a,b,rfl,_⟩:=h;rfl
instance:Rep R3:=⟨fun _ h=>h,fun h u hu=>by rw[h.1] at hu;simp at hu;rcases hu with rfl | rfl | rfl<;>rfl⟩
instance:Rep Qk:=⟨fun _ h=>h,fun h u hu=>by rw[h.1] at hu;simp at hu;rcases hu with rfl | rfl | rfl<;>rfl⟩
instance:Rep Ui:=⟨fun _ h=>h,fun h u hu=>by rw[h.1] at hu;simp at hu;rcases hu with rfl | rfl | rfl | rfl<;>rfl⟩
instance:Rep E5:=⟨fun hk ⟨pv,cv,hv,h1,h2,h3,h4,h5⟩=>⟨pv,cv,hv,h1,h2.le hk,h3.le hk,h4.le hk,h5⟩,fun ⟨pv,cv,hv,h1,h2,h3,h4,h5⟩ u hu=>by
 rw[h1] at hu;simp at hu;rcases hu with rfl | rfl | rfl | rfl | rfl | rfl | rfl
 ·rfl
 ·exact T3 h2
 ·rfl
 ·rfl
 ·rfl
 ·exact T3 h3
 ·exact T3 h4⟩
instance:Rep V0:=⟨fun hk ⟨pv,cv,hv,h1,h2,h3,h4,h5⟩=>⟨pv,cv,hv,h1,h2.le hk,h3.le hk,h4.le hk,h5⟩,fun ⟨pv,cv,hv,h1,h2,h3,h4,h5⟩ u hu=>by
 rw[h1] at hu;simp at hu;rcases hu with rfl | rfl | rfl | rfl | rfl | rfl | rfl | rfl
 ·rfl
 ·rfl
 ·exact T3 h2
 ·rfl
 ·rfl
 ·rfl
 ·exact T3 h3
 ·exact T3 h4⟩
end Go.Emb

namespace Go.Proofs.YtjdiakhipmggjaaGreatDoor
open Go.Emb
instance z_x:TZ P T.x 1 0 (.tuple #[]):=⟨by kernel_rfl⟩
instance g_x:TG P T.x false:=⟨by kernel_rfl⟩
instance z_int64:TZ P T.a1 1 8 (.int .i64 0):=⟨by kernel_rfl⟩
instance g_int64:TG P T.a1 false:=⟨by kernel_rfl⟩
instance z_int:TZ P T.e 1 8 (.int .i64 0):=⟨by kernel_rfl⟩
instance g_int:TG P T.e false:=⟨by kernel_rfl⟩
instance z_bool:TZ P T.u 1 1 (.bool false):=⟨by kernel_rfl⟩
instance g_bool:TG P T.u false:=⟨by kernel_rfl⟩
instance z_uint8:TZ P T.a3 1 1 (.int .u8 0):=⟨by kernel_rfl⟩
instance g_uint8:TG P T.a3 false:=⟨by kernel_rfl⟩
instance z_string:TZ P T.c 1 16 (.string ⟨#[]⟩):=⟨by kernel_rfl⟩
instance g_string:TG P T.c false:=⟨by kernel_rfl⟩
instance z_uintptr:TZ P T.av 1 8 (.int .u64 0):=⟨by kernel_rfl⟩
instance g_uintptr:TG P T.av false:=⟨by kernel_rfl⟩
instance z_int32:TZ P T.an 1 4 (.int .i32 0):=⟨by kernel_rfl⟩
instance g_int32:TG P T.an false:=⟨by kernel_rfl⟩
instance z_P_hier_Table:TZ P T.r 1 8 (.pointer none):=⟨by kernel_rfl⟩
instance g_P_hier_Table:TG P T.r false:=⟨by kernel_rfl⟩
instance z_api_Errno:TZ P T.y 1 8 (.int .i64 0):=⟨by kernel_rfl⟩
instance g_api_Errno:TG P T.y false:=⟨by kernel_rfl⟩
instance z_S_api_Class:TZ P T.i 1 24 (.slice none 0 0):=⟨by kernel_rfl⟩
instance g_S_api_Class:TG P T.i false:=⟨by kernel_rfl⟩
instance s_S_api_Class:TS P T.i 85:=⟨by kernel_rfl⟩
instance z_P_heap_Heap:TZ P T.a5 1 8 (.pointer none):=⟨by kernel_rfl⟩
instance g_P_heap_Heap:TG P T.a5 false:=⟨by kernel_rfl⟩
instance z_api_Value:TZ P T.f 4 40 (.agg #[.int .i64 0, .int .i64 0, .string ⟨#[]⟩, .int .i64 0]):=⟨by kernel_rfl⟩
instance g_api_Value:TG P T.f true:=⟨by kernel_rfl⟩
instance f_api_Value_0:TF P T.f 0 0 3:=⟨by kernel_rfl⟩
instance f_api_Value_1:TF P T.f 1 1 2:=⟨by kernel_rfl⟩
instance f_api_Value_2:TF P T.f 2 2 9:=⟨by kernel_rfl⟩
instance f_api_Value_3:TF P T.f 3 3 3:=⟨by kernel_rfl⟩
instance z_S_api_Cell:TZ P T.g 1 24 (.slice none 0 0):=⟨by kernel_rfl⟩
instance g_S_api_Cell:TG P T.g false:=⟨by kernel_rfl⟩
instance s_S_api_Cell:TS P T.g 78:=⟨by kernel_rfl⟩
instance z_uint16:TZ P T.ao 1 2 (.int .u16 0):=⟨by kernel_rfl⟩
instance g_uint16:TG P T.ao false:=⟨by kernel_rfl⟩
instance z_S_squinchref09_Act:TZ P T.a0 1 24 (.slice none 0 0):=⟨by kernel_rfl⟩
instance g_S_squinchref09_Act:TG P T.a0 false:=⟨by kernel_rfl⟩
instance s_S_squinchref09_Act:TS P T.a0 51:=⟨by kernel_rfl⟩
instance z_squinchref09_Heap:TZ P T.a 3 56 (.agg #[.slice none 0 0, .int .i64 0, .slice none 0 0]):=⟨by kernel_rfl⟩
instance g_squinchref09_Heap:TG P T.a true:=⟨by kernel_rfl⟩
instance f_squinchref09_Heap_0:TF P T.a 0 0 26:=⟨by kernel_rfl⟩
instance f_squinchref09_Heap_1:TF P T.a 1 1 3:=⟨by kernel_rfl⟩
instance f_squinchref09_Heap_2:TF P T.a 2 2 37:=⟨by kernel_rfl⟩
instance z_squinchref09_Act:TZ P T.m 8 80 (.agg #[.int .i64 0, .string ⟨#[]⟩, .int .i64 0, .int .i64 0, .int .i64 0, .int .i64 0, .string ⟨#[]⟩, .int .i64 0]):=⟨by kernel_rfl⟩
instance g_squinchref09_Act:TG P T.m true:=⟨by kernel_rfl⟩
instance f_squinchref09_Act_0:TF P T.m 0 0 3:=⟨by kernel_rfl⟩
instance f_squinchref09_Act_1:TF P T.m 1 1 9:=⟨by kernel_rfl⟩
instance f_squinchref09_Act_2:TF P T.m 2 2 2:=⟨by kernel_rfl⟩
instance f_squinchref09_Act_3:TF P T.m 3 3 3:=⟨by kernel_rfl⟩
instance f_squinchref09_Act_4:TF P T.m 4 4 33:=⟨by kernel_rfl⟩
instance z_S_string:TZ P T.h 1 24 (.slice none 0 0):=⟨by kernel_rfl⟩
instance g_S_string:TG P T.h false:=⟨by kernel_rfl⟩
instance s_S_string:TS P T.h 9:=⟨by kernel_rfl⟩
instance z_S_api_Field:TZ P T.k 1 24 (.slice none 0 0):=⟨by kernel_rfl⟩
instance g_S_api_Field:TG P T.k false:=⟨by kernel_rfl⟩
instance s_S_api_Field:TS P T.k 69:=⟨by kernel_rfl⟩
instance z_api_Field:TZ P T.n 3 40 (.agg #[.string ⟨#[]⟩, .string ⟨#[]⟩, .bool false]):=⟨by kernel_rfl⟩
instance g_api_Field:TG P T.n true:=⟨by kernel_rfl⟩
instance f_api_Field_0:TF P T.n 0 0 9:=⟨by kernel_rfl⟩
instance f_api_Field_1:TF P T.n 1 1 9:=⟨by kernel_rfl⟩
instance f_api_Field_2:TF P T.n 2 2 4:=⟨by kernel_rfl⟩
instance z_func_int_2:TZ P T.ak 1 8 .nilFunc:=⟨by kernel_rfl⟩
instance g_func_int_2:TG P T.ak false:=⟨by kernel_rfl⟩
instance z_S_api_Value:TZ P T.l 1 24 (.slice none 0 0):=⟨by kernel_rfl⟩
instance g_S_api_Value:TG P T.l false:=⟨by kernel_rfl⟩
instance s_S_api_Value:TS P T.l 33:=⟨by kernel_rfl⟩
instance z_api_Cell:TZ P T.o 2 40 (.agg #[.string ⟨#[]⟩, .slice none 0 0]):=⟨by kernel_rfl⟩
instance g_api_Cell:TG P T.o true:=⟨by kernel_rfl⟩
instance f_api_Cell_0:TF P T.o 0 0 9:=⟨by kernel_rfl⟩
instance f_api_Cell_1:TF P T.o 1 1 76:=⟨by kernel_rfl⟩
instance z_M_string_int:TZ P T.a2 1 8 (.map none):=⟨by kernel_rfl⟩
instance g_M_string_int:TG P T.a2 false:=⟨by kernel_rfl⟩
instance m_M_string_int:TM P T.a2 9 3:=⟨by kernel_rfl⟩
instance z_hier_Table:TZ P T.z 2 32 (.agg #[.slice none 0 0, .map none]):=⟨by kernel_rfl⟩
instance g_hier_Table:TG P T.z true:=⟨by kernel_rfl⟩
instance f_hier_Table_0:TF P T.z 0 0 26:=⟨by kernel_rfl⟩
instance f_hier_Table_1:TF P T.z 1 1 80:=⟨by kernel_rfl⟩
instance z_S_api_Method:TZ P T.j 1 24 (.slice none 0 0):=⟨by kernel_rfl⟩
instance g_S_api_Method:TG P T.j false:=⟨by kernel_rfl⟩
instance s_S_api_Method:TS P T.j 98:=⟨by kernel_rfl⟩
instance z_api_Class:TZ P T.b 8 112 (.agg #[.string ⟨#[]⟩, .string ⟨#[]⟩, .slice none 0 0, .bool false, .bool false, .bool false, .slice none 0 0, .slice none 0 0]):=⟨by kernel_rfl⟩
instance g_api_Class:TG P T.b true:=⟨by kernel_rfl⟩
instance f_api_Class_0:TF P T.b 0 0 9:=⟨by kernel_rfl⟩
instance f_api_Class_1:TF P T.b 1 1 9:=⟨by kernel_rfl⟩
instance f_api_Class_2:TF P T.b 2 2 54:=⟨by kernel_rfl⟩
instance f_api_Class_3:TF P T.b 3 3 4:=⟨by kernel_rfl⟩
instance f_api_Class_4:TF P T.b 4 4 4:=⟨by kernel_rfl⟩
instance f_api_Class_5:TF P T.b 5 5 4:=⟨by kernel_rfl⟩
instance f_api_Class_6:TF P T.b 6 6 65:=⟨by kernel_rfl⟩
instance f_api_Class_7:TF P T.b 7 7 83:=⟨by kernel_rfl⟩
instance z_func_string_bool:TZ P T.a4 1 8 .nilFunc:=⟨by kernel_rfl⟩
instance g_func_string_bool:TG P T.a4 false:=⟨by kernel_rfl⟩
instance z_S_int:TZ P T.a7 1 24 (.slice none 0 0):=⟨by kernel_rfl⟩
instance g_S_int:TG P T.a7 false:=⟨by kernel_rfl⟩
instance s_S_int:TS P T.a7 3:=⟨by kernel_rfl⟩
instance z_api_Instr:TZ P T.v 3 40 (.agg #[.string ⟨#[]⟩, .int .i64 0, .string ⟨#[]⟩]):=⟨by kernel_rfl⟩
instance g_api_Instr:TG P T.v true:=⟨by kernel_rfl⟩
instance f_api_Instr_0:TF P T.v 0 0 9:=⟨by kernel_rfl⟩
instance f_api_Instr_1:TF P T.v 1 1 2:=⟨by kernel_rfl⟩
instance f_api_Instr_2:TF P T.v 2 2 9:=⟨by kernel_rfl⟩
instance z_S_api_Instr:TZ P T.q 1 24 (.slice none 0 0):=⟨by kernel_rfl⟩
instance g_S_api_Instr:TG P T.q false:=⟨by kernel_rfl⟩
instance s_S_api_Instr:TS P T.q 94:=⟨by kernel_rfl⟩
instance z_S_api_Catch:TZ P T.s 1 24 (.slice none 0 0):=⟨by kernel_rfl⟩
instance g_S_api_Catch:TG P T.s false:=⟨by kernel_rfl⟩
instance s_S_api_Catch:TS P T.s 172:=⟨by kernel_rfl⟩
instance z_api_Method:TZ P T.d 7 120 (.agg #[.string ⟨#[]⟩, .slice none 0 0, .string ⟨#[]⟩, .bool false, .int .i64 0, .slice none 0 0, .slice none 0 0]):=⟨by kernel_rfl⟩
instance g_api_Method:TG P T.d true:=⟨by kernel_rfl⟩
instance f_api_Method_0:TF P T.d 0 0 9:=⟨by kernel_rfl⟩
instance f_api_Method_1:TF P T.d 1 1 54:=⟨by kernel_rfl⟩
instance f_api_Method_2:TF P T.d 2 2 9:=⟨by kernel_rfl⟩
instance f_api_Method_3:TF P T.d 3 3 4:=⟨by kernel_rfl⟩
instance f_api_Method_4:TF P T.d 4 4 3:=⟨by kernel_rfl⟩
instance f_api_Method_5:TF P T.d 5 5 95:=⟨by kernel_rfl⟩
instance f_api_Method_6:TF P T.d 6 6 96:=⟨by kernel_rfl⟩
instance z_heap_Heap:TZ P T.p 4 48 (.agg #[.pointer none, .int .i64 0, .int .i64 0, .slice none 0 0]):=⟨by kernel_rfl⟩
instance g_heap_Heap:TG P T.p true:=⟨by kernel_rfl⟩
instance f_heap_Heap_0:TF P T.p 0 0 22:=⟨by kernel_rfl⟩
instance f_heap_Heap_1:TF P T.p 1 1 3:=⟨by kernel_rfl⟩
instance f_heap_Heap_2:TF P T.p 2 2 3:=⟨by kernel_rfl⟩
instance f_heap_Heap_3:TF P T.p 3 3 37:=⟨by kernel_rfl⟩
instance z_func_string_string:TZ P T.ac 1 8 .nilFunc:=⟨by kernel_rfl⟩
instance g_func_string_string:TG P T.ac false:=⟨by kernel_rfl⟩
instance z_A6_string:TZ P T.ap 6 96 (.agg #[.string ⟨#[]⟩, .string ⟨#[]⟩, .string ⟨#[]⟩, .string ⟨#[]⟩, .string ⟨#[]⟩, .string ⟨#[]⟩]):=⟨by kernel_rfl⟩
instance g_A6_string:TG P T.ap true:=⟨by kernel_rfl⟩
instance a_A6_string:TA P T.ap 6 9:=⟨by kernel_rfl⟩
instance z_M_string_string:TZ P T.w 1 8 (.map none):=⟨by kernel_rfl⟩
instance g_M_string_string:TG P T.w false:=⟨by kernel_rfl⟩
instance m_M_string_string:TM P T.w 9 9:=⟨by kernel_rfl⟩
instance z_func_api_Method_string:TZ P T.a9 1 8 .nilFunc:=⟨by kernel_rfl⟩
instance g_func_api_Method_string:TG P T.a9 false:=⟨by kernel_rfl⟩
instance z_func_api_Method_bool:TZ P T.ae 1 8 .nilFunc:=⟨by kernel_rfl⟩
instance g_func_api_Method_bool:TG P T.ae false:=⟨by kernel_rfl⟩
instance z_S_S_bool:TZ P T.a8 1 24 (.slice none 0 0):=⟨by kernel_rfl⟩
instance g_S_S_bool:TG P T.a8 false:=⟨by kernel_rfl⟩
instance s_S_S_bool:TS P T.a8 148:=⟨by kernel_rfl⟩
instance z_S_bool:TZ P T.a6 1 24 (.slice none 0 0):=⟨by kernel_rfl⟩
instance g_S_bool:TG P T.a6 false:=⟨by kernel_rfl⟩
instance s_S_bool:TS P T.a6 4:=⟨by kernel_rfl⟩
instance g_A256_uint8:TG P T.au true:=⟨by kernel_rfl⟩
instance a_A256_uint8:TA P T.au 256 5:=⟨by kernel_rfl⟩
instance z_utf8_acceptRange:TZ P T.aj 2 2 (.agg #[.int .u8 0, .int .u8 0]):=⟨by kernel_rfl⟩
instance g_utf8_acceptRange:TG P T.aj true:=⟨by kernel_rfl⟩
instance f_utf8_acceptRange_0:TF P T.aj 0 0 5:=⟨by kernel_rfl⟩
instance f_utf8_acceptRange_1:TF P T.aj 1 1 5:=⟨by kernel_rfl⟩
instance z_A16_utf8_acceptRange:TZ P T.al 32 32 (.agg #[.int .u8 0, .int .u8 0, .int .u8 0, .int .u8 0, .int .u8 0, .int .u8 0, .int .u8 0, .int .u8 0, .int .u8 0, .int .u8 0, .int .u8 0, .int .u8 0, .int .u8 0, .int .u8 0, .int .u8 0, .int .u8 0, .int .u8 0, .int .u8 0, .int .u8 0, .int .u8 0, .int .u8 0, .int .u8 0, .int .u8 0, .int .u8 0, .int .u8 0, .int .u8 0, .int .u8 0, .int .u8 0, .int .u8 0, .int .u8 0, .int .u8 0, .int .u8 0]):=⟨by kernel_rfl⟩
instance g_A16_utf8_acceptRange:TG P T.al true:=⟨by kernel_rfl⟩
instance a_A16_utf8_acceptRange:TA P T.al 16 156:=⟨by kernel_rfl⟩
instance z_func_api_Field_string:TZ P T.aa 1 8 .nilFunc:=⟨by kernel_rfl⟩
instance g_func_api_Field_string:TG P T.aa false:=⟨by kernel_rfl⟩
instance z_func_api_Field_bool:TZ P T.ag 1 8 .nilFunc:=⟨by kernel_rfl⟩
instance g_func_api_Field_bool:TG P T.ag false:=⟨by kernel_rfl⟩
instance z_api_Catch:TZ P T.t 4 40 (.agg #[.int .i64 0, .int .i64 0, .int .i64 0, .string ⟨#[]⟩]):=⟨by kernel_rfl⟩
instance g_api_Catch:TG P T.t true:=⟨by kernel_rfl⟩
instance f_api_Catch_0:TF P T.t 0 0 3:=⟨by kernel_rfl⟩
instance f_api_Catch_1:TF P T.t 1 1 3:=⟨by kernel_rfl⟩
instance f_api_Catch_2:TF P T.t 2 2 3:=⟨by kernel_rfl⟩
instance f_api_Catch_3:TF P T.t 3 3 9:=⟨by kernel_rfl⟩
instance z_uint64:TZ P T.ax 1 8 (.int .u64 0):=⟨by kernel_rfl⟩
instance g_uint64:TG P T.ax false:=⟨by kernel_rfl⟩
instance g_strings_asciiSet:TG P T.ab true:=⟨by kernel_rfl⟩
instance a_strings_asciiSet:TA P T.ab 256 4:=⟨by kernel_rfl⟩
instance z_func_api_Catch_bool:TZ P T.ah 1 8 .nilFunc:=⟨by kernel_rfl⟩
instance g_func_api_Catch_bool:TG P T.ah false:=⟨by kernel_rfl⟩
instance z_func_api_Instr_bool:TZ P T.ai 1 8 .nilFunc:=⟨by kernel_rfl⟩
instance g_func_api_Instr_bool:TG P T.ai false:=⟨by kernel_rfl⟩
instance z_S_uint8:TZ P T.ar 1 24 (.slice none 0 0):=⟨by kernel_rfl⟩
instance g_S_uint8:TG P T.ar false:=⟨by kernel_rfl⟩
instance s_S_uint8:TS P T.ar 5:=⟨by kernel_rfl⟩
instance z_strings_Builder:TZ P T.am 2 32 (.agg #[.pointer none, .slice none 0 0]):=⟨by kernel_rfl⟩
instance g_strings_Builder:TG P T.am true:=⟨by kernel_rfl⟩
instance f_strings_Builder_0:TF P T.am 0 0 202:=⟨by kernel_rfl⟩
instance f_strings_Builder_1:TF P T.am 1 1 203:=⟨by kernel_rfl⟩
instance z_P_uint8:TZ P T.aw 1 8 (.pointer none):=⟨by kernel_rfl⟩
instance g_P_uint8:TG P T.aw false:=⟨by kernel_rfl⟩
instance z_code_op:TZ P T.ad 3 24 (.agg #[.string ⟨#[]⟩, .bool false, .bool false]):=⟨by kernel_rfl⟩
instance g_code_op:TG P T.ad true:=⟨by kernel_rfl⟩
instance f_code_op_0:TF P T.ad 0 0 9:=⟨by kernel_rfl⟩
instance f_code_op_1:TF P T.ad 1 1 4:=⟨by kernel_rfl⟩
instance f_code_op_2:TF P T.ad 2 2 4:=⟨by kernel_rfl⟩
instance g_A42_code_op:TG P T.af true:=⟨by kernel_rfl⟩
instance a_A42_code_op:TA P T.af 42 225:=⟨by kernel_rfl⟩
instance z_S_code_op:TZ P T.aq 1 24 (.slice none 0 0):=⟨by kernel_rfl⟩
instance g_S_code_op:TG P T.aq false:=⟨by kernel_rfl⟩
instance s_S_code_op:TS P T.aq 225:=⟨by kernel_rfl⟩
instance z_uint32:TZ P T.ay 1 4 (.int .u32 0):=⟨by kernel_rfl⟩
instance g_uint32:TG P T.ay false:=⟨by kernel_rfl⟩
end Go.Proofs.YtjdiakhipmggjaaGreatDoor
