/- Parts of a proof about the given program: its functions as texts of their own, what each computes, plain laws of that. The conditions of each stand in its statement. -/
import Derived.Test.YtjdiakhipmggjaaGreatDoorB1
import Derived.Below
import Derived.Maps.AppendAt
set_option linter.unnecessarySimpa false
set_option linter.defProp false
set_option linter.unusedSectionVars false
set_option linter.unusedVariables false
set_option linter.unusedSimpArgs false
set_option maxRecDepth 100000
namespace Go.Proofs.YtjdiakhipmggjaaGreatDoor
open Go.Emb
def Ay:V8:=[none,none,none,none,none,none,some ([38],[4,5,6,38,39,40,41,42,43,44,45,46,47,48,49,50,51]),none,none,none,none,none,none,none]
def Dl (a0 a1:Value) (w:World) (K:Value→World→Prop):Prop:= box P T.m a1 w fun e w=>dr w fun b d=>Q5 b (fun φ7=> ∀w,d w→fieldAddr P T.m e 0 w (dk b φ7 w)) fun φ7=>Q5 b (fun φ8=> ∀t7 w,d w→φ7 t7 w→Q2 P T.c t7 w (dk b φ8 w)) fun φ8=>Q5 b (fun φ9=> ∀t8 w,d w→φ8 t8 w→Q1 P F.c5 [t8] w (dk b φ9 w)) fun φ9=>Q5 b (fun g=> ∀t9 w,d w→φ9 t9 w→Q3 P .eql T.c (.tmp 9) (.const (.string ⟨#[]⟩)) t9 (.string ⟨#[]⟩) w (dk b g w)) fun g=>Q5 b (fun u=> ∀c w,d w→g c w→Q0 c true w (fun w J=>J a0 w) (dk b u w)) fun u=>Q5 b (fun t=> ∀c aa w,d w→g c w→u aa w→Q0 c true w (nilCheck P aa) (dk b t w)) fun t=>Q5 b (fun y=> ∀c V w,d w→g c w→t V w→Q0 c true w (fieldAddr P T.p V 0) (dk b y w)) fun y=>Q5 b (fun v=> ∀c w,d w→g c w→Q0 c true w (fieldAddr P T.m e 0) (dk b v w)) fun v=>Q5 b (fun q=> ∀c ac w,d w→g c w→y ac w→Q0 c true w (Q2 P T.r ac) (dk b q w)) fun q=>Q5 b (fun af=> ∀c ah w,d w→g c w→v ah w→Q0 c true w (Q2 P T.c ah) (dk b af w)) fun af=>Q5 b (fun l=> ∀c m R w,d w→g c w→q m w→af R w→Q0 c true w (Q1 P F.aD [m,R]) (dk b l w)) fun l=>Q5 b (fun O=> ∀c A w,d w→g c w→l A w→Q0 c true w (J8 P .not A) (dk b O w)) fun O=>Q5 b (fun f=> ∀c r w,d w→g c w→O r w→Q0 c true w (fun w J=>J r w) (dk b f w)) fun f=>Q5 b (fun k=> ∀a w,d w→f a w→Q0 a false w (fieldAddr P T.m e 1) (dk b k w)) fun k=>Q5 b (fun Y=> ∀a w,d w→f a w→Q0 a false w (fun w J=>J a0 w) (dk b Y w)) fun Y=>Q5 b (fun ad=> ∀a ag w,d w→f a w→Y ag w→Q0 a false w (nilCheck P ag) (dk b ad w)) fun ad=>Q5 b (fun j=> ∀a H w,d w→f a w→ad H w→Q0 a false w (fieldAddr P T.p H 0) (dk b j w)) fun j=>Q5 b (fun o=> ∀a w,d w→f a w→Q0 a false w (fieldAddr P T.m e 0) (dk b o w)) fun o=>Q5 b (fun M=> ∀a B w,d w→f a w→k B w→Q0 a false w (Q2 P T.l B) (dk b M w)) fun M=>Q5 b (fun ao=> ∀a p w,d w→f a w→M p w→Q0 a false w (X2 P .len [T.l] T.e [false] [p]) (dk b ao w)) fun ao=>Q5 b (fun ab=> ∀a Q w,d w→f a w→j Q w→Q0 a false w (Q2 P T.r Q) (dk b ab w)) fun ab=>Q5 b (fun N=> ∀a C w,d w→f a w→o C w→Q0 a false w (Q2 P T.c C) (dk b N w)) fun N=>Q5 b (fun s=> ∀a X z w,d w→f a w→ab X w→N z w→Q0 a false w (Q1 P F.a3 [X,z]) (dk b s w)) fun s=>Q5 b (fun aj=> ∀a n w,d w→f a w→s n w→Q0 a false w (X2 P .len [T.k] T.e [false] [n]) (dk b aj w)) fun aj=>∀t7 t8 t9 c aa V ac ah m R A r a B ag H Q C p az X z n aw w,d w→φ7 t7 w→φ8 t8 w→φ9 t9 w→g c w→u aa w→t V w→y ac w→v ah w→q m w→af R w→l A w→O r w→f a w→k B w→Y ag w→ad H w→j Q w→o C w→M p w→ao az w→ab X w→N z w→s n w→aj aw w→ Q0 a false w (Q3 P .neq T.e (.tmp 23) (.tmp 31) az aw) fun bh w=>Q0 c true w (pick P a (.bool true) bh) fun bj w=>pick P c bj (.bool false) w fun bb w=>X1 bb (K (.bool false) w) (fieldAddr P T.m e 1 w fun bf w=>Q2 P T.l bf w fun aq w=>X2 P .len [T.l] T.e [false] [aq] w fun bc w=>lp (α:=Value) (.int .i64 0) w fun ai x6 d_ w=>Q3 P .lss T.e (.tmp 38) (.tmp 37) x6 bc w fun bg w=>X1 bg (indexAddr P T.l aq x6 w fun bk w=>Q2 P T.g bk w fun a9 w=>V6 P T.g w fun h w=>X9 P T.g h a9 w fun _u w=>dr w fun b d=>Q5 b (fun an=> ∀w,d w→Q2 P T.g h w (dk b an w)) fun an=>Q5 b (fun ae=> ∀w,d w→Q2 P T.m e w (dk b ae w)) fun ae=>Q5 b (fun ak=> ∀L w,d w→ae L w→Q1 P F.aC [a0,L,x6] w (dk b ak w)) fun ak=>∀av L ar w,d w→an av w→ae L w→ak ar w→ Q1 P F.aB [a0,av,ar] w fun bi w=>J8 P .not bi w fun bd w=>X1 bd (K (.bool false) w) (Q3 P .add T.e (.tmp 38) (.const (.int .i64 1)) x6 (.int .i64 1) w fun be w=>ai be w)) (dr w fun b d=>Q5 b (fun W=> ∀w,d w→nilCheck P a0 w (dk b W w)) fun W=>Q5 b (fun U=> ∀i w,d w→W i w→fieldAddr P T.p i 0 w (dk b U w)) fun U=>Q5 b (fun E=> ∀w,d w→fieldAddr P T.m e 0 w (dk b E w)) fun E=>Q5 b (fun al=> ∀D w,d w→U D w→Q2 P T.r D w (dk b al w)) fun al=>Q5 b (fun am=> ∀Z w,d w→E Z w→Q2 P T.c Z w (dk b am w)) fun am=>∀i D Z ap ax w,d w→W i w→U D w→E Z w→al ap w→am ax w→ Q1 P F.s [ap,ax] w fun ba w=>K ba w))
theorem Q0i {a b:Value} {w:World} {K:Value→World→Prop} (h:Dl a b w K):Q1 P F.bC [a,b] w K:=Q9 Ay Tryz.func55 rfl (by decide) (by kernel_rfl) h
def Ld (b f:Value) (w:World) (K:Value→World→Prop):Prop:= box P T.m b w fun a w=>Q2 P T.a5 f w fun c w=>Q2 P T.m a w fun d w=>Q1 P F.bC [c,d] w fun e w=>J8 P .not e w fun g w=>K g w
theorem Gr {a b:Value} {w:World} {K:Value→World→Prop} (h:Ld a b w K):Q1 P F.cs [a,b] w K:=Q9 (List.replicate 2 none) Tryz.func54 rfl (by decide) (by kernel_rfl) h
def Dn (b:Value) (w:World) (K:Value→World→Prop):Prop:= box P T.a5 b w fun a w=>Q2 P T.a5 a w fun i w=>nilCheck P i w fun c w=>fieldAddr P T.p c 3 w fun e w=>Q2 P T.f e w fun g w=>H1 P (.func F.cs) [] [a] w fun h w=>Q1 P F.n [g,h] w fun f w=>J8 P .not f w fun d w=>K d w
theorem Az {a:Value} {w:World} {K:Value→World→Prop} (h:Dn a w K):Q1 P F.bz [a] w K:=Q9 (List.replicate 2 none) Tryz.func23 rfl (by decide) (by kernel_rfl) h
def Q3z (g e:Value) (w:World) (K:Value→World→Prop):Prop:= Q3 P .lss T.e (.tmp 6) (.const (.int .i64 0)) e (.int .i64 0) w fun f w=>Q0 f false w (fun w J=>J e w) fun h w=>Q0 f false w (Q3 P .gtr T.e (.tmp 9) (.const (.int .i64 1048576)) h (.int .i64 1048576)) fun d w=>pick P f (.bool true) d w fun a w=>X1 a (K (.tuple #[(.pointer none),(.int .i64 90)]) w) (H0 P T.p [(0,g),(1,e)] w fun b w=>box P T.p b w fun c w=>K (.tuple #[c,(.int .i64 0)]) w)
theorem Q96 {a b:Value} {w:World} {K:Value→World→Prop} (h:Q3z a b w K):Q1 P F.cO [a,b] w K:=Q9 (List.replicate 5 none) Tryz.func15 rfl (by decide) (by kernel_rfl) h
def Po:V8:=[none,none,none,none,none,some ([1,3],[1,3,10,11,12,13,14,15,16,17,18,19,20,21,22,23]),none,none,none,none]
def Nl (w:World) (K:Value→World→Prop):Prop:= H0 P T.b [(0,(.string ⟨#[79,98,106,101,99,116]⟩))] w fun l w=>H0 P T.o [(0,(.string ⟨#[119,104,97,116]⟩)),(1,(.string ⟨#[116,101,120,116]⟩))] w fun m w=>buildSlice P T.k 1 [(0,m)] w fun o w=>H0 P T.b [(0,(.string ⟨#[70,97,117,108,116]⟩)),(1,(.string ⟨#[79,98,106,101,99,116]⟩)),(6,o)] w fun p w=>buildSlice P T.i 2 [(0,l),(1,p)] w fun n w=>buildSlice P T.h 6 [(0,(.string ⟨#[78,117,108,108,70,97,117,108,116]⟩)),(1,(.string ⟨#[73,110,100,101,120,70,97,117,108,116]⟩)),(2,(.string ⟨#[67,97,115,116,70,97,117,108,116]⟩)),(3,(.string ⟨#[90,101,114,111,70,97,117,108,116]⟩)),(4,(.string ⟨#[82,111,111,109,70,97,117,108,116]⟩)),(5,(.string ⟨#[67,97,108,108,70,97,117,108,116]⟩))] w fun k w=>lp (α:=Value×Value) (n,(.int .i64 0)) w fun a b q w=>X2 P .len [T.h] T.e [false] [k] w fun h w=>Q3 P .lss T.e (.tmp 10) (.tmp 12) b.2 h w fun e w=>X1 e (indexAddr P T.h k b.2 w fun f w=>Q2 P T.c f w fun j w=>H0 P T.b [(0,j),(1,(.string ⟨#[70,97,117,108,116]⟩)),(5,(.bool true))] w fun i w=>buildSlice P T.i 1 [(0,i)] w fun d w=>X2 P .append [T.i,T.i] T.i [false,false] [b.1,d] w fun g w=>Q3 P .add T.e (.tmp 14) (.const (.int .i64 1)) b.2 (.int .i64 1) w fun c w=>a (g,c) w) (K b.1 w)
theorem Ko {w:World} {K:Value→World→Prop} (h:Nl w K):Q1 P F.bn [] w K:=Q9 Po Tryz.func99 rfl (by decide) (by kernel_rfl) h
def Ag:V8:=[none,none,none,some ([3],[2,3,4,5,6,7,8,9,10,11,12,13,14,15,16,17,18,19,20,21,22,23,24,25,26,27,28,29,30,31,32,33,34,35,36,37]),none,none,none,none,none,none,none]
def Oj (Z:Value) (w:World) (K:Value→World→Prop):Prop:= box P T.b Z w fun b w=>lp (α:=Value) (.int .i64 0) w fun g L d_ w=>fieldAddr P T.b b 7 w fun t6 w=>Q2 P T.j t6 w fun t7 w=>X2 P .len [T.j] T.e [false] [t7] w fun t8 w=>Q3 P .lss T.e (.tmp 5) (.tmp 8) L t8 w fun Y w=>X1 Y (fieldAddr P T.b b 7 w fun z w=>Q2 P T.j z w fun u w=>indexAddr P T.j u L w fun l w=>Q2 P T.d l w fun U w=>V6 P T.d w fun a w=>X9 P T.d a U w fun _u w=>fieldAddr P T.d a 1 w fun p w=>Q2 P T.h p w fun E w=>X2 P .len [T.h] T.e [false] [E] w fun t w=>Q3 P .gtr T.e (.tmp 19) (.const (.int .i64 32)) t (.int .i64 32) w fun e w=>Q0 e false w (fieldAddr P T.d a 6) fun r w=>Q0 e false w (Q2 P T.s r) fun v w=>Q0 e false w (X2 P .len [T.s] T.e [false] [v]) fun Q w=>Q0 e false w (Q3 P .gtr T.e (.tmp 24) (.const (.int .i64 32)) Q (.int .i64 32)) fun V w=>pick P e (.bool true) V w fun c w=>Q0 c false w (fieldAddr P T.d a 5) fun J w=>Q0 c false w (Q2 P T.q J) fun D w=>Q0 c false w (X2 P .len [T.q] T.e [false] [D]) fun m w=>Q0 c false w (Q3 P .gtr T.e (.tmp 30) (.const (.int .i64 200)) m (.int .i64 200)) fun n w=>pick P c (.bool true) n w fun h w=>Q0 h false w (fieldAddr P T.d a 4) fun A w=>Q0 h false w (Q2 P T.e A) fun q w=>Q0 h false w (Q3 P .gtr T.e (.tmp 35) (.const (.int .i64 64)) q (.int .i64 64)) fun s w=>pick P h (.bool true) s w fun H w=>X1 H (K (.bool true) w) (Q3 P .add T.e (.tmp 10) (.const (.int .i64 1)) L (.int .i64 1) w fun N w=>g N w)) (fieldAddr P T.b b 2 w fun R w=>Q2 P T.h R w fun y w=>X2 P .len [T.h] T.e [false] [y] w fun k w=>Q3 P .gtr T.e (.tmp 40) (.const (.int .i64 32)) k (.int .i64 32) w fun f w=>Q0 f false w (fieldAddr P T.b b 6) fun C w=>Q0 f false w (Q2 P T.k C) fun B w=>Q0 f false w (X2 P .len [T.k] T.e [false] [B]) fun M w=>Q0 f false w (Q3 P .gtr T.e (.tmp 45) (.const (.int .i64 32)) M (.int .i64 32)) fun W w=>pick P f (.bool true) W w fun d w=>Q0 d false w (fieldAddr P T.b b 7) fun O w=>Q0 d false w (Q2 P T.j O) fun X w=>Q0 d false w (X2 P .len [T.j] T.e [false] [X]) fun o w=>Q0 d false w (Q3 P .gtr T.e (.tmp 51) (.const (.int .i64 32)) o (.int .i64 32)) fun j w=>pick P d (.bool true) j w fun i w=>K i w)
theorem Ab {a:Value} {w:World} {K:Value→World→Prop} (h:Oj a w K):Q1 P F.bJ [a] w K:=Q9 Ag Tryz.func147 rfl (by decide) (by kernel_rfl) h
def Ah:V8:=[none,none,none,some ([0,3],[0,3,4,5,6,7,8,9,10,11,12,13,14,15,16,17,18,19,20,21]),none,none,none,none]
def Of (n:Value) (w:World) (K:Value→World→Prop):Prop:= lp (α:=Value×Value) (n,(.int .i64 0)) w fun a c q w=>X2 P .len [T.c] T.e [false] [c.1] w fun o w=>Q3 P .geq T.e (.tmp 5) (.const (.int .i64 2)) o (.int .i64 2) w fun b w=>Q0 b true w (fun w J=>J c.1 w) fun p w=>Q0 b true w (fun w J=>J c.1 w) fun m w=>Q0 b true w (X2 P .len [T.c] T.e [false] [m]) fun l w=>Q0 b true w (Q3 P .sub T.e (.tmp 10) (.const (.int .i64 2)) l (.int .i64 2)) fun i w=>Q0 b true w (S4 P T.c p (some i) none none) fun f w=>Q0 b true w (Q3 P .eql T.c (.tmp 12) (.const (.string ⟨#[91,93]⟩)) f (.string ⟨#[91,93]⟩)) fun e w=>pick P b e (.bool false) w fun g w=>X1 g (Q3 P .add T.e (.tmp 15) (.const (.int .i64 1)) c.2 (.int .i64 1) w fun k w=>X2 P .len [T.c] T.e [false] [c.1] w fun d w=>Q3 P .sub T.e (.tmp 19) (.const (.int .i64 2)) d (.int .i64 2) w fun j w=>S4 P T.c c.1 none (some j) none w fun h w=>a (h,k) w) (K c.2 w)
theorem Tz {a:Value} {w:World} {K:Value→World→Prop} (h:Of a w K):Q1 P F.a2 [a] w K:=Q9 Ah Tryz.func107 rfl (by decide) (by kernel_rfl) h
def Tc:V8:=[none,none,none,some ([4],[4,5,6,7]),none,none,none,none]
def Nn (a:Value) (w:World) (K:Value→World→Prop):Prop:= jn (α:=Value) w (fun b w=>Q3 P .eql T.c (.tmp 3) (.const (.string ⟨#[105,110,116]⟩)) a (.string ⟨#[105,110,116]⟩) w fun c w=>X1 c (b c w) (Q3 P .eql T.c (.tmp 3) (.const (.string ⟨#[98,111,111,108]⟩)) a (.string ⟨#[98,111,111,108]⟩) w fun d w=>X1 d (b d w) (Q3 P .eql T.c (.tmp 3) (.const (.string ⟨#[116,101,120,116]⟩)) a (.string ⟨#[116,101,120,116]⟩) w fun f w=>b f w))) fun e g w=>X1 e (K (.bool true) w) (K (.bool false) w)
theorem Pq {a:Value} {w:World} {K:Value→World→Prop} (h:Nn a w K):Q1 P F.y [a] w K:=Q9 Tc Tryz.func111 rfl (by decide) (by kernel_rfl) h
def An:V8:=[none,none,none,some ([3],[2,3,4,5,6,7,8,9,10,11,12,13,14,15,16,17,18,19,20,21,22,23,24,25,26,27,28,29,30,31,32,33,34,35,36,37,38,39,40,41,42,43,44,45,46,47,48,49,50]),none,none,none,none,none,none,none]
def Dh (i:Value) (w:World) (K:Value→World→Prop):Prop:= lp (α:=Value) (.int .i64 0) w fun h j d_ w=>X2 P .len [T.c] T.e [false] [i] w fun t7 w=>Q3 P .lss T.e (.tmp 5) (.tmp 7) j t7 w fun t8 w=>X1 t8 (C4 P T.c i j w fun v w=>Q3 P .geq T.a3 (.tmp 13) (.const (.int .u8 97)) v (.int .u8 97) w fun d w=>Q0 d true w (fun w J=>J i w) fun X w=>Q0 d true w (fun w J=>J j w) fun r w=>Q0 d true w (C4 P T.c X r) fun M w=>Q0 d true w (Q3 P .leq T.a3 (.tmp 18) (.const (.int .u8 122)) M (.int .u8 122)) fun u w=>pick P d u (.bool false) w fun b w=>Q0 b false w (fun w J=>J i w) fun s w=>Q0 b false w (fun w J=>J j w) fun y w=>Q0 b false w (C4 P T.c s y) fun V w=>Q0 b false w (Q3 P .geq T.a3 (.tmp 24) (.const (.int .u8 65)) V (.int .u8 65)) fun Y w=>Q0 b false w (fun w J=>J Y w) fun c w=>Q0 c true w (fun w J=>J i w) fun D w=>Q0 c true w (fun w J=>J j w) fun O w=>Q0 c true w (C4 P T.c D O) fun H w=>Q0 c true w (Q3 P .leq T.a3 (.tmp 29) (.const (.int .u8 90)) H (.int .u8 90)) fun o w=>Q0 b false w (pick P c o (.bool false)) fun p w=>pick P b (.bool true) p w fun Q w=>J8 P .not Q w fun a w=>Q0 a true w (fun w J=>J j w) fun t w=>Q0 a true w (Q3 P .eql T.e (.tmp 36) (.const (.int .i64 0)) t (.int .i64 0)) fun N w=>Q0 a true w (fun w J=>J N w) fun f w=>Q0 f false w (fun w J=>J i w) fun A w=>Q0 f false w (fun w J=>J j w) fun m w=>Q0 f false w (C4 P T.c A m) fun W w=>Q0 f false w (Q3 P .lss T.a3 (.tmp 41) (.const (.int .u8 48)) W (.int .u8 48)) fun k w=>Q0 a true w (pick P f (.bool true) k) fun E w=>Q0 a true w (fun w J=>J E w) fun e w=>Q0 e false w (fun w J=>J i w) fun R w=>Q0 e false w (fun w J=>J j w) fun aa w=>Q0 e false w (C4 P T.c R aa) fun L w=>Q0 e false w (Q3 P .gtr T.a3 (.tmp 47) (.const (.int .u8 57)) L (.int .u8 57)) fun B w=>Q0 a true w (pick P e (.bool true) B) fun U w=>pick P a U (.bool false) w fun ab w=>X1 ab (K (.bool false) w) (Q3 P .add T.e (.tmp 9) (.const (.int .i64 1)) j (.int .i64 1) w fun Z w=>h Z w)) (X2 P .len [T.c] T.e [false] [i] w fun l w=>Q3 P .geq T.e (.tmp 52) (.const (.int .i64 1)) l (.int .i64 1) w fun g w=>Q0 g true w (fun w J=>J i w) fun n w=>Q0 g true w (X2 P .len [T.c] T.e [false] [n]) fun C w=>Q0 g true w (Q3 P .leq T.e (.tmp 56) (.const (.int .i64 32)) C (.int .i64 32)) fun q w=>pick P g q (.bool false) w fun z w=>K z w)
theorem Ac {a:Value} {w:World} {K:Value→World→Prop} (h:Dh a w K):Q1 P F.aY [a] w K:=Q9 An Tryz.func190 rfl (by decide) (by kernel_rfl) h
def Oa (b:Value) (w:World) (K:Value→World→Prop):Prop:= Q1 P F.aY [b] w fun a w=>Q0 a true w (fun w J=>J b w) fun e w=>Q0 a true w (C4 P T.c e (.int .i64 0)) fun f w=>Q0 a true w (Q3 P .leq T.a3 (.tmp 7) (.const (.int .u8 90)) f (.int .u8 90)) fun d w=>pick P a d (.bool false) w fun c w=>K c w
theorem Tk {a:Value} {w:World} {K:Value→World→Prop} (h:Oa a w K):Q1 P F.d [a] w K:=Q9 (List.replicate 2 none) Tryz.func160 rfl (by decide) (by kernel_rfl) h
def Nz (d:Value) (w:World) (K:Value→World→Prop):Prop:= Q1 P F.a2 [d] w fun m w=>X2 P .len [T.c] T.e [false] [d] w fun n w=>Q3 P .mul T.e (.const (.int .i64 2)) (.tmp 10) (.int .i64 2) m w fun f w=>Q3 P .sub T.e (.tmp 9) (.tmp 11) n f w fun h w=>S4 P T.c d none (some h) none w fun c w=>Q3 P .leq T.e (.tmp 14) (.const (.int .i64 3)) m (.int .i64 3) w fun a w=>Q0 a true w (fun w J=>J c w) fun e w=>Q0 a true w (Q1 P F.y [e]) fun j w=>Q0 a true w (fun w J=>J j w) fun b w=>Q0 b false w (fun w J=>J c w) fun g w=>Q0 b false w (Q1 P F.d [g]) fun k w=>Q0 a true w (pick P b (.bool true) k) fun i w=>pick P a i (.bool false) w fun l w=>K l w
theorem Kc {a:Value} {w:World} {K:Value→World→Prop} (h:Nz a w K):Q1 P F.e [a] w K:=Q9 (List.replicate 4 none) Tryz.func118 rfl (by decide) (by kernel_rfl) h
def Lx (b:Value) (w:World) (K:Value→World→Prop):Prop:= Q1 P F.aY [b] w fun a w=>Q0 a true w (fun w J=>J b w) fun e w=>Q0 a true w (C4 P T.c e (.int .i64 0)) fun f w=>Q0 a true w (Q3 P .geq T.a3 (.tmp 7) (.const (.int .u8 97)) f (.int .u8 97)) fun d w=>pick P a d (.bool false) w fun c w=>K c w
theorem Fv {a:Value} {w:World} {K:Value→World→Prop} (h:Lx a w K):Q1 P F.u [a] w K:=Q9 (List.replicate 2 none) Tryz.func181 rfl (by decide) (by kernel_rfl) h
def Mi (c h:Value) (w:World) (K:Value→World→Prop):Prop:= X2 P .len [T.c] T.e [false] [c] w fun n w=>Q3 P .lss T.e (.tmp 5) (.tmp 7) h n w fun b w=>Q0 b true w (fun w J=>J c w) fun j w=>Q0 b true w (fun w J=>J h w) fun e w=>Q0 b true w (C4 P T.c j e) fun g w=>Q0 b true w (Q3 P .geq T.a3 (.tmp 12) (.const (.int .u8 128)) g (.int .u8 128)) fun m w=>pick P b m (.bool false) w fun a w=>Q0 a true w (fun w J=>J c w) fun i w=>Q0 a true w (fun w J=>J h w) fun d w=>Q0 a true w (C4 P T.c i d) fun k w=>Q0 a true w (Q3 P .lss T.a3 (.tmp 18) (.const (.int .u8 192)) k (.int .u8 192)) fun l w=>pick P a l (.bool false) w fun f w=>K f w
theorem Kt {a b:Value} {w:World} {K:Value→World→Prop} (h:Mi a b w K):Q1 P F.r [a,b] w K:=Q9 (List.replicate 2 none) Tryz.func154 rfl (by decide) (by kernel_rfl) h
def Ad:V8:=[none,none,some ([],[2,4,5,9,10,11,12,13,14,15,16,17,18,19,20,21,22,23,24,25,26,27,28,29,30,31,32,33,34,35,36,37,38,39,40,41,42,43,44,45,46,47,48,49,50,51,52,53,54,55,56,57,58,59,60,61,62,63,64,65,66,67,68,69,70,71,72,73,74,75,76,77,78,79,80,81,82,83,84,85,86,87,88,89,90,91,92,93,94,95,96,97,98,99,100,101,102,103,104,105,106]),none,none,none,none,none,none,none,none,none,none,none,none,none]
def Dk (c:Value) (w:World) (K:Value→World→Prop):Prop:= C4 P T.c c (.int .i64 0) w fun t7 w=>conv P T.a3 T.e t7 w fun t w=>jn (α:=Unit) w (fun J2 w=>Q3 P .lss T.e (.tmp 10) (.const (.int .i64 128)) t (.int .i64 128) w fun bw w=>X1 bw (K (.int .i64 1) w) (Q3 P .geq T.e (.tmp 13) (.const (.int .i64 194)) t (.int .i64 194) w fun av w=>Q0 av true w (fun w J=>J t w) fun bz w=>Q0 av true w (Q3 P .lss T.e (.tmp 16) (.const (.int .i64 224)) bz (.int .i64 224)) fun bn w=>pick P av bn (.bool false) w fun al w=>Q0 al true w (fun w J=>J c w) fun bv w=>Q0 al true w (Q1 P F.r [bv,(.int .i64 1)]) fun bh w=>pick P al bh (.bool false) w fun bc w=>X1 bc (K (.int .i64 2) w) (Q3 P .geq T.e (.tmp 24) (.const (.int .i64 224)) t (.int .i64 224) w fun am w=>Q0 am true w (fun w J=>J t w) fun br w=>Q0 am true w (Q3 P .lss T.e (.tmp 27) (.const (.int .i64 240)) br (.int .i64 240)) fun bi w=>pick P am bi (.bool false) w fun ak w=>Q0 ak true w (fun w J=>J c w) fun bm w=>Q0 ak true w (Q1 P F.r [bm,(.int .i64 1)]) fun bu w=>pick P ak bu (.bool false) w fun ax w=>Q0 ax true w (fun w J=>J c w) fun bo w=>Q0 ax true w (Q1 P F.r [bo,(.int .i64 2)]) fun be w=>pick P ax be (.bool false) w fun bk w=>X1 bk (dr w fun a b=>Q5 a (fun k=> ∀w,b w→Q3 P .rem T.e (.tmp 38) (.const (.int .i64 16)) t (.int .i64 16) w (dk a k w)) fun k=>Q5 a (fun A=> ∀R w,b w→k R w→Q3 P .mul T.e (.tmp 39) (.const (.int .i64 4096)) R (.int .i64 4096) w (dk a A w)) fun A=>Q5 a (fun E=> ∀w,b w→C4 P T.c c (.int .i64 1) w (dk a E w)) fun E=>Q5 a (fun y=> ∀g w,b w→E g w→Q3 P .rem T.a3 (.tmp 42) (.const (.int .u8 64)) g (.int .u8 64) w (dk a y w)) fun y=>Q5 a (fun s=> ∀w,b w→C4 P T.c c (.int .i64 2) w (dk a s w)) fun s=>Q5 a (fun u=> ∀p w,b w→s p w→Q3 P .rem T.a3 (.tmp 48) (.const (.int .u8 64)) p (.int .u8 64) w (dk a u w)) fun u=>Q5 a (fun M=> ∀V w,b w→y V w→conv P T.a3 T.e V w (dk a M w)) fun M=>Q5 a (fun W=> ∀r w,b w→M r w→Q3 P .mul T.e (.tmp 44) (.const (.int .i64 64)) r (.int .i64 64) w (dk a W w)) fun W=>Q5 a (fun aw=> ∀i aa w,b w→A i w→W aa w→Q3 P .add T.e (.tmp 40) (.tmp 45) i aa w (dk a aw w)) fun aw=>Q5 a (fun ah=> ∀ab w,b w→u ab w→conv P T.a3 T.e ab w (dk a ah w)) fun ah=>∀R i g V p ab r aa a3 a4 w,b w→k R w→A i w→E g w→y V w→s p w→u ab w→M r w→W aa w→aw a3 w→ah a4 w→ Q3 P .add T.e (.tmp 46) (.tmp 50) a3 a4 w fun aq w=>Q3 P .geq T.e (.tmp 52) (.const (.int .i64 2048)) aq (.int .i64 2048) w fun d w=>Q0 d true w (fun w J=>J aq w) fun a8 w=>Q0 d true w (Q3 P .lss T.e (.tmp 55) (.const (.int .i64 55296)) a8 (.int .i64 55296)) fun bq w=>Q0 d true w (fun w J=>J bq w) fun ao w=>Q0 ao false w (fun w J=>J aq w) fun bf w=>Q0 ao false w (Q3 P .gtr T.e (.tmp 58) (.const (.int .i64 57343)) bf (.int .i64 57343)) fun bg w=>Q0 d true w (pick P ao (.bool true) bg) fun ba w=>pick P d ba (.bool false) w fun a7 w=>X1 a7 (K (.int .i64 3) w) (J2 () w)) (Q3 P .geq T.e (.tmp 63) (.const (.int .i64 240)) t (.int .i64 240) w fun ay w=>Q0 ay true w (fun w J=>J t w) fun bb w=>Q0 ay true w (Q3 P .lss T.e (.tmp 66) (.const (.int .i64 245)) bb (.int .i64 245)) fun b0 w=>pick P ay b0 (.bool false) w fun aj w=>Q0 aj true w (fun w J=>J c w) fun bp w=>Q0 aj true w (Q1 P F.r [bp,(.int .i64 1)]) fun a9 w=>pick P aj a9 (.bool false) w fun ai w=>Q0 ai true w (fun w J=>J c w) fun b1 w=>Q0 ai true w (Q1 P F.r [b1,(.int .i64 2)]) fun bx w=>pick P ai bx (.bool false) w fun ar w=>Q0 ar true w (fun w J=>J c w) fun bd w=>Q0 ar true w (Q1 P F.r [bd,(.int .i64 3)]) fun bl w=>pick P ar bl (.bool false) w fun bj w=>X1 bj (dr w fun a b=>Q5 a (fun f=> ∀w,b w→Q3 P .rem T.e (.tmp 81) (.const (.int .i64 8)) t (.int .i64 8) w (dk a f w)) fun f=>Q5 a (fun o=> ∀Q w,b w→f Q w→Q3 P .mul T.e (.tmp 82) (.const (.int .i64 262144)) Q (.int .i64 262144) w (dk a o w)) fun o=>Q5 a (fun ae=> ∀w,b w→C4 P T.c c (.int .i64 1) w (dk a ae w)) fun ae=>Q5 a (fun af=> ∀l w,b w→ae l w→Q3 P .rem T.a3 (.tmp 85) (.const (.int .u8 64)) l (.int .u8 64) w (dk a af w)) fun af=>Q5 a (fun C=> ∀w,b w→C4 P T.c c (.int .i64 2) w (dk a C w)) fun C=>Q5 a (fun v=> ∀N w,b w→C N w→Q3 P .rem T.a3 (.tmp 91) (.const (.int .u8 64)) N (.int .u8 64) w (dk a v w)) fun v=>Q5 a (fun m=> ∀w,b w→C4 P T.c c (.int .i64 3) w (dk a m w)) fun m=>Q5 a (fun z=> ∀ad w,b w→m ad w→Q3 P .rem T.a3 (.tmp 97) (.const (.int .u8 64)) ad (.int .u8 64) w (dk a z w)) fun z=>Q5 a (fun Y=> ∀q w,b w→af q w→conv P T.a3 T.e q w (dk a Y w)) fun Y=>Q5 a (fun O=> ∀h w,b w→Y h w→Q3 P .mul T.e (.tmp 87) (.const (.int .i64 4096)) h (.int .i64 4096) w (dk a O w)) fun O=>Q5 a (fun j=> ∀L ac w,b w→o L w→O ac w→Q3 P .add T.e (.tmp 83) (.tmp 88) L ac w (dk a j w)) fun j=>Q5 a (fun Z=> ∀n w,b w→v n w→conv P T.a3 T.e n w (dk a Z w)) fun Z=>Q5 a (fun U=> ∀X w,b w→Z X w→Q3 P .mul T.e (.tmp 93) (.const (.int .i64 64)) X (.int .i64 64) w (dk a U w)) fun U=>Q5 a (fun an=> ∀H D w,b w→j H w→U D w→Q3 P .add T.e (.tmp 89) (.tmp 94) H D w (dk a an w)) fun an=>Q5 a (fun ap=> ∀B w,b w→z B w→conv P T.a3 T.e B w (dk a ap w)) fun ap=>∀Q L l q N n ad B h ac H X D a6 a2 w,b w→f Q w→o L w→ae l w→af q w→C N w→v n w→m ad w→z B w→Y h w→O ac w→j H w→Z X w→U D w→an a6 w→ap a2 w→ Q3 P .add T.e (.tmp 95) (.tmp 99) a6 a2 w fun ag w=>Q3 P .geq T.e (.tmp 101) (.const (.int .i64 65536)) ag (.int .i64 65536) w fun e w=>Q0 e true w (fun w J=>J ag w) fun az w=>Q0 e true w (Q3 P .leq T.e (.tmp 104) (.const (.int .i64 1114111)) az (.int .i64 1114111)) fun a5 w=>pick P e a5 (.bool false) w fun a1 w=>X1 a1 (K (.int .i64 4) w) (J2 () w)) (J2 () w))))) fun z2 d_ w=>K (.int .i64 0) w
theorem Q01 {a:Value} {w:World} {K:Value→World→Prop} (h:Dk a w K):Q1 P F.bG [a] w K:=Q9 Ad Tryz.func113 rfl (by decide) (by kernel_rfl) h
def Kv:V8:=[none,none,some ([0],[0,2,3,4,5,6,7,8,9,10,11,12]),none,none,none,none,none,none,none]
def Mo (e:Value) (w:World) (K:Value→World→Prop):Prop:= lp (α:=Value) e w fun a c h w=>Q3 P .neq T.c (.tmp 4) (.const (.string ⟨#[]⟩)) c (.string ⟨#[]⟩) w fun g w=>X1 g (Q1 P F.bG [c] w fun d w=>Q3 P .eql T.e (.tmp 8) (.const (.int .i64 0)) d (.int .i64 0) w fun f w=>X1 f (K (.bool false) w) (S4 P T.c c (some d) none none w fun b w=>a b w)) (K (.bool true) w)
theorem Iq {a:Value} {w:World} {K:Value→World→Prop} (h:Mo a w K):Q1 P F.aK [a] w K:=Q9 Kv Tryz.func65 rfl (by decide) (by kernel_rfl) h
def Eo (w:World) (K:Value→World→Prop):Prop:= buildSlice P T.h 42 [(0,(.string ⟨#[105,110,116]⟩)),(1,(.string ⟨#[116,114,117,101]⟩)),(2,(.string ⟨#[102,97,108,115,101]⟩)),(3,(.string ⟨#[119,111,114,100]⟩)),(4,(.string ⟨#[110,117,108,108]⟩)),(5,(.string ⟨#[108,111,97,100]⟩)),(6,(.string ⟨#[115,116,111,114,101]⟩)),(7,(.string ⟨#[112,111,112]⟩)),(8,(.string ⟨#[100,117,112]⟩)),(9,(.string ⟨#[115,119,97,112]⟩)),(10,(.string ⟨#[97,100,100]⟩)),(11,(.string ⟨#[115,117,98]⟩)),(12,(.string ⟨#[109,117,108]⟩)),(13,(.string ⟨#[100,105,118]⟩)),(14,(.string ⟨#[114,101,109]⟩)),(15,(.string ⟨#[110,101,103]⟩)),(16,(.string ⟨#[108,101,115,115]⟩)),(17,(.string ⟨#[115,97,109,101]⟩)),(18,(.string ⟨#[110,111,116]⟩)),(19,(.string ⟨#[98,111,116,104]⟩)),(20,(.string ⟨#[106,111,105,110]⟩)),(21,(.string ⟨#[115,105,122,101]⟩)),(22,(.string ⟨#[106,117,109,112]⟩)),(23,(.string ⟨#[98,114,97,110,99,104]⟩)),(24,(.string ⟨#[110,101,119]⟩)),(25,(.string ⟨#[103,101,116]⟩)),(26,(.string ⟨#[112,117,116]⟩)),(27,(.string ⟨#[99,97,108,108]⟩)),(28,(.string ⟨#[97,114,114,97,121]⟩)),(29,(.string ⟨#[97,116]⟩)),(30,(.string ⟨#[115,101,116]⟩)),(31,(.string ⟨#[105,115]⟩)),(32,(.string ⟨#[99,97,115,116]⟩)),(33,(.string ⟨#[114,101,116,117,114,110]⟩)),(34,(.string ⟨#[116,104,114,111,119]⟩)),(35,(.string ⟨#[111,117,116]⟩)),(36,(.string ⟨#[101,113,117,97,108]⟩)),(37,(.string ⟨#[97,110,100]⟩)),(38,(.string ⟨#[111,114]⟩)),(39,(.string ⟨#[120,111,114]⟩)),(40,(.string ⟨#[115,104,108]⟩)),(41,(.string ⟨#[115,104,114]⟩))] w fun a w=>K a w
theorem Q1o {w:World} {K:Value→World→Prop} (h:Eo w K):Q1 P F.bW [] w K:=Q9 (List.replicate 2 none) Tryz.func233 rfl (by decide) (by kernel_rfl) h
def Gp:V8:=[none,none,none,none,some ([4],[2,4,6,7,8,9,10,11,12,13,14,15,16,17,18]),none,none,none,none,none,none]
def Ls (h:Value) (w:World) (K:Value→World→Prop):Prop:= Q1 P F.bW [] w fun g w=>lp (α:=Value) (.int .i64 0) w fun a b k w=>X2 P .len [T.h] T.e [false] [g] w fun j w=>Q3 P .lss T.e (.tmp 6) (.tmp 8) b j w fun i w=>X1 i (indexAddr P T.h g b w fun e w=>Q2 P T.c e w fun f w=>Q3 P .eql T.c (.tmp 15) (.tmp 16) f h w fun d w=>X1 d (K b w) (Q3 P .add T.e (.tmp 10) (.const (.int .i64 1)) b (.int .i64 1) w fun c w=>a c w)) (K (.int .i64 (-1)) w)
theorem Fu {a:Value} {w:World} {K:Value→World→Prop} (h:Ls a w K):Q1 P F.bg [a] w K:=Q9 Gp Tryz.func230 rfl (by decide) (by kernel_rfl) h
def Pa:V8:=[none,none,none,some ([4],[4,5,6,7,8,9]),none,none,none,none,none,some ([10],[10,11,12,13,14,15,16,17,18]),none,none,none,none,none,none,none,none,none,none,none,none]
def Nx (a:Value) (w:World) (K:Value→World→Prop):Prop:= jn (α:=Value) w (fun e w=>Q3 P .eql T.c (.tmp 3) (.const (.string ⟨#[105,110,116]⟩)) a (.string ⟨#[105,110,116]⟩) w fun n w=>X1 n (e n w) (Q3 P .eql T.c (.tmp 3) (.const (.string ⟨#[108,111,97,100]⟩)) a (.string ⟨#[108,111,97,100]⟩) w fun p w=>X1 p (e p w) (Q3 P .eql T.c (.tmp 3) (.const (.string ⟨#[115,116,111,114,101]⟩)) a (.string ⟨#[115,116,111,114,101]⟩) w fun q w=>X1 q (e q w) (Q3 P .eql T.c (.tmp 3) (.const (.string ⟨#[106,117,109,112]⟩)) a (.string ⟨#[106,117,109,112]⟩) w fun o w=>X1 o (e o w) (Q3 P .eql T.c (.tmp 3) (.const (.string ⟨#[98,114,97,110,99,104]⟩)) a (.string ⟨#[98,114,97,110,99,104]⟩) w fun s w=>e s w))))) fun u r w=>X1 u (K (.int .i64 1) w) (jn (α:=Value) w (fun b w=>Q3 P .eql T.c (.tmp 3) (.const (.string ⟨#[119,111,114,100]⟩)) a (.string ⟨#[119,111,114,100]⟩) w fun i w=>X1 i (b i w) (Q3 P .eql T.c (.tmp 3) (.const (.string ⟨#[110,101,119]⟩)) a (.string ⟨#[110,101,119]⟩) w fun g w=>X1 g (b g w) (Q3 P .eql T.c (.tmp 3) (.const (.string ⟨#[103,101,116]⟩)) a (.string ⟨#[103,101,116]⟩) w fun f w=>X1 f (b f w) (Q3 P .eql T.c (.tmp 3) (.const (.string ⟨#[112,117,116]⟩)) a (.string ⟨#[112,117,116]⟩) w fun h w=>X1 h (b h w) (Q3 P .eql T.c (.tmp 3) (.const (.string ⟨#[99,97,108,108]⟩)) a (.string ⟨#[99,97,108,108]⟩) w fun c w=>X1 c (b c w) (Q3 P .eql T.c (.tmp 3) (.const (.string ⟨#[97,114,114,97,121]⟩)) a (.string ⟨#[97,114,114,97,121]⟩) w fun j w=>X1 j (b j w) (Q3 P .eql T.c (.tmp 3) (.const (.string ⟨#[105,115]⟩)) a (.string ⟨#[105,115]⟩) w fun d w=>X1 d (b d w) (Q3 P .eql T.c (.tmp 3) (.const (.string ⟨#[99,97,115,116]⟩)) a (.string ⟨#[99,97,115,116]⟩) w fun k w=>b k w)))))))) fun t r w=>X1 t (K (.int .i64 2) w) (Q1 P F.bg [a] w fun m w=>Q3 P .lss T.e (.tmp 20) (.const (.int .i64 0)) m (.int .i64 0) w fun l w=>X1 l (K (.int .i64 (-1)) w) (K (.int .i64 0) w)))
theorem Pp {a:Value} {w:World} {K:Value→World→Prop} (h:Nx a w K):Q1 P F.bv [a] w K:=Q9 Pa Tryz.func225 rfl (by decide) (by kernel_rfl) h
def Iu:V8:=[none,none,none,some ([5],[2,3,4,5,6,7,8,9,10,11,12,13,14,15,16,17,18,19,20,21,22,23,24,25,26,27,28,29,30,31,32,33]),none,none,none,none,none,none]
def Nw (z:Value) (w:World) (K:Value→World→Prop):Prop:= lp (α:=Value) (.int .i64 0) w fun f u N w=>X2 P .len [T.c] T.e [false] [z] w fun M w=>Q3 P .lss T.e (.tmp 6) (.tmp 8) u M w fun L w=>X1 L (C4 P T.c z u w fun E w=>Q3 P .eql T.a3 (.tmp 14) (.const (.int .u8 46)) E (.int .u8 46) w fun D w=>X1 D (dr w fun b d=>Q5 b (fun t=> ∀w,d w→S4 P T.c z none (some u) none w (dk b t w)) fun t=>Q5 b (fun e=> ∀w,d w→Q3 P .add T.e (.tmp 20) (.const (.int .i64 1)) u (.int .i64 1) w (dk b e w)) fun e=>Q5 b (fun y=> ∀p w,d w→e p w→S4 P T.c z (some p) none none w (dk b y w)) fun y=>Q5 b (fun n=> ∀w,d w→S4 P T.c z none (some u) none w (dk b n w)) fun n=>Q5 b (fun c=> ∀s w,d w→n s w→Q1 P F.d [s] w (dk b c w)) fun c=>Q5 b (fun l=> ∀a w,d w→c a w→Q0 a true w (fun w J=>J z w) (dk b l w)) fun l=>Q5 b (fun h=> ∀a w,d w→c a w→Q0 a true w (fun w J=>J u w) (dk b h w)) fun h=>Q5 b (fun m=> ∀a o w,d w→c a w→h o w→Q0 a true w (Q3 P .add T.e (.tmp 29) (.const (.int .i64 1)) o (.int .i64 1)) (dk b m w)) fun m=>Q5 b (fun k=> ∀a q i w,d w→c a w→l q w→m i w→Q0 a true w (S4 P T.c q (some i) none none) (dk b k w)) fun k=>Q5 b (fun g=> ∀a j w,d w→c a w→k j w→Q0 a true w (Q1 P F.u [j]) (dk b g w)) fun g=>Q5 b (fun v=> ∀a r w,d w→c a w→g r w→pick P a r (.bool false) w (dk b v w)) fun v=>∀B p A s a q o i j r C w,d w→t B w→e p w→y A w→n s w→c a w→l q w→h o w→m i w→k j w→g r w→v C w→ K (.tuple #[B,A,C]) w) (Q3 P .add T.e (.tmp 10) (.const (.int .i64 1)) u (.int .i64 1) w fun H w=>f H w)) (K (.tuple #[(.string ⟨#[]⟩),(.string ⟨#[]⟩),(.bool false)]) w)
theorem Td {a:Value} {w:World} {K:Value→World→Prop} (h:Nw a w K):Q1 P F.bw [a] w K:=Q9 Iu Tryz.func226 rfl (by decide) (by kernel_rfl) h
def Tn:V8:=[none,none,none,none,none,none,some ([4],[4,5,6,7,8,30,31,32,33,34,35,36,37,38,39,40,41,42,43,44,45,46,47,48,49,50,51,52,53,54,55,56,57,58,59,60,61,62,63,64,65,66,67,68,69,70,71,72,73,74,75,76,77,78,79,80,81,82,83,84,85,86,87,88,89,90,91,92,93,94,95,96,97,98,99,100,101,102,103,104,105,106,107,108,109,110]),none,none,none,none,none,some ([4,5],[4,5,59,60,61,62,63,64,65,66,67,68,69,70,71,72,73]),none,none,none,none,some ([82],[82,83,84]),none,none,none,none,none,none,none]
def Ny (a0:Value) (w:World) (K:Value→World→Prop):Prop:= box P T.v a0 w fun d w=>fieldAddr P T.v d 0 w fun t9 w=>Q2 P T.c t9 w fun aj w=>Q1 P F.bv [aj] w fun k w=>Q3 P .lss T.e (.tmp 12) (.const (.int .i64 0)) k (.int .i64 0) w fun a2 w=>X1 a2 (K (.int .i64 40) w) (Q3 P .eql T.e (.tmp 14) (.const (.int .i64 1)) k (.int .i64 1) w fun j w=>Q0 j false w (fieldAddr P T.v d 1) fun aw w=>Q0 j false w (Q2 P T.a1 aw) fun ad w=>Q0 j false w (Q3 P .eql T.a1 (.tmp 18) (.const (.int .i64 0)) ad (.int .i64 0)) fun Y w=>pick P j (.bool true) Y w fun g w=>Q0 g true w (fun w J=>J k w) fun R w=>Q0 g true w (Q3 P .eql T.e (.tmp 22) (.const (.int .i64 2)) R (.int .i64 2)) fun a3 w=>Q0 g true w (fun w J=>J a3 w) fun l w=>Q0 l false w (fieldAddr P T.v d 2) fun ai w=>Q0 l false w (Q2 P T.c ai) fun av w=>Q0 l false w (Q3 P .eql T.c (.tmp 26) (.const (.string ⟨#[]⟩)) av (.string ⟨#[]⟩)) fun a5 w=>Q0 g true w (pick P l (.bool true) a5) fun ae w=>pick P g ae (.bool false) w fun a w=>jn (α:=Value) w (fun n w=>Q3 P .eql T.e (.tmp 30) (.const (.int .i64 2)) k (.int .i64 2) w fun ap w=>X1 ap (fieldAddr P T.v d 0 w fun a8 w=>Q2 P T.c a8 w fun h w=>Q3 P .eql T.c (.tmp 33) (.const (.string ⟨#[119,111,114,100]⟩)) h (.string ⟨#[119,111,114,100]⟩) w fun ak w=>X1 ak (Q0 a true w (fieldAddr P T.v d 2) fun a9 w=>Q0 a true w (Q2 P T.c a9) fun al w=>Q0 a true w (X2 P .len [T.c] T.e [false] [al]) fun ar w=>Q0 a true w (Q3 P .leq T.e (.tmp 51) (.const (.int .i64 64)) ar (.int .i64 64)) fun H w=>pick P a H (.bool false) w fun i w=>Q0 i true w (fieldAddr P T.v d 2) fun M w=>Q0 i true w (Q2 P T.c M) fun a4 w=>Q0 i true w (Q1 P F.aK [a4]) fun aq w=>pick P i aq (.bool false) w fun aa w=>lp (α:=Value×Value) (aa,(.int .i64 0)) w fun e b d_ w=>fieldAddr P T.v d 2 w fun Q w=>Q2 P T.c Q w fun C w=>X2 P .len [T.c] T.e [false] [C] w fun O w=>Q3 P .lss T.e (.tmp 59) (.tmp 62) b.2 O w fun V w=>X1 V (Q0 b.1 true w (fieldAddr P T.v d 2) fun ac w=>Q0 b.1 true w (Q2 P T.c ac) fun az w=>Q0 b.1 true w (fun w J=>J b.2 w) fun a1 w=>Q0 b.1 true w (C4 P T.c az a1) fun N w=>Q0 b.1 true w (Q3 P .neq T.a3 (.tmp 71) (.const (.int .u8 10)) N (.int .u8 10)) fun X w=>pick P b.1 X (.bool false) w fun af w=>Q3 P .add T.e (.tmp 64) (.const (.int .i64 1)) b.2 (.int .i64 1) w fun be w=>e (af,be) w) (n b.1 w)) (Q3 P .eql T.c (.tmp 33) (.const (.string ⟨#[110,101,119]⟩)) h (.string ⟨#[110,101,119]⟩) w fun bb w=>X1 bb (Q0 a true w (fieldAddr P T.v d 2) fun U w=>Q0 a true w (Q2 P T.c U) fun an w=>Q0 a true w (Q1 P F.d [an]) fun ah w=>pick P a ah (.bool false) w fun bd w=>n bd w) (jn (α:=Value) w (fun q w=>Q3 P .eql T.c (.tmp 33) (.const (.string ⟨#[105,115]⟩)) h (.string ⟨#[105,115]⟩) w fun t w=>X1 t (q t w) (Q3 P .eql T.c (.tmp 33) (.const (.string ⟨#[99,97,115,116]⟩)) h (.string ⟨#[99,97,115,116]⟩) w fun B w=>q B w)) fun D d_ w=>X1 D (Q0 a true w (fieldAddr P T.v d 2) fun E w=>Q0 a true w (Q2 P T.c E) fun ba w=>Q0 a true w (Q1 P F.e [ba]) fun ay w=>pick P a ay (.bool false) w fun f w=>Q0 f true w (fieldAddr P T.v d 2) fun Z w=>Q0 f true w (Q2 P T.c Z) fun a7 w=>Q0 f true w (Q1 P F.y [a7]) fun ao w=>Q0 f true w (J8 P .not ao) fun bc w=>pick P f bc (.bool false) w fun ag w=>n ag w) (Q3 P .eql T.c (.tmp 33) (.const (.string ⟨#[97,114,114,97,121]⟩)) h (.string ⟨#[97,114,114,97,121]⟩) w fun am w=>X1 am (Q0 a true w (fieldAddr P T.v d 2) fun z w=>Q0 a true w (Q2 P T.c z) fun A w=>Q0 a true w (Q1 P F.e [A]) fun v w=>pick P a v (.bool false) w fun c w=>Q0 c true w (fieldAddr P T.v d 2) fun o w=>Q0 c true w (Q2 P T.c o) fun u w=>Q0 c true w (Q1 P F.a2 [u]) fun y w=>Q0 c true w (Q3 P .lss T.e (.tmp 108) (.const (.int .i64 3)) y (.int .i64 3)) fun s w=>pick P c s (.bool false) w fun p w=>n p w) (fieldAddr P T.v d 2 w fun ax w=>Q2 P T.c ax w fun W w=>Q1 P F.bw [W] w fun m w=>ext P m 0 w fun bk w=>ext P m 1 w fun bi w=>ext P m 2 w fun L w=>Q0 a true w (fun w J=>J L w) fun a6 w=>pick P a a6 (.bool false) w fun ab w=>n ab w))))) (n a w)) fun z6 d_ w=>J8 P .not z6 w fun r w=>X1 r (K (.int .i64 41) w) (K (.int .i64 0) w))
theorem Pg {a:Value} {w:World} {K:Value→World→Prop} (h:Ny a w K):Q1 P F.bu [a] w K:=Q9 Tn Tryz.func215 rfl (by decide) (by kernel_rfl) h
def Q0M:V8:=[none,none,none,some ([3],[2,3,4,5,6,7,8,9,10,11,12,13,14,15,16,17,18]),none,none,none,none,none,none,none]
def Ek (h:Value) (w:World) (K:Value→World→Prop):Prop:= lp (α:=Value) (.int .i64 0) w fun a g k w=>X2 P .len [T.q] T.e [false] [h] w fun j w=>Q3 P .lss T.e (.tmp 5) (.tmp 7) g j w fun i w=>X1 i (indexAddr P T.q h g w fun f w=>Q2 P T.v f w fun d w=>Q1 P F.bu [d] w fun b w=>Q3 P .neq T.y (.tmp 16) (.const (.int .i64 0)) b (.int .i64 0) w fun c w=>X1 c (K b w) (Q3 P .add T.e (.tmp 9) (.const (.int .i64 1)) g (.int .i64 1) w fun e w=>a e w)) (K (.int .i64 0) w)
theorem Q0z {a:Value} {w:World} {K:Value→World→Prop} (h:Ek a w K):Q1 P F.b3 [a] w K:=Q9 Q0M Tryz.func203 rfl (by decide) (by kernel_rfl) h
def Ii:V8:=[none,none,none,none,some ([3,4],[3,4,21,22,23,24,25,26,27,28,29,30,31,32,33,34,35,36]),none,none,none,none,none,none,none,none,none,some ([3,6],[3,6,7,60,61,62,63,64,65,66,67,68,69,70,71,72,73,74,75,76,77,78,79,80,81,82,83,84,85,86,87,88,89,90,91,92,93,94,95,96,97,98,99,100,101,102,103,104,105,106]),none,none,none,none,none]
def Lj (a0:Value) (w:World) (K:Value→World→Prop):Prop:= box P T.d a0 w fun e w=>fieldAddr P T.d e 0 w fun t8 w=>Q2 P T.c t8 w fun t9 w=>Q1 P F.u [t9] w fun h w=>Q0 h true w (fieldAddr P T.d e 2) fun bf w=>Q0 h true w (Q2 P T.c bf) fun ba w=>Q0 h true w (Q3 P .eql T.c (.tmp 13) (.const (.string ⟨#[]⟩)) ba (.string ⟨#[]⟩)) fun bh w=>Q0 h true w (fun w J=>J bh w) fun n w=>Q0 n false w (fieldAddr P T.d e 2) fun bv w=>Q0 n false w (Q2 P T.c bv) fun a5 w=>Q0 n false w (Q1 P F.e [a5]) fun aq w=>Q0 h true w (pick P n (.bool true) aq) fun ah w=>pick P h ah (.bool false) w fun bl w=>lp (α:=Value×Value) (bl,(.int .i64 0)) w fun p d d_ w=>fieldAddr P T.d e 1 w fun ae w=>Q2 P T.h ae w fun bb w=>X2 P .len [T.h] T.e [false] [bb] w fun bo w=>Q3 P .lss T.e (.tmp 21) (.tmp 24) d.2 bo w fun aw w=>X1 aw (Q0 d.1 true w (fieldAddr P T.d e 1) fun aa w=>Q0 d.1 true w (Q2 P T.h aa) fun a3 w=>Q0 d.1 true w (fun w J=>J d.2 w) fun bk w=>Q0 d.1 true w (indexAddr P T.h a3 bk) fun bp w=>Q0 d.1 true w (Q2 P T.c bp) fun an w=>Q0 d.1 true w (Q1 P F.e [an]) fun a6 w=>pick P d.1 a6 (.bool false) w fun ag w=>Q3 P .add T.e (.tmp 26) (.const (.int .i64 1)) d.2 (.int .i64 1) w fun bd w=>p (ag,bd) w) (fieldAddr P T.d e 3 w fun ay w=>Q2 P T.u ay w fun bu w=>X1 bu (Q0 d.1 true w (fieldAddr P T.d e 4) fun br w=>Q0 d.1 true w (Q2 P T.e br) fun W w=>Q0 d.1 true w (Q3 P .eql T.e (.tmp 42) (.const (.int .i64 0)) W (.int .i64 0)) fun bi w=>pick P d.1 bi (.bool false) w fun j w=>Q0 j true w (fieldAddr P T.d e 5) fun ax w=>Q0 j true w (Q2 P T.q ax) fun ap w=>Q0 j true w (X2 P .len [T.q] T.e [false] [ap]) fun ak w=>Q0 j true w (Q3 P .eql T.e (.tmp 48) (.const (.int .i64 0)) ak (.int .i64 0)) fun bm w=>pick P j bm (.bool false) w fun k w=>Q0 k true w (fieldAddr P T.d e 6) fun Y w=>Q0 k true w (Q2 P T.s Y) fun U w=>Q0 k true w (X2 P .len [T.s] T.e [false] [U]) fun ar w=>Q0 k true w (Q3 P .eql T.e (.tmp 54) (.const (.int .i64 0)) ar (.int .i64 0)) fun Z w=>pick P k Z (.bool false) w fun bc w=>K bc w) (fieldAddr P T.d e 5 w fun a4 w=>Q2 P T.q a4 w fun aj w=>X2 P .len [T.q] T.e [false] [aj] w fun r w=>lp (α:=Value×Value) (d.1,(.int .i64 0)) w fun l b d_ w=>fieldAddr P T.d e 6 w fun V w=>Q2 P T.s V w fun ac w=>X2 P .len [T.s] T.e [false] [ac] w fun af w=>Q3 P .lss T.e (.tmp 60) (.tmp 63) b.2 af w fun bz w=>X1 bz (fieldAddr P T.d e 6 w fun bw w=>Q2 P T.s bw w fun ao w=>indexAddr P T.s ao b.2 w fun a9 w=>Q2 P T.t a9 w fun ab w=>V6 P T.t w fun q w=>X9 P T.t q ab w fun _u w=>Q0 b.1 true w (fieldAddr P T.t q 0) fun bx w=>Q0 b.1 true w (Q2 P T.e bx) fun bq w=>Q0 b.1 true w (Q3 P .geq T.e (.tmp 75) (.const (.int .i64 0)) bq (.int .i64 0)) fun bg w=>pick P b.1 bg (.bool false) w fun g w=>Q0 g true w (fieldAddr P T.t q 0) fun a1 w=>Q0 g true w (Q2 P T.e a1) fun av w=>Q0 g true w (fieldAddr P T.t q 1) fun b0 w=>Q0 g true w (Q2 P T.e b0) fun be w=>Q0 g true w (Q3 P .lss T.e (.tmp 80) (.tmp 82) av be) fun a8 w=>pick P g a8 (.bool false) w fun i w=>Q0 i true w (fieldAddr P T.t q 1) fun al w=>Q0 i true w (Q2 P T.e al) fun X w=>Q0 i true w (fun w J=>J r w) fun bn w=>Q0 i true w (Q3 P .leq T.e (.tmp 87) (.tmp 88) X bn) fun a7 w=>pick P i a7 (.bool false) w fun o w=>Q0 o true w (fieldAddr P T.t q 2) fun ai w=>Q0 o true w (Q2 P T.e ai) fun bj w=>Q0 o true w (Q3 P .geq T.e (.tmp 93) (.const (.int .i64 0)) bj (.int .i64 0)) fun a2 w=>pick P o a2 (.bool false) w fun m w=>Q0 m true w (fieldAddr P T.t q 2) fun bs w=>Q0 m true w (Q2 P T.e bs) fun az w=>Q0 m true w (fun w J=>J r w) fun am w=>Q0 m true w (Q3 P .lss T.e (.tmp 98) (.tmp 99) az am) fun C w=>pick P m C (.bool false) w fun f w=>Q0 f true w (fieldAddr P T.t q 3) fun O w=>Q0 f true w (Q2 P T.c O) fun s w=>Q0 f true w (Q1 P F.d [s]) fun L w=>pick P f L (.bool false) w fun v w=>Q3 P .add T.e (.tmp 65) (.const (.int .i64 1)) b.2 (.int .i64 1) w fun ad w=>l (v,ad) w) (Q0 b.1 true w (fun w J=>J r w) fun D w=>Q0 b.1 true w (Q3 P .gtr T.e (.tmp 109) (.const (.int .i64 0)) D (.int .i64 0)) fun z w=>pick P b.1 z (.bool false) w fun a w=>Q0 a true w (fieldAddr P T.d e 4) fun R w=>Q0 a true w (Q2 P T.e R) fun y w=>Q0 a true w (fieldAddr P T.d e 1) fun B w=>Q0 a true w (Q2 P T.h B) fun A w=>Q0 a true w (X2 P .len [T.h] T.e [false] [A]) fun u w=>Q0 a true w (Q3 P .gtr T.e (.tmp 114) (.tmp 117) y u) fun M w=>pick P a M (.bool false) w fun c w=>Q0 c true w (fieldAddr P T.d e 5) fun E w=>Q0 c true w (Q2 P T.q E) fun N w=>Q0 c true w (Q1 P F.b3 [N]) fun H w=>Q0 c true w (Q3 P .eql T.y (.tmp 123) (.const (.int .i64 0)) H (.int .i64 0)) fun Q w=>pick P c Q (.bool false) w fun t w=>K t w)))
theorem Gz {a:Value} {w:World} {K:Value→World→Prop} (h:Lj a w K):Q1 P F.a5 [a] w K:=Q9 Ii Tryz.func182 rfl (by decide) (by kernel_rfl) h
end Go.Proofs.YtjdiakhipmggjaaGreatDoor

set_option maxRecDepth 100000
namespace Go.Proofs.YtjdiakhipmggjaaGreatDoor
open Go.Emb
def Ka:V8:=[none,none,none,none,some ([3,4],[3,4,5,26,27,28,29,30,31,32,33,34,35,36,37,38,39,40,41,42,43,44,45,46,47,48,49,50,51,52,53,54,55,56,57,58,59,60,61,62,63,64,65,66,67,68,69,70]),none,none,none,none,none,some ([3,5],[3,5,52,53,54,55,56,57,58,59,60,61,62,63,64,65,66,67,68,69,70]),none,none,none,none,none,some ([3,6],[3,6,7,71,72,73,74,75,76,77,78,79,80,81,82,83,84,85,86,87,88,89,90,91,92,93,94,95,96,97,98,99,100,101,102,103,104,105,106,107,108,109,110,111,112,113,114,115,116,117,118,119,120,121,122]),none,none,none,none,none,some ([3,7],[3,7,102,103,104,105,106,107,108,109,110,111,112,113,114,115,116,117,118,119,120,121,122]),none,none,none,none,none,some ([3,8],[3,8,9,10,123,124,125,126,127,128,129,130,131,132,133,134,135,136,137,138,139,140,141,142,143,144,145,146,147,148,149,150,151,152,153,154,155,156,157,158,159,160,161,162,163,164,165,166,167,168,169,170,171,172,173,174]),none,none,none,none,none,none,some ([3,10],[3,10,158,159,160,161,162,163,164,165,166,167,168,169,170,171,172,173,174]),none,none,none,none]
def Nu (a0:Value) (w:World) (K:Value→World→Prop):Prop:= box P T.b a0 w fun i w=>fieldAddr P T.b i 0 w fun e7 w=>Q2 P T.c e7 w fun e6 w=>Q1 P F.d [e6] w fun bv w=>Q0 bv true w (fieldAddr P T.b i 1) fun er w=>Q0 bv true w (Q2 P T.c er) fun ep w=>Q0 bv true w (Q1 P F.d [ep]) fun ed w=>pick P bv ed (.bool false) w fun ah w=>Q0 ah true w (fieldAddr P T.b i 0) fun el w=>Q0 ah true w (Q2 P T.c el) fun eu w=>Q0 ah true w (fieldAddr P T.b i 1) fun et w=>Q0 ah true w (Q2 P T.c et) fun e5 w=>Q0 ah true w (Q3 P .neq T.c (.tmp 21) (.tmp 23) eu e5) fun em w=>pick P ah em (.bool false) w fun ey w=>lp (α:=Value×Value) (ey,(.int .i64 0)) w fun a8 Z d_ w=>fieldAddr P T.b i 2 w fun eh w=>Q2 P T.h eh w fun ea w=>X2 P .len [T.h] T.e [false] [ea] w fun d8 w=>Q3 P .lss T.e (.tmp 26) (.tmp 29) Z.2 d8 w fun es w=>X1 es (dr w fun a b=>Q5 a (fun a7=> ∀w,b w→Q0 Z.1 true w (fieldAddr P T.b i 2) (dk a a7 w)) fun a7=>Q5 a (fun bu=> ∀w,b w→Q0 Z.1 true w (fun w J=>J Z.2 w) (dk a bu w)) fun bu=>Q5 a (fun bq=> ∀a5 w,b w→a7 a5 w→Q0 Z.1 true w (Q2 P T.h a5) (dk a bq w)) fun bq=>Q5 a (fun bm=> ∀bi bn w,b w→bq bi w→bu bn w→Q0 Z.1 true w (indexAddr P T.h bi bn) (dk a bm w)) fun bm=>Q5 a (fun az=> ∀bb w,b w→bm bb w→Q0 Z.1 true w (Q2 P T.c bb) (dk a az w)) fun az=>Q5 a (fun a4=> ∀bw w,b w→az bw w→Q0 Z.1 true w (Q1 P F.d [bw]) (dk a a4 w)) fun a4=>Q5 a (fun j=> ∀be w,b w→a4 be w→pick P Z.1 be (.bool false) w (dk a j w)) fun j=>Q5 a (fun bp=> ∀c w,b w→j c w→Q0 c true w (fieldAddr P T.b i 2) (dk a bp w)) fun bp=>Q5 a (fun a9=> ∀c w,b w→j c w→Q0 c true w (fun w J=>J Z.2 w) (dk a a9 w)) fun a9=>Q5 a (fun bk=> ∀c w,b w→j c w→Q0 c true w (fieldAddr P T.b i 0) (dk a bk w)) fun bk=>Q5 a (fun a6=> ∀c bz w,b w→j c w→bp bz w→Q0 c true w (Q2 P T.h bz) (dk a a6 w)) fun a6=>Q5 a (fun b0=> ∀c bj ba w,b w→j c w→a6 bj w→a9 ba w→Q0 c true w (indexAddr P T.h bj ba) (dk a b0 w)) fun b0=>Q5 a (fun cc=> ∀c bo w,b w→j c w→b0 bo w→Q0 c true w (Q2 P T.c bo) (dk a cc w)) fun cc=>Q5 a (fun ca=> ∀c a1 w,b w→j c w→bk a1 w→Q0 c true w (Q2 P T.c a1) (dk a ca w)) fun ca=>∀a5 bn bi bb bw be c bz ba a1 bj bo de cw w,b w→a7 a5 w→bu bn w→bq bi w→bm bb w→az bw w→a4 be w→j c w→bp bz w→a9 ba w→bk a1 w→a6 bj w→b0 bo w→cc de w→ca cw w→ Q0 c true w (Q3 P .neq T.c (.tmp 47) (.tmp 49) de cw) fun ez w=>pick P c ez (.bool false) w fun e1 w=>lp (α:=Value×Value) (e1,(.int .i64 0)) w fun ai e d_ w=>Q3 P .lss T.e (.tmp 52) (.tmp 53) e.2 Z.2 w fun ex w=>X1 ex (dr w fun a b=>Q5 a (fun br=> ∀w,b w→Q0 e.1 true w (fieldAddr P T.b i 2) (dk a br w)) fun br=>Q5 a (fun b3=> ∀w,b w→Q0 e.1 true w (fun w J=>J e.2 w) (dk a b3 w)) fun b3=>Q5 a (fun bd=> ∀w,b w→Q0 e.1 true w (fieldAddr P T.b i 2) (dk a bd w)) fun bd=>Q5 a (fun ay=> ∀w,b w→Q0 e.1 true w (fun w J=>J Z.2 w) (dk a ay w)) fun ay=>Q5 a (fun b1=> ∀bl w,b w→br bl w→Q0 e.1 true w (Q2 P T.h bl) (dk a b1 w)) fun b1=>Q5 a (fun a3=> ∀bg ax w,b w→b1 bg w→b3 ax w→Q0 e.1 true w (indexAddr P T.h bg ax) (dk a a3 w)) fun a3=>Q5 a (fun cb=> ∀bf w,b w→a3 bf w→Q0 e.1 true w (Q2 P T.c bf) (dk a cb w)) fun cb=>Q5 a (fun bx=> ∀b2 w,b w→bd b2 w→Q0 e.1 true w (Q2 P T.h b2) (dk a bx w)) fun bx=>Q5 a (fun bs=> ∀b4 bh w,b w→bx b4 w→ay bh w→Q0 e.1 true w (indexAddr P T.h b4 bh) (dk a bs w)) fun bs=>Q5 a (fun b9=> ∀bc w,b w→bs bc w→Q0 e.1 true w (Q2 P T.c bc) (dk a b9 w)) fun b9=>∀bl ax b2 bh bg bf db b4 bc dd w,b w→br bl w→b3 ax w→bd b2 w→ay bh w→b1 bg w→a3 bf w→cb db w→bx b4 w→bs bc w→b9 dd w→ Q0 e.1 true w (Q3 P .neq T.c (.tmp 63) (.tmp 68) db dd) fun ee w=>pick P e.1 ee (.bool false) w fun e4 w=>Q3 P .add T.e (.tmp 55) (.const (.int .i64 1)) e.2 (.int .i64 1) w fun eg w=>ai (e4,eg) w) (Q3 P .add T.e (.tmp 31) (.const (.int .i64 1)) Z.2 (.int .i64 1) w fun ek w=>a8 (e.1,ek) w)) (lp (α:=Value×Value) (Z.1,(.int .i64 0)) w fun aw f d_ w=>fieldAddr P T.b i 6 w fun d4 w=>Q2 P T.k d4 w fun ew w=>X2 P .len [T.k] T.e [false] [ew] w fun e8 w=>Q3 P .lss T.e (.tmp 71) (.tmp 74) f.2 e8 w fun eo w=>X1 eo (Q0 f.1 true w (fieldAddr P T.b i 6) fun eb w=>Q0 f.1 true w (Q2 P T.k eb) fun eq w=>Q0 f.1 true w (fun w J=>J f.2 w) fun ei w=>Q0 f.1 true w (indexAddr P T.k eq ei) fun e3 w=>Q0 f.1 true w (fieldAddr P T.o e3 0) fun d1 w=>Q0 f.1 true w (Q2 P T.c d1) fun d3 w=>Q0 f.1 true w (Q1 P F.u [d3]) fun d6 w=>pick P f.1 d6 (.bool false) w fun n w=>Q0 n true w (fieldAddr P T.b i 6) fun e2 w=>Q0 n true w (Q2 P T.k e2) fun d9 w=>Q0 n true w (fun w J=>J f.2 w) fun ef w=>Q0 n true w (indexAddr P T.k d9 ef) fun d5 w=>Q0 n true w (fieldAddr P T.o d5 1) fun ej w=>Q0 n true w (Q2 P T.c ej) fun ec w=>Q0 n true w (Q1 P F.e [ec]) fun e9 w=>pick P n e9 (.bool false) w fun a2 w=>Q0 a2 true w (fieldAddr P T.b i 3) fun e0 w=>Q0 a2 true w (Q2 P T.u e0) fun d7 w=>Q0 a2 true w (J8 P .not d7) fun ck w=>pick P a2 ck (.bool false) w fun cv w=>lp (α:=Value×Value) (cv,(.int .i64 0)) w fun aj d d_ w=>Q3 P .lss T.e (.tmp 102) (.tmp 103) d.2 f.2 w fun c0 w=>X1 c0 (dr w fun a b=>Q5 a (fun W=> ∀w,b w→Q0 d.1 true w (fieldAddr P T.b i 6) (dk a W w)) fun W=>Q5 a (fun p=> ∀w,b w→Q0 d.1 true w (fun w J=>J d.2 w) (dk a p w)) fun p=>Q5 a (fun ag=> ∀w,b w→Q0 d.1 true w (fieldAddr P T.b i 6) (dk a ag w)) fun ag=>Q5 a (fun r=> ∀w,b w→Q0 d.1 true w (fun w J=>J f.2 w) (dk a r w)) fun r=>Q5 a (fun R=> ∀V w,b w→W V w→Q0 d.1 true w (Q2 P T.k V) (dk a R w)) fun R=>Q5 a (fun C=> ∀N ab w,b w→R N w→p ab w→Q0 d.1 true w (indexAddr P T.k N ab) (dk a C w)) fun C=>Q5 a (fun H=> ∀U w,b w→C U w→Q0 d.1 true w (fieldAddr P T.o U 0) (dk a H w)) fun H=>Q5 a (fun ak=> ∀ae w,b w→H ae w→Q0 d.1 true w (Q2 P T.c ae) (dk a ak w)) fun ak=>Q5 a (fun A=> ∀O w,b w→ag O w→Q0 d.1 true w (Q2 P T.k O) (dk a A w)) fun A=>Q5 a (fun y=> ∀t q w,b w→A t w→r q w→Q0 d.1 true w (indexAddr P T.k t q) (dk a y w)) fun y=>Q5 a (fun v=> ∀Y w,b w→y Y w→Q0 d.1 true w (fieldAddr P T.o Y 0) (dk a v w)) fun v=>Q5 a (fun al=> ∀z w,b w→v z w→Q0 d.1 true w (Q2 P T.c z) (dk a al w)) fun al=>∀V ab O q N U ae b7 t Y z b6 w,b w→W V w→p ab w→ag O w→r q w→R N w→C U w→H ae w→ak b7 w→A t w→y Y w→v z w→al b6 w→ Q0 d.1 true w (Q3 P .neq T.c (.tmp 114) (.tmp 120) b7 b6) fun df w=>pick P d.1 df (.bool false) w fun cq w=>Q3 P .add T.e (.tmp 105) (.const (.int .i64 1)) d.2 (.int .i64 1) w fun c2 w=>aj (cq,c2) w) (Q3 P .add T.e (.tmp 76) (.const (.int .i64 1)) f.2 (.int .i64 1) w fun d2 w=>aw (d.1,d2) w)) (lp (α:=Value×Value) (f.1,(.int .i64 0)) w fun ap h d_ w=>fieldAddr P T.b i 7 w fun cu w=>Q2 P T.j cu w fun c1 w=>X2 P .len [T.j] T.e [false] [c1] w fun c6 w=>Q3 P .lss T.e (.tmp 123) (.tmp 126) h.2 c6 w fun c4 w=>X1 c4 (fieldAddr P T.b i 7 w fun dy w=>Q2 P T.j dy w fun ch w=>indexAddr P T.j ch h.2 w fun c8 w=>Q2 P T.d c8 w fun du w=>V6 P T.d w fun t9 w=>X9 P T.d t9 du w fun _u w=>Q0 h.1 true w (Q2 P T.d t9) fun dx w=>Q0 h.1 true w (Q1 P F.a5 [dx]) fun da w=>pick P h.1 da (.bool false) w fun l w=>Q0 l true w (fieldAddr P T.d t9 3) fun dm w=>Q0 l true w (Q2 P T.u dm) fun c5 w=>Q0 l true w (J8 P .not c5) fun dn w=>Q0 l true w (fun w J=>J dn w) fun ar w=>Q0 ar false w (fieldAddr P T.b i 4) fun cj w=>Q0 ar false w (Q2 P T.u cj) fun dh w=>Q0 l true w (pick P ar (.bool true) dh) fun di w=>pick P l di (.bool false) w fun m w=>Q0 m true w (fieldAddr P T.b i 3) fun dq w=>Q0 m true w (Q2 P T.u dq) fun d0 w=>Q0 m true w (J8 P .not d0) fun cf w=>Q0 m true w (fun w J=>J cf w) fun ao w=>Q0 ao false w (fieldAddr P T.d t9 3) fun dg w=>Q0 ao false w (Q2 P T.u dg) fun c7 w=>Q0 m true w (pick P ao (.bool true) c7) fun cr w=>pick P m cr (.bool false) w fun cd w=>lp (α:=Value×Value) (cd,(.int .i64 0)) w fun an g d_ w=>Q3 P .lss T.e (.tmp 158) (.tmp 159) g.2 h.2 w fun ci w=>X1 ci (dr w fun a b=>Q5 a (fun B=> ∀w,b w→Q0 g.1 true w (fieldAddr P T.b i 7) (dk a B w)) fun B=>Q5 a (fun D=> ∀w,b w→Q0 g.1 true w (fun w J=>J g.2 w) (dk a D w)) fun D=>Q5 a (fun X=> ∀w,b w→Q0 g.1 true w (fieldAddr P T.d t9 0) (dk a X w)) fun X=>Q5 a (fun L=> ∀ac w,b w→B ac w→Q0 g.1 true w (Q2 P T.j ac) (dk a L w)) fun L=>Q5 a (fun M=> ∀s ad w,b w→L s w→D ad w→Q0 g.1 true w (indexAddr P T.j s ad) (dk a M w)) fun M=>Q5 a (fun Q=> ∀E w,b w→M E w→Q0 g.1 true w (fieldAddr P T.d E 0) (dk a Q w)) fun Q=>Q5 a (fun aq=> ∀u w,b w→Q u w→Q0 g.1 true w (Q2 P T.c u) (dk a aq w)) fun aq=>Q5 a (fun av=> ∀af w,b w→X af w→Q0 g.1 true w (Q2 P T.c af) (dk a av w)) fun av=>∀ac ad af s E u b8 b5 w,b w→B ac w→D ad w→X af w→L s w→M E w→Q u w→aq b8 w→av b5 w→ Q0 g.1 true w (Q3 P .neq T.c (.tmp 170) (.tmp 172) b8 b5) fun c3 w=>pick P g.1 c3 (.bool false) w fun ct w=>Q3 P .add T.e (.tmp 161) (.const (.int .i64 1)) g.2 (.int .i64 1) w fun cg w=>an (ct,cg) w) (Q3 P .add T.e (.tmp 128) (.const (.int .i64 1)) h.2 (.int .i64 1) w fun cl w=>ap (g.1,cl) w)) (Q0 h.1 true w (fieldAddr P T.b i 3) fun cs w=>Q0 h.1 true w (Q2 P T.u cs) fun dv w=>Q0 h.1 true w (J8 P .not dv) fun dl w=>Q0 h.1 true w (fun w J=>J dl w) fun o w=>Q0 o false w (fieldAddr P T.b i 4) fun dp w=>Q0 o false w (Q2 P T.u dp) fun c9 w=>Q0 o false w (fun w J=>J c9 w) fun aa w=>Q0 aa true w (fieldAddr P T.b i 1) fun dw w=>Q0 aa true w (Q2 P T.c dw) fun dz w=>Q0 aa true w (Q3 P .eql T.c (.tmp 185) (.const (.string ⟨#[79,98,106,101,99,116]⟩)) dz (.string ⟨#[79,98,106,101,99,116]⟩)) fun cx w=>Q0 o false w (pick P aa cx (.bool false)) fun ds w=>Q0 h.1 true w (pick P o (.bool true) ds) fun dt w=>pick P h.1 dt (.bool false) w fun k w=>Q0 k true w (fieldAddr P T.b i 4) fun dc w=>Q0 k true w (Q2 P T.u dc) fun cz w=>Q0 k true w (fun w J=>J cz w) fun am w=>Q0 am true w (fieldAddr P T.b i 5) fun cp w=>Q0 am true w (Q2 P T.u cp) fun cn w=>Q0 k true w (pick P am cn (.bool false)) fun cy w=>Q0 k true w (J8 P .not cy) fun co w=>pick P k co (.bool false) w fun cm w=>K cm w)))
theorem Kl {a:Value} {w:World} {K:Value→World→Prop} (h:Nu a w K):Q1 P F.bq [a] w K:=Q9 Ka Tryz.func148 rfl (by decide) (by kernel_rfl) h
def Nk (b:Value) (w:World) (K:Value→World→Prop):Prop:= box P T.b b w fun a w=>Q2 P T.b a w fun g w=>Q1 P F.bJ [g] w fun c w=>X1 c (K (.int .i64 51) w) (Q2 P T.b a w fun d w=>Q1 P F.bq [d] w fun e w=>J8 P .not e w fun f w=>X1 f (K (.int .i64 50) w) (K (.int .i64 0) w))
theorem Pk {a:Value} {w:World} {K:Value→World→Prop} (h:Nk a w K):Q1 P F.bo [a] w K:=Q9 (List.replicate 8 none) Tryz.func100 rfl (by decide) (by kernel_rfl) h
def Q06:V8:=[none,none,none,some ([5],[4,5,6,7,8,9,10,11,12,13,14,15,16,17,18,19]),none,none,none,none,none,none]
def Ou (h k:Value) (w:World) (K:Value→World→Prop):Prop:= lp (α:=Value) (.int .i64 0) w fun a b l w=>X2 P .len [T.i] T.e [false] [h] w fun j w=>Q3 P .lss T.e (.tmp 6) (.tmp 8) b j w fun i w=>X1 i (indexAddr P T.i h b w fun d w=>fieldAddr P T.b d 0 w fun e w=>Q2 P T.c e w fun f w=>Q3 P .eql T.c (.tmp 16) (.tmp 17) f k w fun g w=>X1 g (K b w) (Q3 P .add T.e (.tmp 10) (.const (.int .i64 1)) b (.int .i64 1) w fun c w=>a c w)) (K (.int .i64 (-1)) w)
theorem Q0f {a b:Value} {w:World} {K:Value→World→Prop} (h:Ou a b w K):Q1 P F.b [a,b] w K:=Q9 Q06 Tryz.func101 rfl (by decide) (by kernel_rfl) h
def Fz:V8:=[none,none,none,none,none,none,none,some ([6],[4,6,7,28,29,30,31,32,33,34,35,36,37,38,39,40,41,42,43,44,45,46,47,48,49,50,51]),none,none,none,none,none,none,none]
def Lf (g W:Value) (w:World) (K:Value→World→Prop):Prop:= box P T.b W w fun a w=>fieldAddr P T.b a 1 w fun V w=>Q2 P T.c V w fun O w=>Q1 P F.b [g,O] w fun f w=>Q3 P .lss T.e (.tmp 12) (.const (.int .i64 0)) f (.int .i64 0) w fun c w=>Q0 c false w (fun w J=>J g w) fun k w=>Q0 c false w (fun w J=>J f w) fun N w=>Q0 c false w (indexAddr P T.i k N) fun p w=>Q0 c false w (fieldAddr P T.b p 3) fun C w=>Q0 c false w (Q2 P T.u C) fun s w=>pick P c (.bool true) s w fun d w=>Q0 d false w (fun w J=>J g w) fun q w=>Q0 d false w (fun w J=>J f w) fun t w=>Q0 d false w (indexAddr P T.i q t) fun M w=>Q0 d false w (fieldAddr P T.b M 5) fun Q w=>Q0 d false w (Q2 P T.u Q) fun o w=>pick P d (.bool true) o w fun y w=>X1 y (K (.int .i64 61) w) (lp (α:=Value) (.int .i64 0) w fun e i X w=>fieldAddr P T.b a 2 w fun A w=>Q2 P T.h A w fun l w=>X2 P .len [T.h] T.e [false] [l] w fun m w=>Q3 P .lss T.e (.tmp 28) (.tmp 31) i m w fun E w=>X1 E (fieldAddr P T.b a 2 w fun r w=>Q2 P T.h r w fun D w=>indexAddr P T.h D i w fun u w=>Q2 P T.c u w fun j w=>Q1 P F.b [g,j] w fun h w=>Q3 P .lss T.e (.tmp 42) (.const (.int .i64 0)) h (.int .i64 0) w fun b w=>Q0 b false w (fun w J=>J g w) fun H w=>Q0 b false w (fun w J=>J h w) fun R w=>Q0 b false w (indexAddr P T.i H R) fun B w=>Q0 b false w (fieldAddr P T.b B 3) fun v w=>Q0 b false w (Q2 P T.u v) fun L w=>Q0 b false w (J8 P .not L) fun U w=>pick P b (.bool true) U w fun n w=>X1 n (K (.int .i64 62) w) (Q3 P .add T.e (.tmp 33) (.const (.int .i64 1)) i (.int .i64 1) w fun z w=>e z w)) (K (.int .i64 0) w))
theorem Ic {a b:Value} {w:World} {K:Value→World→Prop} (h:Lf a b w K):Q1 P F.be [a,b] w K:=Q9 Fz Tryz.func102 rfl (by decide) (by kernel_rfl) h
def Iy:V8:=[none,none,none,none,some ([3,4],[3,4,5,6,7,8,13,14,15,16,17,18,19,20,21,22,23,24,25,26,27,28,29,30,31,32,33,34,35,36,37,38,39,40,41,42,43,44,45,46,47,48,49,50,51,52,53,54]),none,none,none,none,none,none,none,some ([7],[7,8,34,35,36,37,38,39,40,41,42,43,44,45,46,47,48,49,50]),none,none,some ([],[8,40,41,42,43,44,45,46,47,48,49,50]),none,none,none,none,some ([9],[9,10,11,55,56,57,58,59,60,61,62,63,64,65,66,67,68,69,70,71,72,73,74,75,76,77,78,79,80,81,82,83,84,85,86,87,88,89,90,91,92,93,94,95,96,97,98,99,100,101,102,103]),none,none,none,none,some ([10],[10,11,61,62,63,64,65,66,67,68,69,70,71,72,73,74,75,76,77,78,79,80,81,82,83,84,85,86,87,88,89,90,91,92,93,94,95,96,97,98,99,100,101,102,103]),none,none,none,none,some ([11],[11,67,68,69,70,71,72,73,74,75,76,77,78,79,80,81,82,83,84,85,86,87,88,89,90,91,92,93,94,95,96,97,98,99,100,101,102,103]),none,none,none,none]
def Ms (a0:Value) (w:World) (K:Value→World→Prop):Prop:= buildSlice P T.a8 0 [] w fun b0 w=>lp (α:=Value×Value) (b0,(.int .i64 0)) w fun ah r d_ w=>X2 P .len [T.i] T.e [false] [a0] w fun bh w=>Q3 P .lss T.e (.tmp 13) (.tmp 15) r.2 bh w fun b2 w=>X1 b2 (X2 P .len [T.i] T.e [false] [a0] w fun be w=>Li P T.a6 be be w fun a7 w=>dr w fun b d=>Q5 b (fun aj=> ∀w,d w→indexAddr P T.i a0 r.2 w (dk b aj w)) fun aj=>Q5 b (fun ak=> ∀ap w,d w→aj ap w→fieldAddr P T.b ap 1 w (dk b ak w)) fun ak=>Q5 b (fun L=> ∀w,d w→indexAddr P T.i a0 r.2 w (dk b L w)) fun L=>Q5 b (fun y=> ∀v w,d w→L v w→fieldAddr P T.b v 2 w (dk b y w)) fun y=>Q5 b (fun s=> ∀R w,d w→ak R w→Q2 P T.c R w (dk b s w)) fun s=>Q5 b (fun a5=> ∀ac w,d w→s ac w→buildSlice P T.h 1 [(0,ac)] w (dk b a5 w)) fun a5=>Q5 b (fun a3=> ∀aa w,d w→y aa w→Q2 P T.h aa w (dk b a3 w)) fun a3=>∀ap R v aa ac ba bc w,d w→aj ap w→ak R w→L v w→y aa w→s ac w→a5 ba w→a3 bc w→ X2 P .append [T.h,T.h] T.h [false,false] [ba,bc] w fun bf w=>lp (α:=Value) (.int .i64 0) w fun l a2 d_ w=>X2 P .len [T.h] T.e [false] [bf] w fun bl w=>Q3 P .lss T.e (.tmp 34) (.tmp 36) a2 bl w fun bs w=>X1 bs (jn (α:=Unit) w (fun a8 w=>indexAddr P T.h bf a2 w fun b1 w=>Q2 P T.c b1 w fun bo w=>Q1 P F.b [a0,bo] w fun bd w=>Q3 P .geq T.e (.tmp 46) (.const (.int .i64 0)) bd (.int .i64 0) w fun bp w=>X1 bp (indexAddr P T.a6 a7 bd w fun bu w=>X9 P T.u bu (.bool true) w fun _u w=>a8 () w) (a8 () w)) fun b4 d_ w=>Q3 P .add T.e (.tmp 38) (.const (.int .i64 1)) a2 (.int .i64 1) w fun bz w=>l bz w) (buildSlice P T.a8 1 [(0,a7)] w fun bg w=>X2 P .append [T.a8,T.a8] T.a8 [false,false] [r.1,bg] w fun br w=>Q3 P .add T.e (.tmp 17) (.const (.int .i64 1)) r.2 (.int .i64 1) w fun bq w=>ah (br,bq) w)) (lp (α:=Value) (.int .i64 0) w fun o z d_ w=>X2 P .len [T.i] T.e [false] [a0] w fun bv w=>Q3 P .lss T.e (.tmp 55) (.tmp 57) z bv w fun bn w=>X1 bn (lp (α:=Value) (.int .i64 0) w fun k p d_ w=>X2 P .len [T.i] T.e [false] [a0] w fun bm w=>Q3 P .lss T.e (.tmp 61) (.tmp 63) p bm w fun b3 w=>X1 b3 (lp (α:=Value) (.int .i64 0) w fun q n d_ w=>X2 P .len [T.i] T.e [false] [a0] w fun bw w=>Q3 P .lss T.e (.tmp 67) (.tmp 69) n bw w fun bx w=>X1 bx (dr w fun b d=>Q5 b (fun am=> ∀w,d w→indexAddr P T.a8 r.1 p w (dk b am w)) fun am=>Q5 b (fun ax=> ∀w,d w→indexAddr P T.a8 r.1 p w (dk b ax w)) fun ax=>Q5 b (fun a4=> ∀aq w,d w→am aq w→Q2 P T.a6 aq w (dk b a4 w)) fun a4=>Q5 b (fun ai=> ∀Q w,d w→ax Q w→Q2 P T.a6 Q w (dk b ai w)) fun ai=>Q5 b (fun D=> ∀ay w,d w→ai ay w→indexAddr P T.a6 ay n w (dk b D w)) fun D=>Q5 b (fun e=> ∀ae w,d w→D ae w→Q2 P T.u ae w (dk b e w)) fun e=>Q5 b (fun av=> ∀a w,d w→e a w→Q0 a false w (fun w J=>J r.1 w) (dk b av w)) fun av=>Q5 b (fun an=> ∀a w,d w→e a w→Q0 a false w (fun w J=>J p w) (dk b an w)) fun an=>Q5 b (fun ag=> ∀a E t w,d w→e a w→av E w→an t w→Q0 a false w (indexAddr P T.a8 E t) (dk b ag w)) fun ag=>Q5 b (fun A=> ∀a w,d w→e a w→Q0 a false w (fun w J=>J z w) (dk b A w)) fun A=>Q5 b (fun u=> ∀a ao w,d w→e a w→ag ao w→Q0 a false w (Q2 P T.a6 ao) (dk b u w)) fun u=>Q5 b (fun X=> ∀a ad M w,d w→e a w→u ad w→A M w→Q0 a false w (indexAddr P T.a6 ad M) (dk b X w)) fun X=>Q5 b (fun N=> ∀a af w,d w→e a w→X af w→Q0 a false w (Q2 P T.u af) (dk b N w)) fun N=>Q5 b (fun f=> ∀a C w,d w→e a w→N C w→Q0 a false w (fun w J=>J C w) (dk b f w)) fun f=>Q5 b (fun al=> ∀c w,d w→f c w→Q0 c true w (fun w J=>J r.1 w) (dk b al w)) fun al=>Q5 b (fun V=> ∀c w,d w→f c w→Q0 c true w (fun w J=>J z w) (dk b V w)) fun V=>Q5 b (fun Z=> ∀c Y aw w,d w→f c w→al Y w→V aw w→Q0 c true w (indexAddr P T.a8 Y aw) (dk b Z w)) fun Z=>Q5 b (fun U=> ∀c w,d w→f c w→Q0 c true w (fun w J=>J n w) (dk b U w)) fun U=>Q5 b (fun B=> ∀c O w,d w→f c w→Z O w→Q0 c true w (Q2 P T.a6 O) (dk b B w)) fun B=>Q5 b (fun ab=> ∀c ar W w,d w→f c w→B ar w→U W w→Q0 c true w (indexAddr P T.a6 ar W) (dk b ab w)) fun ab=>Q5 b (fun i=> ∀c H w,d w→f c w→ab H w→Q0 c true w (Q2 P T.u H) (dk b i w)) fun i=>Q5 b (fun g=> ∀a c h w,d w→e a w→f c w→i h w→Q0 a false w (pick P c h (.bool false)) (dk b g w)) fun g=>Q5 b (fun m=> ∀a j w,d w→e a w→g j w→pick P a (.bool true) j w (dk b m w)) fun m=>∀aq Q bb ay ae a E t ao M ad af C c Y aw O W ar H h j a1 w,d w→am aq w→ax Q w→a4 bb w→ai ay w→D ae w→e a w→av E w→an t w→ag ao w→A M w→u ad w→X af w→N C w→f c w→al Y w→V aw w→Z O w→U W w→B ar w→ab H w→i h w→g j w→m a1 w→ indexAddr P T.a6 bb n w fun a9 w=>X9 P T.u a9 a1 w fun _u w=>Q3 P .add T.e (.tmp 71) (.const (.int .i64 1)) n (.int .i64 1) w fun bk w=>q bk w) (Q3 P .add T.e (.tmp 65) (.const (.int .i64 1)) p (.int .i64 1) w fun bj w=>k bj w)) (Q3 P .add T.e (.tmp 59) (.const (.int .i64 1)) z (.int .i64 1) w fun bi w=>o bi w)) (K r.1 w))
theorem Tb {a:Value} {w:World} {K:Value→World→Prop} (h:Ms a w K):Q1 P F.aj [a] w K:=Q9 Iy Tryz.func103 rfl (by decide) (by kernel_rfl) h
def Q0o:V8:=[none,none,none,none,none,none,some ([9],[8,9,16,17,18,19,20,21,22,23,24,25,26,27,28]),none,none,none,none,none,none,none,none,some ([1,11],[1,11,41,42,43,44,45,46,47,48,49,50,51,52,53,54,55,56]),none,none,none,none]
def Ha (y s X v:Value) (w:World) (K:Value→World→Prop):Prop:= Q3 P .lss T.e (.tmp 12) (.tmp 13) v X w fun L w=>X1 L (K s w) (lp (α:=Value) (.int .i64 0) w fun h C Y w=>X2 P .len [T.a7] T.e [false] [s] w fun Q w=>Q3 P .lss T.e (.tmp 16) (.tmp 18) C Q w fun E w=>X1 E (indexAddr P T.a7 s C w fun V w=>Q2 P T.e V w fun W w=>Q3 P .eql T.e (.tmp 25) (.tmp 26) W v w fun J w=>X1 J (K s w) (Q3 P .add T.e (.tmp 20) (.const (.int .i64 1)) C (.int .i64 1) w fun R w=>h R w)) (dr w fun a o=>Q5 a (fun f=> ∀w,o w→indexAddr P T.i y v w (dk a f w)) fun f=>Q5 a (fun d=> ∀e w,o w→f e w→fieldAddr P T.b e 1 w (dk a d w)) fun d=>Q5 a (fun g=> ∀w,o w→indexAddr P T.i y v w (dk a g w)) fun g=>Q5 a (fun j=> ∀n w,o w→g n w→fieldAddr P T.b n 2 w (dk a j w)) fun j=>Q5 a (fun m=> ∀i w,o w→d i w→Q2 P T.c i w (dk a m w)) fun m=>Q5 a (fun q=> ∀k w,o w→m k w→buildSlice P T.h 1 [(0,k)] w (dk a q w)) fun q=>Q5 a (fun p=> ∀l w,o w→j l w→Q2 P T.h l w (dk a p w)) fun p=>∀e i n l k u t w,o w→f e w→d i w→g n w→j l w→m k w→q u w→p t w→ X2 P .append [T.h,T.h] T.h [false,false] [u,t] w fun r w=>lp (α:=Value×Value) (s,(.int .i64 0)) w fun c b Y w=>X2 P .len [T.h] T.e [false] [r] w fun O w=>Q3 P .lss T.e (.tmp 41) (.tmp 43) b.2 O w fun M w=>X1 M (indexAddr P T.h r b.2 w fun z w=>Q2 P T.c z w fun U w=>Q1 P F.b [y,U] w fun A w=>Q1 P F.b1 [y,b.1,X,A] w fun H w=>Q3 P .add T.e (.tmp 45) (.const (.int .i64 1)) b.2 (.int .i64 1) w fun D w=>c (H,D) w) (buildSlice P T.a7 1 [(0,v)] w fun N w=>X2 P .append [T.a7,T.a7] T.a7 [false,false] [b.1,N] w fun B w=>K B w)))
theorem Q1a {a c d b:Value} {w:World} {K:Value→World→Prop} (h:Ha a c d b w K):Q1 P F.b1 [a,c,d,b] w K:=Q9 Q0o Tryz.func104 rfl (by decide) (by kernel_rfl) h
def Xv (u A:Value) (w:World) (K:Value→World→Prop):Prop:= Q1 P F.b [u,A] w fun v w=>Q3 P .lss T.e (.tmp 9) (.const (.int .i64 0)) v (.int .i64 0) w fun z w=>X1 z (K (.slice none 0 0) w) (dr w fun a b=>Q5 a (fun h=> ∀w,b w→indexAddr P T.i u v w (dk a h w)) fun h=>Q5 a (fun k=> ∀d w,b w→h d w→fieldAddr P T.b d 1 w (dk a k w)) fun k=>Q5 a (fun p=> ∀w,b w→indexAddr P T.i u v w (dk a p w)) fun p=>Q5 a (fun j=> ∀g w,b w→p g w→fieldAddr P T.b g 6 w (dk a j w)) fun j=>Q5 a (fun f=> ∀w,b w→buildSlice P T.k 0 [] w (dk a f w)) fun f=>Q5 a (fun n=> ∀o w,b w→k o w→Q2 P T.c o w (dk a n w)) fun n=>Q5 a (fun c=> ∀e w,b w→n e w→Q1 P F.p [u,e] w (dk a c w)) fun c=>Q5 a (fun q=> ∀m l w,b w→f m w→c l w→X2 P .append [T.k,T.k] T.k [false,false] [m,l] w (dk a q w)) fun q=>Q5 a (fun r=> ∀i w,b w→j i w→Q2 P T.k i w (dk a r w)) fun r=>∀d o g i m e l s t w,b w→h d w→k o w→p g w→j i w→f m w→n e w→c l w→q s w→r t w→ X2 P .append [T.k,T.k] T.k [false,false] [s,t] w fun y w=>K y w)
theorem Lv {a b:Value} {w:World} {K:Value→World→Prop} (h:Xv a b w K):Q1 P F.p [a,b] w K:=Q9 (List.replicate 6 none) Tryz.func73 rfl (by decide) (by kernel_rfl) h
def Pb:V8:=[none,none,none,none,some ([8],[6,8,12,13,14,15,16,17,18,19,20,21,22,23,24,25]),none,none,none,none,none,none]
def Md (k l m:Value) (w:World) (K:Value→World→Prop):Prop:= Q1 P F.p [k,l] w fun b w=>lp (α:=Value) (.int .i64 0) w fun a c n w=>X2 P .len [T.k] T.e [false] [b] w fun g w=>Q3 P .lss T.e (.tmp 12) (.tmp 14) c g w fun j w=>X1 j (indexAddr P T.k b c w fun d w=>fieldAddr P T.o d 0 w fun f w=>Q2 P T.c f w fun i w=>Q3 P .eql T.c (.tmp 22) (.tmp 23) i m w fun h w=>X1 h (K c w) (Q3 P .add T.e (.tmp 16) (.const (.int .i64 1)) c (.int .i64 1) w fun e w=>a e w)) (K (.int .i64 (-1)) w)
theorem Il {a b c:Value} {w:World} {K:Value→World→Prop} (h:Md a b c w K):Q1 P F.br [a,b,c] w K:=Q9 Pb Tryz.func149 rfl (by decide) (by kernel_rfl) h
def Di (a:Value) (w:World) (K:Value→World→Prop):Prop:= X2 P .len [T.c] T.e [false] [a] w fun e w=>Q1 P F.a2 [a] w fun f w=>Q3 P .mul T.e (.const (.int .i64 2)) (.tmp 7) (.int .i64 2) f w fun d w=>Q3 P .sub T.e (.tmp 5) (.tmp 8) e d w fun c w=>S4 P T.c a none (some c) none w fun b w=>K b w
theorem Ae {a:Value} {w:World} {K:Value→World→Prop} (h:Di a w K):Q1 P F.aX [a] w K:=Q9 (List.replicate 2 none) Tryz.func153 rfl (by decide) (by kernel_rfl) h
def Ol (q d:Value) (w:World) (K:Value→World→Prop):Prop:= Q3 P .eql T.c (.tmp 5) (.const (.string ⟨#[110,117,108,108]⟩)) d (.string ⟨#[110,117,108,108]⟩) w fun c w=>Q0 c false w (fun w J=>J d w) fun r w=>Q0 c false w (Q1 P F.e [r]) fun p w=>Q0 c false w (fun w J=>J p w) fun b w=>Q0 b true w (fun w J=>J d w) fun m w=>Q0 b true w (Q1 P F.aX [m]) fun j w=>Q0 b true w (Q1 P F.y [j]) fun i w=>Q0 b true w (fun w J=>J i w) fun a w=>Q0 a false w (fun w J=>J q w) fun e w=>Q0 a false w (fun w J=>J d w) fun o w=>Q0 a false w (Q1 P F.aX [o]) fun f w=>Q0 a false w (Q1 P F.b [e,f]) fun k w=>Q0 a false w (Q3 P .geq T.e (.tmp 18) (.const (.int .i64 0)) k (.int .i64 0)) fun h w=>Q0 b true w (pick P a (.bool true) h) fun n w=>Q0 c false w (pick P b n (.bool false)) fun l w=>pick P c (.bool true) l w fun g w=>K g w
theorem Q05 {a b:Value} {w:World} {K:Value→World→Prop} (h:Ol a b w K):Q1 P F.a1 [a,b] w K:=Q9 (List.replicate 2 none) Tryz.func106 rfl (by decide) (by kernel_rfl) h
def Ml (e d:Value) (w:World) (K:Value→World→Prop):Prop:= Q3 P .neq T.c (.tmp 5) (.const (.string ⟨#[110,117,108,108]⟩)) d (.string ⟨#[110,117,108,108]⟩) w fun a w=>Q0 a true w (fun w J=>J e w) fun g w=>Q0 a true w (fun w J=>J d w) fun f w=>Q0 a true w (Q1 P F.a1 [g,f]) fun c w=>pick P a c (.bool false) w fun b w=>K b w
theorem Km {a b:Value} {w:World} {K:Value→World→Prop} (h:Ml a b w K):Q1 P F.bs [a,b] w K:=Q9 (List.replicate 2 none) Tryz.func150 rfl (by decide) (by kernel_rfl) h
def As:V8:=[none,none,none,none,some ([3,4],[3,4,5,6,7,8,9,10,11,12,13,14,15,16,17,18,19,20,21,22]),none,none,none,some ([3],[3,12,13,14,15]),none,none]
def Dm (s:Value) (w:World) (K:Value→World→Prop):Prop:= box P T.d s w fun a w=>lp (α:=Value×Value) ((.string ⟨#[40]⟩),(.int .i64 0)) w fun b c q w=>fieldAddr P T.d a 1 w fun v w=>Q2 P T.h v w fun y w=>X2 P .len [T.h] T.e [false] [y] w fun u w=>Q3 P .lss T.e (.tmp 5) (.tmp 8) c.2 u w fun r w=>X1 r (jn (α:=Value) w (fun p w=>Q3 P .gtr T.e (.tmp 12) (.const (.int .i64 0)) c.2 (.int .i64 0) w fun h w=>X1 h (Q3 P .add T.c (.tmp 14) (.const (.string ⟨#[44]⟩)) c.1 (.string ⟨#[44]⟩) w fun d w=>p d w) (p c.1 w)) fun t q w=>fieldAddr P T.d a 1 w fun f w=>Q2 P T.h f w fun j w=>indexAddr P T.h j c.2 w fun l w=>Q2 P T.c l w fun k w=>Q3 P .add T.c (.tmp 16) (.tmp 21) t k w fun g w=>Q3 P .add T.e (.tmp 10) (.const (.int .i64 1)) c.2 (.int .i64 1) w fun m w=>b (g,m) w) (Q3 P .add T.c (.tmp 23) (.const (.string ⟨#[41]⟩)) c.1 (.string ⟨#[41]⟩) w fun n w=>fieldAddr P T.d a 2 w fun o w=>Q2 P T.c o w fun e w=>Q3 P .add T.c (.tmp 24) (.tmp 26) n e w fun i w=>K i w)
theorem Q08 {a:Value} {w:World} {K:Value→World→Prop} (h:Dm a w K):Q1 P F.aW [a] w K:=Q9 As Tryz.func151 rfl (by decide) (by kernel_rfl) h
def Q0m:V8:=[none,none,none,some ([5],[4,5,6,7,8,9,10,11,12,13,14,15,16,17,18,19,20,21]),none,none,none,none,none,none]
def Ep (n m:Value) (w:World) (K:Value→World→Prop):Prop:= box P T.b n w fun a w=>lp (α:=Value) (.int .i64 0) w fun b c q w=>fieldAddr P T.b a 7 w fun p w=>Q2 P T.j p w fun o w=>X2 P .len [T.j] T.e [false] [o] w fun l w=>Q3 P .lss T.e (.tmp 6) (.tmp 9) c l w fun k w=>X1 k (fieldAddr P T.b a 7 w fun e w=>Q2 P T.j e w fun g w=>indexAddr P T.j g c w fun j w=>fieldAddr P T.d j 0 w fun d w=>Q2 P T.c d w fun h w=>Q3 P .eql T.c (.tmp 18) (.tmp 19) h m w fun i w=>X1 i (K c w) (Q3 P .add T.e (.tmp 11) (.const (.int .i64 1)) c (.int .i64 1) w fun f w=>b f w)) (K (.int .i64 (-1)) w)
theorem Q1b {a b:Value} {w:World} {K:Value→World→Prop} (h:Ep a b w K):Q1 P F.b2 [a,b] w K:=Q9 Q0m Tryz.func183 rfl (by decide) (by kernel_rfl) h
def Ir:V8:=[none,none,none,some ([9],[6,8,9,10,11,12,13,14,15,16,17,18,19,20,21,22,23,24,25,26,27,28,29,30,31,32,33,34,35,36,37,38,39,40,41,42,43,44,45,46,47,48,49,50,51,52,53,54]),none,none,none,none,none,none,none,none,none,none,none,none]
def Nr (E a1 a2:Value) (w:World) (K:Value→World→Prop):Prop:= box P T.b a1 w fun d w=>V6 P T.d w fun s w=>lp (α:=Value) (.int .i64 0) w fun h V d_ w=>fieldAddr P T.b d 2 w fun Z w=>Q2 P T.h Z w fun H w=>X2 P .len [T.h] T.e [false] [H] w fun Q w=>Q3 P .lss T.e (.tmp 15) (.tmp 18) V Q w fun M w=>X1 M (fieldAddr P T.b d 2 w fun Y w=>Q2 P T.h Y w fun aa w=>indexAddr P T.h aa V w fun N w=>Q2 P T.c N w fun U w=>Q1 P F.b [E,U] w fun O w=>indexAddr P T.i E O w fun B w=>Q2 P T.b B w fun C w=>V6 P T.b w fun a w=>X9 P T.b a C w fun _u w=>Q2 P T.b a w fun W w=>Q1 P F.b2 [W,a2] w fun u w=>Q3 P .geq T.e (.tmp 35) (.const (.int .i64 0)) u (.int .i64 0) w fun L w=>X1 L (dr w fun b e=>Q5 b (fun l=> ∀w,e w→fieldAddr P T.b a 0 w (dk b l w)) fun l=>Q5 b (fun k=> ∀w,e w→fieldAddr P T.b a 7 w (dk b k w)) fun k=>Q5 b (fun r=> ∀n w,e w→l n w→Q2 P T.c n w (dk b r w)) fun r=>Q5 b (fun f=> ∀m w,e w→k m w→Q2 P T.j m w (dk b f w)) fun f=>Q5 b (fun j=> ∀i w,e w→f i w→indexAddr P T.j i u w (dk b j w)) fun j=>Q5 b (fun o=> ∀g w,e w→j g w→Q2 P T.d g w (dk b o w)) fun o=>∀n m z i g v w,e w→l n w→k m w→r z w→f i w→j g w→o v w→ X9 P T.d s v w fun _u w=>Y7 P T.d s w fun t=>K (.tuple #[z,t,(.bool true)]) w) (Q2 P T.b a w fun J w=>Q1 P F.aN [E,J,a2] w fun q w=>ext P q 0 w fun X w=>ext P q 1 w fun ab w=>ext P q 2 w fun D w=>V6 P T.d w fun c w=>X9 P T.d c ab w fun _u w=>X1 D (dr w fun b e=>Q5 b (fun p=> ∀w,e w→Q2 P T.d c w (dk b p w)) fun p=>∀y w,e w→p y w→ X9 P T.d s y w fun _u w=>Y7 P T.d s w fun t=>K (.tuple #[X,t,(.bool true)]) w) (Q3 P .add T.e (.tmp 20) (.const (.int .i64 1)) V (.int .i64 1) w fun R w=>h R w))) (H0 P T.d [] w fun A w=>X9 P T.d s A w fun _u w=>Y7 P T.d s w fun t=>K (.tuple #[(.string ⟨#[]⟩),t,(.bool false)]) w)
theorem Iw {a b c:Value} {w:World} {K:Value→World→Prop} (h:Nr a b c w K):Q1 P F.aN [a,b,c] w K:=Q9 Ir Tryz.func184 rfl (by decide) (by kernel_rfl) h
def Fx:V8:=[none,none,none,some ([9],[6,8,9,10,18,19,20,21,22,23,24,25,26,27,28,29,30,31,32,33,34,35,36,37,38,39,40,41,42,43,44,45,46,47]),none,none,none,none,none,none,none,none,some ([11],[6,8,11,12,13,14,51,52,53,54,55,56,57,58,59,60,61,62,63,64,65,66,67,68,69,70,71,72,73]),none,none,none,none,none,none,none]
def Ll (d a1 a2:Value) (w:World) (K:Value→World→Prop):Prop:= V6 P T.d w fun y w=>Q1 P F.b [d,a1] w fun O w=>lp (α:=Value) O w fun g D d_ w=>Q3 P .geq T.e (.tmp 18) (.const (.int .i64 0)) D (.int .i64 0) w fun U w=>X1 U (indexAddr P T.i d D w fun ab w=>Q2 P T.b ab w fun L w=>Q1 P F.b2 [L,a2] w fun H w=>Q3 P .geq T.e (.tmp 33) (.const (.int .i64 0)) H (.int .i64 0) w fun Y w=>X1 Y (dr w fun a b=>Q5 a (fun j=> ∀w,b w→indexAddr P T.i d D w (dk a j w)) fun j=>Q5 a (fun n=> ∀m w,b w→j m w→fieldAddr P T.b m 0 w (dk a n w)) fun n=>Q5 a (fun h=> ∀w,b w→indexAddr P T.i d D w (dk a h w)) fun h=>Q5 a (fun e=> ∀f w,b w→h f w→fieldAddr P T.b f 7 w (dk a e w)) fun e=>Q5 a (fun t=> ∀p w,b w→n p w→Q2 P T.c p w (dk a t w)) fun t=>Q5 a (fun i=> ∀k w,b w→e k w→Q2 P T.j k w (dk a i w)) fun i=>Q5 a (fun o=> ∀l w,b w→i l w→indexAddr P T.j l H w (dk a o w)) fun o=>Q5 a (fun r=> ∀q w,b w→o q w→Q2 P T.d q w (dk a r w)) fun r=>∀m p f k B l q C w,b w→j m w→n p w→h f w→e k w→t B w→i l w→o q w→r C w→ X9 P T.d y C w fun _u w=>Y7 P T.d y w fun z=>K (.tuple #[B,z,(.bool true)]) w) (indexAddr P T.i d D w fun V w=>fieldAddr P T.b V 1 w fun ad w=>Q2 P T.c ad w fun ae w=>Q1 P F.b [d,ae] w fun N w=>g N w)) (Q1 P F.b [d,a1] w fun ac w=>lp (α:=Value) ac w fun c s d_ w=>Q3 P .geq T.e (.tmp 51) (.const (.int .i64 0)) s (.int .i64 0) w fun J w=>X1 J (indexAddr P T.i d s w fun ag w=>Q2 P T.b ag w fun ah w=>Q1 P F.aN [d,ah,a2] w fun v w=>ext P v 0 w fun Z w=>ext P v 1 w fun Q w=>ext P v 2 w fun R w=>V6 P T.d w fun A w=>X9 P T.d A Q w fun _u w=>X1 R (dr w fun a b=>Q5 a (fun u=> ∀w,b w→Q2 P T.d A w (dk a u w)) fun u=>∀E w,b w→u E w→ X9 P T.d y E w fun _u w=>Y7 P T.d y w fun z=>K (.tuple #[Z,z,(.bool true)]) w) (indexAddr P T.i d s w fun X w=>fieldAddr P T.b X 1 w fun M w=>Q2 P T.c M w fun W w=>Q1 P F.b [d,W] w fun aa w=>c aa w)) (H0 P T.d [] w fun af w=>X9 P T.d y af w fun _u w=>Y7 P T.d y w fun z=>K (.tuple #[(.string ⟨#[]⟩),z,(.bool false)]) w))
theorem Gj {a b c:Value} {w:World} {K:Value→World→Prop} (h:Ll a b c w K):Q1 P F.bf [a,b,c] w K:=Q9 Fx Tryz.func152 rfl (by decide) (by kernel_rfl) h
def Fo:V8:=[none,none,none,none,some ([6],[4,6,24,25,26,27,28,29,30,31,32,33,34,35,36,37,38,39,40,41]),none,none,none,none,none,none,none,none,some ([7,8],[7,8,43,44,45,46,47,48,49,50,51,52,53,54,55,56,57,58]),none,none,none,none,none,some ([7,9],[7,9,59,60,61,62,63,64,65,66,67,68,69,70,71,72,73,74,75,76,77,78,79,80,81,82,83,84,85,86,87,88,89]),none,none,some ([7],[7,66,67,68,69,70,71,72,73,74,75,76,77,78,79,80,81,82,83,84,85,86,87,88,89]),none,none,none,none,some ([10],[4,10,90,91,92,93,94,95,96,97,98,99,100,101,102]),none,none,none,none,none,none,none,none,none,some ([12,13],[12,13,106,107,108,109,110,111,112,113,114,115,116,117,118,119,120,121,122,123,124,125,126,127,128,129,130]),none,none,some ([12],[12,112,113,114,115,116,117,118,119,120,121,122,123,124,125,126,127,128,129,130]),none,none,none,some ([14],[4,14,15,131,132,133,134,135,136,137,138,139,140,141,142,143,144,145,146,147,148,149,150,151,152,153,154,155,156,157,158,159,160,161,162,163,164,165]),none,none,none,none,some ([15],[4,15,137,138,139,140,141,142,143,144,145,146,147,148,149,150,151,152,153,154,155,156,157,158,159,160,161,162,163,164,165]),none,none,none,none,none,none,none,some ([16],[4,16,17,18,19,166,167,168,169,170,171,172,173,174,175,176,177,178,179,180,181,182,183,184,185,186,187,188,189,190,191,192,193,194,195]),none,none,none,none,none,none,none]
def Wa (a0 a1:Value) (w:World) (K:Value→World→Prop):Prop:= indexAddr P T.i a0 a1 w fun dz w=>Q2 P T.b dz w fun ee w=>V6 P T.b w fun t5 w=>X9 P T.b t5 ee w fun _u w=>lp (α:=Value) (.int .i64 0) w fun a8 x4 d_ w=>fieldAddr P T.b t5 6 w fun d5 w=>Q2 P T.k d5 w fun d9 w=>X2 P .len [T.k] T.e [false] [d9] w fun dc w=>Q3 P .lss T.e (.tmp 24) (.tmp 27) x4 dc w fun c7 w=>X1 c7 (dr w fun b c=>Q5 b (fun a5=> ∀w,c w→fieldAddr P T.b t5 1 w (dk b a5 w)) fun a5=>Q5 b (fun a9=> ∀w,c w→fieldAddr P T.b t5 6 w (dk b a9 w)) fun a9=>Q5 b (fun bn=> ∀ba w,c w→a5 ba w→Q2 P T.c ba w (dk b bn w)) fun bn=>Q5 b (fun a7=> ∀bc w,c w→a9 bc w→Q2 P T.k bc w (dk b a7 w)) fun a7=>Q5 b (fun bf=> ∀a6 w,c w→a7 a6 w→indexAddr P T.k a6 x4 w (dk b bf w)) fun bf=>Q5 b (fun bd=> ∀be w,c w→bf be w→fieldAddr P T.o be 0 w (dk b bd w)) fun bd=>Q5 b (fun bj=> ∀bb w,c w→bd bb w→Q2 P T.c bb w (dk b bj w)) fun bj=>∀ba bc cv a6 be bb co w,c w→a5 ba w→a9 bc w→bn cv w→a7 a6 w→bf be w→bd bb w→bj co w→ Q1 P F.br [a0,cv,co] w fun dt w=>Q3 P .geq T.e (.tmp 40) (.const (.int .i64 0)) dt (.int .i64 0) w fun dl w=>X1 dl (K (.int .i64 64) w) (Q3 P .add T.e (.tmp 29) (.const (.int .i64 1)) x4 (.int .i64 1) w fun dv w=>a8 dv w)) (buildSlice P T.h 0 [] w fun dp w=>lp (α:=Value×Value) (dp,(.int .i64 0)) w fun ai aw d_ w=>fieldAddr P T.b t5 6 w fun d1 w=>Q2 P T.k d1 w fun df w=>X2 P .len [T.k] T.e [false] [df] w fun d6 w=>Q3 P .lss T.e (.tmp 43) (.tmp 46) aw.2 d6 w fun d3 w=>X1 d3 (fieldAddr P T.b t5 6 w fun d8 w=>Q2 P T.k d8 w fun ds w=>indexAddr P T.k ds aw.2 w fun d4 w=>fieldAddr P T.o d4 1 w fun du w=>Q2 P T.c du w fun db w=>buildSlice P T.h 1 [(0,db)] w fun d7 w=>X2 P .append [T.h,T.h] T.h [false,false] [aw.1,d7] w fun c4 w=>Q3 P .add T.e (.tmp 48) (.const (.int .i64 1)) aw.2 (.int .i64 1) w fun dg w=>ai (c4,dg) w) (lp (α:=Value×Value) (aw.1,(.int .i64 0)) w fun ao j d_ w=>fieldAddr P T.b t5 7 w fun dy w=>Q2 P T.j dy w fun cy w=>X2 P .len [T.j] T.e [false] [cy] w fun dw w=>Q3 P .lss T.e (.tmp 59) (.tmp 62) j.2 dw w fun d0 w=>X1 d0 (jn (α:=Value) w (fun b8 w=>fieldAddr P T.b t5 7 w fun dm w=>Q2 P T.j dm w fun d2 w=>indexAddr P T.j d2 j.2 w fun ec w=>fieldAddr P T.d ec 1 w fun cz w=>Q2 P T.h cz w fun c2 w=>X2 P .append [T.h,T.h] T.h [false,false] [j.1,c2] w fun cf w=>fieldAddr P T.b t5 7 w fun ef w=>Q2 P T.j ef w fun dj w=>indexAddr P T.j dj j.2 w fun cx w=>fieldAddr P T.d cx 2 w fun c1 w=>Q2 P T.c c1 w fun c9 w=>Q3 P .neq T.c (.tmp 79) (.const (.string ⟨#[]⟩)) c9 (.string ⟨#[]⟩) w fun c8 w=>X1 c8 (fieldAddr P T.b t5 7 w fun dd w=>Q2 P T.j dd w fun eb w=>indexAddr P T.j eb j.2 w fun c0 w=>fieldAddr P T.d c0 2 w fun c5 w=>Q2 P T.c c5 w fun dq w=>buildSlice P T.h 1 [(0,dq)] w fun di w=>X2 P .append [T.h,T.h] T.h [false,false] [cf,di] w fun ea w=>b8 ea w) (b8 cf w)) fun dh d_ w=>Q3 P .add T.e (.tmp 64) (.const (.int .i64 1)) j.2 (.int .i64 1) w fun eh w=>ao (dh,eh) w) (lp (α:=Value) (.int .i64 0) w fun aj bm d_ w=>X2 P .len [T.h] T.e [false] [j.1] w fun c3 w=>Q3 P .lss T.e (.tmp 90) (.tmp 92) bm c3 w fun de w=>X1 de (indexAddr P T.h j.1 bm w fun c6 w=>Q2 P T.c c6 w fun bs w=>Q1 P F.bs [a0,bs] w fun b5 w=>J8 P .not b5 w fun b7 w=>X1 b7 (K (.int .i64 65) w) (Q3 P .add T.e (.tmp 94) (.const (.int .i64 1)) bm (.int .i64 1) w fun eg w=>aj eg w)) (Q1 P F.aj [a0] w fun b9 w=>buildSlice P T.j 0 [] w fun bx w=>lp (α:=Value×Value) (bx,(.int .i64 0)) w fun al f d_ w=>X2 P .len [T.i] T.e [false] [a0] w fun cq w=>Q3 P .lss T.e (.tmp 106) (.tmp 108) f.2 cq w fun cg w=>X1 cg (jn (α:=Value) w (fun cd w=>Q3 P .eql T.e (.tmp 112) (.tmp 113) f.2 a1 w fun g w=>Q0 g false w (fun w J=>J b9 w) fun bp w=>Q0 g false w (fun w J=>J a1 w) fun bo w=>Q0 g false w (indexAddr P T.a8 bp bo) fun cm w=>Q0 g false w (Q2 P T.a6 cm) fun bv w=>Q0 g false w (fun w J=>J f.2 w) fun ca w=>Q0 g false w (indexAddr P T.a6 bv ca) fun ch w=>Q0 g false w (Q2 P T.u ch) fun b1 w=>pick P g (.bool true) b1 w fun cj w=>X1 cj (indexAddr P T.i a0 f.2 w fun cc w=>fieldAddr P T.b cc 7 w fun b4 w=>Q2 P T.j b4 w fun bu w=>X2 P .append [T.j,T.j] T.j [false,false] [f.1,bu] w fun cr w=>cd cr w) (cd f.1 w)) fun da d_ w=>Q3 P .add T.e (.tmp 110) (.const (.int .i64 1)) f.2 (.int .i64 1) w fun cu w=>al (da,cu) w) (lp (α:=Value) (.int .i64 0) w fun an ax d_ w=>X2 P .len [T.j] T.e [false] [f.1] w fun ce w=>Q3 P .lss T.e (.tmp 131) (.tmp 133) ax ce w fun cp w=>X1 cp (lp (α:=Value) (.int .i64 0) w fun am a4 d_ w=>Q3 P .lss T.e (.tmp 137) (.tmp 138) a4 ax w fun ck w=>X1 ck (dr w fun b c=>Q5 b (fun E=> ∀w,c w→indexAddr P T.j f.1 ax w (dk b E w)) fun E=>Q5 b (fun X=> ∀N w,c w→E N w→fieldAddr P T.d N 0 w (dk b X w)) fun X=>Q5 b (fun ae=> ∀w,c w→indexAddr P T.j f.1 a4 w (dk b ae w)) fun ae=>Q5 b (fun C=> ∀R w,c w→ae R w→fieldAddr P T.d R 0 w (dk b C w)) fun C=>Q5 b (fun q=> ∀u w,c w→X u w→Q2 P T.c u w (dk b q w)) fun q=>Q5 b (fun p=> ∀Y w,c w→C Y w→Q2 P T.c Y w (dk b p w)) fun p=>Q5 b (fun d=> ∀U ag w,c w→q U w→p ag w→Q3 P .eql T.c (.tmp 146) (.tmp 151) U ag w (dk b d w)) fun d=>Q5 b (fun O=> ∀a w,c w→d a w→Q0 a true w (fun w J=>J f.1 w) (dk b O w)) fun O=>Q5 b (fun A=> ∀a w,c w→d a w→Q0 a true w (fun w J=>J ax w) (dk b A w)) fun A=>Q5 b (fun L=> ∀a Q M w,c w→d a w→O Q w→A M w→Q0 a true w (indexAddr P T.j Q M) (dk b L w)) fun L=>Q5 b (fun n=> ∀a w,c w→d a w→Q0 a true w (fun w J=>J f.1 w) (dk b n w)) fun n=>Q5 b (fun v=> ∀a w,c w→d a w→Q0 a true w (fun w J=>J a4 w) (dk b v w)) fun v=>Q5 b (fun V=> ∀a z s w,c w→d a w→n z w→v s w→Q0 a true w (indexAddr P T.j z s) (dk b V w)) fun V=>Q5 b (fun y=> ∀a D w,c w→d a w→L D w→Q0 a true w (Q2 P T.d D) (dk b y w)) fun y=>Q5 b (fun av=> ∀a l w,c w→d a w→y l w→Q0 a true w (Q1 P F.aW [l]) (dk b av w)) fun av=>Q5 b (fun ay=> ∀a Z w,c w→d a w→V Z w→Q0 a true w (Q2 P T.d Z) (dk b ay w)) fun ay=>∀N u R Y U ag a Q M D z s Z l bi bg w,c w→E N w→X u w→ae R w→C Y w→q U w→p ag w→d a w→O Q w→A M w→L D w→n z w→v s w→V Z w→y l w→av bi w→ay bg w→ Q0 a true w (Q1 P F.aW [bg]) fun b3 w=>Q0 a true w (Q3 P .neq T.c (.tmp 158) (.tmp 163) bi b3) fun ci w=>pick P a ci (.bool false) w fun ct w=>X1 ct (K (.int .i64 66) w) (Q3 P .add T.e (.tmp 140) (.const (.int .i64 1)) a4 (.int .i64 1) w fun cl w=>am cl w)) (Q3 P .add T.e (.tmp 135) (.const (.int .i64 1)) ax (.int .i64 1) w fun br w=>an br w)) (lp (α:=Value) (.int .i64 0) w fun az bl d_ w=>X2 P .len [T.j] T.e [false] [f.1] w fun b6 w=>Q3 P .lss T.e (.tmp 166) (.tmp 168) bl b6 w fun t w=>Q0 t true w (fieldAddr P T.b t5 4) fun cw w=>Q0 t true w (Q2 P T.u cw) fun bq w=>Q0 t true w (J8 P .not bq) fun cb w=>pick P t cb (.bool false) w fun b2 w=>X1 b2 (dr w fun b c=>Q5 b (fun B=> ∀w,c w→fieldAddr P T.b t5 0 w (dk b B w)) fun B=>Q5 b (fun o=> ∀w,c w→indexAddr P T.j f.1 bl w (dk b o w)) fun o=>Q5 b (fun H=> ∀ad w,c w→o ad w→fieldAddr P T.d ad 0 w (dk b H w)) fun H=>Q5 b (fun r=> ∀W w,c w→B W w→Q2 P T.c W w (dk b r w)) fun r=>Q5 b (fun m=> ∀ab w,c w→H ab w→Q2 P T.c ab w (dk b m w)) fun m=>Q5 b (fun h=> ∀ac af w,c w→r ac w→m af w→Q1 P F.bf [a0,ac,af] w (dk b h w)) fun h=>Q5 b (fun ak=> ∀e w,c w→h e w→ext P e 0 w (dk b ak w)) fun ak=>Q5 b (fun aa=> ∀e w,c w→h e w→ext P e 1 w (dk b aa w)) fun aa=>Q5 b (fun ar=> ∀e w,c w→h e w→ext P e 2 w (dk b ar w)) fun ar=>Q5 b (fun a3=> ∀w,c w→V6 P T.d w (dk b a3 w)) fun a3=>Sn b (fun ap=> ∀k i w,c w→a3 k w→aa i w→X9 P T.d k i w (dk b (ap [k,i]) w)) fun ap=>∀W ad ab ac af e cn i bh k dn w,c w→B W w→o ad w→H ab w→r ac w→m af w→h e w→ak cn w→aa i w→ar bh w→a3 k w→ap [k,i] dn w→ J8 P .not bh w fun aq w=>Q0 aq false w (fieldAddr P T.d k 3) fun bz w=>Q0 aq false w (Q2 P T.u bz) fun b0 w=>pick P aq (.bool true) b0 w fun bw w=>X1 bw (K (.int .i64 67) w) (Q3 P .add T.e (.tmp 175) (.const (.int .i64 1)) bl (.int .i64 1) w fun cs w=>az cs w)) (K (.int .i64 0) w)))))))
theorem Fa {a b:Value} {w:World} {K:Value→World→Prop} (h:Wa a b w K):Q1 P F.b9 [a,b] w K:=Q9 Fo Tryz.func105 rfl (by decide) (by kernel_rfl) h
end Go.Proofs.YtjdiakhipmggjaaGreatDoor

set_option maxRecDepth 100000
namespace Go.Proofs.YtjdiakhipmggjaaGreatDoor
open Go.Emb
def Q12:V8:=[none,none,none,none,none,some ([5,7],[2,3,4,5,7,8,21,22,23,24,25,26,27,28,29,30,31,32,33,34,35,36,37,38,39,40,41,42]),none,none,none,none,none,none,none,none,none,some ([9],[2,3,4,9,43,44,45,46,47,48,49,50,51,52,53,54,55,56,57,58,59,60]),none,none,none,none,none,none,none,some ([10],[2,3,4,10,11,61,62,63,64,65,66,67,68,69,70,71,72,73,74,75,76]),none,none,none,none,none,none,none,none,none,some ([13],[2,3,4,13,79,80,81,82,83,84,85,86,87,88,89,90,91,92,93,94,95,96]),none,none,none,none,none,none,none,none,some ([14,15],[14,15,98,99,100,101,102,103,104,105,106,107,108,109,110]),none,none,none,none,none,some ([16],[2,3,4,16,17,111,112,113,114,115,116,117,118,119,120,121,122,123,124,125,126,127,128,129,130,131]),none,none,none,none,none,none,none]
def Ew (l:Value) (w:World) (K:Value→World→Prop):Prop:= Q1 P F.bn [] w fun C w=>X2 P .len [T.i] T.e [false] [C] w fun b w=>lp (α:=Value×Value) (C,(.int .i64 0)) w fun m c r w=>X2 P .len [T.i] T.e [false] [l] w fun ag w=>Q3 P .lss T.e (.tmp 21) (.tmp 23) c.2 ag w fun av w=>X1 av (indexAddr P T.i l c.2 w fun am w=>Q2 P T.b am w fun Y w=>Q1 P F.bo [Y] w fun t w=>Q3 P .neq T.y (.tmp 32) (.const (.int .i64 0)) t (.int .i64 0) w fun aw w=>X1 aw (K (.tuple #[(.slice none 0 0),c.2,t]) w) (indexAddr P T.i l c.2 w fun ai w=>Q2 P T.b ai w fun V w=>buildSlice P T.i 1 [(0,V)] w fun ax w=>X2 P .append [T.i,T.i] T.i [false,false] [c.1,ax] w fun R w=>Q3 P .add T.e (.tmp 25) (.const (.int .i64 1)) c.2 (.int .i64 1) w fun aa w=>m (R,aa) w)) (lp (α:=Value) (.int .i64 0) w fun k g r w=>X2 P .len [T.i] T.e [false] [l] w fun aq w=>Q3 P .lss T.e (.tmp 43) (.tmp 45) g aq w fun a2 w=>X1 a2 (indexAddr P T.i l g w fun U w=>fieldAddr P T.b U 0 w fun Q w=>Q2 P T.c Q w fun ap w=>Q1 P F.b [c.1,ap] w fun W w=>Q3 P .add T.e (.tmp 56) (.tmp 57) b g w fun ah w=>Q3 P .neq T.e (.tmp 55) (.tmp 58) W ah w fun al w=>X1 al (K (.tuple #[(.slice none 0 0),g,(.int .i64 60)]) w) (Q3 P .add T.e (.tmp 47) (.const (.int .i64 1)) g (.int .i64 1) w fun aj w=>k aj w)) (lp (α:=Value) (.int .i64 0) w fun e n r w=>X2 P .len [T.i] T.e [false] [l] w fun af w=>Q3 P .lss T.e (.tmp 61) (.tmp 63) n af w fun a3 w=>X1 a3 (indexAddr P T.i l n w fun ae w=>Q2 P T.b ae w fun Z w=>Q1 P F.be [c.1,Z] w fun z w=>Q3 P .neq T.y (.tmp 73) (.const (.int .i64 0)) z (.int .i64 0) w fun az w=>X1 az (K (.tuple #[(.slice none 0 0),n,z]) w) (Q3 P .add T.e (.tmp 65) (.const (.int .i64 1)) n (.int .i64 1) w fun ac w=>e ac w)) (Q1 P F.aj [c.1] w fun ad w=>lp (α:=Value) (.int .i64 0) w fun i j r w=>X2 P .len [T.i] T.e [false] [l] w fun a4 w=>Q3 P .lss T.e (.tmp 79) (.tmp 81) j a4 w fun ak w=>X1 ak (Q3 P .add T.e (.tmp 86) (.tmp 87) b j w fun ar w=>indexAddr P T.a8 ad ar w fun ab w=>Q2 P T.a6 ab w fun an w=>Q3 P .add T.e (.tmp 91) (.tmp 92) b j w fun ao w=>indexAddr P T.a6 an ao w fun X w=>Q2 P T.u X w fun a1 w=>X1 a1 (K (.tuple #[(.slice none 0 0),j,(.int .i64 63)]) w) (Q3 P .add T.e (.tmp 83) (.const (.int .i64 1)) j (.int .i64 1) w fun O w=>i O w)) (buildSlice P T.a7 0 [] w fun ay w=>lp (α:=Value×Value) (ay,(.int .i64 0)) w fun d a r w=>X2 P .len [T.i] T.e [false] [l] w fun B w=>Q3 P .lss T.e (.tmp 98) (.tmp 100) a.2 B w fun H w=>X1 H (Q3 P .add T.e (.tmp 107) (.tmp 108) b a.2 w fun J w=>Q1 P F.b1 [c.1,a.1,b,J] w fun v w=>Q3 P .add T.e (.tmp 102) (.const (.int .i64 1)) a.2 (.int .i64 1) w fun A w=>d (v,A) w) (lp (α:=Value) (.int .i64 0) w fun h o r w=>X2 P .len [T.a7] T.e [false] [a.1] w fun N w=>Q3 P .lss T.e (.tmp 111) (.tmp 113) o N w fun u w=>X1 u (indexAddr P T.a7 a.1 o w fun s w=>Q2 P T.e s w fun M w=>Q1 P F.b9 [c.1,M] w fun q w=>Q3 P .neq T.y (.tmp 123) (.const (.int .i64 0)) q (.int .i64 0) w fun D w=>X1 D (dr w fun Tr Br=>Q5 Tr (fun f=> ∀w,Br w→indexAddr P T.a7 a.1 o w (dk Tr f w)) fun f=>∀p w,Br w→f p w→ Q2 P T.e p w fun E w=>Q3 P .sub T.e (.tmp 128) (.tmp 129) E b w fun L w=>K (.tuple #[(.slice none 0 0),L,q]) w) (Q3 P .add T.e (.tmp 115) (.const (.int .i64 1)) o (.int .i64 1) w fun y w=>h y w)) (K (.tuple #[c.1,(.int .i64 0),(.int .i64 0)]) w))))))
theorem Q1h {a:Value} {w:World} {K:Value→World→Prop} (h:Ew a w K):Q1 P F.bO [a] w K:=Q9 Q12 Tryz.func56 rfl (by decide) (by kernel_rfl) h
def Mc (C:Value) (w:World) (K:Value→World→Prop):Prop:= V6 P T.a w fun e w=>Q1 P F.az [] w fun p w=>Q1 P F.cN [p] w fun a w=>ext P a 0 w fun i w=>ext P a 1 w fun D w=>ext P a 2 w fun t w=>Q1 P F.az [] w fun y w=>Q1 P F.bO [y] w fun c w=>ext P c 0 w fun n w=>ext P c 1 w fun E w=>ext P c 2 w fun z w=>Q3 P .rem T.aq (.tmp 25) (.const (.int .u16 301)) C (.int .u16 301) w fun l w=>conv P T.aq T.e l w fun h w=>Q3 P .neq T.y (.tmp 28) (.const (.int .i64 0)) t (.int .i64 0) w fun b w=>Q0 b false w (fun w J=>J z w) fun j w=>Q0 b false w (Q3 P .neq T.y (.tmp 31) (.const (.int .i64 0)) j (.int .i64 0)) fun v w=>pick P b (.bool true) v w fun d w=>Q0 d false w (fun w J=>J i w) fun m w=>Q0 d false w (Q3 P .eql T.r (.tmp 35) (.const (.pointer none)) m (.pointer none)) fun o w=>pick P d (.bool true) o w fun u w=>X1 u (H0 P T.a [] w fun A w=>X9 P T.a e A w fun _u w=>Y7 P T.a e w fun f=>K (.tuple #[(.pointer none),f]) w) (Q1 P F.cO [i,h] w fun g w=>ext P g 0 w fun r w=>ext P g 1 w fun q w=>Q3 P .neq T.y (.tmp 45) (.const (.int .i64 0)) q (.int .i64 0) w fun B w=>X1 B (H0 P T.a [] w fun s w=>X9 P T.a e s w fun _u w=>Y7 P T.a e w fun f=>K (.tuple #[(.pointer none),f]) w) (H0 P T.a [(0,n),(1,h)] w fun k w=>X9 P T.a e k w fun _u w=>Y7 P T.a e w fun f=>K (.tuple #[r,f]) w))
theorem Tj {a:Value} {w:World} {K:Value→World→Prop} (h:Mc a w K):Q1 P F.ah [a] w K:=Q9 (List.replicate 12 none) Tryz.func24 rfl (by decide) (by kernel_rfl) h
def Q2y (c:Value) (w:World) (K:Value→World→Prop):Prop:= V6 P T.g w fun a w=>Q3 P .eql T.c (.tmp 3) (.const (.string ⟨#[105,110,116]⟩)) c (.string ⟨#[105,110,116]⟩) w fun h w=>X1 h (H0 P T.g [(0,(.int .i64 1))] w fun j w=>X9 P T.g a j w fun _u w=>Y7 P T.g a w fun b=>K b w) (Q3 P .eql T.c (.tmp 3) (.const (.string ⟨#[98,111,111,108]⟩)) c (.string ⟨#[98,111,111,108]⟩) w fun i w=>X1 i (H0 P T.g [(0,(.int .i64 2))] w fun g w=>X9 P T.g a g w fun _u w=>Y7 P T.g a w fun b=>K b w) (Q3 P .eql T.c (.tmp 3) (.const (.string ⟨#[116,101,120,116]⟩)) c (.string ⟨#[116,101,120,116]⟩) w fun d w=>X1 d (H0 P T.g [(0,(.int .i64 3))] w fun e w=>X9 P T.g a e w fun _u w=>Y7 P T.g a w fun b=>K b w) (H0 P T.g [] w fun f w=>X9 P T.g a f w fun _u w=>Y7 P T.g a w fun b=>K b w)))
theorem Q7g {a:Value} {w:World} {K:Value→World→Prop} (h:Q2y a w K):Q1 P F.cv [a] w K:=Q9 (List.replicate 10 none) Tryz.func29 rfl (by decide) (by kernel_rfl) h
def Hy (a z v:Value) (w:World) (K:Value→World→Prop):Prop:= nilCheck P a w fun y w=>fieldAddr P T.p y 2 w fun t w=>Q2 P T.e t w fun p w=>X2 P .len [T.l] T.e [false] [v] w fun h w=>Q3 P .add T.e (.const (.int .i64 1)) (.tmp 13) (.int .i64 1) h w fun j w=>Q3 P .add T.e (.tmp 11) (.tmp 14) p j w fun b w=>nilCheck P a w fun s w=>fieldAddr P T.p s 2 w fun e w=>X9 P T.e e b w fun _u w=>nilCheck P a w fun q w=>fieldAddr P T.p q 3 w fun m w=>Q2 P T.f m w fun g w=>H0 P T.m [(0,z),(1,v)] w fun u w=>buildSlice P T.f 1 [(0,u)] w fun d w=>X2 P .append [T.f,T.f] T.f [false,false] [g,d] w fun i w=>nilCheck P a w fun n w=>fieldAddr P T.p n 3 w fun l w=>X9 P T.f l i w fun _u w=>nilCheck P a w fun c w=>fieldAddr P T.p c 3 w fun o w=>Q2 P T.f o w fun r w=>X2 P .len [T.f] T.e [false] [r] w fun k w=>Q3 P .sub T.e (.tmp 34) (.const (.int .i64 1)) k (.int .i64 1) w fun f w=>K (.tuple #[f,(.int .i64 0)]) w
theorem Q25 {a b c:Value} {w:World} {K:Value→World→Prop} (h:Hy a b c w K):Q1 P F.b6 [a,b,c] w K:=Q9 (List.replicate 4 none) Tryz.func67 rfl (by decide) (by kernel_rfl) h
def Px:V8:=[none,none,none,none,none,none,none,none,none,none,none,some ([7,31],[7,9,31,32,33,34,35,36,37,38,39,40,41]),none,none,none,none,none]
def Np (f j:Value) (w:World) (K:Value→World→Prop):Prop:= nilCheck P f w fun y w=>fieldAddr P T.p y 0 w fun p w=>Q2 P T.r p w fun m w=>Q1 P F.aD [m,j] w fun h w=>J8 P .not h w fun E w=>X1 E (K (.tuple #[(.int .i64 0),(.int .i64 91)]) w) (nilCheck P f w fun s w=>fieldAddr P T.p s 0 w fun l w=>Q2 P T.r l w fun z w=>Q1 P F.a3 [z,j] w fun d w=>X2 P .len [T.k] T.e [false] [d] w fun A w=>Q3 P .add T.e (.const (.int .i64 1)) (.tmp 24) (.int .i64 1) A w fun H w=>Q1 P F.v [f] w fun o w=>Q3 P .gtr T.e (.tmp 25) (.tmp 27) H o w fun u w=>X1 u (K (.tuple #[(.int .i64 0),(.int .i64 90)]) w) (X2 P .len [T.k] T.e [false] [d] w fun i w=>lp (α:=Value×Value) ((.slice none 0 0),(.int .i64 0)) w fun c a L w=>Q3 P .lss T.e (.tmp 31) (.tmp 30) a.2 i w fun v w=>X1 v (indexAddr P T.k d a.2 w fun B w=>Q2 P T.o B w fun q w=>V6 P T.o w fun b w=>X9 P T.o b q w fun _u w=>fieldAddr P T.o b 1 w fun k w=>Q2 P T.c k w fun t w=>Q1 P F.cv [t] w fun D w=>buildSlice P T.l 1 [(0,D)] w fun n w=>X2 P .append [T.l,T.l] T.l [false,false] [a.1,n] w fun g w=>Q3 P .add T.e (.tmp 31) (.const (.int .i64 1)) a.2 (.int .i64 1) w fun C w=>c (g,C) w) (Q1 P F.b6 [f,j,a.1] w fun e w=>ext P e 0 w fun J w=>ext P e 1 w fun r w=>K (.tuple #[J,r]) w)))
theorem Im {a b:Value} {w:World} {K:Value→World→Prop} (h:Np a b w K):Q1 P F.aJ [a,b] w K:=Q9 Px Tryz.func33 rfl (by decide) (by kernel_rfl) h
def Q4t (b:Value) (w:World) (K:Value→World→Prop):Prop:= Q1 P F.a0 [b] w fun g w=>J8 P .not g w fun a w=>Q0 a false w (fun w J=>J b w) fun h w=>Q0 a false w (Q1 P F.cw [h]) fun f w=>Q0 a false w (Q3 P .eql T.e (.tmp 9) (.const (.int .i64 3)) f (.int .i64 3)) fun d w=>pick P a (.bool true) d w fun c w=>X1 c (K (.tuple #[(.string ⟨#[]⟩),(.int .i64 30)]) w) (Q3 P .add T.c (.tmp 12) (.const (.string ⟨#[91,93]⟩)) b (.string ⟨#[91,93]⟩) w fun e w=>K (.tuple #[e,(.int .i64 0)]) w)
theorem Q9P {a:Value} {w:World} {K:Value→World→Prop} (h:Q4t a w K):Q1 P F.cS [a] w K:=Q9 (List.replicate 5 none) Tryz.func68 rfl (by decide) (by kernel_rfl) h
def Ai:V8:=[none,none,none,none,none,none,none,none,none,none,none,none,some ([45],[11,45,46,47,48,49,50,51,52,53]),none,none,none,none,none]
def Oz (r h i:Value) (w:World) (K:Value→World→Prop):Prop:= Q1 P F.cS [h] w fun g w=>ext P g 0 w fun m w=>ext P g 1 w fun H w=>Q3 P .neq T.y (.tmp 18) (.const (.int .i64 0)) H (.int .i64 0) w fun a w=>Q0 a false w (fun w J=>J r w) fun C w=>Q0 a false w (nilCheck P C) fun t w=>Q0 a false w (fieldAddr P T.p t 0) fun u w=>Q0 a false w (Q2 P T.r u) fun E w=>Q0 a false w (fun w J=>J h w) fun L w=>Q0 a false w (Q1 P F.s [E,L]) fun q w=>Q0 a false w (J8 P .not q) fun z w=>pick P a (.bool true) z w fun e w=>Q0 e false w (fun w J=>J h w) fun n w=>Q0 e false w (Q3 P .eql T.c (.tmp 30) (.const (.string ⟨#[110,117,108,108]⟩)) n (.string ⟨#[110,117,108,108]⟩)) fun o w=>pick P e (.bool true) o w fun D w=>X1 D (K (.tuple #[(.int .i64 0),(.int .i64 91)]) w) (Q3 P .lss T.a1 (.tmp 34) (.const (.int .i64 0)) i (.int .i64 0) w fun s w=>X1 s (K (.tuple #[(.int .i64 0),(.int .i64 93)]) w) (Q1 P F.v [r] w fun y w=>Q3 P .geq T.a1 (.tmp 37) (.tmp 39) i y w fun l w=>X1 l (K (.tuple #[(.int .i64 0),(.int .i64 90)]) w) (Li P T.l i i w fun c w=>X2 P .len [T.l] T.e [false] [c] w fun A w=>lp (α:=Value) (.int .i64 0) w fun b d N w=>Q3 P .lss T.e (.tmp 45) (.tmp 44) d A w fun M w=>X1 M (Q1 P F.cv [h] w fun p w=>indexAddr P T.l c d w fun k w=>X9 P T.g k p w fun _u w=>Q3 P .add T.e (.tmp 45) (.const (.int .i64 1)) d (.int .i64 1) w fun j w=>b j w) (Q1 P F.b6 [r,m,c] w fun f w=>ext P f 0 w fun v w=>ext P f 1 w fun B w=>K (.tuple #[v,B]) w))))
theorem Q03 {a b c:Value} {w:World} {K:Value→World→Prop} (h:Oz a b c w K):Q1 P F.aQ [a,b,c] w K:=Q9 Ai Tryz.func34 rfl (by decide) (by kernel_rfl) h
def Df (a:Value) (w:World) (K:Value→World→Prop):Prop:= nilCheck P a w fun b w=>fieldAddr P T.p b 0 w fun c w=>Q2 P T.r c w fun d w=>K d w
theorem Q02 {a:Value} {w:World} {K:Value→World→Prop} (h:Df a w K):Q1 P F.bB [a] w K:=Q9 (List.replicate 2 none) Tryz.func35 rfl (by decide) (by kernel_rfl) h
def Ob (w:World) (K:Value→World→Prop):Prop:= Q1 P F.ah [(.int .u16 10)] w fun t8 w=>ext P t8 0 w fun a w=>ext P t8 1 w fun X w=>V6 P T.a w fun t2 w=>X9 P T.a t2 X w fun _u w=>Q3 P .eql T.a5 (.tmp 11) (.const (.pointer none)) a (.pointer none) w fun D w=>X1 D (K (.bool false) w) (Q1 P F.aJ [a,(.string ⟨#[90,101,114,111,70,97,117,108,116]⟩)] w fun k w=>ext P k 0 w fun W w=>ext P k 1 w fun t w=>Q1 P F.aQ [a,(.string ⟨#[105,110,116]⟩),(.int .i64 3)] w fun l w=>ext P l 0 w fun N w=>ext P l 1 w fun v w=>Q3 P .eql T.e (.tmp 23) (.const (.int .i64 0)) W (.int .i64 0) w fun j w=>Q0 j true w (fun w J=>J t w) fun s w=>Q0 j true w (Q3 P .eql T.y (.tmp 26) (.const (.int .i64 0)) s (.int .i64 0)) fun C w=>pick P j C (.bool false) w fun h w=>Q0 h true w (fun w J=>J N w) fun p w=>Q0 h true w (Q3 P .eql T.e (.tmp 30) (.const (.int .i64 1)) p (.int .i64 1)) fun q w=>pick P h q (.bool false) w fun i w=>Q0 i true w (fun w J=>J v w) fun E w=>Q0 i true w (Q3 P .eql T.y (.tmp 34) (.const (.int .i64 0)) E (.int .i64 0)) fun u w=>pick P i u (.bool false) w fun d w=>Q0 d true w (fun w J=>J a w) fun V w=>Q0 d true w (Q1 P F.v [V]) fun A w=>Q0 d true w (Q3 P .eql T.e (.tmp 39) (.const (.int .i64 4)) A (.int .i64 4)) fun n w=>pick P d n (.bool false) w fun e w=>Q0 e true w (fun w J=>J a w) fun M w=>Q0 e true w (Q1 P F.aF [M]) fun H w=>Q0 e true w (Q3 P .eql T.e (.tmp 44) (.const (.int .i64 2)) H (.int .i64 2)) fun Q w=>pick P e Q (.bool false) w fun f w=>Q0 f true w (fun w J=>J a w) fun B w=>Q0 f true w (Q1 P F.aA [B,(.int .i64 0)]) fun R w=>Q0 f true w (Q3 P .eql T.c (.tmp 49) (.const (.string ⟨#[90,101,114,111,70,97,117,108,116]⟩)) R (.string ⟨#[90,101,114,111,70,97,117,108,116]⟩)) fun U w=>pick P f U (.bool false) w fun b w=>Q0 b true w (fun w J=>J a w) fun m w=>Q0 b true w (Q1 P F.bM [m,(.int .i64 1)]) fun O w=>Q0 b true w (Q3 P .eql T.e (.tmp 54) (.const (.int .i64 3)) O (.int .i64 3)) fun o w=>pick P b o (.bool false) w fun g w=>Q0 g true w (fun w J=>J a w) fun z w=>Q0 g true w (Q1 P F.bz [z]) fun L w=>pick P g L (.bool false) w fun c w=>Q0 c true w (fun w J=>J a w) fun r w=>Q0 c true w (Q1 P F.bB [r]) fun y w=>Q0 c true w (Q3 P .neq T.r (.tmp 63) (.const (.pointer none)) y (.pointer none)) fun Y w=>pick P c Y (.bool false) w fun Z w=>K Z w)
theorem Pr {w:World} {K:Value→World→Prop} (h:Ob w K):Q1 P F.aI [] w K:=Q9 (List.replicate 8 none) Tryz.func14 rfl (by decide) (by kernel_rfl) h
def Dd (q p r:Value) (w:World) (K:Value→World→Prop):Prop:= Q1 P F.aG [q,p] w fun n w=>J8 P .not n w fun j w=>X1 j (K (.int .i64 92) w) (Q3 P .lss T.a1 (.tmp 13) (.const (.int .i64 0)) r (.int .i64 0) w fun a w=>Q0 a false w (fun w J=>J r w) fun m w=>Q0 a false w (fun w J=>J q w) fun c w=>Q0 a false w (nilCheck P c) fun h w=>Q0 a false w (fieldAddr P T.p h 3) fun e w=>Q0 a false w (Q2 P T.f e) fun k w=>Q0 a false w (fun w J=>J p w) fun i w=>Q0 a false w (indexAddr P T.f k i) fun d w=>Q0 a false w (fieldAddr P T.m d 1) fun f w=>Q0 a false w (Q2 P T.l f) fun l w=>Q0 a false w (X2 P .len [T.l] T.e [false] [l]) fun o w=>Q0 a false w (Q3 P .geq T.a1 (.tmp 16) (.tmp 25) m o) fun b w=>pick P a (.bool true) b w fun g w=>X1 g (K (.int .i64 93) w) (K (.int .i64 0) w))
theorem Aj {a b c:Value} {w:World} {K:Value→World→Prop} (h:Dd a b c w K):Q1 P F.aS [a,b,c] w K:=Q9 (List.replicate 7 none) Tryz.func50 rfl (by decide) (by kernel_rfl) h
def Hx (o n p:Value) (w:World) (K:Value→World→Prop):Prop:= V6 P T.g w fun b w=>Q1 P F.aS [o,n,p] w fun a w=>Q3 P .neq T.y (.tmp 13) (.const (.int .i64 0)) a (.int .i64 0) w fun j w=>X1 j (H0 P T.g [] w fun c w=>X9 P T.g b c w fun _u w=>Y7 P T.g b w fun e=>K (.tuple #[e,a]) w) (nilCheck P o w fun k w=>fieldAddr P T.p k 3 w fun g w=>Q2 P T.f g w fun l w=>indexAddr P T.f l n w fun f w=>fieldAddr P T.m f 1 w fun h w=>Q2 P T.l h w fun m w=>indexAddr P T.l m p w fun d w=>Q2 P T.g d w fun i w=>X9 P T.g b i w fun _u w=>Y7 P T.g b w fun e=>K (.tuple #[e,(.int .i64 0)]) w)
theorem Q1Z {a b c:Value} {w:World} {K:Value→World→Prop} (h:Hx a b c w K):Q1 P F.c2 [a,b,c] w K:=Q9 (List.replicate 6 none) Tryz.func16 rfl (by decide) (by kernel_rfl) h
def Ap:V8:=[none,none,none,none,some ([3,12],[3,5,6,12,13,14,15,16,17,18,19,20,21,22,23,24,25,26,27,28,29,30,31]),none,none,none,none,none,none,none]
def Oq (v:Value) (w:World) (K:Value→World→Prop):Prop:= nilCheck P v w fun z w=>fieldAddr P T.p z 3 w fun u w=>Q2 P T.f u w fun f w=>X2 P .len [T.f] T.e [false] [f] w fun r w=>lp (α:=Value×Value) ((.slice none 0 0),(.int .i64 0)) w fun b c A w=>Q3 P .lss T.e (.tmp 12) (.tmp 11) c.2 r w fun m w=>X1 m (indexAddr P T.f f c.2 w fun n w=>Q2 P T.m n w fun g w=>V6 P T.m w fun a w=>X9 P T.m a g w fun _u w=>fieldAddr P T.m a 1 w fun s w=>Q2 P T.l s w fun k w=>X2 P .len [T.l] T.e [false] [k] w fun e w=>Li P T.l e e w fun d w=>fieldAddr P T.m a 1 w fun p w=>Q2 P T.l p w fun l w=>X2 P .copy [T.l,T.l] T.e [false,false] [d,l] w fun y w=>fieldAddr P T.m a 0 w fun t w=>Q2 P T.c t w fun j w=>H0 P T.m [(0,j),(1,d)] w fun q w=>buildSlice P T.f 1 [(0,q)] w fun o w=>X2 P .append [T.f,T.f] T.f [false,false] [c.1,o] w fun h w=>Q3 P .add T.e (.tmp 12) (.const (.int .i64 1)) c.2 (.int .i64 1) w fun i w=>b (h,i) w) (K c.1 w)
theorem Ax {a:Value} {w:World} {K:Value→World→Prop} (h:Oq a w K):Q1 P F.ap [a] w K:=Q9 Ap Tryz.func19 rfl (by decide) (by kernel_rfl) h
def Ra (E Q V W:Value) (w:World) (K:Value→World→Prop):Prop:= box P T.g W w fun c w=>Q1 P F.aS [E,Q,V] w fun H w=>Q3 P .neq T.y (.tmp 14) (.const (.int .i64 0)) H (.int .i64 0) w fun N w=>X1 N (K H w) (dr w fun a b=>Q5 a (fun g=> ∀w,b w→nilCheck P E w (dk a g w)) fun g=>Q5 a (fun d=> ∀r w,b w→g r w→fieldAddr P T.p r 3 w (dk a d w)) fun d=>Q5 a (fun A=> ∀w,b w→Q2 P T.g c w (dk a A w)) fun A=>Q5 a (fun n=> ∀k w,b w→d k w→Q2 P T.f k w (dk a n w)) fun n=>Q5 a (fun p=> ∀m w,b w→n m w→indexAddr P T.f m Q w (dk a p w)) fun p=>Q5 a (fun f=> ∀u w,b w→p u w→Q2 P T.m u w (dk a f w)) fun f=>Q5 a (fun B=> ∀i w,b w→f i w→Q1 P F.aC [E,i,V] w (dk a B w)) fun B=>∀r k J m u i L w,b w→g r w→d k w→A J w→n m w→p u w→f i w→B L w→ Q1 P F.aB [E,J,L] w fun R w=>J8 P .not R w fun O w=>X1 O (K (.int .i64 91) w) (dr w fun a b=>Q5 a (fun h=> ∀w,b w→nilCheck P E w (dk a h w)) fun h=>Q5 a (fun v=> ∀s w,b w→h s w→fieldAddr P T.p s 3 w (dk a v w)) fun v=>Q5 a (fun q=> ∀t w,b w→v t w→Q2 P T.f t w (dk a q w)) fun q=>Q5 a (fun e=> ∀o w,b w→q o w→indexAddr P T.f o Q w (dk a e w)) fun e=>Q5 a (fun j=> ∀l w,b w→e l w→fieldAddr P T.m l 1 w (dk a j w)) fun j=>Q5 a (fun C=> ∀y w,b w→j y w→Q2 P T.l y w (dk a C w)) fun C=>Q5 a (fun z=> ∀w,b w→Q2 P T.g c w (dk a z w)) fun z=>∀s t o l y M D w,b w→h s w→v t w→q o w→e l w→j y w→C M w→z D w→ indexAddr P T.l M V w fun U w=>X9 P T.g U D w fun _u w=>K (.int .i64 0) w))
theorem Q2a {a c d b:Value} {w:World} {K:Value→World→Prop} (h:Ra a c d b w K):Q1 P F.b4 [a,c,d,b] w K:=Q9 (List.replicate 10 none) Tryz.func22 rfl (by decide) (by kernel_rfl) h
def He (g:Value) (w:World) (K:Value→World→Prop):Prop:= box P T.n g w fun a w=>fieldAddr P T.n a 1 w fun l w=>Q2 P T.c l w fun h w=>X2 P .len [T.c] T.e [false] [h] w fun j w=>Q3 P .leq T.e (.tmp 5) (.const (.int .i64 100)) j (.int .i64 100) w fun b w=>Q0 b true w (fieldAddr P T.n a 4) fun k w=>Q0 b true w (fieldAddr P T.g k 2) fun i w=>Q0 b true w (Q2 P T.c i) fun e w=>Q0 b true w (X2 P .len [T.c] T.e [false] [e]) fun c w=>Q0 b true w (Q3 P .leq T.e (.tmp 11) (.const (.int .i64 5000)) c (.int .i64 5000)) fun d w=>pick P b d (.bool false) w fun f w=>K f w
theorem Q0Z {a:Value} {w:World} {K:Value→World→Prop} (h:He a w K):Q1 P F.bN [a] w K:=Q9 (List.replicate 2 none) Tryz.func25 rfl (by decide) (by kernel_rfl) h
def Yo:V8:=[none,none,none,some ([8],[4,5,8,9,10,11,12,13,14,15,16,17,18]),none,none,none,none,none,none,none]
def G9 (g i:Value) (w:World) (K:Value→World→Prop):Prop:= X2 P .len [T.l] T.e [false] [g] w fun j w=>lp (α:=Value) (.int .i64 0) w fun a b k w=>Q3 P .lss T.e (.tmp 8) (.tmp 7) b j w fun h w=>X1 h (indexAddr P T.l g b w fun c w=>Q2 P T.g c w fun d w=>Z4 P i [d] w fun e w=>X1 e (K b w) (Q3 P .add T.e (.tmp 8) (.const (.int .i64 1)) b (.int .i64 1) w fun f w=>a f w)) (K (.int .i64 (-1)) w)
theorem Ys {a b:Value} {w:World} {K:Value→World→Prop} (h:G9 a b w K):Q1 P F.a4 [a,b] w K:=Q9 Yo Tryz.func119 rfl (by decide) (by kernel_rfl) h
def B2 (a c:Value) (w:World) (K:Value→World→Prop):Prop:= Q1 P F.a4 [a,c] w fun d w=>Q3 P .geq T.e (.tmp 7) (.const (.int .i64 0)) d (.int .i64 0) w fun b w=>K b w
theorem Xf {a b:Value} {w:World} {K:Value→World→Prop} (h:B2 a b w K):Q1 P F.k [a,b] w K:=Q9 (List.replicate 2 none) Tryz.func75 rfl (by decide) (by kernel_rfl) h
def Ow (f k:Value) (w:World) (K:Value→World→Prop):Prop:= box P T.g f w fun a w=>fieldAddr P T.g a 0 w fun g w=>Q2 P T.e g w fun i w=>Q3 P .eql T.e (.tmp 5) (.const (.int .i64 4)) i (.int .i64 4) w fun b w=>Q0 b true w (fieldAddr P T.g a 3) fun j w=>Q0 b true w (Q2 P T.e j) fun h w=>Q0 b true w (Q2 P T.e k) fun e w=>Q0 b true w (Q3 P .geq T.e (.tmp 9) (.tmp 10) h e) fun c w=>pick P b c (.bool false) w fun d w=>K d w
theorem Am {a b:Value} {w:World} {K:Value→World→Prop} (h:Ow a b w K):Q1 P F.bF [a,b] w K:=Q9 (List.replicate 2 none) Tryz.func76 rfl (by decide) (by kernel_rfl) h
def Q27:V8:=[none,none,none,none,some ([22],[5,22,23,24,25,26,27,28,29,30]),none,none,none,none,none,some ([],[6,31,32,33,34,35,36,37,38,39,40,41,42,43,44,45,46,47,48,49,50,51,52,53,54,55,56,57,58,59,60,61,62,63,64,65,66,67,68,69]),none,none,none,none]
def Hw (z a1:Value) (w:World) (K:Value→World→Prop):Prop:= box P T.e a1 w fun t3 w=>Q2 P T.e t3 w fun t7 w=>X2 P .max [T.e,T.e] T.e [false,true] [t7,(.int .i64 0)] w fun t8 w=>X9 P T.e t3 t8 w fun _u w=>dr w fun a b=>Q5 a (fun J=> ∀w,b w→nilCheck P z w (dk a J w)) fun J=>Q5 a (fun i=> ∀s w,b w→J s w→fieldAddr P T.p s 3 w (dk a i w)) fun i=>Q5 a (fun j=> ∀w,b w→nilCheck P z w (dk a j w)) fun j=>Q5 a (fun m=> ∀g w,b w→j g w→fieldAddr P T.p g 3 w (dk a m w)) fun m=>Q5 a (fun aa=> ∀U w,b w→i U w→Q2 P T.f U w (dk a aa w)) fun aa=>Q5 a (fun k=> ∀w,b w→Q2 P T.e t3 w (dk a k w)) fun k=>Q5 a (fun W=> ∀Y w,b w→m Y w→Q2 P T.f Y w (dk a W w)) fun W=>Q5 a (fun e=> ∀A w,b w→W A w→X2 P .len [T.f] T.e [false] [A] w (dk a e w)) fun e=>Q5 a (fun ad=> ∀D o w,b w→k D w→e o w→X2 P .min [T.e,T.e] T.e [false,false] [D,o] w (dk a ad w)) fun ad=>∀s U g Y am D A o ah w,b w→J s w→i U w→j g w→m Y w→aa am w→k D w→W A w→e o w→ad ah w→ S4 P T.f am none (some ah) none w fun ao w=>X2 P .len [T.f] T.e [false] [ao] w fun a3 w=>lp (α:=Value) (.int .i64 0) w fun H x4 d_ w=>Q3 P .lss T.e (.tmp 22) (.tmp 21) x4 a3 w fun ba w=>X1 ba (indexAddr P T.f ao x4 w fun bd w=>Q2 P T.m bd w fun a5 w=>V6 P T.m w fun t5 w=>X9 P T.m t5 a5 w fun _u w=>fieldAddr P T.m t5 1 w fun a7 w=>Q2 P T.l a7 w fun bc w=>H1 P (.func F.bF) [] [t3] w fun a4 w=>Q1 P F.k [bc,a4] w fun ay w=>X1 ay (K (.tuple #[]) w) (Q3 P .add T.e (.tmp 22) (.const (.int .i64 1)) x4 (.int .i64 1) w fun ar w=>H ar w)) (lp (α:=Unit) () w fun c bm d_ w=>dr w fun a b=>Q5 a (fun v=> ∀w,b w→nilCheck P z w (dk a v w)) fun v=>Q5 a (fun Z=> ∀O w,b w→v O w→fieldAddr P T.p O 3 w (dk a Z w)) fun Z=>Q5 a (fun M=> ∀X w,b w→Z X w→Q2 P T.f X w (dk a M w)) fun M=>Q5 a (fun af=> ∀l w,b w→M l w→X2 P .len [T.f] T.e [false] [l] w (dk a af w)) fun af=>Q5 a (fun ac=> ∀w,b w→Q2 P T.e t3 w (dk a ac w)) fun ac=>∀O X l al ag w,b w→v O w→Z X w→M l w→af al w→ac ag w→ Q3 P .gtr T.e (.tmp 35) (.tmp 36) al ag w fun a6 w=>X1 a6 (nilCheck P z w fun bb w=>fieldAddr P T.p bb 3 w fun aq w=>Q2 P T.f aq w fun be w=>X2 P .len [T.f] T.e [false] [be] w fun ap w=>Q3 P .sub T.e (.tmp 42) (.const (.int .i64 1)) ap (.int .i64 1) w fun an w=>dr w fun a b=>Q5 a (fun N=> ∀w,b w→nilCheck P z w (dk a N w)) fun N=>Q5 a (fun V=> ∀Q w,b w→N Q w→fieldAddr P T.p Q 2 w (dk a V w)) fun V=>Q5 a (fun n=> ∀w,b w→nilCheck P z w (dk a n w)) fun n=>Q5 a (fun h=> ∀R w,b w→n R w→fieldAddr P T.p R 3 w (dk a h w)) fun h=>Q5 a (fun ab=> ∀t w,b w→V t w→Q2 P T.e t w (dk a ab w)) fun ab=>Q5 a (fun C=> ∀u w,b w→h u w→Q2 P T.f u w (dk a C w)) fun C=>Q5 a (fun E=> ∀y w,b w→C y w→indexAddr P T.f y an w (dk a E w)) fun E=>Q5 a (fun B=> ∀d w,b w→E d w→fieldAddr P T.m d 1 w (dk a B w)) fun B=>Q5 a (fun r=> ∀p w,b w→B p w→Q2 P T.l p w (dk a r w)) fun r=>Q5 a (fun q=> ∀f w,b w→r f w→X2 P .len [T.l] T.e [false] [f] w (dk a q w)) fun q=>Q5 a (fun ae=> ∀L w,b w→q L w→Q3 P .add T.e (.const (.int .i64 1)) (.tmp 56) (.int .i64 1) L w (dk a ae w)) fun ae=>∀Q t R u aj y d p f L ak w,b w→N Q w→V t w→n R w→h u w→ab aj w→C y w→E d w→B p w→r f w→q L w→ae ak w→ Q3 P .sub T.e (.tmp 47) (.tmp 57) aj ak w fun ax w=>nilCheck P z w fun az w=>fieldAddr P T.p az 2 w fun av w=>X9 P T.e av ax w fun _u w=>nilCheck P z w fun aw w=>fieldAddr P T.p aw 3 w fun bg w=>Q2 P T.f bg w fun bh w=>S4 P T.f bh none (some an) none w fun bf w=>nilCheck P z w fun a2 w=>fieldAddr P T.p a2 3 w fun a8 w=>X9 P T.f a8 bf w fun _u w=>c () w) (K (.tuple #[]) w))
theorem Q1W {a b:Value} {w:World} {K:Value→World→Prop} (h:Hw a b w K):Q1 P F.c4 [a,b] w K:=Q9 Q27 Tryz.func40 rfl (by decide) (by kernel_rfl) h
def Q00:V8:=[none,none,some ([],[5,6,7]),none,some ([],[8,9,10]),none,some ([],[11,12,13]),none,none]
def De (b:Value) (w:World) (K:Value→World→Prop):Prop:= V6 P T.g w fun j w=>H0 P T.g [] w fun l w=>V6 P T.g w fun a w=>X9 P T.g a l w fun _u w=>jn (α:=Unit) w (fun i w=>Q3 P .eql T.c (.tmp 5) (.const (.string ⟨#[105,110,116]⟩)) b (.string ⟨#[105,110,116]⟩) w fun o w=>X1 o (fieldAddr P T.g a 0 w fun p w=>X9 P T.e p (.int .i64 1) w fun _u w=>i () w) (i () w)) fun q g w=>jn (α:=Unit) w (fun k w=>Q3 P .eql T.c (.tmp 8) (.const (.string ⟨#[98,111,111,108]⟩)) b (.string ⟨#[98,111,111,108]⟩) w fun m w=>X1 m (fieldAddr P T.g a 0 w fun f w=>X9 P T.e f (.int .i64 2) w fun _u w=>k () w) (k () w)) fun s g w=>jn (α:=Unit) w (fun h w=>Q3 P .eql T.c (.tmp 11) (.const (.string ⟨#[116,101,120,116]⟩)) b (.string ⟨#[116,101,120,116]⟩) w fun d w=>X1 d (fieldAddr P T.g a 0 w fun c w=>X9 P T.e c (.int .i64 3) w fun _u w=>h () w) (h () w)) fun r g w=>Q2 P T.g a w fun e w=>X9 P T.g j e w fun _u w=>Y7 P T.g j w fun n=>K n w
theorem Al {a:Value} {w:World} {K:Value→World→Prop} (h:De a w K):Q1 P F.aP [a] w K:=Q9 Q00 Tryz.func30 rfl (by decide) (by kernel_rfl) h
def Ao:V8:=[none,none,none,none,some ([3,4],[3,4,7,8,9,10,11,12,13,14,15,16,17,18,19,20,21,22,23]),none,none,none,none]
def Oh (p:Value) (w:World) (K:Value→World→Prop):Prop:= box P T.a p w fun a w=>fieldAddr P T.a a 1 w fun q w=>Q2 P T.e q w fun s w=>lp (α:=Value×Value) (s,(.int .i64 0)) w fun b c t w=>fieldAddr P T.a a 2 w fun r w=>Q2 P T.f r w fun o w=>X2 P .len [T.f] T.e [false] [o] w fun n w=>Q3 P .lss T.e (.tmp 7) (.tmp 10) c.2 n w fun k w=>X1 k (fieldAddr P T.a a 2 w fun d w=>Q2 P T.f d w fun m w=>indexAddr P T.f m c.2 w fun i w=>fieldAddr P T.m i 1 w fun f w=>Q2 P T.l f w fun l w=>X2 P .len [T.l] T.e [false] [l] w fun j w=>Q3 P .add T.e (.const (.int .i64 1)) (.tmp 21) (.int .i64 1) j w fun e w=>Q3 P .sub T.e (.tmp 14) (.tmp 22) c.1 e w fun h w=>Q3 P .add T.e (.tmp 12) (.const (.int .i64 1)) c.2 (.int .i64 1) w fun g w=>b (h,g) w) (K c.1 w)
theorem Aq {a:Value} {w:World} {K:Value→World→Prop} (h:Oh a w K):Q1 P F.ac [a] w K:=Q9 Ao Tryz.func37 rfl (by decide) (by kernel_rfl) h
def Wd (i k:Value) (w:World) (K:Value→World→Prop):Prop:= Q1 P F.b [i,k] w fun j w=>Q3 P .geq T.e (.tmp 9) (.const (.int .i64 0)) j (.int .i64 0) w fun a w=>Q0 a true w (fun w J=>J i w) fun c w=>Q0 a true w (fun w J=>J j w) fun h w=>Q0 a true w (indexAddr P T.i c h) fun d w=>Q0 a true w (fieldAddr P T.b d 4) fun e w=>Q0 a true w (Q2 P T.u e) fun f w=>Q0 a true w (J8 P .not f) fun b w=>pick P a b (.bool false) w fun g w=>K g w
theorem Bw {a b:Value} {w:World} {K:Value→World→Prop} (h:Wd a b w K):Q1 P F.b7 [a,b] w K:=Q9 (List.replicate 3 none) Tryz.func72 rfl (by decide) (by kernel_rfl) h
def Ib:V8:=[none,none,none,none,none,none,none,none,none,none,none,some ([8],[8,28,29,30,31,32,33,34,35,36,37,38,39,40,41,42,43,44]),none,none,none,none,none]
def Lq (a0 X:Value) (w:World) (K:Value→World→Prop):Prop:= box P T.a a0 w fun a w=>V6 P T.a w fun H w=>fieldAddr P T.a a 0 w fun t9 w=>Q2 P T.i t9 w fun am w=>Q1 P F.b7 [am,X] w fun ad w=>J8 P .not ad w fun aa w=>X1 aa (Q2 P T.a a w fun ae w=>X9 P T.a H ae w fun _u w=>Y7 P T.a H w fun M=>K (.tuple #[M,(.int .i64 91)]) w) (fieldAddr P T.a a 0 w fun U w=>Q2 P T.i U w fun al w=>Q1 P F.p [al,X] w fun E w=>X2 P .len [T.k] T.e [false] [E] w fun ai w=>Q3 P .add T.e (.const (.int .i64 1)) (.tmp 20) (.int .i64 1) ai w fun ah w=>Q2 P T.a a w fun Z w=>Q1 P F.ac [Z] w fun ab w=>Q3 P .gtr T.e (.tmp 21) (.tmp 23) ah ab w fun aj w=>X1 aj (Q2 P T.a a w fun an w=>X9 P T.a H an w fun _u w=>Y7 P T.a H w fun M=>K (.tuple #[M,(.int .i64 90)]) w) (H0 P T.m [(0,X)] w fun ac w=>V6 P T.m w fun c w=>X9 P T.m c ac w fun _u w=>lp (α:=Value) (.int .i64 0) w fun e z d_ w=>X2 P .len [T.k] T.e [false] [E] w fun V w=>Q3 P .lss T.e (.tmp 28) (.tmp 30) z V w fun W w=>X1 W (dr w fun b d=>Q5 b (fun m=> ∀w,d w→fieldAddr P T.m c 1 w (dk b m w)) fun m=>Q5 b (fun q=> ∀w,d w→indexAddr P T.k E z w (dk b q w)) fun q=>Q5 b (fun j=> ∀v w,d w→q v w→fieldAddr P T.o v 1 w (dk b j w)) fun j=>Q5 b (fun C=> ∀l w,d w→m l w→Q2 P T.l l w (dk b C w)) fun C=>Q5 b (fun f=> ∀k w,d w→j k w→Q2 P T.c k w (dk b f w)) fun f=>Q5 b (fun i=> ∀h w,d w→f h w→Q1 P F.aP [h] w (dk b i w)) fun i=>Q5 b (fun A=> ∀u w,d w→i u w→buildSlice P T.l 1 [(0,u)] w (dk b A w)) fun A=>∀l v k L h u J w,d w→m l w→q v w→j k w→C L w→f h w→i u w→A J w→ X2 P .append [T.l,T.l] T.l [false,false] [L,J] w fun ag w=>fieldAddr P T.m c 1 w fun af w=>X9 P T.l af ag w fun _u w=>Q3 P .add T.e (.tmp 32) (.const (.int .i64 1)) z (.int .i64 1) w fun ak w=>e ak w) (dr w fun b d=>Q5 b (fun t=> ∀w,d w→fieldAddr P T.a a 2 w (dk b t w)) fun t=>Q5 b (fun p=> ∀w,d w→buildSlice P T.f 0 [] w (dk b p w)) fun p=>Q5 b (fun g=> ∀y w,d w→t y w→Q2 P T.f y w (dk b g w)) fun g=>Q5 b (fun D=> ∀r o w,d w→p r w→g o w→X2 P .append [T.f,T.f] T.f [false,false] [r,o] w (dk b D w)) fun D=>Q5 b (fun n=> ∀w,d w→Q2 P T.m c w (dk b n w)) fun n=>Q5 b (fun B=> ∀s w,d w→n s w→buildSlice P T.f 1 [(0,s)] w (dk b B w)) fun B=>∀y r o N s O w,d w→t y w→p r w→g o w→D N w→n s w→B O w→ X2 P .append [T.f,T.f] T.f [false,false] [N,O] w fun Y w=>fieldAddr P T.a a 2 w fun R w=>X9 P T.f R Y w fun _u w=>Q2 P T.a a w fun Q w=>X9 P T.a H Q w fun _u w=>Y7 P T.a H w fun M=>K (.tuple #[M,(.int .i64 0)]) w)))
theorem Gv {a b:Value} {w:World} {K:Value→World→Prop} (h:Lq a b w K):Q1 P F.bc [a,b] w K:=Q9 Ib Tryz.func57 rfl (by decide) (by kernel_rfl) h
def Ku:V8:=[none,none,none,none,none,none,none,none,none,none,none,none,none,some ([9],[9,41,42,43,44,45,46,47,48,49,50,51,52]),none,none,none,none,none]
def Ma (a0 C N:Value) (w:World) (K:Value→World→Prop):Prop:= box P T.a a0 w fun a w=>V6 P T.a w fun u w=>Q3 P .eql T.c (.tmp 10) (.const (.string ⟨#[110,117,108,108]⟩)) C (.string ⟨#[110,117,108,108]⟩) w fun f w=>Q0 f false w (fieldAddr P T.a a 0) fun ad w=>Q0 f false w (Q2 P T.i ad) fun ah w=>Q0 f false w (fun w J=>J C w) fun U w=>Q0 f false w (Q1 P F.a1 [ah,U]) fun av w=>Q0 f false w (J8 P .not av) fun Y w=>pick P f (.bool true) Y w fun o w=>Q0 o false w (fun w J=>J C w) fun ap w=>Q0 o false w (Q1 P F.a2 [ap]) fun am w=>Q0 o false w (Q3 P .gtr T.e (.tmp 21) (.const (.int .i64 2)) am (.int .i64 2)) fun ab w=>pick P o (.bool true) ab w fun ae w=>X1 ae (Q2 P T.a a w fun aq w=>X9 P T.a u aq w fun _u w=>Y7 P T.a u w fun z=>K (.tuple #[z,(.int .i64 91)]) w) (Q3 P .lss T.a1 (.tmp 25) (.const (.int .i64 0)) N (.int .i64 0) w fun X w=>X1 X (Q2 P T.a a w fun ag w=>X9 P T.a u ag w fun _u w=>Y7 P T.a u w fun z=>K (.tuple #[z,(.int .i64 93)]) w) (Q3 P .gtr T.a1 (.tmp 28) (.const (.int .i64 1048576)) N (.int .i64 1048576) w fun e w=>Q0 e false w (fun w J=>J N w) fun V w=>Q0 e false w (Q3 P .add T.e (.const (.int .i64 1)) (.tmp 31) (.int .i64 1) V) fun an w=>Q0 e false w (Q2 P T.a a) fun ar w=>Q0 e false w (Q1 P F.ac [ar]) fun ai w=>Q0 e false w (Q3 P .gtr T.e (.tmp 32) (.tmp 34) an ai) fun Z w=>pick P e (.bool true) Z w fun ac w=>X1 ac (Q2 P T.a a w fun al w=>X9 P T.a u al w fun _u w=>Y7 P T.a u w fun z=>K (.tuple #[z,(.int .i64 90)]) w) (Q3 P .add T.c (.tmp 38) (.const (.string ⟨#[91,93]⟩)) C (.string ⟨#[91,93]⟩) w fun af w=>H0 P T.m [(0,af)] w fun R w=>V6 P T.m w fun c w=>X9 P T.m c R w fun _u w=>lp (α:=Value) (.int .i64 0) w fun g D d_ w=>Q3 P .lss T.a1 (.tmp 41) (.tmp 42) D N w fun ak w=>X1 ak (dr w fun b d=>Q5 b (fun r=> ∀w,d w→fieldAddr P T.m c 1 w (dk b r w)) fun r=>Q5 b (fun v=> ∀t w,d w→r t w→Q2 P T.l t w (dk b v w)) fun v=>Q5 b (fun n=> ∀w,d w→Q1 P F.aP [C] w (dk b n w)) fun n=>Q5 b (fun y=> ∀q w,d w→n q w→buildSlice P T.l 1 [(0,q)] w (dk b y w)) fun y=>∀t L q M w,d w→r t w→v L w→n q w→y M w→ X2 P .append [T.l,T.l] T.l [false,false] [L,M] w fun W w=>fieldAddr P T.m c 1 w fun Q w=>X9 P T.l Q W w fun _u w=>Q3 P .add T.a1 (.tmp 44) (.const (.int .i64 1)) D (.int .i64 1) w fun ao w=>g ao w) (dr w fun b d=>Q5 b (fun l=> ∀w,d w→fieldAddr P T.a a 2 w (dk b l w)) fun l=>Q5 b (fun m=> ∀w,d w→buildSlice P T.f 0 [] w (dk b m w)) fun m=>Q5 b (fun s=> ∀p w,d w→l p w→Q2 P T.f p w (dk b s w)) fun s=>Q5 b (fun B=> ∀h i w,d w→m h w→s i w→X2 P .append [T.f,T.f] T.f [false,false] [h,i] w (dk b B w)) fun B=>Q5 b (fun k=> ∀w,d w→Q2 P T.m c w (dk b k w)) fun k=>Q5 b (fun A=> ∀j w,d w→k j w→buildSlice P T.f 1 [(0,j)] w (dk b A w)) fun A=>∀p h i H j E w,d w→l p w→m h w→s i w→B H w→k j w→A E w→ X2 P .append [T.f,T.f] T.f [false,false] [H,E] w fun aj w=>fieldAddr P T.a a 2 w fun aa w=>X9 P T.f aa aj w fun _u w=>Q2 P T.a a w fun O w=>X9 P T.a u O w fun _u w=>Y7 P T.a u w fun z=>K (.tuple #[z,(.int .i64 0)]) w))))
theorem Kb {a b c:Value} {w:World} {K:Value→World→Prop} (h:Ma a b c w K):Q1 P F.bl [a,b,c] w K:=Q9 Ku Tryz.func58 rfl (by decide) (by kernel_rfl) h
def Q20:V8:=[none,none,some ([],[4,14,15,16,17,18,19,20,21,22,23,24,25,26,27,28,29,30,31,32,33,34,35,36,37,38,39,40,41,42,43,44,45,46,47,48,49,50,51,52,53,54,55,56,57,58,59,60,61,62,63,64,65,66,67,68,69,70,71,72,73,74,75,76,77,78,79,80,81,82,83,84,85,86,87,88,89,90]),none,none,none,none,none,none,none,none,none,none,none,none,none,none,none,none,none]
def Hz (a0 a1:Value) (w:World) (K:Value→World→Prop):Prop:= box P T.a a0 w fun t2 w=>box P T.g a1 w fun b w=>fieldAddr P T.g b 3 w fun t6 w=>Q2 P T.e t6 w fun t7 w=>Q3 P .eql T.e (.tmp 7) (.const (.int .i64 0)) t7 (.int .i64 0) w fun l w=>Q0 l true w (fieldAddr P T.g b 2) fun X w=>Q0 l true w (Q2 P T.c X) fun ar w=>Q0 l true w (Q3 P .eql T.c (.tmp 11) (.const (.string ⟨#[]⟩)) ar (.string ⟨#[]⟩)) fun am w=>pick P l am (.bool false) w fun a w=>jn (α:=Unit) w (fun k w=>fieldAddr P T.g b 0 w fun an w=>Q2 P T.e an w fun d w=>Q3 P .eql T.e (.tmp 15) (.const (.int .i64 0)) d (.int .i64 0) w fun ae w=>X1 ae (Q0 a true w (fieldAddr P T.g b 1) fun aq w=>Q0 a true w (Q2 P T.a1 aq) fun O w=>Q0 a true w (Q3 P .eql T.a1 (.tmp 21) (.const (.int .i64 0)) O (.int .i64 0)) fun u w=>pick P a u (.bool false) w fun aj w=>X1 aj (K (.string ⟨#[110,117,108,108]⟩) w) (k () w)) (Q3 P .eql T.e (.tmp 15) (.const (.int .i64 1)) d (.int .i64 1) w fun W w=>X1 W (X1 a (K (.string ⟨#[105,110,116]⟩) w) (k () w)) (Q3 P .eql T.e (.tmp 15) (.const (.int .i64 2)) d (.int .i64 2) w fun Q w=>X1 Q (Q0 a true w (fieldAddr P T.g b 1) fun ab w=>Q0 a true w (Q2 P T.a1 ab) fun ap w=>Q0 a true w (Q3 P .eql T.a1 (.tmp 32) (.const (.int .i64 0)) ap (.int .i64 0)) fun aw w=>Q0 a true w (fun w J=>J aw w) fun g w=>Q0 g false w (fieldAddr P T.g b 1) fun af w=>Q0 g false w (Q2 P T.a1 af) fun A w=>Q0 g false w (Q3 P .eql T.a1 (.tmp 36) (.const (.int .i64 1)) A (.int .i64 1)) fun Z w=>Q0 a true w (pick P g (.bool true) Z) fun ay w=>pick P a ay (.bool false) w fun ak w=>X1 ak (K (.string ⟨#[98,111,111,108]⟩) w) (k () w)) (Q3 P .eql T.e (.tmp 15) (.const (.int .i64 3)) d (.int .i64 3) w fun ax w=>X1 ax (fieldAddr P T.g b 1 w fun p w=>Q2 P T.a1 p w fun ao w=>Q3 P .eql T.a1 (.tmp 43) (.const (.int .i64 0)) ao (.int .i64 0) w fun h w=>Q0 h true w (fieldAddr P T.g b 3) fun Y w=>Q0 h true w (Q2 P T.e Y) fun N w=>Q0 h true w (Q3 P .eql T.e (.tmp 47) (.const (.int .i64 0)) N (.int .i64 0)) fun D w=>pick P h D (.bool false) w fun e w=>Q0 e true w (fieldAddr P T.g b 2) fun ad w=>Q0 e true w (Q2 P T.c ad) fun r w=>Q0 e true w (X2 P .len [T.c] T.e [false] [r]) fun o w=>Q0 e true w (Q3 P .leq T.e (.tmp 53) (.const (.int .i64 4096)) o (.int .i64 4096)) fun U w=>pick P e U (.bool false) w fun f w=>Q0 f true w (fieldAddr P T.g b 2) fun ac w=>Q0 f true w (Q2 P T.c ac) fun C w=>Q0 f true w (Q1 P F.aK [C]) fun H w=>pick P f H (.bool false) w fun t w=>X1 t (K (.string ⟨#[116,101,120,116]⟩) w) (k () w)) (Q3 P .eql T.e (.tmp 15) (.const (.int .i64 4)) d (.int .i64 4) w fun s w=>X1 s (fieldAddr P T.g b 1 w fun z w=>Q2 P T.a1 z w fun a3 w=>Q3 P .eql T.a1 (.tmp 64) (.const (.int .i64 0)) a3 (.int .i64 0) w fun j w=>Q0 j true w (fieldAddr P T.g b 2) fun az w=>Q0 j true w (Q2 P T.c az) fun L w=>Q0 j true w (Q3 P .eql T.c (.tmp 68) (.const (.string ⟨#[]⟩)) L (.string ⟨#[]⟩)) fun ai w=>pick P j ai (.bool false) w fun i w=>Q0 i true w (fieldAddr P T.g b 3) fun B w=>Q0 i true w (Q2 P T.e B) fun R w=>Q0 i true w (Q3 P .geq T.e (.tmp 73) (.const (.int .i64 0)) R (.int .i64 0)) fun a2 w=>pick P i a2 (.bool false) w fun c w=>Q0 c true w (fieldAddr P T.g b 3) fun n w=>Q0 c true w (Q2 P T.e n) fun y w=>Q0 c true w (fieldAddr P T.a t2 2) fun aa w=>Q0 c true w (Q2 P T.f aa) fun V w=>Q0 c true w (X2 P .len [T.f] T.e [false] [V]) fun a4 w=>Q0 c true w (Q3 P .lss T.e (.tmp 78) (.tmp 81) y a4) fun al w=>pick P c al (.bool false) w fun ah w=>X1 ah (fieldAddr P T.a t2 2 w fun m w=>Q2 P T.f m w fun v w=>fieldAddr P T.g b 3 w fun E w=>Q2 P T.e E w fun q w=>indexAddr P T.f v q w fun av w=>fieldAddr P T.m av 0 w fun ag w=>Q2 P T.c ag w fun M w=>K M w) (k () w)) (k () w)))))) fun z2 d_ w=>K (.string ⟨#[]⟩) w
theorem Q21 {a b:Value} {w:World} {K:Value→World→Prop} (h:Hz a b w K):Q1 P F.c3 [a,b] w K:=Q9 Q20 Tryz.func32 rfl (by decide) (by kernel_rfl) h
def El (k f j:Value) (w:World) (K:Value→World→Prop):Prop:= Q1 P F.a1 [k,f] w fun V w=>J8 P .not V w fun b w=>Q0 b false w (fun w J=>J k w) fun L w=>Q0 b false w (fun w J=>J j w) fun p w=>Q0 b false w (Q1 P F.a1 [L,p]) fun Y w=>Q0 b false w (J8 P .not Y) fun u w=>pick P b (.bool true) u w fun d w=>Q0 d false w (fun w J=>J f w) fun W w=>Q0 d false w (fun w J=>J j w) fun Q w=>Q0 d false w (Q3 P .eql T.c (.tmp 20) (.tmp 21) W Q) fun z w=>pick P d (.bool true) z w fun D w=>X1 D (Q3 P .eql T.c (.tmp 24) (.tmp 25) f j w fun c w=>Q0 c true w (fun w J=>J k w) fun R w=>Q0 c true w (fun w J=>J f w) fun M w=>Q0 c true w (Q1 P F.a1 [R,M]) fun q w=>pick P c q (.bool false) w fun r w=>K r w) (Q1 P F.y [f] w fun i w=>Q0 i false w (fun w J=>J j w) fun v w=>Q0 i false w (Q1 P F.y [v]) fun C w=>pick P i (.bool true) C w fun h w=>Q0 h false w (fun w J=>J j w) fun H w=>Q0 h false w (Q3 P .eql T.c (.tmp 39) (.const (.string ⟨#[110,117,108,108]⟩)) H (.string ⟨#[110,117,108,108]⟩)) fun o w=>pick P h (.bool true) o w fun X w=>X1 X (K (.bool false) w) (Q3 P .eql T.c (.tmp 42) (.const (.string ⟨#[110,117,108,108]⟩)) f (.string ⟨#[110,117,108,108]⟩) w fun g w=>Q0 g false w (fun w J=>J j w) fun U w=>Q0 g false w (Q3 P .eql T.c (.tmp 45) (.const (.string ⟨#[79,98,106,101,99,116]⟩)) U (.string ⟨#[79,98,106,101,99,116]⟩)) fun aa w=>pick P g (.bool true) aa w fun O w=>X1 O (K (.bool true) w) (Q1 P F.b [k,f] w fun m w=>Q1 P F.b [k,j] w fun l w=>Q3 P .geq T.e (.tmp 54) (.const (.int .i64 0)) m (.int .i64 0) w fun e w=>Q0 e true w (fun w J=>J l w) fun s w=>Q0 e true w (Q3 P .geq T.e (.tmp 57) (.const (.int .i64 0)) s (.int .i64 0)) fun E w=>pick P e E (.bool false) w fun a w=>Q0 a true w (fun w J=>J k w) fun n w=>Q0 a true w (Q1 P F.aj [n]) fun t w=>Q0 a true w (fun w J=>J m w) fun B w=>Q0 a true w (indexAddr P T.a8 t B) fun ab w=>Q0 a true w (Q2 P T.a6 ab) fun ac w=>Q0 a true w (fun w J=>J l w) fun y w=>Q0 a true w (indexAddr P T.a6 ac y) fun Z w=>Q0 a true w (Q2 P T.u Z) fun N w=>pick P a N (.bool false) w fun A w=>K A w)))
theorem Q0T {a b c:Value} {w:World} {K:Value→World→Prop} (h:El a b c w K):Q1 P F.bT [a,b,c] w K:=Q9 (List.replicate 12 none) Tryz.func63 rfl (by decide) (by kernel_rfl) h
def Og (k m o:Value) (w:World) (K:Value→World→Prop):Prop:= box P T.a k w fun b w=>box P T.g m w fun c w=>Q2 P T.a b w fun n w=>Q2 P T.g c w fun l w=>Q1 P F.c3 [n,l] w fun d w=>Q3 P .neq T.c (.tmp 11) (.const (.string ⟨#[]⟩)) d (.string ⟨#[]⟩) w fun a w=>Q0 a true w (fieldAddr P T.a b 0) fun f w=>Q0 a true w (Q2 P T.i f) fun g w=>Q0 a true w (fun w J=>J d w) fun h w=>Q0 a true w (fun w J=>J o w) fun e w=>Q0 a true w (Q1 P F.bT [g,h,e]) fun i w=>pick P a i (.bool false) w fun j w=>K j w
theorem Q0h {a b c:Value} {w:World} {K:Value→World→Prop} (h:Og a b c w K):Q1 P F.bA [a,b,c] w K:=Q9 (List.replicate 3 none) Tryz.func28 rfl (by decide) (by kernel_rfl) h
def Ot (d:Value) (w:World) (K:Value→World→Prop):Prop:= X2 P .len [T.c] T.e [false] [d] w fun k w=>Q3 P .lss T.e (.tmp 6) (.const (.int .i64 3)) k (.int .i64 3) w fun c w=>Q0 c false w (fun w J=>J d w) fun s w=>Q0 c false w (fun w J=>J k w) fun r w=>Q0 c false w (Q3 P .sub T.e (.tmp 10) (.const (.int .i64 2)) r (.int .i64 2)) fun o w=>Q0 c false w (S4 P T.c s (some o) none none) fun j w=>Q0 c false w (Q3 P .neq T.c (.tmp 12) (.const (.string ⟨#[91,93]⟩)) j (.string ⟨#[91,93]⟩)) fun g w=>pick P c (.bool true) g w fun b w=>Q0 b false w (fun w J=>J d w) fun q w=>Q0 b false w (Q1 P F.a2 [q]) fun e w=>Q0 b false w (Q3 P .gtr T.e (.tmp 17) (.const (.int .i64 3)) e (.int .i64 3)) fun l w=>pick P b (.bool true) l w fun a w=>Q0 a false w (fun w J=>J d w) fun m w=>Q0 a false w (Q1 P F.e [m]) fun f w=>Q0 a false w (J8 P .not f) fun h w=>pick P a (.bool true) h w fun p w=>X1 p (K (.string ⟨#[]⟩) w) (Q3 P .sub T.e (.tmp 26) (.const (.int .i64 2)) k (.int .i64 2) w fun i w=>S4 P T.c d none (some i) none w fun n w=>K n w)
theorem Au {a:Value} {w:World} {K:Value→World→Prop} (h:Ot a w K):Q1 P F.bD [a] w K:=Q9 (List.replicate 6 none) Tryz.func71 rfl (by decide) (by kernel_rfl) h
end Go.Proofs.YtjdiakhipmggjaaGreatDoor

set_option maxRecDepth 100000
namespace Go.Proofs.YtjdiakhipmggjaaGreatDoor
open Go.Emb
def On (o n q:Value) (w:World) (K:Value→World→Prop):Prop:= box P T.a o w fun b w=>box P T.m n w fun a w=>fieldAddr P T.m a 0 w fun p w=>Q2 P T.c p w fun m w=>Q1 P F.bD [m] w fun c w=>Q3 P .neq T.c (.tmp 11) (.const (.string ⟨#[]⟩)) c (.string ⟨#[]⟩) w fun g w=>X1 g (K c w) (fieldAddr P T.a b 0 w fun h w=>Q2 P T.i h w fun d w=>fieldAddr P T.m a 0 w fun l w=>Q2 P T.c l w fun e w=>Q1 P F.p [d,e] w fun i w=>indexAddr P T.k i q w fun k w=>fieldAddr P T.o k 1 w fun j w=>Q2 P T.c j w fun f w=>K f w)
theorem Q0b {a b c:Value} {w:World} {K:Value→World→Prop} (h:On a b c w K):Q1 P F.bE [a,b,c] w K:=Q9 (List.replicate 6 none) Tryz.func74 rfl (by decide) (by kernel_rfl) h
def Od (v e u:Value) (w:World) (K:Value→World→Prop):Prop:= box P T.a v w fun b w=>Q3 P .lss T.e (.tmp 7) (.const (.int .i64 0)) e (.int .i64 0) w fun c w=>Q0 c false w (fun w J=>J e w) fun t w=>Q0 c false w (fieldAddr P T.a b 2) fun p w=>Q0 c false w (Q2 P T.f p) fun l w=>Q0 c false w (X2 P .len [T.f] T.e [false] [l]) fun i w=>Q0 c false w (Q3 P .geq T.e (.tmp 10) (.tmp 13) t i) fun m w=>pick P c (.bool true) m w fun d w=>X1 d (K (.int .i64 92) w) (Q3 P .lss T.a1 (.tmp 16) (.const (.int .i64 0)) u (.int .i64 0) w fun a w=>Q0 a false w (fun w J=>J u w) fun h w=>Q0 a false w (fieldAddr P T.a b 2) fun q w=>Q0 a false w (Q2 P T.f q) fun n w=>Q0 a false w (fun w J=>J e w) fun g w=>Q0 a false w (indexAddr P T.f n g) fun j w=>Q0 a false w (fieldAddr P T.m j 1) fun r w=>Q0 a false w (Q2 P T.l r) fun s w=>Q0 a false w (X2 P .len [T.l] T.e [false] [s]) fun f w=>Q0 a false w (Q3 P .geq T.a1 (.tmp 19) (.tmp 26) h f) fun k w=>pick P a (.bool true) k w fun o w=>X1 o (K (.int .i64 93) w) (K (.int .i64 0) w))
theorem Pw {a b c:Value} {w:World} {K:Value→World→Prop} (h:Od a b c w K):Q1 P F.aM [a,b,c] w K:=Q9 (List.replicate 8 none) Tryz.func108 rfl (by decide) (by kernel_rfl) h
def Es (a0 B a2 a3:Value) (w:World) (K:Value→World→Prop):Prop:= box P T.a a0 w fun a w=>box P T.g a3 w fun c w=>V6 P T.a w fun s w=>Q2 P T.a a w fun O w=>Q1 P F.aM [O,B,a2] w fun A w=>Q3 P .neq T.y (.tmp 17) (.const (.int .i64 0)) A (.int .i64 0) w fun X w=>X1 X (Q2 P T.a a w fun N w=>X9 P T.a s N w fun _u w=>Y7 P T.a s w fun u=>K (.tuple #[u,A]) w) (dr w fun b e=>Q5 b (fun h=> ∀w,e w→fieldAddr P T.a a 2 w (dk b h w)) fun h=>Q5 b (fun p=> ∀w,e w→Q2 P T.a a w (dk b p w)) fun p=>Q5 b (fun o=> ∀w,e w→Q2 P T.g c w (dk b o w)) fun o=>Q5 b (fun j=> ∀w,e w→Q2 P T.a a w (dk b j w)) fun j=>Q5 b (fun k=> ∀m w,e w→h m w→Q2 P T.f m w (dk b k w)) fun k=>Q5 b (fun i=> ∀n w,e w→k n w→indexAddr P T.f n B w (dk b i w)) fun i=>Q5 b (fun d=> ∀g w,e w→i g w→Q2 P T.m g w (dk b d w)) fun d=>Q5 b (fun q=> ∀f l w,e w→j f w→d l w→Q1 P F.bE [f,l,a2] w (dk b q w)) fun q=>∀m z v f n g l t w,e w→h m w→p z w→o v w→j f w→k n w→i g w→d l w→q t w→ Q1 P F.bA [z,v,t] w fun J w=>J8 P .not J w fun Y w=>X1 Y (Q2 P T.a a w fun Z w=>X9 P T.a s Z w fun _u w=>Y7 P T.a s w fun u=>K (.tuple #[u,(.int .i64 91)]) w) (buildSlice P T.f 0 [] w fun U w=>fieldAddr P T.a a 2 w fun L w=>Q2 P T.f L w fun M w=>X2 P .append [T.f,T.f] T.f [false,false] [U,M] w fun r w=>buildSlice P T.l 0 [] w fun ab w=>indexAddr P T.f r B w fun aa w=>fieldAddr P T.m aa 1 w fun D w=>Q2 P T.l D w fun V w=>X2 P .append [T.l,T.l] T.l [false,false] [ab,V] w fun y w=>Q2 P T.g c w fun W w=>indexAddr P T.l y a2 w fun Q w=>X9 P T.g Q W w fun _u w=>indexAddr P T.f r B w fun E w=>fieldAddr P T.m E 1 w fun C w=>X9 P T.l C y w fun _u w=>fieldAddr P T.a a 2 w fun H w=>X9 P T.f H r w fun _u w=>Q2 P T.a a w fun R w=>X9 P T.a s R w fun _u w=>Y7 P T.a s w fun u=>K (.tuple #[u,(.int .i64 0)]) w))
theorem Q0v {a c d b:Value} {w:World} {K:Value→World→Prop} (h:Es a c d b w K):Q1 P F.bP [a,c,d,b] w K:=Q9 (List.replicate 14 none) Tryz.func59 rfl (by decide) (by kernel_rfl) h
def Ef (q n o:Value) (w:World) (K:Value→World→Prop):Prop:= box P T.a q w fun a w=>V6 P T.g w fun c w=>Q2 P T.a a w fun p w=>Q1 P F.aM [p,n,o] w fun b w=>Q3 P .neq T.y (.tmp 13) (.const (.int .i64 0)) b (.int .i64 0) w fun h w=>X1 h (H0 P T.g [] w fun d w=>X9 P T.g c d w fun _u w=>Y7 P T.g c w fun f=>K (.tuple #[f,b]) w) (fieldAddr P T.a a 2 w fun e w=>Q2 P T.f e w fun i w=>indexAddr P T.f i n w fun k w=>fieldAddr P T.m k 1 w fun j w=>Q2 P T.l j w fun g w=>indexAddr P T.l g o w fun l w=>Q2 P T.g l w fun m w=>X9 P T.g c m w fun _u w=>Y7 P T.g c w fun f=>K (.tuple #[f,(.int .i64 0)]) w)
theorem Q1i {a b c:Value} {w:World} {K:Value→World→Prop} (h:Ef a b c w K):Q1 P F.bQ [a,b,c] w K:=Q9 (List.replicate 6 none) Tryz.func60 rfl (by decide) (by kernel_rfl) h
def Q0Q:V8:=[none,some ([1],[1,8,9]),none,none,none,some ([5],[5,6,7,10,11,12,13,14,15,16,17,18,19,20,21,22,23,24,25,26,27,28,29,30,31,32,33,34,35,36,37,38,39,40,41,42,43,44,45,46,47,48,49,50,51]),none,none,none,none,some ([6],[6,7,22,23,24,25,26,27,28,29,30,31,32,33,34,35,36,37,38,39,40,41,42,43,44,45,46,47,48,49,50,51]),none,none,none,none,none,none,some ([],[52,53,54,55,56,57,58,59,60,61,62,63]),none,none]
def Ex (a0 a1:Value) (w:World) (K:Value→World→Prop):Prop:= box P T.a a0 w fun e w=>V6 P T.a w fun i w=>jn (α:=Value) w (fun J1 w=>Q3 P .lss T.e (.tmp 8) (.const (.int .i64 0)) a1 (.int .i64 0) w fun t9 w=>X1 t9 (J1 (.int .i64 0) w) (J1 a1 w)) fun j l w=>lp (α:=Value) (.int .i64 0) w fun d g l w=>Q3 P .lss T.e (.tmp 10) (.tmp 11) g j w fun a w=>Q0 a true w (fun w J=>J g w) fun N w=>Q0 a true w (fieldAddr P T.a e 2) fun q w=>Q0 a true w (Q2 P T.f q) fun ah w=>Q0 a true w (X2 P .len [T.f] T.e [false] [ah]) fun y w=>Q0 a true w (Q3 P .lss T.e (.tmp 14) (.tmp 17) N y) fun W w=>pick P a W (.bool false) w fun C w=>X1 C (lp (α:=Value) (.int .i64 0) w fun b f l w=>fieldAddr P T.a e 2 w fun D w=>Q2 P T.f D w fun ad w=>indexAddr P T.f ad g w fun v w=>fieldAddr P T.m v 1 w fun M w=>Q2 P T.l M w fun Z w=>X2 P .len [T.l] T.e [false] [Z] w fun U w=>Q3 P .lss T.e (.tmp 22) (.tmp 29) f U w fun r w=>X1 r (fieldAddr P T.a e 2 w fun ae w=>Q2 P T.f ae w fun O w=>indexAddr P T.f O g w fun B w=>fieldAddr P T.m B 1 w fun X w=>Q2 P T.l X w fun ag w=>indexAddr P T.l ag f w fun o w=>Q2 P T.g o w fun af w=>V6 P T.g w fun t7 w=>X9 P T.g t7 af w fun _u w=>fieldAddr P T.g t7 0 w fun n w=>Q2 P T.e n w fun R w=>Q3 P .eql T.e (.tmp 43) (.const (.int .i64 4)) R (.int .i64 4) w fun c w=>Q0 c true w (fieldAddr P T.g t7 3) fun ai w=>Q0 c true w (Q2 P T.e ai) fun V w=>Q0 c true w (fun w J=>J j w) fun H w=>Q0 c true w (Q3 P .geq T.e (.tmp 47) (.tmp 48) V H) fun ac w=>pick P c ac (.bool false) w fun al w=>X1 al (Q2 P T.a e w fun u w=>X9 P T.a i u w fun _u w=>Y7 P T.a i w fun z=>K z w) (Q3 P .add T.e (.tmp 31) (.const (.int .i64 1)) f (.int .i64 1) w fun aa w=>b aa w)) (Q3 P .add T.e (.tmp 20) (.const (.int .i64 1)) g (.int .i64 1) w fun Y w=>d Y w)) (jn (α:=Unit) w (fun h w=>fieldAddr P T.a e 2 w fun k w=>Q2 P T.f k w fun ab w=>X2 P .len [T.f] T.e [false] [ab] w fun p w=>Q3 P .lss T.e (.tmp 52) (.tmp 55) j p w fun L w=>X1 L (buildSlice P T.f 0 [] w fun s w=>fieldAddr P T.a e 2 w fun E w=>Q2 P T.f E w fun Q w=>S4 P T.f Q none (some j) none w fun m w=>X2 P .append [T.f,T.f] T.f [false,false] [s,m] w fun t w=>fieldAddr P T.a e 2 w fun A w=>X9 P T.f A t w fun _u w=>h () w) (h () w)) fun ap l w=>Q2 P T.a e w fun aj w=>X9 P T.a i aj w fun _u w=>Y7 P T.a i w fun z=>K z w)
theorem Q0x {a b:Value} {w:World} {K:Value→World→Prop} (h:Ex a b w K):Q1 P F.bR [a,b] w K:=Q9 Q0Q Tryz.func61 rfl (by decide) (by kernel_rfl) h
def Hu (a0 a1 a2:Value) (w:World) (K:Value→World→Prop):Prop:= box P T.a a1 w fun t4 w=>box P T.n a2 w fun s w=>V6 P T.a w fun t6 w=>fieldAddr P T.n s 0 w fun ek w=>Q2 P T.e ek w fun a6 w=>Q3 P .eql T.e (.tmp 23) (.const (.int .i64 0)) a6 (.int .i64 0) w fun eo w=>X1 eo (Q2 P T.a t4 w fun eh w=>fieldAddr P T.n s 1 w fun ec w=>Q2 P T.c ec w fun eb w=>Q1 P F.bc [eh,eb] w fun dg w=>ext P dg 0 w fun ep w=>ext P dg 1 w fun cu w=>V6 P T.a w fun t8 w=>X9 P T.a t8 ep w fun _u w=>fieldAddr P T.n s 1 w fun ee w=>Q2 P T.c ee w fun el w=>Q1 P F.aJ [a0,el] w fun dv w=>ext P dv 0 w fun dc w=>ext P dv 1 w fun er w=>dr w fun a b=>Q5 a (fun n=> ∀w,b w→Q3 P .eql T.y (.tmp 41) (.tmp 42) cu er w (dk a n w)) fun n=>Q5 a (fun bp=> ∀d w,b w→n d w→Q0 d true w (fun w J=>J cu w) (dk a bp w)) fun bp=>Q5 a (fun ci=> ∀d bs w,b w→n d w→bp bs w→Q0 d true w (Q3 P .neq T.y (.tmp 45) (.const (.int .i64 0)) bs (.int .i64 0)) (dk a ci w)) fun ci=>Q5 a (fun av=> ∀d b8 w,b w→n d w→ci b8 w→Q0 d true w (fun w J=>J b8 w) (dk a av w)) fun av=>Q5 a (fun b2=> ∀m w,b w→av m w→Q0 m true w (fun w J=>J dc w) (dk a b2 w)) fun b2=>Q5 a (fun b4=> ∀m bc w,b w→av m w→b2 bc w→Q0 m true w (Q3 P .eql T.e (.tmp 48) (.const (.int .i64 0)) bc (.int .i64 0)) (dk a b4 w)) fun b4=>Q5 a (fun b0=> ∀d m bu w,b w→n d w→av m w→b4 bu w→Q0 d true w (pick P m bu (.bool false)) (dk a b0 w)) fun b0=>Q5 a (fun u=> ∀d b9 w,b w→n d w→b0 b9 w→Q0 d true w (fun w J=>J b9 w) (dk a u w)) fun u=>Q5 a (fun cc=> ∀i w,b w→u i w→Q0 i false w (fun w J=>J cu w) (dk a cc w)) fun cc=>Q5 a (fun ch=> ∀i bx w,b w→u i w→cc bx w→Q0 i false w (Q3 P .eql T.y (.tmp 52) (.const (.int .i64 0)) bx (.int .i64 0)) (dk a ch w)) fun ch=>Q5 a (fun t=> ∀i bw w,b w→u i w→ch bw w→Q0 i false w (fun w J=>J bw w) (dk a t w)) fun t=>Q5 a (fun b7=> ∀f w,b w→t f w→Q0 f true w (fun w J=>J dc w) (dk a b7 w)) fun b7=>Q5 a (fun b6=> ∀f w,b w→t f w→Q0 f true w (fieldAddr P T.a t4 2) (dk a b6 w)) fun b6=>Q5 a (fun bh=> ∀w,b w→Q2 P T.a t8 w (dk a bh w)) fun bh=>Q5 a (fun bl=> ∀f bo w,b w→t f w→b6 bo w→Q0 f true w (Q2 P T.f bo) (dk a bl w)) fun bl=>Q5 a (fun cg=> ∀f ce w,b w→t f w→bl ce w→Q0 f true w (X2 P .len [T.f] T.e [false] [ce]) (dk a cg w)) fun cg=>Q5 a (fun cd=> ∀f bz bb w,b w→t f w→b7 bz w→cg bb w→Q0 f true w (Q3 P .eql T.e (.tmp 55) (.tmp 58) bz bb) (dk a cd w)) fun cd=>Q5 a (fun cj=> ∀i f b3 w,b w→u i w→t f w→cd b3 w→Q0 i false w (pick P f b3 (.bool false)) (dk a cj w)) fun cj=>Q5 a (fun cl=> ∀d i b1 w,b w→n d w→u i w→cj b1 w→Q0 d true w (pick P i (.bool true) b1) (dk a cl w)) fun cl=>Q5 a (fun cs=> ∀d a7 w,b w→n d w→cl a7 w→pick P d a7 (.bool false) w (dk a cs w)) fun cs=>Sn a (fun j=> ∀ar w,b w→bh ar w→X9 P T.a t6 ar w (dk a (j [ar]) w)) fun j=>∀d bs b8 m bc bu b9 i bx bw f bz bo ar ce bb b3 b1 a7 di cw w,b w→n d w→bp bs w→ci b8 w→av m w→b2 bc w→b4 bu w→b0 b9 w→u i w→cc bx w→ch bw w→t f w→b7 bz w→b6 bo w→bh ar w→bl ce w→cg bb w→cd b3 w→cj b1 w→cl a7 w→cs di w→j [ar] cw w→ Y7 P T.a t6 w fun r0=>K (.tuple #[r0,di]) w) (Q3 P .eql T.e (.tmp 23) (.const (.int .i64 1)) a6 (.int .i64 1) w fun eu w=>X1 eu (Q2 P T.a t4 w fun ej w=>fieldAddr P T.n s 1 w fun ei w=>Q2 P T.c ei w fun em w=>fieldAddr P T.n s 2 w fun ef w=>Q2 P T.a1 ef w fun eq w=>Q1 P F.bl [ej,em,eq] w fun c0 w=>ext P c0 0 w fun ea w=>ext P c0 1 w fun cv w=>V6 P T.a w fun dz w=>X9 P T.a dz ea w fun _u w=>fieldAddr P T.n s 1 w fun et w=>Q2 P T.c et w fun d8 w=>fieldAddr P T.n s 2 w fun d9 w=>Q2 P T.a1 d9 w fun ed w=>Q1 P F.aQ [a0,d8,ed] w fun c6 w=>ext P c6 0 w fun de w=>ext P c6 1 w fun eg w=>dr w fun a b=>Q5 a (fun o=> ∀w,b w→Q3 P .eql T.y (.tmp 84) (.tmp 85) cv eg w (dk a o w)) fun o=>Q5 a (fun bn=> ∀c w,b w→o c w→Q0 c true w (fun w J=>J cv w) (dk a bn w)) fun bn=>Q5 a (fun a8=> ∀c bv w,b w→o c w→bn bv w→Q0 c true w (Q3 P .neq T.y (.tmp 88) (.const (.int .i64 0)) bv (.int .i64 0)) (dk a a8 w)) fun a8=>Q5 a (fun aq=> ∀c cf w,b w→o c w→a8 cf w→Q0 c true w (fun w J=>J cf w) (dk a aq w)) fun aq=>Q5 a (fun bi=> ∀l w,b w→aq l w→Q0 l true w (fun w J=>J de w) (dk a bi w)) fun bi=>Q5 a (fun b5=> ∀l bm w,b w→aq l w→bi bm w→Q0 l true w (Q3 P .eql T.e (.tmp 91) (.const (.int .i64 0)) bm (.int .i64 0)) (dk a b5 w)) fun b5=>Q5 a (fun br=> ∀c l a9 w,b w→o c w→aq l w→b5 a9 w→Q0 c true w (pick P l a9 (.bool false)) (dk a br w)) fun br=>Q5 a (fun v=> ∀c bq w,b w→o c w→br bq w→Q0 c true w (fun w J=>J bq w) (dk a v w)) fun v=>Q5 a (fun ca=> ∀h w,b w→v h w→Q0 h false w (fun w J=>J cv w) (dk a ca w)) fun ca=>Q5 a (fun bj=> ∀h ck w,b w→v h w→ca ck w→Q0 h false w (Q3 P .eql T.y (.tmp 95) (.const (.int .i64 0)) ck (.int .i64 0)) (dk a bj w)) fun bj=>Q5 a (fun r=> ∀h be w,b w→v h w→bj be w→Q0 h false w (fun w J=>J be w) (dk a r w)) fun r=>Q5 a (fun bf=> ∀g w,b w→r g w→Q0 g true w (fun w J=>J de w) (dk a bf w)) fun bf=>Q5 a (fun bk=> ∀g w,b w→r g w→Q0 g true w (fieldAddr P T.a t4 2) (dk a bk w)) fun bk=>Q5 a (fun ba=> ∀w,b w→Q2 P T.a dz w (dk a ba w)) fun ba=>Q5 a (fun aj=> ∀g bd w,b w→r g w→bk bd w→Q0 g true w (Q2 P T.f bd) (dk a aj w)) fun aj=>Q5 a (fun ad=> ∀g C w,b w→r g w→aj C w→Q0 g true w (X2 P .len [T.f] T.e [false] [C]) (dk a ad w)) fun ad=>Q5 a (fun aa=> ∀g cb R w,b w→r g w→bf cb w→ad R w→Q0 g true w (Q3 P .eql T.e (.tmp 98) (.tmp 101) cb R) (dk a aa w)) fun aa=>Q5 a (fun an=> ∀h g U w,b w→v h w→r g w→aa U w→Q0 h false w (pick P g U (.bool false)) (dk a an w)) fun an=>Q5 a (fun ao=> ∀c h am w,b w→o c w→v h w→an am w→Q0 c true w (pick P h (.bool true) am) (dk a ao w)) fun ao=>Q5 a (fun a4=> ∀c W w,b w→o c w→ao W w→pick P c W (.bool false) w (dk a a4 w)) fun a4=>Sn a (fun j=> ∀aw w,b w→ba aw w→X9 P T.a t6 aw w (dk a (j [aw]) w)) fun j=>∀c bv cf l bm a9 bq h ck be g cb bd aw C R U am W co cw w,b w→o c w→bn bv w→a8 cf w→aq l w→bi bm w→b5 a9 w→br bq w→v h w→ca ck w→bj be w→r g w→bf cb w→bk bd w→ba aw w→aj C w→ad R w→aa U w→an am w→ao W w→a4 co w→j [aw] cw w→ Y7 P T.a t6 w fun r0=>K (.tuple #[r0,co]) w) (Q3 P .eql T.e (.tmp 23) (.const (.int .i64 2)) a6 (.int .i64 2) w fun c8 w=>X1 c8 (Q2 P T.a t4 w fun ds w=>fieldAddr P T.n s 3 w fun dj w=>Q2 P T.e dj w fun d3 w=>fieldAddr P T.n s 2 w fun dq w=>Q2 P T.a1 dq w fun d5 w=>fieldAddr P T.n s 4 w fun dh w=>Q2 P T.g dh w fun dn w=>Q1 P F.bP [ds,d3,d5,dn] w fun cm w=>ext P cm 0 w fun cz w=>ext P cm 1 w fun dy w=>V6 P T.a w fun dd w=>X9 P T.a dd cz w fun _u w=>dr w fun a b=>Q5 a (fun al=> ∀w,b w→fieldAddr P T.n s 3 w (dk a al w)) fun al=>Q5 a (fun ag=> ∀w,b w→fieldAddr P T.n s 2 w (dk a ag w)) fun ag=>Q5 a (fun ae=> ∀w,b w→fieldAddr P T.n s 4 w (dk a ae w)) fun ae=>Q5 a (fun D=> ∀w,b w→Q2 P T.a dd w (dk a D w)) fun D=>Q5 a (fun V=> ∀af w,b w→al af w→Q2 P T.e af w (dk a V w)) fun V=>Q5 a (fun E=> ∀ah w,b w→ag ah w→Q2 P T.a1 ah w (dk a E w)) fun E=>Q5 a (fun A=> ∀X w,b w→ae X w→Q2 P T.g X w (dk a A w)) fun A=>Q5 a (fun ak=> ∀M Q ab w,b w→V M w→E Q w→A ab w→Q1 P F.b4 [a0,M,Q,ab] w (dk a ak w)) fun ak=>Q5 a (fun az=> ∀Y w,b w→ak Y w→Q3 P .eql T.y (.tmp 127) (.tmp 128) Y dy w (dk a az w)) fun az=>Sn a (fun ay=> ∀p w,b w→D p w→X9 P T.a t6 p w (dk a (ay [p]) w)) fun ay=>∀af ah X p M Q ab Y cn es w,b w→al af w→ag ah w→ae X w→D p w→V M w→E Q w→A ab w→ak Y w→az cn w→ay [p] es w→ Y7 P T.a t6 w fun r0=>K (.tuple #[r0,cn]) w) (Q3 P .eql T.e (.tmp 23) (.const (.int .i64 3)) a6 (.int .i64 3) w fun cy w=>X1 cy (Q2 P T.a t4 w fun dm w=>fieldAddr P T.n s 3 w fun d0 w=>Q2 P T.e d0 w fun df w=>fieldAddr P T.n s 2 w fun c5 w=>Q2 P T.a1 c5 w fun d1 w=>Q1 P F.bQ [dm,df,d1] w fun cp w=>ext P cp 0 w fun dw w=>ext P cp 1 w fun d4 w=>V6 P T.g w fun dp w=>X9 P T.g dp dw w fun _u w=>fieldAddr P T.n s 3 w fun dx w=>Q2 P T.e dx w fun dl w=>fieldAddr P T.n s 2 w fun c4 w=>Q2 P T.a1 c4 w fun du w=>Q1 P F.c2 [a0,dl,du] w fun cr w=>ext P cr 0 w fun d2 w=>ext P cr 1 w fun dt w=>V6 P T.g w fun da w=>X9 P T.g da d2 w fun _u w=>dr w fun a b=>Q5 a (fun N=> ∀w,b w→Q2 P T.a t4 w (dk a N w)) fun N=>Q5 a (fun B=> ∀w,b w→Q2 P T.g dp w (dk a B w)) fun B=>Q5 a (fun ai=> ∀w,b w→Q2 P T.g da w (dk a ai w)) fun ai=>Q5 a (fun k=> ∀ap z w,b w→B ap w→ai z w→Q3 P .eql T.g (.tmp 151) (.tmp 152) ap z w (dk a k w)) fun k=>Q5 a (fun L=> ∀e w,b w→k e w→Q0 e true w (fun w J=>J d4 w) (dk a L w)) fun L=>Q5 a (fun Z=> ∀e w,b w→k e w→Q0 e true w (fun w J=>J dt w) (dk a Z w)) fun Z=>Q5 a (fun H=> ∀e ac O w,b w→k e w→L ac w→Z O w→Q0 e true w (Q3 P .eql T.y (.tmp 155) (.tmp 156) ac O) (dk a H w)) fun H=>Q5 a (fun a5=> ∀e y w,b w→k e w→H y w→pick P e y (.bool false) w (dk a a5 w)) fun a5=>Sn a (fun ct=> ∀q w,b w→N q w→X9 P T.a t6 q w (dk a (ct [q]) w)) fun ct=>∀q ap z e ac O y cq u9 w,b w→N q w→B ap w→ai z w→k e w→L ac w→Z O w→H y w→a5 cq w→ct [q] u9 w→ Y7 P T.a t6 w fun r0=>K (.tuple #[r0,cq]) w) (Q3 P .eql T.e (.tmp 23) (.const (.int .i64 4)) a6 (.int .i64 4) w fun c2 w=>X1 c2 (fieldAddr P T.n s 3 w fun cx w=>Q2 P T.e cx w fun c9 w=>Q1 P F.c4 [a0,c9] w fun ex w=>Q2 P T.a t4 w fun d6 w=>fieldAddr P T.n s 3 w fun c1 w=>Q2 P T.e c1 w fun d7 w=>Q1 P F.bR [d6,d7] w fun db w=>X9 P T.a t6 db w fun _u w=>Y7 P T.a t6 w fun r0=>K (.tuple #[r0,(.bool true)]) w) (Q2 P T.a t4 w fun c3 w=>X9 P T.a t6 c3 w fun _u w=>Y7 P T.a t6 w fun r0=>K (.tuple #[r0,(.bool true)]) w)))))
theorem Q29 {a b c:Value} {w:World} {K:Value→World→Prop} (h:Hu a b c w K):Q1 P F.ai [a,b,c] w K:=Q9 (List.replicate 22 none) Tryz.func26 rfl (by decide) (by kernel_rfl) h
def Q04:V8:=[none,none,none,none,none,none,some ([5],[4,5,6,12,13,14,15,16,17,18,19,20,21,22,23,24,25,26,27,28,29,30,31,32,33,34,35,36,37,38,39,40,41,42,43,44,45,46,47,48,49,50,51,52,53,54,55,56,57,58,59,60,61,62,63,64,65,66,67,68,69,70]),none,none,none,none,none,none,none,some ([6],[4,6,44,45,46,47,48,49,50,51,52,53,54,55,56,57,58,59,60,61,62,63,64,65,66,67,68,69,70]),none,none,none,none,none,none]
def Ov (a0 a1:Value) (w:World) (K:Value→World→Prop):Prop:= X2 P .len [T.f] T.e [false] [a0] w fun t8 w=>X2 P .len [T.f] T.e [false] [a1] w fun a8 w=>Q3 P .neq T.e (.tmp 8) (.tmp 10) t8 a8 w fun bg w=>X1 bg (K (.bool false) w) (lp (α:=Value) (.int .i64 0) w fun an R d_ w=>X2 P .len [T.f] T.e [false] [a0] w fun bd w=>Q3 P .lss T.e (.tmp 12) (.tmp 14) R bd w fun a5 w=>X1 a5 (dr w fun b c=>Q5 b (fun j=> ∀w,c w→indexAddr P T.f a0 R w (dk b j w)) fun j=>Q5 b (fun g=> ∀ah w,c w→j ah w→fieldAddr P T.m ah 0 w (dk b g w)) fun g=>Q5 b (fun ac=> ∀w,c w→indexAddr P T.f a1 R w (dk b ac w)) fun ac=>Q5 b (fun f=> ∀C w,c w→ac C w→fieldAddr P T.m C 0 w (dk b f w)) fun f=>Q5 b (fun H=> ∀y w,c w→g y w→Q2 P T.c y w (dk b H w)) fun H=>Q5 b (fun ab=> ∀Q w,c w→f Q w→Q2 P T.c Q w (dk b ab w)) fun ab=>Q5 b (fun d=> ∀q Z w,c w→H q w→ab Z w→Q3 P .neq T.c (.tmp 22) (.tmp 27) q Z w (dk b d w)) fun d=>Q5 b (fun t=> ∀a w,c w→d a w→Q0 a false w (fun w J=>J a0 w) (dk b t w)) fun t=>Q5 b (fun m=> ∀a w,c w→d a w→Q0 a false w (fun w J=>J R w) (dk b m w)) fun m=>Q5 b (fun M=> ∀a k N w,c w→d a w→t k w→m N w→Q0 a false w (indexAddr P T.f k N) (dk b M w)) fun M=>Q5 b (fun ae=> ∀a ag w,c w→d a w→M ag w→Q0 a false w (fieldAddr P T.m ag 1) (dk b ae w)) fun ae=>Q5 b (fun L=> ∀a w,c w→d a w→Q0 a false w (fun w J=>J a1 w) (dk b L w)) fun L=>Q5 b (fun V=> ∀a w,c w→d a w→Q0 a false w (fun w J=>J R w) (dk b V w)) fun V=>Q5 b (fun z=> ∀a r D w,c w→d a w→L r w→V D w→Q0 a false w (indexAddr P T.f r D) (dk b z w)) fun z=>Q5 b (fun o=> ∀a ak w,c w→d a w→z ak w→Q0 a false w (fieldAddr P T.m ak 1) (dk b o w)) fun o=>Q5 b (fun ad=> ∀a aj w,c w→d a w→ae aj w→Q0 a false w (Q2 P T.l aj) (dk b ad w)) fun ad=>Q5 b (fun aq=> ∀a u w,c w→d a w→ad u w→Q0 a false w (X2 P .len [T.l] T.e [false] [u]) (dk b aq w)) fun aq=>Q5 b (fun E=> ∀a X w,c w→d a w→o X w→Q0 a false w (Q2 P T.l X) (dk b E w)) fun E=>Q5 b (fun ao=> ∀a i w,c w→d a w→E i w→Q0 a false w (X2 P .len [T.l] T.e [false] [i]) (dk b ao w)) fun ao=>∀ah y C Q q Z a k N ag aj r D ak X u ax i az w,c w→j ah w→g y w→ac C w→f Q w→H q w→ab Z w→d a w→t k w→m N w→M ag w→ae aj w→L r w→V D w→z ak w→o X w→ad u w→aq ax w→E i w→ao az w→ Q0 a false w (Q3 P .neq T.e (.tmp 35) (.tmp 41) ax az) fun a4 w=>pick P a (.bool true) a4 w fun be w=>X1 be (K (.bool false) w) (lp (α:=Value) (.int .i64 0) w fun e A d_ w=>indexAddr P T.f a0 R w fun a7 w=>fieldAddr P T.m a7 1 w fun a6 w=>Q2 P T.l a6 w fun bf w=>X2 P .len [T.l] T.e [false] [bf] w fun a9 w=>Q3 P .lss T.e (.tmp 44) (.tmp 50) A a9 w fun ba w=>X1 ba (dr w fun b c=>Q5 b (fun B=> ∀w,c w→indexAddr P T.f a0 R w (dk b B w)) fun B=>Q5 b (fun U=> ∀Y w,c w→B Y w→fieldAddr P T.m Y 1 w (dk b U w)) fun U=>Q5 b (fun h=> ∀w,c w→indexAddr P T.f a1 R w (dk b h w)) fun h=>Q5 b (fun aa=> ∀al w,c w→h al w→fieldAddr P T.m al 1 w (dk b aa w)) fun aa=>Q5 b (fun W=> ∀O w,c w→U O w→Q2 P T.l O w (dk b W w)) fun W=>Q5 b (fun ai=> ∀s w,c w→W s w→indexAddr P T.l s A w (dk b ai w)) fun ai=>Q5 b (fun ar=> ∀n w,c w→ai n w→Q2 P T.g n w (dk b ar w)) fun ar=>Q5 b (fun l=> ∀am w,c w→aa am w→Q2 P T.l am w (dk b l w)) fun l=>Q5 b (fun af=> ∀p w,c w→l p w→indexAddr P T.l p A w (dk b af w)) fun af=>Q5 b (fun ap=> ∀v w,c w→af v w→Q2 P T.g v w (dk b ap w)) fun ap=>∀Y O al am s n aw p v ay w,c w→B Y w→U O w→h al w→aa am w→W s w→ai n w→ar aw w→l p w→af v w→ap ay w→ Q3 P .neq T.g (.tmp 61) (.tmp 69) aw ay w fun bc w=>X1 bc (K (.bool false) w) (Q3 P .add T.e (.tmp 52) (.const (.int .i64 1)) A (.int .i64 1) w fun a3 w=>e a3 w)) (Q3 P .add T.e (.tmp 16) (.const (.int .i64 1)) R (.int .i64 1) w fun bb w=>an bb w))) (K (.bool true) w))
theorem Q0j {a b:Value} {w:World} {K:Value→World→Prop} (h:Ov a b w K):Q1 P F.aR [a,b] w K:=Q9 Q04 Tryz.func38 rfl (by decide) (by kernel_rfl) h
def Cn:V8:=[none,none,none,none,none,none,none,some ([7],[4,7,8,9,21,22,23,24,25,26,27,28,29,30,31,32,33,34,35,36,37,38,39,40,41,42,43,44,45,46,47,48,49,50,51,52,53,54,55,56,57,58,59,60,61,62,63,64]),none,none,some ([],[4,8,9,31,32,33,34,35,36,37,38,39,40,41,42,43,44,45,46,47,48,49,50,51,52,53,54,55,56,57,58,59,60,61,62,63,64]),none,none,none,none,none,none,none]
def Ut (a0 a1:Value) (w:World) (K:Value→World→Prop):Prop:= Q1 P F.ah [a0] w fun ae w=>ext P ae 0 w fun u w=>ext P ae 1 w fun ar w=>V6 P T.a w fun C w=>X9 P T.a C ar w fun _u w=>Q1 P F.aI [] w fun ai w=>J8 P .not ai w fun Z w=>Q0 Z false w (fun w J=>J u w) fun aw w=>Q0 Z false w (Q3 P .eql T.a5 (.tmp 18) (.const (.pointer none)) aw (.pointer none)) fun ao w=>pick P Z (.bool true) ao w fun ay w=>X1 ay (K (.bool false) w) (lp (α:=Value) (.int .i64 0) w fun E x7 d_ w=>X2 P .len [T.z] T.e [false] [a1] w fun ap w=>Q3 P .lss T.e (.tmp 21) (.tmp 23) x7 ap w fun Y w=>Q0 Y true w (fun w J=>J x7 w) fun ak w=>Q0 Y true w (Q3 P .lss T.e (.tmp 26) (.const (.int .i64 60)) ak (.int .i64 60)) fun aq w=>pick P Y aq (.bool false) w fun ax w=>X1 ax (jn (α:=Unit) w (fun O w=>indexAddr P T.z a1 x7 w fun az w=>Q2 P T.n az w fun av w=>Q1 P F.bN [av] w fun al w=>J8 P .not al w fun an w=>X1 an (O () w) (sq w fun w=>(indexAddr P T.z a1 x7 w fun L w=>Q2 P T.a C w fun R w=>Q2 P T.n L w fun U w=>Q1 P F.ai [u,R,U] w fun B w=>ext P B 0 w fun X w=>ext P B 1 w fun aa w=>V6 P T.a w fun t8 w=>X9 P T.a t8 X w fun _u w=>Q2 P T.a t8 w fun V w=>X9 P T.a C V w fun _u w=>dr w fun c e=>Q5 c (fun d=> ∀w,e w→J8 P .not aa w (dk c d w)) fun d=>Q5 c (fun n=> ∀a w,e w→d a w→Q0 a false w (fun w J=>J u w) (dk c n w)) fun n=>Q5 c (fun o=> ∀a w,e w→d a w→Q0 a false w (fieldAddr P T.a C 2) (dk c o w)) fun o=>Q5 c (fun i=> ∀a l w,e w→d a w→n l w→Q0 a false w (Q1 P F.aF [l]) (dk c i w)) fun i=>Q5 c (fun m=> ∀a g w,e w→d a w→o g w→Q0 a false w (Q2 P T.f g) (dk c m w)) fun m=>Q5 c (fun t=> ∀a r w,e w→d a w→m r w→Q0 a false w (X2 P .len [T.f] T.e [false] [r]) (dk c t w)) fun t=>Q5 c (fun s=> ∀a h k w,e w→d a w→i h w→t k w→Q0 a false w (Q3 P .neq T.e (.tmp 52) (.tmp 55) h k) (dk c s w)) fun s=>Q5 c (fun f=> ∀a p w,e w→d a w→s p w→pick P a (.bool true) p w (dk c f w)) fun f=>Q5 c (fun j=> ∀b w,e w→f b w→Q0 b false w (fun w J=>J u w) (dk c j w)) fun j=>Q5 c (fun v=> ∀b q w,e w→f b w→j q w→Q0 b false w (Q1 P F.v [q]) (dk c v w)) fun v=>Q5 c (fun y=> ∀b w,e w→f b w→Q0 b false w (Q2 P T.a C) (dk c y w)) fun y=>∀a l g h r k p b q A z w,e w→d a w→n l w→o g w→i h w→m r w→t k w→s p w→f b w→j q w→v A w→y z w→ Q0 b false w (Q1 P F.ac [z]) fun M w=>Q0 b false w (Q3 P .neq T.e (.tmp 60) (.tmp 62) A M) fun Q w=>pick P b (.bool true) Q w fun ab w=>X1 ab (K (.bool false) w) (O () w))∧(indexAddr P T.z a1 x7 w fun L w=>Q2 P T.a C w fun R w=>Q2 P T.n L w fun U w=>V6 P T.a w fun t8 w=>Q1 P F.ai [u,R,U] w fun B w=>ext P B 0 w fun X w=>ext P B 1 w fun aa w=>X9 P T.a t8 X w fun _u w=>Q2 P T.a t8 w fun V w=>X9 P T.a C V w fun _u w=>dr w fun c e=>Q5 c (fun d=> ∀w,e w→J8 P .not aa w (dk c d w)) fun d=>Q5 c (fun n=> ∀a w,e w→d a w→Q0 a false w (fun w J=>J u w) (dk c n w)) fun n=>Q5 c (fun o=> ∀a w,e w→d a w→Q0 a false w (fieldAddr P T.a C 2) (dk c o w)) fun o=>Q5 c (fun i=> ∀a l w,e w→d a w→n l w→Q0 a false w (Q1 P F.aF [l]) (dk c i w)) fun i=>Q5 c (fun m=> ∀a g w,e w→d a w→o g w→Q0 a false w (Q2 P T.f g) (dk c m w)) fun m=>Q5 c (fun t=> ∀a r w,e w→d a w→m r w→Q0 a false w (X2 P .len [T.f] T.e [false] [r]) (dk c t w)) fun t=>Q5 c (fun s=> ∀a h k w,e w→d a w→i h w→t k w→Q0 a false w (Q3 P .neq T.e (.tmp 52) (.tmp 55) h k) (dk c s w)) fun s=>Q5 c (fun f=> ∀a p w,e w→d a w→s p w→pick P a (.bool true) p w (dk c f w)) fun f=>Q5 c (fun j=> ∀b w,e w→f b w→Q0 b false w (fun w J=>J u w) (dk c j w)) fun j=>Q5 c (fun v=> ∀b q w,e w→f b w→j q w→Q0 b false w (Q1 P F.v [q]) (dk c v w)) fun v=>Q5 c (fun y=> ∀b w,e w→f b w→Q0 b false w (Q2 P T.a C) (dk c y w)) fun y=>∀a l g h r k p b q A z w,e w→d a w→n l w→o g w→i h w→m r w→t k w→s p w→f b w→j q w→v A w→y z w→ Q0 b false w (Q1 P F.ac [z]) fun M w=>Q0 b false w (Q3 P .neq T.e (.tmp 60) (.tmp 62) A M) fun Q w=>pick P b (.bool true) Q w fun ab w=>X1 ab (K (.bool false) w) (O () w)))) fun a3 d_ w=>Q3 P .add T.e (.tmp 29) (.const (.int .i64 1)) x7 (.int .i64 1) w fun aj w=>E aj w) (dr w fun c e=>Q5 c (fun D=> ∀w,e w→fieldAddr P T.a C 2 w (dk c D w)) fun D=>Q5 c (fun N=> ∀w,e w→Q1 P F.ap [u] w (dk c N w)) fun N=>Q5 c (fun W=> ∀H w,e w→D H w→Q2 P T.f H w (dk c W w)) fun W=>∀H ad ag w,e w→D H w→N ad w→W ag w→ Q1 P F.aR [ad,ag] w fun am w=>K am w))
theorem Ce {a b:Value} {w:World} {K:Value→World→Prop} (h:Ut a b w K):Q1 P F.c7 [a,b] w K:=Q9 Cn Tryz.func7 rfl (by decide) (by kernel_rfl) h
end Go.Proofs.YtjdiakhipmggjaaGreatDoor

set_option maxRecDepth 100000
namespace Go.Proofs.YtjdiakhipmggjaaGreatDoor
open Go.Emb
end Go.Proofs.YtjdiakhipmggjaaGreatDoor


namespace Go.Emb
open Go.RowKit (Below)
variable {P : Program} {w w' : World} {K : Value → World → Prop}
theorem Y0 {s:Sem Value} {v:Value} (h:s.run P w= .ok v w'):op P (sv s) w K=K v w':=by
 rw[T3];unfold P5 sv;simp[h]
theorem Lg {s:Sem Unit} (h:s.run P w= .ok () w'):op P (su s) w K=K undef w':=by
 rw[T3];unfold P5 su;simp[h]
abbrev S (l:List UInt8):Value:= .string ⟨l.toArray⟩
abbrev I (n:Int):Value:= .int .i64 n
theorem Hg {b:Bool} {x y:Value}:pick P (.bool b) x y w K=K (if b then x else y) w:=by
 unfold pick;rw[T3];unfold P5;cases b<;>simp[asBool]
theorem M8 {x y:Value}:pick P (.bool true) x y w K=K x w:=by rw[Hg];rfl
theorem L1 {x y:Value}:pick P (.bool false) x y w K=K y w:=by rw[Hg];rfl
theorem X17 {a b:Bool} {u:Value}:pick P (.bool a) (if a=true then .bool b else u) (.bool false) w K=K (.bool (a&&b)) w:=by
 rw[Hg];cases a<;>rfl
theorem X2m {a b:Bool} {u:Value}:pick P (.bool a) (.bool true) (if a=false then .bool b else u) w K=K (.bool (a||b)) w:=by
 rw[Hg];cases a<;>rfl
theorem W5 {c:World→(Value→World→Prop)→Prop}:Q0 (.bool true) true w c K=c w K:=by rw[Hb];simp[Mz]
theorem W9 {c:World→(Value→World→Prop)→Prop}:Q0 (.bool false) false w c K=c w K:=by rw[Hb];simp[Mz]
theorem S6 {c:World→(Value→World→Prop)→Prop}:Q0 (.bool true) false w c K=K undef w:=by rw[Hb];simp[Mz]
theorem E1 {c:World→(Value→World→Prop)→Prop}:Q0 (.bool false) true w c K=K undef w:=by rw[Hb];simp[Mz]
theorem O7 {b:Bool} {c:World→(Value→World→Prop)→Prop}:Q0 undef b w c K=K undef w:=by rw[Hb];rfl
theorem X0T {a b:Bool} {v:Value}:Q0 (.bool a) b w (fun w J=>J v w) K=K (if a=b then v else undef) w:=by
 rw[Hb];unfold Mz;by_cases h:a=b<;>simp[h]
theorem Q5G {b:Bool} {t e:Prop}:X1 (.bool b) t e=if b=true then t else e:=by rw[Q5X];cases b<;>rfl
theorem H6 {t e:Prop}:X1 (.bool true) t e=t:=by rw[Q5G];simp
theorem M7 {t e:Prop}:X1 (.bool false) t e=e:=by rw[Q5G];simp
section ints
variable {k : IntKind} {t : TypeId} {ox oy : Operand} {a b : Int}
theorem Gb:Q3 P .add t ox oy (.int k a) (.int k b) w K=K (.int k (k.wrap (a+b))) w:=Y0 (by simp[eqGuard,Go.binOp,Op.intArith])
theorem Q3K:Q3 P .sub t ox oy (.int k a) (.int k b) w K=K (.int k (k.wrap (a-b))) w:=Y0 (by simp[eqGuard,Go.binOp,Op.intArith])
theorem Q7w:Q3 P .mul t ox oy (.int k a) (.int k b) w K=K (.int k (k.wrap (a*b))) w:=Y0 (by simp[eqGuard,Go.binOp,Op.intArith])
theorem Q3U:Q3 P .lss t ox oy (.int k a) (.int k b) w K=K (.bool (decide (a<b))) w:=Y0 (by simp[eqGuard,Go.binOp,Op.intCmp])
theorem Q4h:Q3 P .leq t ox oy (.int k a) (.int k b) w K=K (.bool (decide (a≤b))) w:=Y0 (by simp[eqGuard,Go.binOp,Op.intCmp])
theorem Rt:Q3 P .gtr t ox oy (.int k a) (.int k b) w K=K (.bool (decide (b<a))) w:=Y0 (by simp[eqGuard,Go.binOp,Op.intCmp])
theorem Q1B:Q3 P .geq t ox oy (.int k a) (.int k b) w K=K (.bool (decide (b≤a))) w:=Y0 (by simp[eqGuard,Go.binOp,Op.intCmp])
theorem Q1N:Q3 P .eql t ox oy (.int k a) (.int k b) w K=K (.bool (decide (a=b))) w:=Y0 (by
 simp[eqGuard,Go.binOp,Op.intCmp];rfl)
theorem Q42:Q3 P .neq t ox oy (.int k a) (.int k b) w K=K (.bool (!decide (a=b))) w:=Y0 (by
 simp[eqGuard,Go.binOp,Op.intCmp];rfl)
end ints
theorem Q47 {b:Bool}:J8 P .not (.bool b) w K=K (.bool (!b)) w:=Y0 (by simp[Op.unary])
section bools
variable {t : TypeId} {ox oy : Operand} {a b : Bool}
theorem Q2U (d:Nat) (h:P.underlying t=some .bool):(Op.equalIn (d+1) t (.bool a) (.bool b)).run P w= .ok (a==b) w:=by
 simp[Op.equalIn,run_underlying h]
theorem Gq (h:P.underlying t=some .bool):(Op.equal t (.bool a) (.bool b)).run P w= .ok (a==b) w:=Q2U 9999 h
theorem Q6y (h:P.underlying t=some .bool):Q3 P .eql t ox oy (.bool a) (.bool b) w K=K (.bool (a==b)) w:=Y0 (by
 simp[eqGuard,Go.binOp,Gq h])
theorem Q63 (h:P.underlying t=some .bool):Q3 P .neq t ox oy (.bool a) (.bool b) w K=K (.bool (!(a==b))) w:=Y0 (by
 simp[eqGuard,Go.binOp,Gq h])
end bools
theorem Ug {vs:List Value} {i:Nat} {v:Value} (h:vs[i]? =some v):ext P (.tuple vs.toArray) i w K=K v w:=Y0 (by
 simp[Instr.extract,h])
theorem X2W {a b:Value}:ext P (.tuple #[a,b]) 0 w K=K a w:=Ug (vs:=[a,b]) rfl
theorem X3E {a b:Value}:ext P (.tuple #[a,b]) 1 w K=K b w:=Ug (vs:=[a,b]) rfl
theorem X1D {a b c:Value}:ext P (.tuple #[a,b,c]) 0 w K=K a w:=Ug (vs:=[a,b,c]) rfl
theorem X1n {a b c:Value}:ext P (.tuple #[a,b,c]) 1 w K=K b w:=Ug (vs:=[a,b,c]) rfl
theorem X1x {a b c:Value}:ext P (.tuple #[a,b,c]) 2 w K=K c w:=Ug (vs:=[a,b,c]) rfl
theorem G7 {n:Int} (e: -9223372036854775808≤n) (d:n≤9223372036854775807):IntKind.i64.wrap n=n:=by
 have c:n % 18446744073709551616=n∨n % 18446744073709551616=n+18446744073709551616:=by omega
 show (if (true&&decide (n % 18446744073709551616≥9223372036854775808))=true then n % 18446744073709551616-18446744073709551616 else n % 18446744073709551616)=n
 simp only[Bool.true_and,decide_eq_true_eq]
 split<;>omega
theorem w32 {n:Int} (d: -2147483648≤n) (c:n≤2147483647):IntKind.i32.wrap n=n:=by
 show (if (true&&decide (n % 4294967296≥2147483648))=true then n % 4294967296-4294967296 else n % 4294967296)=n
 simp only[Bool.true_and,decide_eq_true_eq]
 split<;>omega
section strs
variable {t : TypeId} {ox oy : Operand} {a b : List UInt8}
theorem Q3Y (a b:List UInt8):(a==b)=decide (a=b):=by rw[Bool.eq_iff_iff];simp
theorem Fc:Q3 P .eql t ox oy (S a) (S b) w K=K (.bool (decide (a=b))) w:=Y0 (by
 simp[eqGuard,Go.binOp,Op.stringOp,Q3Y])
theorem Bx:Q3 P .neq t ox oy (S a) (S b) w K=K (.bool (!decide (a=b))) w:=Y0 (by
 simp[eqGuard,Go.binOp,Op.stringOp,Q3Y])
theorem K1 (l:List UInt8):(ByteArray.mk l.toArray).size=l.length:=by simp[ByteArray.size]
theorem Q9T (a b:List UInt8):ByteArray.mk a.toArray++ByteArray.mk b.toArray=ByteArray.mk (a++b).toArray:=by
 apply ByteArray.ext;simp
theorem X3Z:IntKind.i64.max=9223372036854775807:=by decide
theorem Q2e (h:a.length+b.length≤9223372036854775807):Q3 P .add t ox oy (S a) (S b) w K=K (S (a++b)) w:=Y0 (by
 have c: ¬(((a.length+b.length:Nat):Int)>IntKind.i64.max):=by rw[X3Z];omega
 simp only[eqGuard,Go.binOp,Op.stringOp,K1,Q9T]
 simp only[if_neg c]
 simp)
theorem S1 {cs:List Bool} {r:TypeId} (c:P.underlying t=some .string):X2 P .len [t] r cs [S a] w K=K (I a.length) w:=by
 have h:(Builtin.len_ #[t] r #[S a]).run P w= .ok (I a.length) w:=by
  simp[Builtin.len_,run_underlying c,K1,goInt]
 exact Y0 h
theorem Xu {i:Int} (c:P.underlying t=some .string) (d:0≤i) (h:i.toNat<a.length):C4 P t (S a) (I i) w K=K (.int .u8 (a[i.toNat]'h).toNat) w:=Y0 (by
 simp only[Instr.index,asIntOf,Sem.run_bind,Sem.run_pure,Result.andThen_ok,run_underlying c,d,if_true]
 have:(ByteArray.mk a.toArray)[i.toNat]? =some (a[i.toNat]'h):=by
  rw[getElem?_pos _ _ (by rw[K1];exact h)]
  rfl
 rw[this];simp)
theorem Q2Z (l:List UInt8) (i j:Nat):(ByteArray.mk l.toArray).extract i j=ByteArray.mk ((l.take j).drop i).toArray:=by
 apply ByteArray.ext
 apply Array.ext'
 simp[List.drop_take]
theorem Vb {i:Int} (c:P.underlying t=some .string) (d:0≤i) (h:i≤a.length):S4 P t (S a) (some (I i)) none none w K=K (S (a.drop i.toNat)) w:=Y0 (by
 simp[Instr.sliceAt,Instr.slice,Instr.sliceBounds,Instr.sliceBound,asIntOf,run_underlying c,d,h,K1,Q2Z])
theorem T8 {i:Int} (c:P.underlying t=some .string) (d:0≤i) (h:i≤a.length):S4 P t (S a) none (some (I i)) none w K=K (S (a.take i.toNat)) w:=Y0 (by
 simp[Instr.sliceAt,Instr.slice,Instr.sliceBounds,Instr.sliceBound,asIntOf,run_underlying c,d,h,K1,Q2Z])
end strs
theorem Ke {s d:TypeId} {k j:IntKind} {n:Int} {ds:TypeDesc} (c:P.underlying s=some ds) (e:P.underlying d=some (.int k)):conv P s d (.int j n) w K=K (.int k (k.wrap n)) w:=Y0 (by
 simp[Go.convert,run_underlying c,run_underlying e,Conv.intToInt])
def Q11 (w:World) (r:Nat) (o:Obj):World:={w with heap:=w.heap.setIfInBounds r o}
theorem Q4F {B r:Nat} {a w:World} {o:Obj} (h:Below B a w) (d:B≤r):Below B a (Q11 w r o):=
 h.trans ⟨rfl,rfl,rfl,by simp[Q11],fun k c=>by simp only[Q11];rw[Array.getElem?_setIfInBounds_ne (by omega)]⟩
theorem Q7U {w:World} {r:Nat} {o:Obj} (h:r<w.heap.size):(Q11 w r o).heap[r]? =some o:=by
 simp only[Q11];rw[Array.getElem?_setIfInBounds_self_of_lt h]
theorem X2F {t:TypeId} {a:List UInt8} (c:P.underlying t=some .string):rng P t (S a) w K=K (.pointer (some ⟨w.heap.size,0,none⟩)) (w.alloc (.stringIter ⟨a.toArray⟩ 0)):=Y0 (by
 simp[Instr.range,run_underlying c])
theorem X1O {t:TypeId} {r pos:Nat} {s:ByteArray} (h:w.heap[r]? =some (.stringIter s pos)) (d:pos<s.size):
 V1 P (.pointer (some ⟨r,0,none⟩)) true t w K=K (.tuple #[.bool true,I pos, .int .i32 (Utf8.decode s pos).1]) (Q11 w r (.stringIter s (pos+(Utf8.decode s pos).2))):=Y0 (by
 have c: ∀(k:Obj→Sem Value),(getObj r>>=k).run P w=(k (.stringIter s pos)).run P w:=by
  intro k;rw[Sem.run_bind];simp[getObj,Sem.run,h]
 have e: ∀o,(setObj r o).run P w= .ok () (Q11 w r o):=by intro o;simp[setObj,Sem.run,h,Q11]
 unfold Instr.next
 simp only[c,d,if_true]
 simp[e,goInt])
theorem Q6X {t:TypeId} {r pos:Nat} {s:ByteArray} (h:w.heap[r]? =some (.stringIter s pos)) (d: ¬pos<s.size):
 V1 P (.pointer (some ⟨r,0,none⟩)) true t w K=K (.tuple #[.bool false]) w:=Y0 (by
 have c: ∀(k:Obj→Sem Value),(getObj r>>=k).run P w=(k (.stringIter s pos)).run P w:=by
  intro k;rw[Sem.run_bind];simp[getObj,Sem.run,h]
 unfold Instr.next
 simp only[c,d,if_false]
 simp)
theorem X1y {a:Value}:ext P (.tuple #[a]) 0 w K=K a w:=Ug (vs:=[a]) rfl
theorem Q94 {s:ByteArray} {i:Nat} (h:(s.get! i).toNat<128):Utf8.decode s i=((s.get! i).toNat,1):=by
 unfold Utf8.decode
 simp only[Nat.add_zero]
 rw[if_pos h]
theorem Q6K {s:ByteArray} {i:Nat} (h: ¬(s.get! i).toNat<128):128≤(Utf8.decode s i).1:=by
 unfold Utf8.decode
 simp only[Nat.add_zero]
 rw[if_neg h]
 repeat' split
 all_goals (simp only[Utf8.runeError] at*;try omega)
 all_goals (simp only[Bool.and_eq_true,decide_eq_true_eq,ge_iff_le] at*;omega)
theorem Q5z {s:ByteArray} {i:Nat}:1≤(Utf8.decode s i).2:=by
 unfold Utf8.decode
 simp only
 repeat' split
 all_goals simp
def Pl (p:Int→Bool) (s:ByteArray):Nat→Nat→Bool
 | 0,_=>true
 | n+1,i=>if i<s.size then p (Utf8.decode s i).1&&Pl p s n (i+(Utf8.decode s i).2) else true
theorem Q3P {a:List UInt8} {i:Nat} (h:i<a.length):(ByteArray.mk a.toArray).get! i=a[i]:=by
 show (ByteArray.mk a.toArray).data[i]! =a[i]
 simp[h]
theorem Q8M (p:Int→Bool) (e: ∀c:Int,128≤c→p c=false) (a:List UInt8): ∀(n i:Nat),a.length-i≤n→Pl p ⟨a.toArray⟩ n i=(a.drop i).all (fun b=>p b.toNat):=by
 intro n
 induction n with
 | zero=>intro i h;rw[List.drop_eq_nil_of_le (by omega)];rfl
 | succ n g=>
  intro i h
  simp only[Pl,K1]
  split
  ·rename_i d
   rw[List.drop_eq_getElem_cons d,List.all_cons]
   by_cases f:a[i].toNat<128
   ·rw[Q94 (by rw[Q3P d];exact f),Q3P d]
    simp only
    rw[g (i+1) (by omega)]
   ·have j:=Q6K (s:=⟨a.toArray⟩) (i:=i) (by rw[Q3P d];exact f)
    rw[e _ (by omega),e _ (by omega)];rfl
  ·rename_i d;rw[List.drop_eq_nil_of_le (by omega)];rfl
theorem V0 {α:Type} {A:(α→World→Prop)→World→Prop} {B:α→(Nat→Value)→World→Prop} (h:A (fun x w=> ∀d,B x d w) w):jn w A B:=Zy _ h (fun _ d _ c=>c d)
theorem X4 {d:World→World→Prop} {A c:(Value→World→Prop)→Prop} (V:Value) (h:A (fun v _=>v=V)) (e:c (fun v _=>v=V)):Q5 d A c:=
 E8 _ (fun _ _ _ h _=>h) h e
theorem Dx {w w0:World} {A:(World→World→Prop)→(World→Prop)→Prop} (e:Below w0.heap.size w0 w)
 (h:A (fun w w'=>Below w.heap.size w w') (fun w'=>Below w0.heap.size w0 w')):dr w A:=
 Ph _ _ e.drew (fun _ _ c d=>c.trans (d.mono c.size)) h
theorem Q35 {w w':World} {v V:Value} (c:Below w.heap.size w w') (h:v=V):dk (fun w w'=>Below w.heap.size w w') (fun v _=>v=V) w v w':=⟨c,h⟩
theorem X6 {w:World} {v V:Value} (h:v=V):dk (fun w w'=>Below w.heap.size w w') (fun v _=>v=V) w v w:=⟨Below.refl _ _,h⟩
theorem Q78 {n:Nat} {fn:Func} {e:Array Value→Sem Value} {xs:List Value} {v:Value} (i:P.funcs[n]? =some fn) (o:(fn.name== "runtime.NumGoroutine")=false) (j:fn.body.isNone=true)
 (l:(Extern.findNext fn).isNone=true) (m:Extern.find fn=some e) (g:(e xs.toArray).run P w= .ok v w) (h:K v w):Q1 P n xs w K:=by
 have d:Extern.findNext fn=none:=by simpa using l
 have c: ¬fn.name= "runtime.NumGoroutine":=by simpa using o
 have f:fn.body=none:=by simpa using j
 unfold Q1
 rw[T3]
 unfold P5 callFunc
 simp[i,c,f,d,m,g,h]
theorem Q3b {α:Type} (p:α→Bool) (c:Nat→Bool): ∀(l:List α),(∀i (h:i<l.length),c i=p l[i])→(List.range l.length).find? c=l.findIdx? p
 | [],_=>rfl
 | x::l,h=>by
  rw[List.length_cons,List.range_succ_eq_map,List.find?_cons,List.findIdx?_cons]
  have e:c 0=p x:=h 0 (by simp)
  rw[e]
  cases p x
  ·simp only[Bool.false_eq_true,if_false]
   rw[List.find?_map]
   have:=Q3b p (c ∘ Nat.succ) l (fun i d=>h (i+1) (by simpa using d))
   rw[this]
  ·rfl
def Mr:=And.intro @M8 <| And.intro @L1 <| And.intro @O7 <| And.intro @Gb <| And.intro @Q3K <| And.intro @Q7w <| And.intro @Q3U <| And.intro @Q4h <| And.intro @Rt <| And.intro @Q1B <| And.intro @Q1N <| And.intro @Q42 <| And.intro @Q47 <| And.intro @Fc <| And.intro @Bx <| And.intro @X2W <| And.intro @X3E <| And.intro @X1D <| And.intro @X1n <| And.intro @X1x <| And.intro @X1y <| And.intro @X17 <| And.intro @X2m <| And.intro @W5 <| And.intro @W9 <| And.intro @S6 <| And.intro @E1 <| And.intro @X0T <| And.intro @H6 <| @M7
def Mp:=And.intro @M8 <| And.intro @L1 <| And.intro @O7 <| And.intro @Gb <| And.intro @Q3K <| And.intro @Q7w <| And.intro @Q3U <| And.intro @Q4h <| And.intro @Rt <| And.intro @Q1B <| And.intro @Q1N <| And.intro @Q42 <| And.intro @Q47 <| And.intro @Fc <| And.intro @Bx <| And.intro @X2W <| And.intro @X3E <| And.intro @X1D <| And.intro @X1n <| And.intro @X1x <| And.intro @X1y <| And.intro @W5 <| And.intro @W9 <| And.intro @S6 <| And.intro @E1 <| And.intro @H6 <| @M7
def Mb:=And.intro @Bool.true_eq_false <| And.intro @Bool.false_eq_true <| And.intro @Bool.not_true <| And.intro @Bool.not_false <| And.intro @Bool.and_true <| And.intro @Bool.true_and <| And.intro @Bool.and_false <| And.intro @Bool.false_and <| And.intro @Bool.or_true <| And.intro @Bool.true_or <| And.intro @Bool.or_false <| @Bool.false_or
end Go.Emb

namespace Go.Kd
abbrev X0:=List UInt8
def Xm (c:Int):Bool:=decide (65≤c)&&decide (c≤90)
def Qd (c:Int):Bool:=decide (97≤c)&&decide (c≤122)
def I0 (c:Int):Bool:=decide (48≤c)&&decide (c≤57)
def C2 (c:Int):Bool:=Xm c||Qd c||I0 c
def name (s:X0):Bool:=match s with
 | []=>false
 | c::_=>decide (s.length≤32)&& !I0 c.toNat&&s.all (fun b=>C2 b.toNat)
def M9 (s:X0):Bool:=match s with
 | []=>false
 | c::_=>name s&&Xm c.toNat
def D7 (s:X0):Bool:=match s with
 | []=>false
 | c::_=>name s&&Qd c.toNat
def plain (s:X0):Bool:=decide (s=[105,110,116])||decide (s=[98,111,111,108])||decide (s=[116,101,120,116])
def arr (s:X0):Bool:=decide (2≤s.length)&&decide (s.drop (s.length-2)=[91,93])
def cutA (s:X0):X0:=s.take (s.length-2)
def Yy:Nat→X0→X0×Nat
 | 0,s=>(s,0)
 | n+1,s=>if arr s then ((Yy n (cutA s)).1,(Yy n (cutA s)).2+1) else (s,0)
def base (s:X0):X0×Nat:=Yy s.length s
def right (s:X0):Bool:=decide ((base s).2≤3)&&(plain (base s).1||M9 (base s).1)
def elem (s:X0):X0:=if arr s&&right s then cutA s else []
def Xt (s:X0):Nat:=if right s then (base s).2 else 0
def Xc (s:X0):X0×X0×Bool:=match s with
 | []=>([],[],false)
 | c::r=>if c=46 then ([],r,true) else ((c::(Xc r).1),(Xc r).2.1,(Xc r).2.2)
def Zq (s:X0):Bool:=(Xc s).2.2&&M9 (Xc s).1&&D7 (Xc s).2.1
def Q1y (c:UInt8) (s:X0):Int:=match s.findIdx? (fun b=>decide (b=c)) with
 | some i=>i
 | none=> -1
def Q3p (s:X0) (o:Option Nat):X0×X0×Bool:=match o with
 | some i=>(s.take i,s.drop (i+1),true)
 | none=>(s,[],false)
theorem Tl (s:X0):Xc s=Q3p s (s.findIdx? (fun b=>decide (b=46))):=by
 induction s with
 | nil=>rfl
 | cons c r a=>
  rw[List.findIdx?_cons]
  simp only[Xc]
  by_cases h:c=46
  ·simp[h,Q3p]
  ·simp only[h,if_false,decide_false,Bool.false_eq_true]
   rw[a]
   cases r.findIdx? (fun b=>decide (b=46)) with
   | none=>simp[Q3p]
   | some i=>simp[Q3p]
end Go.Kd

namespace Go.Proofs.YtjdiakhipmggjaaGreatDoor
open Go.Emb Go.RowKit Go.Kd
variable {w : World} {K : Value → World → Prop}
theorem X8:P.underlying T.c=some .string:=by kernel_rfl
theorem Q1C:P.underlying T.e=some (.int .i64):=by kernel_rfl
theorem Q3r:P.underlying T.u=some .bool:=by kernel_rfl
theorem Q3X:P.underlying T.a3=some (.int .u8):=by kernel_rfl
theorem Q7W:P.underlying T.an=some (.int .i32):=by kernel_rfl
theorem Q7G (c:Int) (h:K (.bool (Xm c)) w):Q1 P F.ck [.int .i32 c] w K:=Q5H (by
 unfold Q0S
 (try simp only[↓Mr,Mr,Mb,reduceIte])
 cases a:decide (65≤c)<;>simp only[a,↓Mr,Mr,Mb,reduceIte]<;>simpa [Xm,a] using h)
theorem Q7H (c:Int) (h:K (.bool (Qd c)) w):Q1 P F.cl [.int .i32 c] w K:=Q6H (by
 unfold Q0J
 (try simp only[↓Mr,Mr,Mb,reduceIte])
 cases a:decide (97≤c)<;>simp only[a,↓Mr,Mr,Mb,reduceIte]<;>simpa [Qd,a] using h)
theorem X1U (c:Int) (h:K (.bool (C2 c)) w):Q1 P F.cc [.int .i32 c] w K:=Q53 (by
 unfold Ty
 refine Q7G c ?_
 cases a:Xm c
 ·(try simp only[↓Mr,Mr,Mb,reduceIte])
  refine Q7H c ?_
  cases b:Qd c
  ·(try simp only[↓Mr,Mr,Mb,reduceIte])
   cases d:decide (48≤c)
   ·(try simp only[↓Mr,Mr,Mb,reduceIte])
    simpa [C2,I0,a,b,d] using h
   ·(try simp only[↓Mr,Mr,Mb,reduceIte])
    simpa [C2,I0,a,b,d] using h
  ·(try simp only[↓Mr,Mr,Mb,reduceIte])
   simpa [C2,a,b] using h
 ·(try simp only[↓Mr,Mr,Mb,reduceIte])
  simpa [C2,a] using h)
theorem X4c (a:List UInt8) (f:Value) (p:Int→Bool) (l: ∀(c:Int) (w:World) (K:Value→World→Prop),K (.bool (p c)) w→Z4 P f [.int .i32 c] w K)
 (h: ∀w',Below w.heap.size w w'→K (.bool (Pl p ⟨a.toArray⟩ a.length 0)) w'):Q1 P F.cD [S a,f] w K:=Q8H (by
 unfold Q3y
 rw[X2F X8]
 refine Wo (fun _ w'=> ∃pos n:Nat,a.length-pos≤n∧Pl p ⟨a.toArray⟩ a.length 0=Pl p ⟨a.toArray⟩ n pos∧Below w.heap.size w w'∧w'.heap[w.heap.size]? =some (.stringIter ⟨a.toArray⟩ pos))
  (fun _ w'=>match w'.heap[w.heap.size]? with | some (.stringIter _ pos)=>a.length-pos | _=>0) ⟨0,a.length,by omega,rfl,(Below.refl _ _).alloc (Nat.le_refl _) _,heap_alloc_new w _⟩ ?_
 rintro _ _ w1 ⟨pos,n,r,b,j,e⟩
 by_cases g:pos<a.length
 ·rw[X1O e (by rw[K1];exact g)]
  (try simp only[↓Mr,Mr,Mb,reduceIte])
  refine l _ _ _ ?_
  obtain ⟨n,rfl⟩: ∃m,n=m+1:=⟨n-1,by omega⟩
  simp only[Pl,K1,g,if_true] at b
  have q:=Q5z (s:=⟨a.toArray⟩) (i:=pos)
  have d:w.heap.size<w1.heap.size:=(Array.getElem?_eq_some_iff.1 e).1
  cases k:p (Utf8.decode ⟨a.toArray⟩ pos).1
  ·(try simp only[↓Mr,Mr,Mb,reduceIte])
   rw[k] at b
   have:=h _ (Q4F (o:= .stringIter ⟨a.toArray⟩ (pos+(Utf8.decode ⟨a.toArray⟩ pos).2)) j (Nat.le_refl _))
   rw[b] at this
   exact this
  ·(try simp only[↓Mr,Mr,Mb,reduceIte])
   rw[k] at b
   refine ⟨⟨_,n,?_,b,Q4F j (Nat.le_refl _),Q7U d⟩,?_⟩
   ·omega
   ·simp only[Q7U d,e];omega
 ·rw[Q6X e (by rw[K1];exact g)]
  (try simp only[↓Mr,Mr,Mb,reduceIte])
  have:Pl p ⟨a.toArray⟩ n pos=true:=by
   cases n with
   | zero=>rfl
   | succ n=>simp only[Pl,K1,g,if_false]
  rw[←this,←b]
  exact h _ j)
theorem Q8v (c:Int) (h:128≤c):C2 c=false:=by
 simp[C2,Xm,Qd,I0];omega
theorem Q6p (a:List UInt8) (n:a.length≤140737488355328) (h: ∀w',Below w.heap.size w w'→K (.bool (name a)) w'):Q1 P F.c6 [S a] w K:=Q7i (by
 unfold Q2m
 have d: ∀c r,a=c::r→(decide (a.length≤32)&& !I0 c.toNat)=true→Q1 P F.cD [S a,(.func (.func F.cc) #[] #[])] w K:=by
  intro c r l b
  refine X4c a _ C2 (fun c w K h=>Z8 (first:=[]) (caps:=[]) (X1U c h)) fun w' m=>?_
  rw[Q8M _ Q8v a _ _ (by omega)]
  have:=h w' m
  rw[l] at this b⊢
  simp only[name] at this
  rw[b,Bool.true_and] at this
  simpa using this
 cases a with
 | nil=>
  simp only[↓Mr,Mr,Mb,reduceIte,decide_true]
  exact h w (Below.refl _ _)
 | cons c r=>
  have g:decide (c::r=[])=false:=by simp
  simp only[↓Mr,Mr,Mb,reduceIte,g,S1 X8]
  by_cases j:(c::r).length≤32
  ·have e:r.length≤31:=by simpa using j
   have b:decide ((32:Int)<((c::r).length:Int))=false:=by simp only[decide_eq_false_iff_not];omega
   simp only[↓Mr,Mr,Mb,reduceIte,b]
   rw[Xu X8 (by omega) (by simp)]
   (try simp only[↓Mr,Mr,Mb,reduceIte])
   have k:(c::r)[(0:Int).toNat]'(by simp)=c:=rfl
   simp only[k]
   cases f:decide ((48:Int)≤(c.toNat:Int))
   ·(try simp only[↓Mr,Mr,Mb,reduceIte])
    exact d c r rfl (by simp[I0,e,f])
   ·(try simp only[↓Mr,Mr,Mb,reduceIte])
    rw[Xu X8 (by omega) (by simp)]
    simp only[↓Mr,Mr,Mb,reduceIte,k]
    cases i:decide ((c.toNat:Int)≤57)
    ·(try simp only[↓Mr,Mr,Mb,reduceIte])
     exact d c r rfl (by simp only[I0,f,i];simp[e])
    ·(try simp only[↓Mr,Mr,Mb,reduceIte])
     have:name (c::r)=false:=by simp only[name,I0,f,i];simp
     rw[←this];exact h w (Below.refl _ _)
  ·have b:decide ((32:Int)<((c::r).length:Int))=true:=by simp only[decide_eq_true_eq];omega
   simp only[↓Mr,Mr,Mb,reduceIte,b]
   have:name (c::r)=false:=by simp only[name];rw[decide_eq_false j];rfl
   rw[←this];exact h w (Below.refl _ _))
theorem Ru (a:List UInt8) (f:a.length≤140737488355328) (h: ∀w',Below w.heap.size w w'→K (.bool (M9 a)) w'):Q1 P F.ak [S a] w K:=Q6j (by
 unfold Q0Y
 refine Q6p a f fun w1 b=>?_
 cases a with
 | nil=>
  simp only[name,↓Mr,Mr,Mb,reduceIte]
  exact h w1 b
 | cons c r=>
  cases d:name (c::r)
  ·(try simp only[↓Mr,Mr,Mb,reduceIte])
   have:=h w1 b
   simp only[M9,d] at this
   simpa using this
  ·(try simp only[↓Mr,Mr,Mb,reduceIte])
   rw[Xu X8 (by omega) (by simp)]
   have e:(c::r)[(0:Int).toNat]'(by simp)=c:=rfl
   simp only[e]
   rw[Ke Q3X Q7W,w32 (by omega) (by have:=c.toNat_lt;omega)]
   refine Q7G _ ?_
   (try simp only[↓Mr,Mr,Mb,reduceIte])
   have:=h w1 b
   simp only[M9,d] at this
   simpa using this)
theorem Rv (a:List UInt8) (h:K (.bool (plain a)) w):Q1 P F.aO [S a] w K:=Q5R (by
 unfold Q10
 (try simp only[↓Mr,Mr,Mb,reduceIte])
 cases b:decide (a=[105,110,116])<;>(try simp only[↓Mr,Mr,Mb,reduceIte])
 ·cases c:decide (a=[98,111,111,108])<;>(try simp only[↓Mr,Mr,Mb,reduceIte])<;>simpa [plain,b,c] using h
 ·simpa [plain,b] using h)
def Ui (a b:List UInt8):Bool:=decide (b.length≤a.length)&&decide (a.drop (a.length-b.length)=b)
theorem Dq (a b:List UInt8) (e:a.length≤140737488355328) (f:b.length≤140737488355328) (h:K (.bool (Ui a b)) w):Q1 P F.ab [S a,S b] w K:=Cz (by
 unfold Vi
 rw[S1 X8,S1 X8]
 (try simp only[↓Mr,Mr,Mb,reduceIte])
 by_cases d:b.length≤a.length
 ·have c:decide ((b.length:Int)≤a.length)=true:=by simp only[decide_eq_true_eq];omega
  simp only[↓Mr,Mr,Mb,reduceIte,c,S1 X8]
  rw[G7 (by omega) (by omega),Vb X8 (by omega) (by omega)]
  (try simp only[↓Mr,Mr,Mb,reduceIte])
  rw[show ((a.length:Int)-b.length).toNat=a.length-b.length from by omega]
  simpa [Ui,d] using h
 ·have c:decide ((b.length:Int)≤a.length)=false:=by simp only[decide_eq_false_iff_not];omega
  simp only[↓Mr,Mr,Mb,reduceIte,c]
  simpa [Ui,d] using h)
theorem Q6P (a b:List UInt8) (c:a.length≤140737488355328) (d:b.length≤140737488355328) (h:K (.bool (Ui a b)) w):Q1 P F.bK [S a,S b] w K:=Aa (by
 unfold Db
 exact Dq a b c d h)
def Dp (a b:List UInt8):List UInt8:=if Ui a b then a.take (a.length-b.length) else a
theorem Q4N {a b:List UInt8} (h:Ui a b=true):b.length≤a.length:=by
 simp only[Ui,Bool.and_eq_true,decide_eq_true_eq] at h;exact h.1
theorem Q5F (a b:List UInt8) (d:a.length≤140737488355328) (e:b.length≤140737488355328) (h:K (S (Dp a b)) w):Q1 P F.bt [S a,S b] w K:=Kz (by
 unfold Nf
 refine Sx ?_
 unfold Up
 refine Dq a b d e ?_
 cases c:Ui a b
 ·(try simp only[↓Mr,Mr,Mb,reduceIte])
  simpa [Dp,c] using h
 ·have f:=Q4N c
  simp only[↓Mr,Mr,Mb,reduceIte,S1 X8]
  rw[G7 (by omega) (by omega),T8 X8 (by omega) (by omega)]
  rw[show ((a.length:Int)-b.length).toNat=a.length-b.length from by omega]
  simpa [Dp,c] using h)
theorem Q6Z (a b:List UInt8) (d:a.length≤140737488355328) (e:b.length≤140737488355328) (h:K (.tuple #[S (Dp a b), .bool (Ui a b)]) w):Q1 P F.bI [S a,S b] w K:=Q0c (by
 unfold Ox
 refine Cy ?_
 unfold Vj
 refine Dq a b d e ?_
 cases c:Ui a b
 ·(try simp only[↓Mr,Mr,Mb,reduceIte])
  simpa [Dp,c] using h
 ·have f:=Q4N c
  simp only[↓Mr,Mr,Mb,reduceIte,S1 X8]
  rw[G7 (by omega) (by omega),T8 X8 (by omega) (by omega)]
  rw[show ((a.length:Int)-b.length).toNat=a.length-b.length from by omega]
  (try simp only[↓Mr,Mr,Mb,reduceIte])
  simpa [Dp,c] using h)
theorem Q3C (a:List UInt8):Ui a [91,93]=arr a:=rfl
theorem Q2u (a:List UInt8):Dp a [91,93]=if arr a then Kd.cutA a else a:=rfl
theorem K5 {a:List UInt8} (h:arr a=true):(Kd.cutA a).length+2=a.length:=by
 simp only[arr,Bool.and_eq_true,decide_eq_true_eq] at h
 simp only[Kd.cutA,List.length_take];omega
theorem Q3B: ∀(n m:Nat) (a:List UInt8),a.length≤n→a.length≤m→Yy n a=Yy m a
 | 0,0,a,_,_=>rfl
 | 0,m+1,a,h,_=>by
  have:a=[]:=List.eq_nil_of_length_eq_zero (by omega)
  subst this;rfl
 | n+1,0,a,_,h=>by
  have:a=[]:=List.eq_nil_of_length_eq_zero (by omega)
  subst this;rfl
 | n+1,m+1,a,b,c=>by
  simp only[Yy]
  split
  ·rename_i h
   have:=K5 h
   rw[Q3B n m (Kd.cutA a) (by omega) (by omega)]
  ·rfl
theorem Xy (a:List UInt8):base a=if arr a then ((base (Kd.cutA a)).1,(base (Kd.cutA a)).2+1) else (a,0):=by
 unfold base
 cases b:a.length with
 | zero=>
  have:a=[]:=List.eq_nil_of_length_eq_zero b
  subst this;rfl
 | succ n=>
  simp only[Yy]
  split
  ·rename_i h
   have:=K5 h
   rw[Q3B n (Kd.cutA a).length (Kd.cutA a) (by omega) (Nat.le_refl _)]
  ·rfl
theorem Q1L (a:List UInt8):(base a).1.length+2*(base a).2=a.length:=by
 have key: ∀n (a:List UInt8),(Yy n a).1.length+2*(Yy n a).2=a.length:=by
  intro n
  induction n with
  | zero=>intro a;simp[Yy]
  | succ n b=>
   intro a
   simp only[Yy]
   split
   ·rename_i h
    have:=K5 h
    have:=b (Kd.cutA a)
    simp only;omega
   ·simp
 exact key _ a
theorem Q9L (a:List UInt8) (f:a.length≤140737488355328) (h:K (.tuple #[S (base a).1,I (base a).2]) w):Q1 P F.cx [S a] w K:=Q75 (by
 unfold Q2o
 refine Wo (fun x w'=>w'=w∧ ∃(b:List UInt8) (n:Nat),x=(S b,I n)∧b.length+2*n=a.length∧base a=((base b).1,(base b).2+n)) (fun x _=>match x.1 with | .string s=>s.size | _=>0)
  ⟨rfl,a,0,rfl,by omega,rfl⟩ ?_
 rintro _ _ _ ⟨rfl,b,n,rfl,g,c⟩
 refine Q6P b _ (by omega) (by simp) ?_
 rw[Q3C]
 cases d:arr b
 ·(try simp only[↓Mr,Mr,Mb,reduceIte])
  rw[Xy b,d] at c
  simp only[Bool.false_eq_true,if_false,Nat.zero_add] at c
  rw[c] at h;exact h
 ·(try simp only[↓Mr,Mr,Mb,reduceIte])
  refine Q5F b _ (by omega) (by simp) ?_
  rw[Q2u,d]
  simp only[↓Mr,Mr,Mb,reduceIte,if_true]
  have e:=K5 d
  rw[G7 (by omega) (by omega)]
  refine ⟨⟨by first | rfl | trivial,Kd.cutA b,n+1,by simp,by omega,?_⟩,?_⟩
  ·rw[c,Xy b,d];simp;omega
  ·simp only[K1];omega)
theorem Zn (a:List UInt8) (g:a.length≤140737488355328) (h: ∀w',Below w.heap.size w w'→K (.bool (right a)) w'):Q1 P F.a0 [S a] w K:=Q67 (by
 unfold Q1f
 have f:=Q1L a
 refine Q9L a g ?_
 (try simp only[↓Mr,Mr,Mb,reduceIte])
 by_cases c:(base a).2≤3
 ·have b:decide (((base a).2:Int)≤3)=true:=by simp only[decide_eq_true_eq];omega
  simp only[↓Mr,Mr,Mb,reduceIte,b]
  refine Rv _ ?_
  cases d:plain (base a).1
  ·(try simp only[↓Mr,Mr,Mb,reduceIte])
   refine Ru _ (by omega) fun w1 e=>?_
   (try simp only[↓Mr,Mr,Mb,reduceIte])
   have:=h w1 e
   simp only[right,c,d] at this
   simpa using this
  ·(try simp only[↓Mr,Mr,Mb,reduceIte])
   have:=h w (Below.refl _ _)
   simp only[right,c,d] at this
   simpa using this
 ·have b:decide (((base a).2:Int)≤3)=false:=by simp only[decide_eq_false_iff_not];omega
  simp only[↓Mr,Mr,Mb,reduceIte,b]
  have:=h w (Below.refl _ _)
  simp only[right,c] at this
  simpa using this)
theorem Q5l (a:List UInt8) (d:a.length≤140737488355328) (h: ∀w',Below w.heap.size w w'→K (S (elem a)) w'):Q1 P F.c5 [S a] w K:=Q7a (by
 unfold Q2g
 refine Q6Z a _ d (by simp) ?_
 rw[Q3C,Q2u]
 (try simp only[↓Mr,Mr,Mb,reduceIte])
 cases b:arr a
 ·(try simp only[↓Mr,Mr,Mb,reduceIte])
  have:=h w (Below.refl _ _)
  simp only[elem,b] at this
  exact this
 ·(try simp only[↓Mr,Mr,Mb,reduceIte])
  refine Zn a d fun w1 e=>?_
  have:=h w1 e
  cases c:right a
  ·(try simp only[↓Mr,Mr,Mb,reduceIte])
   simp only[elem,b,c] at this
   exact this
  ·simp only[↓Mr,Mr,Mb,reduceIte,if_true]
   simp only[elem,b,c] at this
   exact this)
theorem X0g (a:List UInt8) (b:a.length≤140737488355328) (h: ∀w',Below w.heap.size w w'→K (I (Xt a)) w'):Q1 P F.cw [S a] w K:=Q6V (by
 unfold Q2j
 refine Q9L a b ?_
 (try simp only[↓Mr,Mr,Mb,reduceIte])
 refine Zn a b fun w1 d=>?_
 have:=h w1 d
 cases c:right a<;>(try simp only[↓Mr,Mr,Mb,reduceIte])<;>simpa [Xt,c] using this)
theorem X4B (a:List UInt8) (i:a.length≤140737488355320) (h: ∀w',Below w.heap.size w w'→K (if right a&&decide (Xt a≠3) then .tuple #[S (a++[91,93]),I 0] else .tuple #[S [],I 30]) w'):Q1 P F.cS [S a] w K:=Q9P (by
 unfold Q4t
 refine Zn a (by omega) fun w1 e=>?_
 cases d:right a
 ·(try simp only[↓Mr,Mr,Mb,reduceIte])
  have:=h w1 e
  simp only[d] at this
  simpa using this
 ·(try simp only[↓Mr,Mr,Mb,reduceIte])
  refine X0g a (by omega) fun g c=>?_
  have:=h g (e.trans (c.mono e.size))
  by_cases f:Xt a=3
  ·have b:decide ((Xt a:Int)=3)=true:=by simp only[decide_eq_true_eq];omega
   simp only[↓Mr,Mr,Mb,reduceIte,b]
   simp only[d,f] at this
   simpa using this
  ·have b:decide ((Xt a:Int)=3)=false:=by simp only[decide_eq_false_iff_not];omega
   simp only[↓Mr,Mr,Mb,reduceIte,b]
   rw[Q2e (by simp;omega)]
   simp only[d] at this
   simpa [f] using this)
end Go.Proofs.YtjdiakhipmggjaaGreatDoor

namespace Go.Proofs.YtjdiakhipmggjaaGreatDoor
open Go.Emb Go.RowKit Go.Kd
variable {w : World} {K : Value → World → Prop}
theorem Q23 (a:List UInt8) (c:UInt8) (h:K (I (Q1y c a)) w):Q1 P F.c1 [S a, .int .u8 c.toNat] w K:=by
 refine Q78 (e:=Extern.BytealgIndexByte.indexByte) Tryz.func231 (by decide) rfl (by kernel_rfl) (by kernel_rfl) ?_ h
 have g:((List.range (ByteArray.mk a.toArray).size).find? fun i=>(ByteArray.mk a.toArray)[i]! ==c)=a.findIdx? (fun b=>decide (b=c)):=by
  rw[K1]
  refine Q3b _ _ a fun i f=>?_
  have:(ByteArray.mk a.toArray)[i]! =a[i]:=by
   rw[getElem!_pos _ _ (by rw[K1];exact f)];rfl
  rw[this,Bool.eq_iff_iff];simp
 have d:((c.toNat:Int).toNat.toUInt8)=c:=by simp
 have:=run_indexByte_string (P:=P) ⟨a.toArray⟩ c.toNat w
 rw[d] at this
 refine this.trans ?_
 unfold firstIdx Q1y
 rw[g]
 cases a.findIdx? (fun b=>decide (b=c))<;>rfl
theorem X0Z (a:List UInt8) (c:UInt8) (h:K (I (Q1y c a)) w):Q1 P F.bL [S a,S [c]] w K:=Q0e (by
 unfold Oy
 simp only[S1 X8]
 have f:decide ((([c]:List UInt8).length:Int)=0)=false:=rfl
 have j:decide ((([c]:List UInt8).length:Int)=1)=true:=rfl
 simp only[Q1N,f,j]
 simp only[↓Mr,Mr,Mb,reduceIte]
 have b:C4 P T.c (S [c]) (I 0) w fun d w=>Q1 P F.ax [S a,d] w fun e w=>K e w:=by
  rw[Xu X8 (by omega) (by simp)]
  refine Cu ?_
  unfold Vl
  exact Q23 a c h
 cases g:decide ([c]=a)
 ·(try simp only[↓Mr,Mr,Mb,reduceIte])
  exact b
 ·(try simp only[↓Mr,Mr,Mb,reduceIte])
  have i:[c]=a:=by simpa using g
  have:Q1y c a=0:=by rw[←i];simp[Q1y,List.findIdx?_cons]
  rw[this] at h;exact h)
theorem X1k {c:UInt8} {a:List UInt8} {i:Nat} (h:a.findIdx? (fun b=>decide (b=c))=some i):i<a.length:=by
 have:=List.findIdx?_eq_some_iff_getElem.1 h
 exact this.1
theorem X4p (a:List UInt8) (g:a.length≤140737488355328) (h: ∀w',Below w.heap.size w w'→K (.tuple #[S (Xc a).1,S (Xc a).2.1, .bool (Xc a).2.2]) w'):Q1 P F.cB [S a,S [46]] w K:=Q56 (by
 unfold Tx
 refine Q1U ?_
 unfold Rb
 refine X0Z a 46 ?_
 rw[Tl] at h
 unfold Q1y
 cases c:a.findIdx? (fun b=>decide (b=46)) with
 | none=>
  simp only[↓Mr,Mr,Mb,reduceIte,show decide ((0:Int)≤ -1)=false from rfl]
  have:=h w (Below.refl _ _)
  rw[c] at this;exact this
 | some i=>
  have f:=X1k c
  have d:decide ((0:Int)≤(i:Int))=true:=by simp
  simp only[Q1B,d]
  simp only[↓Mr,Mr,Mb,reduceIte]
  refine Dx (Below.refl _ w) ?_
  refine X4 (S (a.take i)) (fun w1 _=>?_) ?_
  ·rw[T8 X8 (by omega) (by omega)];exact X6 (by simp)
  refine X4 (I 1) (fun w1 _=>?_) ?_
  ·rw[S1 X8];exact X6 rfl
  refine X4 (I (i+1)) ?_ ?_
  ·rintro _ w1 _ rfl
   rw[Gb,G7 (by omega) (by omega)];exact X6 rfl
  refine X4 (S (a.drop (i+1))) ?_ ?_
  ·rintro _ w1 _ rfl
   rw[Vb X8 (by omega) (by omega)];exact X6 (by simp)
  rintro _ _ _ _ w1 e rfl rfl rfl rfl
  (try simp only[↓Mr,Mr,Mb,reduceIte])
  have:=h w1 e
  rw[c] at this;exact this)
theorem X1V (a:List UInt8) (z:a.length≤140737488355328) (h: ∀w',Below w.heap.size w w'→K (if Zq a then .tuple #[S (Xc a).1,S (Xc a).2.1,I 0] else .tuple #[S [],S [],I 30]) w'):Q1 P F.cI [S a] w K:=Q5A (by
 unfold Q16
 refine X4p a z fun w1 e=>?_
 have s:(Xc a).1.length≤a.length∧(Xc a).2.1.length≤a.length:=by
  rw[Tl]
  cases a.findIdx? (fun b=>decide (b=46))<;>simp[Q3p]
  omega
 generalize A:(Xc a).1=p at h s
 generalize y:(Xc a).2.1=q at h s
 have l:Zq a=((Xc a).2.2&&M9 p&&D7 q):=by rw[Zq,A,y]
 cases n:(Xc a).2.2
 ·simp only[↓Mr,Mr,Mb,reduceIte]
  have:=h w1 e
  rw[l,n] at this;simpa using this
 ·simp only[↓Mr,Mr,Mb,reduceIte]
  refine Ru p (by omega) fun v g=>?_
  have d:=e.trans (g.mono e.size)
  cases o:M9 p
  ·(try simp only[↓Mr,Mr,Mb,reduceIte])
   have:=h v d
   rw[l,n,o] at this;simpa using this
  ·(try simp only[↓Mr,Mr,Mb,reduceIte])
   refine Q6p q (by omega) fun u i=>?_
   have f:=d.trans (i.mono d.size)
   have:=h u f
   rw[l,n,o] at this
   cases m:name q
   ·(try simp only[↓Mr,Mr,Mb,reduceIte])
    have k:D7 q=false:=by cases q with | nil=>rfl | cons c r=>simp[D7,m]
    rw[k] at this;simpa using this
   ·(try simp only[↓Mr,Mr,Mb,reduceIte])
    cases q with
    | nil=>simp[name] at m
    | cons c r=>
     rw[Xu X8 (by omega) (by simp)]
     have j:(c::r)[(0:Int).toNat]'(by simp)=c:=rfl
     (try simp only[↓Mr,Mr,Mb,reduceIte])
     rw[j,Ke Q3X Q7W,w32 (by omega) (by have:=c.toNat_lt;omega)]
     refine Q7H _ ?_
     have k:D7 (c::r)=Qd c.toNat:=by simp[D7,m]
     rw[k] at this
     cases t:Qd c.toNat<;>(try simp only[↓Mr,Mr,Mb,reduceIte])<;>rw[t] at this<;>simpa using this)
theorem Ee (a:List UInt8) (h:K (.bool (plain a)) w):Q1 P F.y [S a] w K:=Pq (by
 unfold Nn
 refine V0 ?_
 (try simp only[↓Mr,Mr,Mb,reduceIte])
 cases b:decide (a=[105,110,116])
 ·cases c:decide (a=[98,111,111,108])
  ·cases d:decide (a=[116,101,120,116])<;>(try simp only[↓Mr,Mr,Mb,reduceIte])<;>intro _<;>(try simp only[↓Mr,Mr,Mb,reduceIte])<;>simpa [plain,b,c,d] using h
  ·(try simp only[↓Mr,Mr,Mb,reduceIte])
   intro _
   (try simp only[↓Mr,Mr,Mb,reduceIte])
   simpa [plain,b,c] using h
 ·(try simp only[↓Mr,Mr,Mb,reduceIte])
  intro _
  (try simp only[↓Mr,Mr,Mb,reduceIte])
  simpa [plain,b] using h)
def X1q (a:List UInt8) (w:World) (x:Value) (w':World):Prop:=
 w=w'∧ ∃i:Nat,x=I i∧i≤a.length∧(0<i→(a.head?.map fun c=>I0 c.toNat)=some false)∧(a.take i).all (fun b=>C2 b.toNat)=true
def Q5e (a:List UInt8) (x:Value):Nat:=match x with | .int _ i=>a.length-i.toNat | _=>0
theorem Q6l (a:List UInt8) (N:a.length≤140737488355328) (h:K (.bool (name a)) w):Q1 P F.aY [S a] w K:=Ac (by
 unfold Dh
 refine Wo (X1q a w) (fun x _=>Q5e a x) ⟨rfl,0,rfl,by omega,by omega,by simp⟩ ?_
 rintro _ _ _ ⟨rfl,i,rfl,O,L,j⟩
 rw[S1 X8]
 (try simp only[↓Mr,Mr,Mb,reduceIte])
 by_cases l:i<a.length
 ·have D:decide ((i:Int)<a.length)=true:=by simp only[decide_eq_true_eq];omega
  simp only[D,↓Mr,Mr,Mb,reduceIte]
  have d: ∀B:Value→World→Prop,C4 P T.c (S a) (I i) w B=B (.int .u8 (a[i]'l).toNat) w:=fun B=>by
   rw[Xu X8 (by omega) (by simpa using l)];simp
  generalize q:a[i]=c at d
  have e:C2 c.toNat=false∨(i=0∧I0 c.toNat=true)→name a=false:=by
   intro v
   cases a with
   | nil=>rfl
   | cons c0 r=>
    simp only[name]
    rcases v with v | ⟨rfl,v⟩
    ·have:(c0::r).all (fun b=>C2 b.toNat)=false:=by
      rw[List.all_eq_false]
      exact ⟨c,by rw[←q];exact List.getElem_mem _,by simp[v]⟩
     rw[this];simp
    ·simp only[List.getElem_cons_zero] at q
     rw[q,v];simp
  have f:C2 c.toNat=true→(i=0→I0 c.toNat=false)→X1q a w (I (IntKind.i64.wrap ((i:Int)+1))) w∧Q5e a (I (IntKind.i64.wrap ((i:Int)+1)))<Q5e a (I i):=by
   intro C z
   rw[G7 (by omega) (by omega)]
   refine ⟨⟨rfl,i+1,by simp,by omega,fun _=>?_,?_⟩,by simp only[Q5e];omega⟩
   ·by_cases p:0<i
    ·exact L p
    ·obtain rfl:i=0:=by omega
     cases a with
     | nil=>simp at l
     | cons c0 r=>simp only[List.getElem_cons_zero] at q;subst q;simp[z rfl]
   ·rw[List.take_add_one,List.getElem?_eq_getElem l,q]
    simp[j,C]
  have J:=c.toNat_lt
  have u:decide ((i:Int)=0)=decide (i=0):=by rw[Bool.eq_iff_iff];simp
  by_cases o:97≤(c.toNat:Int)
  ·by_cases A:(c.toNat:Int)≤122
   ·simp only[d,decide_eq_true o,decide_eq_true A,↓Mr,Mr,Mb,reduceIte]
    exact f (by simp[C2,Qd,o,A]) (fun _=>by simp[I0];omega)
   ·have n:(65:Int)≤c.toNat:=by omega
    have y: ¬(c.toNat:Int)≤90:=by omega
    have g: ¬(c.toNat:Int)<48:=by omega
    have k:(57:Int)<c.toNat:=by omega
    simp only[d,decide_eq_true o,decide_eq_false A,decide_eq_true n,decide_eq_false y,decide_eq_false g,decide_eq_true k,u,↓Mr,Mr,Mb,reduceIte]
    have m:=e (.inl (by simp[C2,Xm,Qd,I0];omega))
    rw[m] at h
    cases decide (i=0)<;>(try simp only[d,decide_eq_false g,decide_eq_true k,↓Mr,Mr,Mb,reduceIte])<;>exact h
  ·by_cases n:(65:Int)≤c.toNat
   ·by_cases y:(c.toNat:Int)≤90
    ·simp only[d,decide_eq_false o,decide_eq_true n,decide_eq_true y,↓Mr,Mr,Mb,reduceIte]
     exact f (by simp[C2,Xm,n,y]) (fun _=>by simp[I0];omega)
    ·have g: ¬(c.toNat:Int)<48:=by omega
     have k:(57:Int)<c.toNat:=by omega
     simp only[d,decide_eq_false o,decide_eq_true n,decide_eq_false y,decide_eq_false g,decide_eq_true k,u,↓Mr,Mr,Mb,reduceIte]
     have m:=e (.inl (by simp[C2,Xm,Qd,I0];omega))
     rw[m] at h
     cases decide (i=0)<;>(try simp only[d,decide_eq_false g,decide_eq_true k,↓Mr,Mr,Mb,reduceIte])<;>exact h
   ·by_cases g:(c.toNat:Int)<48
    ·simp only[d,decide_eq_false o,decide_eq_false n,decide_eq_true g,u,↓Mr,Mr,Mb,reduceIte]
     have m:=e (.inl (by simp[C2,Xm,Qd,I0];omega))
     rw[m] at h
     cases decide (i=0)<;>(try simp only[d,decide_eq_true g,↓Mr,Mr,Mb,reduceIte])<;>exact h
    ·by_cases k:(57:Int)<c.toNat
     ·simp only[d,decide_eq_false o,decide_eq_false n,decide_eq_false g,decide_eq_true k,u,↓Mr,Mr,Mb,reduceIte]
      have m:=e (.inl (by simp[C2,Xm,Qd,I0];omega))
      rw[m] at h
      cases decide (i=0)<;>(try simp only[d,decide_eq_false g,decide_eq_true k,↓Mr,Mr,Mb,reduceIte])<;>exact h
     ·have s:I0 c.toNat=true:=by simp[I0];omega
      simp only[d,decide_eq_false o,decide_eq_false n,decide_eq_false g,decide_eq_false k,u,↓Mr,Mr,Mb,reduceIte]
      by_cases p:i=0
      ·have m:=e (.inr ⟨p,s⟩)
       rw[m] at h
       simp only[decide_eq_true p,d,decide_eq_false g,decide_eq_false k,↓Mr,Mr,Mb,reduceIte]
       exact h
      ·simp only[decide_eq_false p,d,decide_eq_false g,decide_eq_false k,↓Mr,Mr,Mb,reduceIte]
       exact f (by simp[C2,s]) (fun h=>absurd h p)
 ·have D:decide ((i:Int)<a.length)=false:=by simp only[decide_eq_false_iff_not];omega
  obtain rfl:i=a.length:=by omega
  simp only[D,↓Mr,Mr,Mb,reduceIte]
  rw[S1 X8]
  cases a with
  | nil=>
   have E:decide ((1:Int)≤(([]:List UInt8).length:Int))=false:=rfl
   simp only[E,↓Mr,Mr,Mb,reduceIte];exact h
  | cons c r=>
   have E:decide ((1:Int)≤((c::r).length:Int))=true:=by simp only[decide_eq_true_eq,List.length_cons];omega
   have t:=L (by simp)
   simp only[List.head?_cons,Option.map_some,Option.some.injEq] at t
   simp only[List.take_length] at j
   have H:name (c::r)=decide ((c::r).length≤32):=by simp only[name,t,j];simp
   have M:decide (((c::r).length:Int)≤32)=decide ((c::r).length≤32):=by rw[Bool.eq_iff_iff];simp only[decide_eq_true_eq];omega
   simp only[E,S1 X8,M,↓Mr,Mr,Mb,reduceIte]
   rw[←H];exact h)
theorem Te {c:UInt8} {r:List UInt8} (h:name (c::r)=true):C2 c.toNat=true∧I0 c.toNat=false:=by
 simp only[name,Bool.and_eq_true,List.all_cons,Bool.not_eq_true'] at h
 exact ⟨h.2.1,h.1.2⟩
theorem Yg (a:List UInt8) (g:a.length≤140737488355328) (h:K (.bool (M9 a)) w):Q1 P F.d [S a] w K:=Tk (by
 unfold Oa
 refine Q6l a g ?_
 cases a with
 | nil=>simp only[name,↓Mr,Mr,Mb,reduceIte];exact h
 | cons c r=>
  cases b:name (c::r)
  ·(try simp only[↓Mr,Mr,Mb,reduceIte])
   simpa [M9,b] using h
  ·(try simp only[↓Mr,Mr,Mb,reduceIte])
   rw[Xu X8 (by omega) (by simp)]
   have d:(c::r)[(0:Int).toNat]'(by simp)=c:=rfl
   (try simp only[↓Mr,Mr,Mb,reduceIte])
   rw[d]
   obtain ⟨e,f⟩:=Te b
   have:decide ((c.toNat:Int)≤90)=Xm c.toNat:=by
    simp only[C2,Xm,Qd,I0,Bool.or_eq_true,Bool.and_eq_true,Bool.and_eq_false_iff,decide_eq_true_eq,decide_eq_false_iff_not] at e f⊢
    rw[Bool.eq_iff_iff];simp only[Bool.and_eq_true,decide_eq_true_eq];omega
   rw[this]
   simpa [M9,b] using h)
theorem Tm (a:List UInt8) (g:a.length≤140737488355328) (h:K (.bool (D7 a)) w):Q1 P F.u [S a] w K:=Fv (by
 unfold Lx
 refine Q6l a g ?_
 cases a with
 | nil=>simp only[name,↓Mr,Mr,Mb,reduceIte];exact h
 | cons c r=>
  cases b:name (c::r)
  ·(try simp only[↓Mr,Mr,Mb,reduceIte])
   simpa [D7,b] using h
  ·(try simp only[↓Mr,Mr,Mb,reduceIte])
   rw[Xu X8 (by omega) (by simp)]
   have d:(c::r)[(0:Int).toNat]'(by simp)=c:=rfl
   (try simp only[↓Mr,Mr,Mb,reduceIte])
   rw[d]
   obtain ⟨e,f⟩:=Te b
   have:decide ((97:Int)≤c.toNat)=Qd c.toNat:=by
    simp only[C2,Xm,Qd,I0,Bool.or_eq_true,Bool.and_eq_true,Bool.and_eq_false_iff,decide_eq_true_eq,decide_eq_false_iff_not] at e f⊢
    rw[Bool.eq_iff_iff];simp only[Bool.and_eq_true,decide_eq_true_eq];omega
   rw[this]
   simpa [D7,b] using h)
def X4g (a:List UInt8) (w:World) (x:Value×Value) (w':World):Prop:=
 w=w'∧ ∃(b:List UInt8) (n:Nat),x=(S b,I n)∧b.length+2*n=a.length∧(base a).2=(base b).2+n
def X1r (x:Value×Value):Nat:=match x.1 with | .string s=>s.size | _=>0
theorem Cm (a:List UInt8) (j:a.length≤140737488355328) (h:K (I (base a).2) w):Q1 P F.a2 [S a] w K:=Tz (by
 unfold Of
 refine Wo (X4g a w) (fun x _=>X1r x) ⟨rfl,a,0,rfl,by omega,rfl⟩ ?_
 rintro _ _ _ ⟨rfl,b,n,rfl,k,c⟩
 rw[S1 X8]
 (try simp only[↓Mr,Mr,Mb,reduceIte])
 by_cases f:2≤b.length
 ·have e:decide ((2:Int)≤b.length)=true:=by simp only[decide_eq_true_eq];omega
  simp only[e,S1 X8,↓Mr,Mr,Mb,reduceIte]
  rw[G7 (by omega) (by omega),Vb X8 (by omega) (by omega)]
  rw[show ((b.length:Int)-2).toNat=b.length-2 from by omega]
  have i:decide (b.drop (b.length-2)=[91,93])=arr b:=by simp[arr,f]
  simp only[i,↓Mr,Mr,Mb,reduceIte]
  cases d:arr b
  ·(try simp only[↓Mr,Mr,Mb,reduceIte])
   rw[Xy b,d] at c
   simp only[Bool.false_eq_true,if_false,Nat.zero_add] at c
   rw[c] at h;exact h
  ·(try simp only[S1 X8,↓Mr,Mr,Mb,reduceIte])
   rw[T8 X8 (by omega) (by omega)]
   rw[show ((b.length:Int)-2).toNat=b.length-2 from by omega]
   have g:=K5 d
   refine ⟨⟨rfl,Kd.cutA b,n+1,?_,by omega,?_⟩,?_⟩
   ·simp only[Kd.cutA,Prod.mk.injEq,true_and]
    first | rfl | (rw[G7 (by omega) (by omega)];rfl)
   ·rw[c,Xy b,d];simp;omega
   ·simp only[X1r,K1,List.length_take];omega
 ·have e:decide ((2:Int)≤b.length)=false:=by simp only[decide_eq_false_iff_not];omega
  simp only[e,↓Mr,Mr,Mb,reduceIte]
  have d:arr b=false:=by simp[arr,f]
  rw[Xy b,d] at c
  simp only[Bool.false_eq_true,if_false,Nat.zero_add] at c
  rw[c] at h;exact h)
theorem Q4y (a:List UInt8):a.take (a.length-2*(base a).2)=(base a).1:=by
 have key: ∀n (a:List UInt8),a.take (a.length-2*(Yy n a).2)=(Yy n a).1:=by
  intro n
  induction n with
  | zero=>intro a;simp[Yy]
  | succ n b=>
   intro a
   simp only[Yy]
   split
   ·rename_i h
    have c:=K5 h
    simp only
    rw[←b (Kd.cutA a)]
    rw[Kd.cutA,List.take_take,List.length_take]
    congr 1
    omega
   ·simp
 exact key _ a
theorem Us (a:List UInt8) (f:a.length≤140737488355328) (h:K (.bool (right a)) w):Q1 P F.e [S a] w K:=Kc (by
 unfold Nz
 have e:=Q1L a
 refine Cm a f ?_
 rw[S1 X8]
 (try simp only[↓Mr,Mr,Mb,reduceIte])
 rw[G7 (n:=2*((base a).2:Int)) (by omega) (by omega),G7 (by omega) (by omega),T8 X8 (by omega) (by omega)]
 rw[show ((a.length:Int)-2*((base a).2:Int)).toNat=a.length-2*(base a).2 from by omega,Q4y]
 (try simp only[↓Mr,Mr,Mb,reduceIte])
 by_cases c:(base a).2≤3
 ·have b:decide (((base a).2:Int)≤3)=true:=by simp only[decide_eq_true_eq];omega
  simp only[b,↓Mr,Mr,Mb,reduceIte]
  refine Ee _ ?_
  cases d:plain (base a).1
  ·(try simp only[↓Mr,Mr,Mb,reduceIte])
   refine Yg _ (by omega) ?_
   (try simp only[↓Mr,Mr,Mb,reduceIte])
   simpa [right,c,d] using h
  ·(try simp only[↓Mr,Mr,Mb,reduceIte])
   simpa [right,c,d] using h
 ·have b:decide (((base a).2:Int)≤3)=false:=by simp only[decide_eq_false_iff_not];omega
  simp only[b,↓Mr,Mr,Mb,reduceIte]
  simpa [right,c] using h)
theorem X1X {a:List UInt8} (h:arr a=true):2≤a.length:=by simp only[arr,Bool.and_eq_true,decide_eq_true_eq] at h;exact h.1
theorem Q4u {a:List UInt8} (h:arr a=true) (c:right a=true):3≤a.length:=by
 have d:=X1X h
 refine Nat.lt_of_le_of_ne d fun e=>?_
 have f:=K5 h
 have b:Kd.cutA a=[]:=List.eq_nil_of_length_eq_zero (by omega)
 simp only[right,Xy a,h,if_true,b] at c
 revert c;decide
theorem X0D (a:List UInt8) (e:a.length≤140737488355328) (h:K (S (elem a)) w):Q1 P F.bD [S a] w K:=Au (by
 unfold Ot
 rw[S1 X8]
 (try simp only[↓Mr,Mr,Mb,reduceIte])
 by_cases j:a.length<3
 ·have b:decide ((a.length:Int)<3)=true:=by simp only[decide_eq_true_eq];omega
  simp only[b,↓Mr,Mr,Mb,reduceIte]
  have i:elem a=[]:=by
   simp only[elem]
   split
   ·rename_i hh
    simp only[Bool.and_eq_true] at hh
    have:=Q4u hh.1 hh.2
    omega
   ·rfl
  rw[i] at h;exact h
 ·have b:decide ((a.length:Int)<3)=false:=by simp only[decide_eq_false_iff_not];omega
  simp only[b,↓Mr,Mr,Mb,reduceIte]
  rw[G7 (by omega) (by omega),Vb X8 (by omega) (by omega)]
  rw[show ((a.length:Int)-2).toNat=a.length-2 from by omega]
  have f:decide (a.drop (a.length-2)=[91,93])=arr a:=by simp[arr];omega
  (try simp only[↓Mr,Mr,Mb,reduceIte])
  (try simp only[f,↓Mr,Mr,Mb,reduceIte])
  cases c:arr a
  ·(try simp only[↓Mr,Mr,Mb,reduceIte])
   simpa [elem,c] using h
  ·(try simp only[↓Mr,Mr,Mb,reduceIte])
   refine Cm a e ?_
   (try simp only[↓Mr,Mr,Mb,reduceIte])
   by_cases g:(base a).2≤3
   ·have b:decide ((3:Int)<((base a).2:Int))=false:=by simp only[decide_eq_false_iff_not];omega
    simp only[b,↓Mr,Mr,Mb,reduceIte]
    refine Us a e ?_
    cases d:right a
    ·(try simp only[↓Mr,Mr,Mb,reduceIte])
     simpa [elem,c,d] using h
    ·(try simp only[↓Mr,Mr,Mb,reduceIte])
     try rw[G7 (by omega) (by omega)]
     rw[T8 X8 (by omega) (by omega)]
     rw[show ((a.length:Int)-2).toNat=a.length-2 from by omega]
     simpa [elem,c,d,Kd.cutA] using h
   ·have b:decide ((3:Int)<((base a).2:Int))=true:=by simp only[decide_eq_true_eq];omega
    simp only[b,↓Mr,Mr,Mb,reduceIte]
    have d:right a=false:=by simp[right,g]
    simpa [elem,c,d] using h)
def X3j (a:List UInt8) (w:World) (x:Value) (w':World):Prop:=
 w=w'∧ ∃n:Nat,x=I n∧n≤a.length∧(∀i,(h:i<n)→(b:i<a.length)→a[i]≠46)
def Q9v (a:List UInt8) (x:Value):Nat:=match x with | .int _ n=>(a.length-n).toNat | _=>0
theorem Q4D (a:List UInt8) (L:a.length≤140737488355328) (h: ∀w',Below w.heap.size w w'→K (if (Xc a).2.2 then .tuple #[S (Xc a).1,S (Xc a).2.1, .bool (Zq a)] else .tuple #[S [],S [], .bool false]) w'):Q1 P F.bw [S a] w K:=Td (by
 unfold Nw
 refine Wo (X3j a w) (fun x _=>Q9v a x) ⟨rfl,0,rfl,by omega,by omega⟩ ?_
 rintro _ _ _ ⟨rfl,n,rfl,M,s⟩
 rw[S1 X8]
 (try simp only[↓Mr,Mr,Mb,reduceIte])
 by_cases H:n<a.length
 ·have p:decide ((n:Int)<a.length)=true:=by simp only[decide_eq_true_eq];omega
  simp only[p,↓Mr,Mr,Mb,reduceIte]
  rw[Xu X8 (by omega) (by omega)]
  (try simp only[↓Mr,Mr,Mb,reduceIte])
  simp only[Int.toNat_natCast]
  have D:decide (((a[n]).toNat:Int)=46)=decide (a[n]=46):=by
   rw[Bool.eq_iff_iff];simp only[decide_eq_true_eq]
   constructor
   ·intro e;exact UInt8.toNat_inj.1 (by have:(46:UInt8).toNat=46:=rfl;omega)
   ·intro e;rw[e];rfl
  rw[D]
  by_cases l:a[n]=46
  ·simp only[l,decide_true,↓Mr,Mr,Mb,reduceIte]
   have m:Xc a=(a.take n,a.drop (n+1),true):=by
    have:a.findIdx? (fun b=>decide (b=46))=some n:=by
     rw[List.findIdx?_eq_some_iff_getElem]
     exact ⟨H,by simpa using l,fun j J=>by simpa using s j J (by omega)⟩
    rw[Tl,this];rfl
   have y:Zq a=(M9 (a.take n)&&D7 (a.drop (n+1))):=by simp[Zq,m]
   rw[m,y] at h
   have u:((n:Int)+1).toNat=n+1:=by omega
   have v:(a.take n).length≤140737488355328:=by simp only[List.length_take];omega
   have r:(a.drop (n+1)).length≤140737488355328:=by simp only[List.length_drop];omega
   have z: ∀{w:World} {K:Value→World→Prop},K (S (a.take n)) w→S4 P T.c (S a) none (some (I n)) none w K:=by
    intro w K h
    rw[T8 X8 (by omega) (by omega),show ((n:Int)).toNat=n from by omega];exact h
   have B: ∀{w:World} {K:Value→World→Prop},K (S (a.drop (n+1))) w→S4 P T.c (S a) (some (I (n+1))) none none w K:=by
    intro w K h
    rw[Vb X8 (by omega) (by omega),u];exact h
   refine Dx (Below.refl _ _) ?_
   refine X4 (S (a.take n)) (fun w c=>z (X6 rfl)) ?_
   refine X4 (I (n+1)) (fun w c=>X6 (by rw[G7 (by omega) (by omega)])) ?_
   refine X4 (S (a.drop (n+1))) (fun t w c e=>by rw[e];exact B (X6 rfl)) ?_
   refine X4 (S (a.take n)) (fun w c=>z (X6 rfl)) ?_
   refine X4 (.bool (M9 (a.take n))) (fun t w c e=>by rw[e];exact Yg _ v (X6 rfl)) ?_
   cases k:M9 (a.take n)
   ·refine X4 undef (fun t w c e=>by rw[e,E1];exact X6 rfl) ?_
    refine X4 undef (fun t w c e=>by rw[e,E1];exact X6 rfl) ?_
    refine X4 undef (fun t f w c e d=>by rw[e,E1];exact X6 rfl) ?_
    refine X4 undef (fun t f q w c e d g=>by rw[e,E1];exact X6 rfl) ?_
    refine X4 undef (fun t f w c e d=>by rw[e,E1];exact X6 rfl) ?_
    refine X4 (.bool false) (fun t f w c e d=>by rw[e,L1];exact X6 rfl) ?_
    rintro _ _ _ _ _ _ _ _ _ _ _ w1 c rfl rfl rfl rfl rfl rfl rfl rfl rfl rfl rfl
    rw[k] at h
    exact h w1 (by simpa using c)
   ·refine X4 (S a) (fun t w c e=>by rw[e,W5];exact X6 rfl) ?_
    refine X4 (I n) (fun t w c e=>by rw[e,W5];exact X6 rfl) ?_
    refine X4 (I (n+1)) (fun t f w c e d=>by rw[e,d,W5];simp only[↓Mr,Mr,Mb,reduceIte];exact X6 (by rw[G7 (by omega) (by omega)])) ?_
    refine X4 (S (a.drop (n+1))) (fun t f q w c e d g=>by rw[e,d,g,W5];exact B (X6 rfl)) ?_
    refine X4 (.bool (D7 (a.drop (n+1)))) (fun t f w c e d=>by rw[e,d,W5];exact Tm _ r (X6 rfl)) ?_
    refine X4 (.bool (D7 (a.drop (n+1)))) (fun t f w c e d=>by rw[e,d,M8];exact X6 rfl) ?_
    rintro _ _ _ _ _ _ _ _ _ _ _ w1 c rfl rfl rfl rfl rfl rfl rfl rfl rfl rfl rfl
    rw[k] at h
    exact h w1 (by simpa using c)
  ·simp only[l,decide_false,↓Mr,Mr,Mb,reduceIte]
   rw[G7 (by omega) (by omega)]
   refine ⟨⟨rfl,n+1,rfl,by omega,fun i A C=>?_⟩,?_⟩
   ·by_cases o:i=n
    ·subst o;exact l
    ·exact s i (by omega) C
   ·simp only[Q9v];omega
 ·have p:decide ((n:Int)<a.length)=false:=by simp only[decide_eq_false_iff_not];omega
  simp only[p,↓Mr,Mr,Mb,reduceIte]
  have m:(Xc a).2.2=false∧(Xc a).1=a∧(Xc a).2.1=[]:=by
   have:a.findIdx? (fun b=>decide (b=46))=none:=by
    rw[List.findIdx?_eq_none_iff]
    intro x E
    obtain ⟨i,A,rfl⟩:=List.getElem_of_mem E
    simpa using s i (by omega) A
   rw[Tl,this];exact ⟨rfl,rfl,rfl⟩
  rw[m.1] at h
  exact h w (Below.refl _ _))
end Go.Proofs.YtjdiakhipmggjaaGreatDoor

namespace Go.Emb
open Go.RowKit
class TZ (P : Program) (t : TypeId) (sz b : outParam Nat) (z : outParam Value) : Prop where
  h : (P.info? t).map (fun i => (i.size, i.bytes, i.zero)) = some (sz, b, some z)
def X0f:Option TypeDesc→Bool
 | some (.struct _)=>true
 | some (.array _ _)=>true
 | none=>true
 | _=>false
class TG (P : Program) (t : TypeId) (g : outParam Bool) : Prop where
  h : (X0f (P.underlying t), (P.underlying t).isSome) = (g, true)
class TS (P : Program) (t : TypeId) (e : outParam TypeId) : Prop where
  h : P.underlying t = some (.slice e)
class TA (P : Program) (t : TypeId) (n : outParam Nat) (e : outParam TypeId) : Prop where
  h : P.underlying t = some (.array n e)
class TM (P : Program) (t : TypeId) (k e : outParam TypeId) : Prop where
  h : P.underlying t = some (.map k e)
def Q4g (d:Option TypeDesc) (k:Nat):Option (Nat×TypeId):=match d with
 | some (.struct a)=>(a[k]?).map fun f=>(f.offset,f.type)
 | _=>none
class TF (P : Program) (t : TypeId) (k : Nat) (off : outParam Nat) (ft : outParam TypeId) : Prop where
  h : Q4g (P.underlying t) k = some (off, ft)
variable {P : Program} {w w0 w1 w' w'' : World} {K : Value → World → Prop}
theorem TZ.info {t:TypeId} {sz b:Nat} {z:Value} (h:TZ P t sz b z): ∃i,P.info? t=some i∧i.size=sz∧i.bytes=b∧i.zero=some z:=by
 obtain ⟨i,a,e⟩:=Option.map_eq_some_iff.1 h.h
 simp only[Prod.mk.injEq] at e
 exact ⟨i,a,e.1,e.2.1,e.2.2⟩
theorem L3 {t:TypeId} {sz b:Nat} {z:Value} (h:TZ P t sz b z) (w:World):(sizeOf t).run P w= .ok sz w:=by
 obtain ⟨i,a,rfl,_⟩:=h.info
 simp[sizeOf,typeInfo,a]
theorem Zl {t:TypeId} {sz b:Nat} {z:Value} (h:TZ P t sz b z) (w:World):(zeroValue t).run P w= .ok z w:=by
 obtain ⟨i,a,_,_,c⟩:=h.info
 simp[zeroValue,typeInfo,a,c]
theorem Ya {t:TypeId} {g:Bool} (h:TG P t g) (w:World):(isAgg t).run P w= .ok g w:=by
 have hh:=h.h
 simp only[Prod.mk.injEq] at hh
 obtain ⟨c,b⟩:=hh
 cases a:P.underlying t with
 | none=>rw[a] at b;cases b
 | some d=>
  rw[a] at c
  have:=run_underlying (P:=P) (w:=w) a
  simp only[isAgg,Sem.run_bind,this,Result.andThen_ok]
  cases d<;>simp_all [X0f]
theorem Q3R (a:Addr) (i j:Nat):(a.add i).add j=a.add (i+j):=by
 unfold Addr.add
 by_cases b:i=0
 ·simp[b]
 ·by_cases c:j=0
  ·simp[c]
  ·simp[b,c,Nat.add_assoc]
theorem add_zero (a:Addr):a.add 0=a:=by simp[Addr.add]
theorem S9 (a:Addr) (i:Nat):(a.add i).block=a.block:=by unfold Addr.add;split<;>rfl
theorem Qh (a:Addr) (i:Nat):(a.add i).off=a.off+i:=by unfold Addr.add;split<;>simp_all
theorem I8 {a:Addr} (h:a.spot=none) (i:Nat):(a.add i).spot=none:=by unfold Addr.add;split<;>simp_all
abbrev Q6:=Nat→Option Obj
def X3 (w:World) (σ:Q6):Prop:= ∀b o,σ b=some o→w.heap[b]? =some o
structure Stp (w : World) (σ : Q6) (w' : World) (σ' : Q6) : Prop where
  bel : Below w.heap.size w w'
  sat : X3 w' σ'
  le : ∀ b o, σ b = some o → σ' b = some o
  old : ∀ b, b < w.heap.size → σ' b = σ b
theorem X3.lt {σ:Q6} (h:X3 w σ) {b:Nat} {o:Obj} (a:σ b=some o):b<w.heap.size:=(Array.getElem?_eq_some_iff.1 (h b o a)).1
theorem X3.below {σ:Q6} (h:X3 w σ) (a:Below w.heap.size w w'):X3 w' σ:=fun b o e=>(a.block b (h.lt e)).trans (h b o e)
theorem Stp.refl {σ:Q6} (h:X3 w σ):Stp w σ w σ:=⟨Below.refl _ _,h,fun _ _ e=>e,fun _ _=>rfl⟩
theorem Stp.trans {σ0 σ1 a:Q6} (h:Stp w σ0 w' σ1) (k:Stp w' σ1 w'' a):Stp w σ0 w'' a:=
 ⟨h.bel.trans (k.bel.mono h.bel.size),k.sat,fun b o e=>k.le b o (h.le b o e),fun b c=>(k.old b (Nat.lt_of_lt_of_le c h.bel.size)).trans (h.old b c)⟩
theorem Stp.of_below {σ:Q6} (h:X3 w σ) (a:Below w.heap.size w w'):Stp w σ w' σ:=⟨a,h.below a,fun _ _ e=>e,fun _ _=>rfl⟩
def Q6.put (σ:Q6) (b:Nat) (o:Obj):Q6:=fun k=>if k=b then some o else σ k
theorem X3.none {σ:Q6} (h:X3 w σ) {b:Nat} (a:w.heap.size≤b):σ b=none:=by
 cases e:σ b with
 | none=>rfl
 | some o=>have:=h.lt e;omega
theorem Stp.alloc {σ:Q6} (h:X3 w σ) (o:Obj):Stp w σ (w.alloc o) (σ.put w.heap.size o):=by
 refine ⟨(Below.refl _ _).alloc (Nat.le_refl _) o,?_,?_,?_⟩
 ·intro b p e
  by_cases a:b=w.heap.size
  ·subst a
   simp only[Q6.put,if_true] at e
   cases e
   exact heap_alloc_new w o
  ·simp only[Q6.put,if_neg a] at e
   rw[Below.heap_alloc w o b (h.lt e)];exact h b p e
 ·intro b p e
  have:=h.lt e
  simp only[Q6.put];rw[if_neg (by omega)];exact e
 ·intro b a
  simp only[Q6.put];rw[if_neg (by omega)]
theorem Stp.own {σ:Q6} (h:X3 w σ) (o:Obj):Stp w σ (w.alloc o) σ:=Stp.of_below h ((Below.refl _ _).alloc (Nat.le_refl _) o)
def Z6 (σ:Q6) (a:Addr) (cs:List Value):Prop:=a.spot=none∧ ∃arr e b,σ a.block=some (.cells arr e b)∧ ∀i v,cs[i]? =some v→arr[a.off+i]? =some v
theorem Z6.up {σ σ':Q6} {a:Addr} {cs:List Value} (h:Z6 σ a cs) (f:Stp w σ w' σ'):Z6 σ' a cs:=by
 obtain ⟨b,arr,e,d,g,c⟩:=h
 exact ⟨b,arr,e,d,f.le _ _ g,c⟩
theorem Z6.cell {σ:Q6} {a:Addr} {cs:List Value} (h:Z6 σ a cs) (d:X3 w σ) {i:Nat} {v:Value} (g:cs[i]? =some v):w.cell? (a.add i)=some v:=by
 obtain ⟨b,arr,e,j,f,c⟩:=h
 have:=d _ _ f
 unfold World.cell?
 rw[S9,this,Qh,I8 b]
 exact c i v g
def Y2 (σ:Q6) (w:World) (b:Nat) (cs:List Value):Prop:=σ b=none∧ ∃e,w.heap[b]? =some (.cells cs.toArray e (0,0))
theorem Y2.lt {σ:Q6} {b:Nat} {cs:List Value} (h:Y2 σ w b cs):b<w.heap.size:=by
 obtain ⟨_,e,h⟩:=h
 exact (Array.getElem?_eq_some_iff.1 h).1
theorem Y2.up {σ σ':Q6} {b:Nat} {cs:List Value} (h:Y2 σ w b cs) (c:Stp w σ w' σ'):Y2 σ' w' b cs:=by
 have a:=h.lt
 obtain ⟨d,e,f⟩:=h
 exact ⟨(c.old b a).trans d,e,(c.bel.block b a).trans f⟩
theorem Y2.cell {σ:Q6} {b:Nat} {cs:List Value} (h:Y2 σ w b cs) {i:Nat} {v:Value} (c:cs[i]? =some v):w.cell? ((⟨b,0,none⟩:Addr).add i)=some v:=by
 obtain ⟨_,e,a⟩:=h
 unfold World.cell?
 rw[S9,Qh,I8 rfl]
 simp only[a]
 simpa using c
theorem Y2.keep {σ σ0:Q6} {b:Nat} {cs:List Value} (h:Y2 σ w b cs) (d:Stp w0 σ0 w σ) (m:w0.heap.size≤b): ∃σ',Stp w0 σ0 w σ'∧Z6 σ' ⟨b,0,none⟩ cs∧(∀k o,σ k=some o→σ' k=some o)∧(∀k,k≠b→σ' k=σ k):=by
 obtain ⟨g,e,l⟩:=h
 refine ⟨σ.put b (.cells cs.toArray e (0,0)),⟨d.bel,?_,?_,?_⟩,⟨rfl,cs.toArray,e,(0,0),by simp[Q6.put],?_⟩,?_,?_⟩
 ·intro k o c
  by_cases a:k=b
  ·subst a;simp only[Q6.put,if_true] at c;cases c;exact l
  ·simp only[Q6.put,if_neg a] at c;exact d.sat k o c
 ·intro k o c
  by_cases a:k=b
  ·subst a;have:=d.le _ _ c;rw[g] at this;cases this
  ·simp only[Q6.put,if_neg a];exact d.le _ _ c
 ·intro k f
  simp only[Q6.put];rw[if_neg (by omega)];exact d.old k f
 ·intro i v j;simpa using j
 ·intro k o c
  by_cases a:k=b
  ·subst a;rw[g] at c;cases c
  ·simp only[Q6.put,if_neg a];exact c
 ·intro k a;simp only[Q6.put,if_neg a]
theorem Q7q (t:TypeId) (v:Value) (w:World):(Instr.box t v).run P w= .ok (.pointer (some ⟨w.heap.size,0,none⟩)) (w.alloc (.cells v.cells t)):=by
 simp[Instr.box,newVar,newRow]
theorem Q3G {σ:Q6} (a:X3 w σ) (cs:Array Value) (t:TypeId):Y2 σ (w.alloc (.cells cs t)) w.heap.size cs.toList:=
 ⟨a.none (Nat.le_refl _),t,by simpa using heap_alloc_new w (.cells cs t)⟩
theorem Q8y {σ:Q6} (cs:Array Value) (t:TypeId):Z6 (σ.put w.heap.size (.cells cs t)) ⟨w.heap.size,0,none⟩ cs.toList:=
 ⟨rfl,cs,t,(0,0),by simp[Q6.put],fun i v h=>by simpa using h⟩
theorem E5 {σ:Q6} {t:TypeId} {v:Value} (b:X3 w σ) (h: ∀a w' σ',Stp w σ w' σ'→Z6 σ' a v.cells.toList→K (.pointer (some a)) w'):box P t v w K:=by
 unfold box;rw[Y0 (Q7q t v w)]
 exact h _ _ _ (Stp.alloc b _) (Q8y _ t)
theorem Q5W {σ:Q6} {t:TypeId} {v:Value} (a:X3 w σ) (h: ∀b w',w.heap.size≤b→Stp w σ w' σ→Y2 σ w' b v.cells.toList→K (.pointer (some ⟨b,0,none⟩)) w'):box P t v w K:=by
 unfold box;rw[Y0 (Q7q t v w)]
 exact h _ _ (Nat.le_refl _) (Stp.own a _) (Q3G a _ t)
theorem Ti {σ:Q6} {t:TypeId} {sz a:Nat} {z:Value} [tz:TZ P t sz a z] (c:X3 w σ) (h: ∀b w',w.heap.size≤b→Stp w σ w' σ→Y2 σ w' b z.cells.toList→K (.pointer (some ⟨b,0,none⟩)) w'):V6 P t w K:=by
 unfold V6
 have:(Instr.alloc t true (.tuple #[])).run P w= .ok (.pointer (some ⟨w.heap.size,0,none⟩)) (w.alloc (.cells z.cells t)):=by
  simp[Instr.alloc,Zl tz,newVar,newRow]
 rw[Y0 this]
 exact h _ _ (Nat.le_refl _) (Stp.own c _) (Q3G c _ t)
theorem Qg {t:TypeId} [tg:TG P t false] {a:Addr} {v:Value} (b:w.cell? a=some v) (h:K v w):Q2 P t (.pointer (some a)) w K:=by
 unfold Q2
 rw[Y0 (v:=v) (w':=w) (by simp[Instr.loadAt,Instr.sureAddr,loadVar,Ya tg,b])]
 exact h
theorem Th {t:TypeId} {sz b:Nat} {z:Value} [tg:TG P t true] [tz:TZ P t sz b z] {a:Addr} {cs:List Value} (d:cs.length=sz) (c: ∀j v,cs[j]? =some v→w.cell? (a.add j)=some v) (h:K (.agg cs.toArray) w):Q2 P t (.pointer (some a)) w K:=by
 unfold Q2
 have:=run_loadCells_list (P:=P) w a cs c
 rw[d] at this
 rw[Y0 (v:= .agg cs.toArray) (w':=w) (by simp[Instr.loadAt,Instr.sureAddr,loadVar,Ya tg,L3 tz,this])]
 exact h
theorem ld {σ:Q6} {t:TypeId} [TG P t false] {a:Addr} {cs:List Value} {i:Nat} {v:Value} (b:X3 w σ) (c:Z6 σ a cs) (d:cs[i]? =some v) (h:K v w):Q2 P t (.pointer (some (a.add i))) w K:=
 Qg (c.cell b d) h
theorem X7 {σ:Q6} {t:TypeId} [TG P t false] {a:Addr} {cs:List Value} {v:Value} (b:X3 w σ) (c:Z6 σ a cs) (d:cs[0]? =some v) (h:K v w):Q2 P t (.pointer (some a)) w K:=by
 have:=ld (P:=P) (t:=t) b c d h
 rwa [add_zero] at this
theorem Y4 {σ:Q6} {t:TypeId} {sz b:Nat} {z:Value} [TG P t true] [TZ P t sz b z] {a:Addr} {cs:List Value} (c:X3 w σ) (f:Z6 σ a cs) (d:cs.length=sz) (h:K (.agg cs.toArray) w):Q2 P t (.pointer (some a)) w K:=
 Th d (fun _ _ g=>f.cell c g) h
theorem Yi {σ:Q6} {t:TypeId} [TG P t false] {b:Nat} {cs:List Value} {i:Nat} {v:Value} (a:Y2 σ w b cs) (c:cs[i]? =some v) (h:K v w):Q2 P t (.pointer (some ((⟨b,0,none⟩:Addr).add i))) w K:=
 Qg (a.cell c) h
theorem Q8N {σ:Q6} {t:TypeId} [TG P t false] {b:Nat} {cs:List Value} {v:Value} (a:Y2 σ w b cs) (c:cs[0]? =some v) (h:K v w):Q2 P t (.pointer (some ⟨b,0,none⟩)) w K:=by
 have:=Yi (P:=P) (t:=t) a c h
 rwa [add_zero] at this
theorem Dz {σ:Q6} {t:TypeId} {sz a:Nat} {z:Value} [TG P t true] [TZ P t sz a z] {b:Nat} {cs:List Value} (d:Y2 σ w b cs) (c:cs.length=sz) (h:K (.agg cs.toArray) w):Q2 P t (.pointer (some ⟨b,0,none⟩)) w K:=
 Th c (fun _ _ f=>d.cell f) h
theorem V2 {t:TypeId} {sz a:Nat} {z:Value} [tg:TG P t true] [tz:TZ P t sz a z] {σ:Q6} {b:Nat} {cs:List Value} {K:Value→Prop} (d:Y2 σ w b cs) (c:cs.length=sz) (h:K (.agg cs.toArray)):Y7 P t (.pointer (some ⟨b,0,none⟩)) w K:=by
 rw[Q36]
 refine ⟨_,?_,h⟩
 have:=run_loadCells_list (P:=P) w ⟨b,0,none⟩ cs (fun _ _ f=>d.cell f)
 rw[c] at this
 simp[asAddr,loadVar,Ya tg,L3 tz,this]
structure Upd (w : World) (b : Nat) (w' : World) : Prop where
  os : w'.os = w.os
  tape : w'.tape = w.tape
  output : w'.output = w.output
  size : w'.heap.size = w.heap.size
  block : ∀ k, k ≠ b → w'.heap[k]? = w.heap[k]?
theorem Upd.stp {σ0 σ:Q6} {b:Nat} (c:Upd w b w') (a:Stp w0 σ0 w σ) (h:w0.heap.size≤b) (f:σ b=none):Stp w0 σ0 w' σ:=by
 refine ⟨⟨c.os.trans a.bel.os,c.tape.trans a.bel.tape,c.output.trans a.bel.output,by rw[c.size];exact a.bel.size,fun k g=>(c.block k (by omega)).trans (a.bel.block k g)⟩,?_,a.le,a.old⟩
 intro k o d
 rw[c.block k (by intro e;subst e;rw[f] at d;cases d)]
 exact a.sat k o d
theorem Y2.upd {σ:Q6} {b k:Nat} {cs:List Value} (h:Y2 σ w k cs) (d:Upd w b w') (a:k≠b):Y2 σ w' k cs:=by
 obtain ⟨c,e,f⟩:=h
 exact ⟨c,e,(d.block k a).trans f⟩
theorem Uy {b:Nat} {cs:Array Value} {a:Array Value} {e:TypeId} (h:w.heap[b]? =some (.cells a e (0,0))):Upd w b (w.setRow b cs)∧(w.setRow b cs).heap[b]? =some (.cells cs e (0,0)):=by
 have d:=(Array.getElem?_eq_some_iff.1 h).1
 refine ⟨⟨rfl,rfl,rfl,by simp[World.setRow],fun k c=>?_⟩,?_⟩
 ·simp only[World.setRow,Array.getElem?_modify]
  rw[if_neg (by omega)]
 ·simp only[World.setRow,Array.getElem?_modify,if_true,h]
  rfl
theorem Wc {t:TypeId} {sz a:Nat} {z:Value} [tz:TZ P t sz a z] {σ:Q6} {b:Nat} {cs ds:List Value} (l:Y2 σ w b cs) (m:cs.length=sz) (f:ds.length=sz) (g:ds.toArray.all (·.oneCell')=true)
 (h: ∀w',Upd w b w'→Y2 σ w' b ds→K undef w'):X9 P t (.pointer (some ⟨b,0,none⟩)) (.agg ds.toArray) w K:=by
 obtain ⟨k,e,d⟩:=l
 unfold X9
 obtain ⟨i,n,c,_⟩:=tz.info
 have:=run_storeVar_row (P:=P) w b e t cs.toArray ds.toArray d (by simp[n,c,f]) (by simp[m,f]) g
 rw[Lg (w':=w.setRow b ds.toArray) (by simpa [Instr.storeAt,Instr.sureAddr] using this)]
 obtain ⟨j,hh⟩:=Uy (cs:=ds.toArray) d
 exact h _ j ⟨k,e,hh⟩
theorem Q7y {cs:List Value} {i:Nat} {v:Value} (a:i<cs.length):(cs.take i++[v]++cs.drop (i+1))=cs.set i v:=by
 rw[List.set_eq_take_append_cons_drop,if_pos a];simp
theorem Jz {t:TypeId} {c:Nat} {z:Value} [tz:TZ P t 1 c z] {σ:Q6} {b i:Nat} {cs:List Value} {v:Value} (k:Y2 σ w b cs) (n:i<cs.length) (l:v.cells= #[v]) (f:v.oneCell'=true)
 (h: ∀w',Upd w b w'→Y2 σ w' b (cs.set i v)→K undef w'):X9 P t (.pointer (some ((⟨b,0,none⟩:Addr).add i))) v w K:=by
 obtain ⟨j,e,d⟩:=k
 unfold X9
 have a:(⟨b,0,none⟩:Addr).add i=⟨b,i,none⟩:=by unfold Addr.add;split<;>simp_all
 have:=run_storeCells_at P b i e [v] 0 cs.toArray w d (by simp;omega) (by simpa using f)
 simp only[Nat.add_zero] at this
 obtain ⟨g,hh⟩:=Uy (cs:=(cs.set i v).toArray) d
 have m:(List.take i cs.toArray.toList++[v]++List.drop (i+[v].length) cs.toArray.toList).toArray=(cs.set i v).toArray:=by
  rw[←Q7y n];simp
 rw[m] at this
 rw[Lg (w':=w.setRow b (cs.set i v).toArray) (by simp[Instr.storeAt,Instr.sureAddr,a,storeVar,L3 tz,l,this])]
 exact h _ g ⟨j,e,hh⟩
theorem st0 {t:TypeId} {a:Nat} {z:Value} [tz:TZ P t 1 a z] {σ:Q6} {b:Nat} {cs:List Value} {v:Value} (g:Y2 σ w b cs) (d:0<cs.length) (f:v.cells= #[v]) (c:v.oneCell'=true)
 (h: ∀w',Upd w b w'→Y2 σ w' b (cs.set 0 v)→K undef w'):X9 P t (.pointer (some ⟨b,0,none⟩)) v w K:=by
 have:=Jz (P:=P) (t:=t) g d f c h
 rwa [add_zero] at this
class NZ (n : Nat) : Prop where
  h : (n == 0) = false
instance (n:Nat):NZ (n+1):=⟨rfl⟩
theorem fa {t:TypeId} {k b:Nat} {d:TypeId} {sz c:Nat} {z:Value} [tf:TF P t k b d] [tz:TZ P d sz c z] [nz:NZ sz] {a:Addr}:fieldAddr P t (.pointer (some a)) k w K=K (.pointer (some (a.add b))) w:=by
 unfold fieldAddr
 have hh:=tf.h
 unfold Q4g at hh
 split at hh
 ·rename_i o j
  obtain ⟨f,l,g⟩:=Option.map_eq_some_iff.1 hh
  simp only[Prod.mk.injEq] at g
  obtain ⟨i,n⟩:=g
  subst n i
  have m: ¬sz=0:=by simpa using nz.h
  exact Y0 (by simp[Instr.fieldAt,run_underlying j,l,Instr.sureAddr,fieldPlace,L3 tz,m])
 ·cases hh
theorem Sr {t e:TypeId} {sz c:Nat} {z:Value} [ts:TS P t e] [tz:TZ P e sz c z] {a:Addr} {n b:Nat} {k:IntKind} {i:Int} (f:0≤i) (d:i<n):indexAddr P t (.slice (some a) n b) (.int k i) w K=K (.pointer (some (a.add (i.toNat*sz)))) w:=by
 unfold indexAddr
 exact Y0 (by simp[Instr.indexAt,run_underlying ts.h,asIntOf,L3 tz,f,d])
theorem X05 {t e:TypeId} {n sz b:Nat} {z:Value} [ta:TA P t n e] [tz:TZ P e sz b z] {a:Addr} {k:IntKind} {i:Int} (d:0≤i) (c:i<n):indexAddr P t (.pointer (some a)) (.int k i) w K=K (.pointer (some (a.add (i.toNat*sz)))) w:=by
 unfold indexAddr
 exact Y0 (by simp[Instr.indexAt,run_underlying ta.h,asIntOf,Instr.sureAddr,L3 tz,d,c])
theorem L8 {a:Addr}:nilCheck P (.pointer (some a)) w K=K (.pointer (some a)) w:=by
 unfold nilCheck
 rw[T3];unfold P5
 simp[execOp]
class Rep {α : Type} (R : Q6 → α → List Value → Prop) : Prop where
  up : ∀ {σ σ' : Q6} {x : α} {cs : List Value}, (∀ b o, σ b = some o → σ' b = some o) → R σ x cs → R σ' x cs
  one : ∀ {σ : Q6} {x : α} {cs : List Value}, R σ x cs → ∀ u ∈ cs, u.oneCell' = true
def Sl {α:Type} (sz:Nat) (R:Q6→α→List Value→Prop) (σ:Q6) (v:Value) (xs:List α):Prop:=
 ∃a c,v= .slice a xs.length c∧xs.length≤c∧c≤maxLen∧(a=none→c=0)∧
  ∀b,a=some b→(0<xs.length→b.spot=none)∧ ∀i x,xs[i]? =some x→ ∃cs,Z6 σ (b.add (i*sz)) cs∧cs.length=sz∧R σ x cs
theorem Z6.le {σ σ':Q6} {a:Addr} {cs:List Value} (h:Z6 σ a cs) (i: ∀b o,σ b=some o→σ' b=some o):Z6 σ' a cs:=by
 obtain ⟨c,arr,e,g,f,d⟩:=h
 exact ⟨c,arr,e,g,i _ _ f,d⟩
section
variable {α : Type} {R : Q6 → α → List Value → Prop} {sz : Nat} {σ σ' : Q6} {v : Value} {xs : List α}
theorem Sl.le [hr:Rep R] (h:Sl sz R σ v xs) (f: ∀b o,σ b=some o→σ' b=some o):Sl sz R σ' v xs:=by
 obtain ⟨a,c,m,p,k,l,d⟩:=h
 refine ⟨a,c,m,p,k,l,fun b g=>⟨(d b g).1,fun i x n=>?_⟩⟩
 obtain ⟨cs,q,r,j⟩:=(d b g).2 i x n
 exact ⟨cs,q.le f,r,hr.up f j⟩
theorem Sl.up [Rep R] (h:Sl sz R σ v xs) (a:Stp w σ w' σ'):Sl sz R σ' v xs:=h.le a.le
theorem Sl.max (h:Sl sz R σ v xs):xs.length≤9223372036854775807:=by
 obtain ⟨a,b,d,g,c,f⟩:=h
 simp only[maxLen] at c;omega
theorem Sl.nil:Sl sz R σ (.slice none 0 0) ([]:List α):=⟨none,0,rfl,by simp,by simp,fun _=>rfl,fun b a=>by cases a⟩
theorem Q1K {c e t:TypeId} {cs:List Bool} [ts:TS P c e] {a:Option Addr} {n b:Nat}:X2 P .len [c] t cs [.slice a n b] w K=K (I n) w:=by
 have h:(Builtin.len_ #[c] t #[.slice a n b]).run P w= .ok (I n) w:=by
  simp[Builtin.len_,run_underlying ts.h,goInt]
 exact Y0 h
theorem X31 {b e t:TypeId} {cs:List Bool} [ts:TS P b e] (h:Sl sz R σ v xs):X2 P .len [b] t cs [v] w K=K (I xs.length) w:=by
 obtain ⟨a,c,rfl,_⟩:=h
 exact Q1K
theorem X3Q {t e:TypeId} {c:Nat} {z:Value} [TS P t e] [TZ P e sz c z] (h:Sl sz R σ v xs) {k:IntKind} {i:Int} (g:0≤i) (j:i.toNat<xs.length)
 (m: ∀a cs,Z6 σ a cs→cs.length=sz→R σ xs[i.toNat] cs→K (.pointer (some a)) w):indexAddr P t v (.int k i) w K:=by
 obtain ⟨a,o,rfl,r,q,f,l⟩:=h
 cases a with
 | none=>have:=f rfl;omega
 | some b=>
  rw[Sr g (by omega)]
  obtain ⟨cs,n,p,d⟩:=(l b rfl).2 i.toNat xs[i.toNat] (by simp[j])
  exact m _ cs n p d
end
theorem Stp.turn {σ0 σ:Q6} {row:Option Nat} (b:w.grownBy w' row) (a:Stp w0 σ0 w σ) (d: ∀k,row=some k→w0.heap.size≤k∧σ k=none):Stp w0 σ0 w' σ:=by
 refine ⟨⟨b.os.trans a.bel.os,b.tape.trans a.bel.tape,b.output.trans a.bel.output,Nat.le_trans a.bel.size b.size,fun k f=>?_⟩,?_,a.le,a.old⟩
 ·refine (b.block k (Nat.lt_of_lt_of_le f a.bel.size) ?_).trans (a.bel.block k f)
  intro e;have:=(d k e.symm).1;omega
 ·intro k o c
  refine (b.block k (a.sat.lt c) ?_).trans (a.sat k o c)
  intro e;rw[(d k e.symm).2] at c;cases c
theorem Y2.turn {σ:Q6} {row:Option Nat} {k:Nat} {cs:List Value} (h:Y2 σ w k cs) (d:w.grownBy w' row) (a:some k≠row):Y2 σ w' k cs:=by
 have c:=h.lt
 obtain ⟨b,e,f⟩:=h
 exact ⟨b,e,(d.block k c a).trans f⟩
def V7 {α:Type} (B:Nat) (e:TypeId) (sz:Nat) (R:Q6→α→List Value→Prop) (σ:Q6) (w:World) (v:Value) (xs:List α):Prop:=
 ∃cells,w.ownsRow B e sz v xs.length cells∧(∀k,v.ownBlock=some k→σ k=none)∧ ∀i x,xs[i]? =some x→R σ x ((cells.drop (i*sz)).take sz)
section
variable {α : Type} {R : Q6 → α → List Value → Prop} {B sz : Nat} {e : TypeId} {σ σ' : Q6} {v u : Value} {xs ys : List α}
theorem V7.nil:V7 B e sz R σ w (.slice none 0 0) ([]:List α):=⟨[],World.ownsRow_nil w B e sz,by intro k a;simp[Value.ownBlock] at a,by intro i x h;simp at h⟩
theorem V7.mem (h:V7 B e sz R σ w v xs): ∀k,v.ownBlock=some k→B≤k∧k<w.heap.size∧σ k=none:=by
 obtain ⟨cells,d,f,_⟩:=h
 intro k c
 obtain ⟨a,b⟩:=d.lt k c
 exact ⟨a,b,f k c⟩
theorem V7.up [hr:Rep R] (h:V7 B e sz R σ w v xs) (a:Stp w σ w' σ'):V7 B e sz R σ' w' v xs:=by
 obtain ⟨cells,c,j,d⟩:=h
 refine ⟨cells,c.kept ⟨a.bel.os,a.bel.tape,a.bel.output,a.bel.size,fun k g _=>a.bel.block k g⟩ (by cases b:v.ownBlock<;>simp) (row:=none),?_,fun i x f=>hr.up a.le (d i x f)⟩
 intro k b
 rw[a.old k (c.lt k b).2];exact j k b
theorem Sl.cells (h:Sl sz R σ v xs) (D:X3 w σ) [hr:Rep R]: ∃(a:Option Addr) (d:Nat) (c:List Value),v= .slice a xs.length d∧(a=none→d=0)∧c.length=xs.length*sz∧(∀b,a=some b→ ∀j u,c[j]? =some u→w.cell? (b.add j)=some u)∧(∀u∈c,u.oneCell'=true)∧
 ∀i x,xs[i]? =some x→R σ x ((c.drop (i*sz)).take sz):=by
 obtain ⟨a,d,rfl,O,L,g,z⟩:=h
 cases a with
 | none=>
  have M:=g rfl
  have f:xs=[]:=List.eq_nil_of_length_eq_zero (by omega)
  subst f
  exact ⟨none,d,[],rfl,g,by simp,fun b E=>(by cases E),by simp,by simp⟩
 | some b=>
  obtain ⟨C,n⟩:=z b rfl
  clear z
  have key: ∀(ys:List α) (k:Nat),(∀i x,ys[i]? =some x→ ∃cs,Z6 σ (b.add ((k+i)*sz)) cs∧cs.length=sz∧R σ x cs)→
   ∃c:List Value,c.length=ys.length*sz∧(∀j u,c[j]? =some u→w.cell? (b.add (k*sz+j))=some u)∧(∀u∈c,u.oneCell'=true)∧ ∀i x,ys[i]? =some x→R σ x ((c.drop (i*sz)).take sz):=by
   intro ys
   induction ys with
   | nil=>intro k _;exact ⟨[],by simp,by simp,by simp,by simp⟩
   | cons y r H=>
    intro k t
    obtain ⟨cs,J,A,s⟩:=t 0 y rfl
    obtain ⟨c,o,q,l,m⟩:=H (k+1) (fun i x f=>by
     have:=t (i+1) x (by simpa using f)
     rwa [show k+1+i=k+(i+1) by omega])
    refine ⟨cs++c,by simp[o,A,Nat.add_mul,Nat.add_comm],?_,?_,?_⟩
    ·intro j u hu
     by_cases Q:j<sz
     ·rw[List.getElem?_append_left (by omega)] at hu
      have:=J.cell D hu
      rwa [Q3R,Nat.add_zero] at this
     ·rw[List.getElem?_append_right (by omega)] at hu
      have:=q _ _ hu
      rwa [A,show (k+1)*sz+(j-sz)=k*sz+j by rw[Nat.add_mul];omega] at this
    ·intro u hu
     rcases List.mem_append.1 hu with hu | hu
     ·exact hr.one s u hu
     ·exact l u hu
    ·intro i x f
     cases i with
     | zero=>
      simp at f;subst f
      simp only[Nat.zero_mul,List.drop_zero]
      rw[List.take_append_of_le_length (by omega),List.take_of_length_le (by omega)];exact s
     | succ i=>
      have:=m i x (by simpa using f)
      rw[show (i+1)*sz=cs.length+i*sz by rw[Nat.add_mul];omega,List.drop_append]
      simpa [List.drop_eq_nil_of_le] using this
  obtain ⟨c,o,q,l,m⟩:=key xs 0 (fun i x f=>by rw[Nat.zero_add];exact n i x f)
  refine ⟨some b,d,c,rfl,g,o,?_,l,m⟩
  intro N p j u hu
  cases p
  have:=q j u hu
  rwa [Nat.zero_mul,Nat.zero_add] at this
end
section
variable {α : Type} {R : Q6 → α → List Value → Prop} {sz : Nat} {e : TypeId} {σ σ0 : Q6} {v u : Value} {xs ys : List α}
theorem La (cells a:List Value) (n i:Nat) (c:cells.length=n*sz) (b:i<n):((cells++a).drop (i*sz)).take sz=(cells.drop (i*sz)).take sz:=by
 have h:i*sz+sz≤n*sz:=by rw[←Nat.succ_mul];exact Nat.mul_le_mul_right _ b
 rw[List.drop_append_of_le_length (by omega),List.take_append_of_le_length (by simp only[List.length_drop];omega)]
theorem app {t y:TypeId} {o:Nat} {z:Value} {cs:List Bool} [ts:TS P t e] [tz:TZ P e sz o z] [hr:Rep R] (D:Stp w0 σ0 w σ) (ha:V7 w0.heap.size e sz R σ w v xs) (O:Sl sz R σ u ys) (H:(z.cells.size==sz&&decide (0<sz))=true)
 (hb:(xs.length+ys.length)*o≤140737488355328) (hm:xs.length+ys.length≤9223372036854775807)
 (h: ∀d w',w.grownBy w' v.ownBlock→Stp w0 σ0 w' σ→V7 w0.heap.size e sz R σ w' d (xs++ys)→(d.ownBlock=v.ownBlock∨ ∀k,d.ownBlock=some k→w.heap.size≤k)→K d w'):X2 P .append [t,t] y cs [v,u] w K:=by
 obtain ⟨cells,s,U,h3⟩:=ha
 obtain ⟨a,m,c,rfl,Q,W,n3,n4,Z⟩:=O.cells D.sat
 obtain ⟨i,N,J,M,q⟩:=tz.info
 have p: ∀d w',(Builtin.append_ #[t,t] y #[v, .slice a ys.length m]).run P w= .ok d w'→w'.ownsRow w0.heap.size e sz d (xs.length+ys.length) (cells++c)→w.grownBy w' v.ownBlock→(d.ownBlock=v.ownBlock∨d.ownBlock=some w.heap.size)→X2 P .append [t,t] y cs [v, .slice a ys.length m] w K:=by
  intro d w' A f l hat
  have r:(builtin .append #[t,t] y cs.toArray #[v, .slice a ys.length m]).run P w= .ok (.value d) w':=by
   simp[builtin,A]
  unfold X2
  rw[T3];unfold P5
  rw[r]
  refine h d w' l (Stp.turn l D fun k n=>⟨(s.lt k n).1,U k n⟩) ⟨cells++c,by rw[List.length_append];exact f,?_,?_⟩ ?_
  ·intro k n
   rcases hat with hat | hat
   ·exact U k (hat▸n)
   ·rw[hat] at n;cases n;exact D.sat.none (Nat.le_refl _)
  ·intro j x C
   by_cases X:j<xs.length
   ·rw[List.getElem?_append_left X] at C
    rw[La cells c xs.length j s.1 X]
    exact h3 j x C
   ·rw[List.getElem?_append_right (by omega)] at C
    have:=Z _ _ C
    rw[show j*sz=cells.length+(j-xs.length)*sz by rw[s.1,←Nat.add_mul];congr 1;omega,List.drop_append]
    simpa [List.drop_eq_nil_of_le] using this
  ·rcases hat with hat | hat
   ·exact .inl hat
   ·right;intro k n;rw[hat] at n;cases n;exact Nat.le_refl _
 simp only[Bool.and_eq_true,beq_iff_eq,decide_eq_true_eq] at H
 cases a with
 | some b=>
  obtain ⟨d,w',g1,g2,Y,_,g5⟩:=run_append_own_at (P:=P) w w0.heap.size t y e i z sz o ts.h N q J M H.1 H.2 v xs.length cells s b ys.length m c W (n3 b rfl) n4 (by simp only[maxLen];omega) hb D.bel.size
  exact p d w' g1 g2 Y g5
 | none=>
  have hy:ys=[]:=List.eq_nil_of_length_eq_zero (by obtain ⟨a',V,e',q1,_,q3,_⟩:=O;injection e' with _ e2 e3;have:=Q rfl;subst e3;omega)
  have L:=Q rfl
  subst hy L
  have hn:c=[]:=List.eq_nil_of_length_eq_zero (by simpa using W)
  subst hn
  have f:=s
  rcases s.2 with ⟨rfl,h0⟩ | ⟨g,m,af,rfl,al,hg,E,_⟩
  ·refine p (.slice none 0 0) w ?_ (by simpa using f) (World.grownBy.refl w _) (.inl rfl)
   simp[Builtin.append_,run_underlying ts.h,sizeOf,typeInfo,N,Builtin.lenOf,Builtin.firstCells]
  ·refine p _ w ?_ (by simpa using f) (World.grownBy.refl w _) (.inl rfl)
   simp[Builtin.append_,run_underlying ts.h,sizeOf,typeInfo,N,Builtin.lenOf,Builtin.firstCells,E,storeCells]
end
section
variable {α : Type} {R : Q6 → α → List Value → Prop} {sz : Nat} {e : TypeId} {σ σ0 : Q6} {v u : Value} {xs ys : List α}
theorem Q6.put_le {w:World} (d:X3 w σ) {b:Nat} (h:σ b=none) (o:Obj): ∀k p,σ k=some p→(σ.put b o) k=some p:=by
 intro k p c
 by_cases a:k=b
 ·subst a;rw[h] at c;cases c
 ·simp only[Q6.put,if_neg a];exact c
theorem Stp.put {b:Nat} {o:Obj} (d:Stp w0 σ0 w σ) (g:σ b=none) (h:w0.heap.size≤b) (f:w.heap[b]? =some o):Stp w0 σ0 w (σ.put b o):=by
 refine ⟨d.bel,?_,fun k p a=>Q6.put_le d.sat g o k p (d.le k p a),?_⟩
 ·intro k p a
  by_cases c:k=b
  ·subst c;simp only[Q6.put,if_true] at a;cases a;exact f
  ·simp only[Q6.put,if_neg c] at a;exact d.sat k p a
 ·intro k a
  simp only[Q6.put];rw[if_neg (by omega)];exact d.old k a
theorem V7.keep [hr:Rep R] (h:V7 w0.heap.size e sz R σ w v xs) (q:Stp w0 σ0 w σ): ∃σ',Stp w0 σ0 w σ'∧Sl sz R σ' v xs∧(∀k o,σ k=some o→σ' k=some o)∧(∀k,some k≠v.ownBlock→σ' k=σ k):=by
 obtain ⟨cells,r,E,y⟩:=h
 rcases r.2 with ⟨rfl,z⟩ | ⟨g,p,d,rfl,D,J,l,f,A,m⟩
 ·have:xs=[]:=List.eq_nil_of_length_eq_zero z
  subst this
  exact ⟨σ,q,Sl.nil,fun _ _ h=>h,fun _ _=>rfl⟩
 ·have s:=E g rfl
  have a:=Q6.put_le q.sat s (.cells d e (0,0))
  refine ⟨σ.put g (.cells d e (0,0)),q.put s D J,⟨_,p,rfl,l,f,by simp,?_⟩,a,?_⟩
  ·intro b n
   cases n
   refine ⟨fun _=>rfl,fun i x t=>⟨(cells.drop (i*sz)).take sz,⟨I8 rfl _,d,e,(0,0),by rw[S9];simp[Q6.put],?_⟩,?_,hr.up a (y i x t)⟩⟩
   ·intro j u c
    rw[Qh]
    rw[List.getElem?_take] at c
    split at c
    ·rw[List.getElem?_drop,←m,List.getElem?_take] at c
     split at c
     ·simpa using c
     ·cases c
    ·cases c
   ·have H:i<xs.length:=(List.getElem?_eq_some_iff.1 t).1
    have h:i*sz+sz≤xs.length*sz:=by rw[←Nat.succ_mul];exact Nat.mul_le_mul_right _ H
    rw[List.length_take,List.length_drop,r.1];omega
  ·intro k C
   have:k≠g:=by intro e;subst e;exact C rfl
   simp only[Q6.put,if_neg this]
theorem Sl.piece {a:Option Addr} {n d:Nat} (h:Sl sz R σ (.slice a n d) xs) (l m:Nat) (N:l+m≤xs.length):Sl sz R σ (.slice (if d=l then a else a.map (·.add (l*sz))) m (d-l)) ((xs.drop l).take m):=by
 obtain ⟨M,p,t,O,L,s,j⟩:=h
 injection t with z D J
 subst z D J
 have c:((xs.drop l).take m).length=m:=by simp;omega
 refine ⟨_,d-l,by rw[c],by rw[c];omega,by omega,?_,?_⟩
 ·intro q
  split at q
  ·omega
  ·cases a with
   | none=>have:=s rfl;omega
   | some b=>simp at q
 ·intro b g
  split at g
  ·rename_i C
   obtain ⟨k,o⟩:=j b g
   have A:m=0:=by omega
   subst A
   exact ⟨fun h=>by simp at h,by simp⟩
  ·cases a with
   | none=>simp at g
   | some y=>
    simp only[Option.map_some,Option.some.injEq] at g
    obtain ⟨k,o⟩:=j y rfl
    subst g
    refine ⟨fun h=>I8 (k (by rw[c] at h;omega)) _,fun i x f=>?_⟩
    rw[List.getElem?_take] at f
    split at f
    ·rw[List.getElem?_drop] at f
     obtain ⟨cs,E,H,r⟩:=o _ _ f
     refine ⟨cs,?_,H,r⟩
     rw[Q3R,←Nat.add_mul];exact E
    ·cases f
theorem Et {t:TypeId} {f:Nat} {z:Value} [ts:TS P t e] [tz:TZ P e sz f z] (h:Sl sz R σ v xs) (c d:Option Value) (l m:Nat) (i:c=none∧l=0∨c=some (I l)) (j:d=none∧m=xs.length∨d=some (I m)) (g:l≤m) (y:m≤xs.length)
 (p: ∀k,Sl sz R σ k ((xs.drop l).take (m-l))→K k w):S4 P t v c d none w K:=by
 have n:=h
 obtain ⟨a,b,rfl,C,q,r,A⟩:=h
 have hh: ∀w:World,(Instr.sliceBounds true xs.length b c d none).run P w= .ok (l,m,b) w:=by
  intro w
  have D:(m:Int)≤b:=by omega
  have s:(l:Int)≤m:=by omega
  have o:m≤b:=by omega
  rcases i with ⟨rfl,rfl⟩ | rfl<;>rcases j with ⟨rfl,rfl⟩ | rfl<;>
   simp[Instr.sliceBounds,Instr.sliceBound,asIntOf,o,g]<;>intros<;>omega
 unfold S4
 have:(Instr.sliceAt t (.slice a xs.length b) c d none).run P w= .ok (.slice (if b=l then a else a.map (·.add (l*sz))) (m-l) (b-l)) w:=by
  simp[Instr.sliceAt,run_underlying ts.h,Instr.slice,hh,L3 tz]
 rw[Y0 this]
 exact p _ (n.piece l (m-l) (by omega))
def en:Nat→List Value→List (Nat×Value)
 | _,[]=>[]
 | i,v::r=>(i,v)::en (i+1) r
theorem X0h (off:Nat): ∀(vs:List Value) (k:Nat) (cs:Array Value),off+k+vs.length≤cs.size→
 ((vs.zipIdx k).foldl (fun cs (p:Value×Nat)=>cs.setIfInBounds (off+p.2) p.1) cs).toList=cs.toList.take (off+k)++vs++cs.toList.drop (off+k+vs.length):=by
 intro vs
 induction vs with
 | nil=>intro k cs _;simp
 | cons v r ih=>
  intro k cs h
  simp only[List.length_cons] at h
  rw[List.zipIdx_cons,List.foldl_cons,ih (k+1) _ (by simp;omega)]
  simp only[Array.toList_setIfInBounds,List.length_cons]
  apply List.ext_getElem?
  intro i
  simp only[List.getElem?_append,List.length_take,List.length_set,Array.length_toList,List.getElem?_take,List.getElem?_drop,List.length_append,List.getElem?_set,List.length_cons]
  rcases Nat.lt_trichotomy i (off+k) with hi | hi | hi
  ·simp[show i<off+(k+1) by omega,hi,show i<min (off+(k+1)) cs.size by omega,show i<min (off+(k+1)) cs.size+r.length by omega,show i<min (off+k) cs.size by omega,show i<min (off+k) cs.size+(r.length+1) by omega,show off+k≠i by omega]
  ·subst hi
   simp[show off+k<off+(k+1) by omega,show off+k<min (off+(k+1)) cs.size by omega,show off+k<min (off+(k+1)) cs.size+r.length by omega,show¬off+k<min (off+k) cs.size by omega,show off+k<min (off+k) cs.size+(r.length+1) by omega,show off+k<cs.size by omega,show off+k-min (off+k) cs.size=0 by omega]
  ·by_cases h2:i<off+(k+1)+r.length
   ·simp[show¬i<min (off+(k+1)) cs.size by omega,show i<min (off+(k+1)) cs.size+r.length by omega,show¬i<min (off+k) cs.size by omega,show i<min (off+k) cs.size+(r.length+1) by omega,show i-min (off+k) cs.size=(i-min (off+(k+1)) cs.size)+1 by omega]
   ·simp only[show¬i<min (off+(k+1)) cs.size+r.length by omega,show¬i<min (off+k) cs.size+(r.length+1) by omega,if_false]
    rw[show off+(k+1)+r.length+(i-(min (off+(k+1)) cs.size+r.length))=i by omega,show off+k+(r.length+1)+(i-(min (off+k) cs.size+(r.length+1)))=i by omega,if_neg (by omega)]
theorem Q7E (sz:Nat): ∀(vs:List Value) (i:Nat) (cs:Array Value),(i+vs.length)*sz≤cs.size→(∀v∈vs,v.cells.size=sz)→
 ∃cs',Instr.fill (fun i=>some (i*sz,sz)) cs (en i vs)=some cs'∧cs'.toList=cs.toList.take (i*sz)++vs.flatMap (·.cells.toList)++cs.toList.drop ((i+vs.length)*sz):=by
 intro vs
 induction vs with
 | nil=>intro i cs _ _;exact ⟨cs,rfl,by simp⟩
 | cons v r ih=>
  intro i cs h hv
  have hv0:=hv v (by simp)
  simp only[List.length_cons] at h
  have h1:i*sz+sz≤cs.size:=by
   have:(i+1)*sz≤(i+(r.length+1))*sz:=Nat.mul_le_mul_right _ (by omega)
   rw[Nat.succ_mul] at this;omega
  have hset:=X0h (i*sz) v.cells.toList 0 cs (by simp;omega)
  simp only[Nat.add_zero] at hset
  have e1:v.cells.zipIdx.foldl (fun cs (p:Value×Nat)=>cs.setIfInBounds (i*sz+p.2) p.1) cs=(v.cells.toList.zipIdx 0).foldl (fun cs (p:Value×Nat)=>cs.setIfInBounds (i*sz+p.2) p.1) cs:=by
   rw[←Array.foldl_toList,Array.toList_zipIdx]
  have hsz':((v.cells.toList.zipIdx 0).foldl (fun cs (p:Value×Nat)=>cs.setIfInBounds (i*sz+p.2) p.1) cs).size=cs.size:=by
   rw[←Array.length_toList,hset]
   simp;omega
  obtain ⟨cs',q1,q2⟩:=ih (i+1) _ (by rw[hsz'];rw[show i+1+r.length=i+(r.length+1) by omega];exact h) (fun u hu=>hv u (by simp[hu]))
  refine ⟨cs',?_,?_⟩
  ·simp only[en,Instr.fill]
   rw[if_neg (by simp[hv0];omega)]
   rw[e1];exact q1
  ·rw[q2,hset]
   simp only[List.flatMap_cons,List.length_cons,Array.length_toList,hv0]
   have e2:(i+1)*sz=i*sz+sz:=by rw[Nat.succ_mul]
   have e3:(i+(r.length+1))*sz=i*sz+sz+r.length*sz:=by rw[Nat.add_mul,Nat.succ_mul];omega
   have e4:(i+1+r.length)*sz=i*sz+sz+r.length*sz:=by rw[Nat.add_mul,Nat.succ_mul]
   rw[e2,e3,e4]
   have t1:(cs.toList.take (i*sz)).length=i*sz:=by simp;omega
   have t2:(cs.toList.take (i*sz)++v.cells.toList).length=i*sz+sz:=by rw[List.length_append,t1];simp[hv0]
   have k1: ∀C:List Value,(cs.toList.take (i*sz)++v.cells.toList++C).take (i*sz+sz)=cs.toList.take (i*sz)++v.cells.toList:=by
    intro C
    rw[List.take_append_of_le_length (by omega),List.take_of_length_le (by omega)]
   have k2: ∀(C:List Value) (n:Nat),(cs.toList.take (i*sz)++v.cells.toList++C).drop (i*sz+sz+n)=C.drop n:=by
    intro C n
    rw[List.drop_append,t2,List.drop_eq_nil_of_le (by omega),List.nil_append]
    congr 1;omega
   rw[k1,k2,List.drop_drop]
   simp only[List.append_assoc]
theorem Ht {t:TypeId} {by_:Nat} {z:Value} [ts:TS P t e] [tz:TZ P e sz by_ z] (vs:List Value) (hv: ∀v∈vs,v.cells.size=sz) (hsm:vs.length*sz≤16777216) (w:World):
 ∃cells:Array Value,(Instr.buildSlice t vs.length (en 0 vs).toArray).run P w= .ok (.slice (some ⟨w.heap.size,0,none⟩) vs.length vs.length) (w.alloc (.cells cells e))∧cells.toList=vs.flatMap (·.cells.toList):=by
 have h2: ¬vs.length*sz>2 ^ 24:=by omega
 by_cases h:vs.length*sz=0
 ·obtain ⟨cells,hf,hl⟩:=Q7E sz vs 0 ((Array.range (vs.length*sz)).map ((#[]:Array Value)[· % (#[]:Array Value).size]!)) (by simp) hv
  refine ⟨cells,?_,by rw[hl];simp⟩
  simp only[Instr.buildSlice,Sem.run_bind,run_underlying ts.h,Result.andThen_ok,L3 tz,if_neg h2,if_pos h,Sem.run_pure,hf]
  simp[newRow]
 ·obtain ⟨cells,hf,hl⟩:=Q7E sz vs 0 ((Array.range (vs.length*sz)).map (z.cells[· % z.cells.size]!)) (by simp) hv
  refine ⟨cells,?_,by rw[hl];simp⟩
  simp only[Instr.buildSlice,Sem.run_bind,run_underlying ts.h,Result.andThen_ok,L3 tz,if_neg h2,if_neg h,Sem.run_pure,Zl tz,hf]
  simp[newRow]
theorem Q8D {vs:List Value} (d: ∀v∈vs,v.cells.size=sz) (i:Nat) (v:Value) (h:vs[i]? =some v):((vs.flatMap (·.cells.toList)).drop (i*sz)).take sz=v.cells.toList:=by
 induction vs generalizing i with
 | nil=>simp at h
 | cons a r f=>
  have b:=d a (by simp)
  cases i with
  | zero=>
   simp at h;subst h
   rw[List.flatMap_cons,Nat.zero_mul,List.drop_zero,List.take_append_of_le_length (by simp[b]),List.take_of_length_le (by simp[b])]
  | succ i=>
   rw[List.flatMap_cons,Nat.succ_mul,List.drop_append,List.drop_eq_nil_of_le (by simp[b]),List.nil_append]
   rw[show i*sz+sz-a.cells.toList.length=i*sz by simp[b]]
   exact f (fun v c=>d v (by simp[c])) i (by simpa using h)
theorem Q2z {vs:List Value} (b: ∀v∈vs,v.cells.size=sz):(vs.flatMap (·.cells.toList)).length=vs.length*sz:=by
 induction vs with
 | nil=>simp
 | cons a r c=>
  rw[List.flatMap_cons,List.length_append,c (fun v h=>b v (by simp[h]))]
  simp[b a (by simp),Nat.succ_mul,Nat.add_comm]
def Q0t (R:Q6→α→List Value→Prop) (σ:Q6):List Value→List α→Prop
 | [],[]=>True
 | v::vs,x::xs=>R σ x v.cells.toList∧Q0t R σ vs xs
 | _,_=>False
theorem Q0t.len {vs:List Value} (h:Q0t R σ vs xs):vs.length=xs.length:=by
 induction vs generalizing xs with
 | nil=>cases xs with
  | nil=>rfl
  | cons=>exact h.elim
 | cons v r a=>cases xs with
  | nil=>exact h.elim
  | cons x y=>simp[a h.2]
theorem Q0t.get {vs:List Value} (h:Q0t R σ vs xs) {i:Nat} {x:α} (a:xs[i]? =some x): ∃v,vs[i]? =some v∧R σ x v.cells.toList:=by
 induction vs generalizing xs i with
 | nil=>cases xs with
  | nil=>simp at a
  | cons=>exact h.elim
 | cons v r b=>cases xs with
  | nil=>exact h.elim
  | cons y ys=>
   cases i with
   | zero=>simp at a;subst a;exact ⟨v,rfl,h.1⟩
   | succ i=>obtain ⟨u,d,c⟩:=b h.2 (i:=i) (by simpa using a);exact ⟨u,by simpa using d,c⟩
theorem Zf {t:TypeId} {g:Nat} {z:Value} {n:Nat} {a:List (Nat×Value)} [ts:TS P t e] [tz:TZ P e sz g z] (m:Stp w0 σ0 w σ) (vs:List Value) (xs:List α) (A:n=vs.length) (p:a=en 0 vs) (c: ∀v∈vs,v.cells.size=sz) (b:(decide (0<sz)&&decide (vs.length*sz≤16777216))=true) (o:Q0t R σ vs xs)
 (h: ∀v w',Stp w σ w' σ→V7 w0.heap.size e sz R σ w' v xs→(∀k,v.ownBlock=some k→w.heap.size≤k)→K v w'):buildSlice P t n a w K:=by
 subst A p
 simp only[Bool.and_eq_true,decide_eq_true_eq] at b
 obtain ⟨j,b⟩:=b
 obtain ⟨cells,q,f⟩:=Ht (P:=P) (t:=t) vs c b w
 unfold buildSlice
 rw[Y0 q]
 have d:=o.len
 refine h _ _ (Stp.own m.sat _) ⟨cells.toList,⟨by rw[f,Q2z c,d], .inr ⟨_,_,cells,by rw[d],m.bel.size,heap_alloc_new w _,by omega,?_,?_,?_⟩⟩,?_,?_⟩ ?_
 ·simp only[maxLen]
  have:vs.length*1≤vs.length*sz:=Nat.mul_le_mul_left _ j
  omega
 ·rw[←Array.length_toList,f,Q2z c,d]
 ·rw[List.take_of_length_le (by rw[f,Q2z c,d];exact Nat.le_refl _)]
 ·intro k l;cases l;exact m.sat.none (Nat.le_refl _)
 ·intro i x r
  obtain ⟨v,s,y⟩:=o.get r
  rw[f,Q8D c i v s];exact y
 ·intro k l;cases l;exact Nat.le_refl _
theorem T4 [Rep R] {t:TypeId} {b:Nat} {z:Value} {n:Nat} {a:List (Nat×Value)} [ts:TS P t e] [tz:TZ P e sz b z] (d:X3 w σ) (vs:List Value) (xs:List α) (o:n=vs.length) (g:a=en 0 vs) (i: ∀v∈vs,v.cells.size=sz) (c:(decide (0<sz)&&decide (vs.length*sz≤16777216))=true) (f:Q0t R σ vs xs)
 (h: ∀v w' σ',Stp w σ w' σ'→Sl sz R σ' v xs→K v w'):buildSlice P t n a w K:=by
 refine Zf (Stp.refl d) vs xs o g i c f fun v w' j k _=>?_
 obtain ⟨σ',l,m,_⟩:=k.keep j
 exact h v w' σ' l m
theorem X2r {t:TypeId} {k a:Nat} {b:TypeId} [tf:TF P t k a b] [tg:TG P b false] {cs:Array Value} {v:Value} (l:cs[a]? =some v):B7 P t (.agg cs) k w K=K v w:=by
 unfold B7
 have hh:=tf.h
 unfold Q4g at hh
 split at hh
 ·rename_i m g
  obtain ⟨f,i,c⟩:=Option.map_eq_some_iff.1 hh
  simp only[Prod.mk.injEq] at c
  obtain ⟨d,j⟩:=c
  subst j d
  exact Y0 (by simp[Instr.field,run_underlying g,i,asAgg,part,Ya tg,l])
 ·cases hh
theorem Qi {f:Fn} {first caps:List Value}:H1 P f first caps w K=K (.func f first.toArray caps.toArray) w:=Y0 (by simp[Instr.makeFunc])
theorem W1 {t:TypeId} {a:List (Nat×Value)} {cells:Array Value} (h:P.built t a=some cells) (b:K (.agg cells) w):H0 P t a w K:=by
 unfold H0
 rw[Y0 (run_build w t a.toArray cells h)];exact b
end
def H2 (o:Option Obj) (m:List (List UInt8×Value)):Prop:=
 ∃b a,o=some (.map b a)∧b.toList.map (fun e=>(e.key,e.val))=m.map (fun p=>(S p.1,p.2))∧(b.toList.map (·.born)).Pairwise (· < ·)∧ ∀e∈b.toList,e.born<a
def C6 (m:List (List UInt8×Value)) (k:List UInt8):Option Value:=match m with
 | []=>none
 | p::r=>if p.1=k then some p.2 else C6 r k
def Lb (m:List (List UInt8×Value)) (k:List UInt8) (v:Value):List (List UInt8×Value):=match m with
 | []=>[(k,v)]
 | p::r=>if p.1=k then (k,v)::r else p::Lb r k v
theorem Ev (a b:List UInt8):((⟨a.toArray⟩:ByteArray)==⟨b.toArray⟩)=decide (a=b):=by
 rw[←Q3Y]
 show (a.toArray==b.toArray)=_
 simp
theorem Bo (k:List UInt8): ∀(c:List MapEntry) (m:List (List UInt8×Value)) (i:Nat),c.map (fun e=>(e.key,e.val))=m.map (fun p=>(S p.1,p.2))→
 ∃r,Instr.findNow .string (S k) c i=some r∧r.map (·.2)=C6 m k∧(∀j v,r=some (j,v)→i≤j∧(∃e,c[j-i]? =some e∧e.key=S k)∧ ∀u,(c.modify (j-i) fun e=>{e with key:=S k,val:=u}).map (fun e=>(e.key,e.val))=(Lb m k u).map (fun p=>(S p.1,p.2)))∧
  (r=none→ ∀u,Lb m k u=m++[(k,u)]):=by
 intro c
 induction c with
 | nil=>
  intro m i h
  cases m with
  | nil=>exact ⟨none,rfl,rfl,(by simp),fun _ u=>rfl⟩
  | cons=>simp at h
 | cons e r z=>
  intro m i h
  cases m with
  | nil=>simp at h
  | cons p q=>
   simp only[List.map_cons,List.cons.injEq,Prod.mk.injEq] at h
   obtain ⟨⟨d,l⟩,g⟩:=h
   simp only[Instr.findNow,d,Instr.sameNow,Ev]
   by_cases a:p.1=k
   ·have f:decide (k=p.1)=true:=by simp[a]
    simp only[f]
    refine ⟨_,rfl,by simp[C6,a,l],?_,by simp⟩
    intro j v b
    cases b
    refine ⟨Nat.le_refl _,⟨e,by simp,by rw[d,a]⟩,fun u=>?_⟩
    simp[Lb,a,g]
   ·have f:decide (k=p.1)=false:=by simp;exact fun e=>a e.symm
    simp only[f]
    obtain ⟨n,t,A,D,s⟩:=z q (i+1) g
    refine ⟨n,t,by simp[C6,a,A],?_,?_⟩
    ·intro j v b
     obtain ⟨E,o,y⟩:=D j v b
     refine ⟨by omega,by rw[show j-i=(j-(i+1))+1 by omega];simpa using o,fun u=>?_⟩
     have:=y u
     rw[show j-i=(j-(i+1))+1 by omega]
     simp[Lb,a,d,l,this]
    ·intro C u
     simp[Lb,a,s C u]
theorem K2 {t:TypeId} (a:P.underlying t=some .string) (b:Bool) (k:List UInt8) (w:World):(Instr.checkKey b 10000 t (S k)).run P w= .ok () w:=by
 unfold Instr.checkKey
 simp[run_underlying a]
theorem Q2P {t f g:TypeId} {sz d:Nat} {z:Value} [tm:TM P t f g] [tz:TZ P g sz d z] (b:P.underlying f=some .string) {r:Nat} {m:List (List UInt8×Value)} (o:H2 (w.heap[r]?) m) (k:List UInt8):
 lookup P t (.map (some r)) (S k) true w K=K (match C6 m k with | some v=> .tuple #[v, .bool true] | none=> .tuple #[z, .bool false]) w:=by
 obtain ⟨j,a,n,q,y,A⟩:=o
 obtain ⟨l,i,c,D,C⟩:=Bo k j.toList m 0 q
 unfold lookup
 refine Y0 ?_
 simp only[Instr.lookup,Sem.run_bind,run_underlying tm.h,Result.andThen_ok,Instr.findKey,run_underlying b,i,K2 b]
 have s:(getObj r).run P w= .ok (.map j a) w:=by simp[getObj,Sem.run,n]
 simp only[s,Result.andThen_ok,Sem.run_bind,Sem.run_pure,K2 b,run_underlying b,i]
 cases l with
 | none=>simp at c;rw[←c];simp[Zl tz]
 | some p=>simp at c;rw[←c];simp
theorem Q4O {t d f:TypeId} {sz c:Nat} {z:Value} [tm:TM P t d f] [tz:TZ P f sz c z] (g:P.underlying d=some .string) {r:Nat} {m:List (List UInt8×Value)} (n:H2 (w.heap[r]?) m) (k:List UInt8):
 lookup P t (.map (some r)) (S k) false w K=K ((C6 m k).getD z) w:=by
 obtain ⟨i,a,l,q,y,A⟩:=n
 obtain ⟨j,o,b,D,C⟩:=Bo k i.toList m 0 q
 unfold lookup
 refine Y0 ?_
 have s:(getObj r).run P w= .ok (.map i a) w:=by simp[getObj,Sem.run,l]
 simp only[Instr.lookup,Sem.run_bind,run_underlying tm.h,Result.andThen_ok,Instr.findKey,run_underlying g,o,K2 g,s,Sem.run_pure]
 cases j with
 | none=>simp at b;rw[←b];simp[Zl tz]
 | some p=>simp at b;rw[←b];simp
def C8 (σ:Q6) (w:World) (r:Nat) (m:List (List UInt8×Value)):Prop:=σ r=none∧H2 (w.heap[r]?) m
def Xj (σ:Q6) (r:Nat) (m:List (List UInt8×Value)):Prop:=H2 (σ r) m
theorem Xj.is {σ:Q6} {r:Nat} {m:List (List UInt8×Value)} (h:Xj σ r m) (c:X3 w σ):H2 (w.heap[r]?) m:=by
 obtain ⟨d,a,b,f⟩:=h
 exact ⟨d,a,c _ _ b,f⟩
theorem Xj.le {σ σ':Q6} {r:Nat} {m:List (List UInt8×Value)} (h:Xj σ r m) (g: ∀b o,σ b=some o→σ' b=some o):Xj σ' r m:=by
 obtain ⟨f,a,c,d⟩:=h
 exact ⟨f,a,g _ _ c,d⟩
theorem Xj.up {σ σ':Q6} {r:Nat} {m:List (List UInt8×Value)} (h:Xj σ r m) (a:Stp w σ w' σ'):Xj σ' r m:=h.le a.le
theorem C8.lt {σ:Q6} {r:Nat} {m:List (List UInt8×Value)} (h:C8 σ w r m):r<w.heap.size:=by
 obtain ⟨_,c,a,b,_⟩:=h
 exact (Array.getElem?_eq_some_iff.1 b).1
theorem C8.up {σ σ':Q6} {r:Nat} {m:List (List UInt8×Value)} (h:C8 σ w r m) (b:Stp w σ w' σ'):C8 σ' w' r m:=by
 have a:=h.lt
 exact ⟨(b.old r a).trans h.1,(b.bel.block r a).symm▸h.2⟩
theorem Q2X {t:TypeId} {σ:Q6} (a:X3 w σ) (h: ∀r w',w.heap.size≤r→Stp w σ w' σ→C8 σ w' r []→K (.map (some r)) w'):Pt P t none w K:=by
 unfold Pt
 rw[Y0 (v:= .map (some w.heap.size)) (w':=w.alloc (.map #[] 0)) (by simp[Instr.makeMap])]
 exact h _ _ (Nat.le_refl _) (Stp.own a _) ⟨a.none (Nat.le_refl _), #[],0,heap_alloc_new w _,rfl,by simp,by simp⟩
theorem C8.keep {σ σ0:Q6} {r:Nat} {m:List (List UInt8×Value)} (h:C8 σ w r m) (d:Stp w0 σ0 w σ) (j:w0.heap.size≤r): ∃σ',Stp w0 σ0 w σ'∧Xj σ' r m∧(∀k o,σ k=some o→σ' k=some o)∧(∀k,k≠r→σ' k=σ k):=by
 obtain ⟨c,b,a,f,g⟩:=h
 exact ⟨σ.put r (.map b a),d.put c j f,⟨b,a,by simp[Q6.put],g⟩,Q6.put_le d.sat c _,fun k i=>by simp only[Q6.put,if_neg i]⟩
theorem Pv {t M Z:TypeId} [tm:TM P t M Z] (A:P.underlying M=some .string) {σ:Q6} {r:Nat} {m:List (List UInt8×Value)} (hm:C8 σ w r m) (k:List UInt8) (v:Value)
 (h: ∀w',Upd w r w'→C8 σ w' r (Lb m k v)→K undef w'):mapUpdate P t (.map (some r)) (S k) v w K:=by
 obtain ⟨L,l,d,E,U,J,D⟩:=hm
 obtain ⟨X,O,q2,q3,q4⟩:=Bo k l.toList m 0 U
 have W:(getObj r).run P w= .ok (.map l d) w:=by simp[getObj,Sem.run,E]
 have hl:=(Array.getElem?_eq_some_iff.1 E).1
 have n: ∀o,o=Obj.map l d∨True→(∀c e f,o≠ .cells c e f)→(setObj r o).run P w= .ok () {w with heap:=w.heap.setIfInBounds r o}:=by
  intro o _ _
  simp[setObj,Sem.run,E]
 have z: ∀o,Upd w r {w with heap:=w.heap.setIfInBounds r o}:=fun o=>⟨rfl,rfl,rfl,by simp,fun k A=>by simp only[Array.getElem?_setIfInBounds];rw[if_neg (by omega)]⟩
 have C: ∀o,({w with heap:=w.heap.setIfInBounds r o}:World).heap[r]? =some o:=fun o=>by simp[Array.getElem?_setIfInBounds,hl]
 unfold mapUpdate
 cases X with
 | none=>
  rw[Lg (w':={w with heap:=w.heap.setIfInBounds r (.map (l.push {key:=S k,val:=v,born:=d}) (d+1))}) (by
   simp only[Instr.mapUpdate,Sem.run_bind,run_underlying tm.h,Result.andThen_ok,Instr.findKey,run_underlying A,O,K2 A,W,Sem.run_pure]
   exact n _ (.inr trivial) (by intros;simp))]
  refine h _ (z _) ⟨L,_,_,C _,?_,?_,?_⟩
  ·rw[q4 rfl];simp[U]
  ·simp only[Array.toList_push,List.map_append,List.map_cons,List.map_nil]
   rw[List.pairwise_append]
   refine ⟨J,by simp,?_⟩
   intro a ha b V
   simp at V;subst V
   obtain ⟨e,s,rfl⟩:=List.mem_map.1 ha
   exact D e s
  ·intro e s
   simp at s
   rcases s with s | rfl
   ·have:=D e (by simpa using s);omega
   ·simp
 | some p=>
  obtain ⟨j,u⟩:=p
  obtain ⟨z1,z2,Q⟩:=q3 j u rfl
  obtain ⟨e,N,e2⟩:=z2
  simp only[Nat.sub_zero] at N Q
  have g:((l.modify j fun e=>{e with key:=S k,val:=v}).toList.map (·.born))=l.toList.map (·.born):=by
   apply List.ext_getElem?
   intro i
   simp only[Array.toList_modify,List.getElem?_map,List.getElem?_modify]
   by_cases H:j=i<;>cases l.toList[i]? <;>simp[H]
  have q:(Instr.keyThatStays (S k) (S k)).run P w= .ok (S k) w:=by
   simp[Instr.keyThatStays,Instr.sameBits,Ev]
  rw[Lg (w':={w with heap:=w.heap.setIfInBounds r (.map (l.modify j fun e=>{e with key:=S k,val:=v}) d)}) (by
   simp only[Instr.mapUpdate,Sem.run_bind,run_underlying tm.h,Result.andThen_ok,Instr.findKey,run_underlying A,O,K2 A,W,Sem.run_pure]
   rw[show ((l[j]?).map (·.key)).getD (S k)=S k by rw[←Array.getElem?_toList,N];simp[e2]]
   simp only[q,Result.andThen_ok]
   exact n _ (.inr trivial) (by intros;simp))]
  refine h _ (z _) ⟨L,_,_,C _,?_,?_,?_⟩
  ·simp only[Array.toList_modify];exact Q v
  ·rw[g];exact J
  ·intro x hx
   have:x.born∈l.toList.map (·.born):=by rw[←g];exact List.mem_map.2 ⟨x,hx,rfl⟩
   obtain ⟨y,Y,e⟩:=List.mem_map.1 this
   rw[←e];exact D y Y
end Go.Emb

namespace Go.Emb
open Go.RowKit
variable {P : Program} {w w0 w1 w' w'' : World} {K : Value → World → Prop}
theorem J0 {c b:Bool} {a:World→(Value→World→Prop)→Prop} (d:c=b→a w K) (e:c=(!b)→K undef w):Q0 (.bool c) b w a K:=by
 cases c<;>cases b
 ·rw[W9];exact d rfl
 ·rw[E1];exact e rfl
 ·rw[S6];exact e rfl
 ·rw[W5];exact d rfl
theorem Q7 {c:Bool} {t e:Prop} (a:c=true→t) (b:c=false→e):X1 (.bool c) t e:=by
 cases c
 ·rw[M7];exact b rfl
 ·rw[H6];exact a rfl
theorem Q8 {α:Type} {R:Q6→α→List Value→Prop} {sz:Nat} {σ:Q6} {v:Value} {xs:List α} {a e t:TypeId} {cs:List Bool} [ts:TS P a e] (h:Sl sz R σ v xs) (b:K (I xs.length) w):X2 P .len [a] t cs [v] w K:=by
 rw[X31 h];exact b
structure Kpt (D : Nat → Prop) (w w' : World) : Prop where
  os : w'.os = w.os
  tape : w'.tape = w.tape
  output : w'.output = w.output
  size : w.heap.size ≤ w'.heap.size
  block : ∀ k, k < w.heap.size → ¬ D k → w'.heap[k]? = w.heap[k]?
theorem Kpt.refl {D:Nat→Prop}:Kpt D w w:=⟨rfl,rfl,rfl,Nat.le_refl _,fun _ _ _=>rfl⟩
theorem Kpt.trans {D:Nat→Prop} (h:Kpt D w w') (k:Kpt D w' w''):Kpt D w w'':=
 ⟨k.os.trans h.os,k.tape.trans h.tape,k.output.trans h.output,Nat.le_trans h.size k.size,fun i a b=>(k.block i (Nat.lt_of_lt_of_le a h.size) b).trans (h.block i a b)⟩
theorem Kpt.of_below {D:Nat→Prop} (h:Below w.heap.size w w'):Kpt D w w':=⟨h.os,h.tape,h.output,h.size,fun k a _=>h.block k a⟩
theorem Kpt.of_grown {D:Nat→Prop} {row:Option Nat} (h:w.grownBy w' row) (a: ∀k,row=some k→D k):Kpt D w w':=⟨h.os,h.tape,h.output,h.size,fun k b c=>h.block k b (fun e=>c (a k e.symm))⟩
theorem Kpt.of_upd {D:Nat→Prop} {b:Nat} (h:Upd w b w') (c:D b):Kpt D w w':=⟨h.os,h.tape,h.output,by rw[h.size];exact Nat.le_refl _,fun k d a=>h.block k (fun e=>a (e▸c))⟩
theorem Kpt.mono {D D':Nat→Prop} (h:Kpt D w w') (c: ∀k,k<w.heap.size→D k→D' k):Kpt D' w w':=⟨h.os,h.tape,h.output,h.size,fun k a b=>h.block k a (fun e=>b (c k a e))⟩
theorem Kpt.below {D:Nat→Prop} (h:Kpt D w w') (b: ∀k,¬D k):Below w.heap.size w w':=⟨h.os,h.tape,h.output,h.size,fun k a=>h.block k a (b k)⟩
theorem Stp.kp {σ0 σ:Q6} {D:Nat→Prop} (a:Stp w0 σ0 w σ) (b:Kpt D w w') (f: ∀k,D k→w0.heap.size≤k∧σ k=none):Stp w0 σ0 w' σ:=by
 refine ⟨⟨b.os.trans a.bel.os,b.tape.trans a.bel.tape,b.output.trans a.bel.output,Nat.le_trans a.bel.size b.size,fun k c=>?_⟩,?_,a.le,a.old⟩
 ·refine (b.block k (Nat.lt_of_lt_of_le c a.bel.size) ?_).trans (a.bel.block k c)
  intro e;have:=(f k e).1;omega
 ·intro k o d
  refine (b.block k (a.sat.lt d) ?_).trans (a.sat k o d)
  intro e;rw[(f k e).2] at d;cases d
theorem Y2.kp {σ:Q6} {D:Nat→Prop} {k:Nat} {cs:List Value} (h:Y2 σ w k cs) (d:Kpt D w w') (a: ¬D k):Y2 σ w' k cs:=by
 have c:=h.lt
 obtain ⟨b,e,f⟩:=h
 exact ⟨b,e,(d.block k c a).trans f⟩
theorem C8.kp {σ:Q6} {D:Nat→Prop} {r:Nat} {m:List (List UInt8×Value)} (h:C8 σ w r m) (b:Kpt D w w') (a: ¬D r):C8 σ w' r m:=
 ⟨h.1,(b.block r h.lt a).symm▸h.2⟩
theorem V7.kp {α:Type} {R:Q6→α→List Value→Prop} {B sz:Nat} {e:TypeId} {σ:Q6} {v:Value} {xs:List α} {D:Nat→Prop} (h:V7 B e sz R σ w v xs) (n:Kpt D w w') (d: ∀k,v.ownBlock=some k→ ¬D k):V7 B e sz R σ w' v xs:=by
 obtain ⟨cells,f,m,j⟩:=h
 refine ⟨cells,⟨f.1,?_⟩,m,j⟩
 rcases f.2 with o | ⟨g,c,b,rfl,l,i,a⟩
 ·exact .inl o
 ·refine .inr ⟨g,c,b,rfl,l,?_,a⟩
  rw[n.block g (Array.getElem?_eq_some_iff.1 i).1 (d g rfl)];exact i
theorem bt {w w1 b:World} (a:Below w.heap.size w w1) (c:Below w1.heap.size w1 b):Below w.heap.size w b:=a.trans (c.mono a.size)
abbrev U2:Nat:=140737488351232
def U8 (_:Q6) (s:List UInt8) (cs:List Value):Prop:=cs=[S s]∧s.length≤U2
instance:Rep U8:=⟨fun _ h=>h,fun h u hu=>by rw[h.1] at hu;simp at hu;subst hu;rfl⟩
def Wx (_:Q6) (n:Int) (cs:List Value):Prop:=cs=[I n]∧ -9223372036854775808≤n∧n≤9223372036854775807
instance:Rep Wx:=⟨fun _ h=>h,fun h u hu=>by rw[h.1] at hu;simp at hu;subst hu;rfl⟩
def Q3f (_:Q6) (b:Bool) (cs:List Value):Prop:=cs=[.bool b]
instance:Rep Q3f:=⟨fun _ h=>h,fun h u hu=>by rw[h] at hu;simp at hu;subst hu;rfl⟩
def UpI (N:Nat) (a:Nat→World→Prop) (x:Value) (w:World):Prop:= ∃n:Nat,x=I n∧n≤N∧a n w
def UpM (N:Nat) (x:Value):Nat:=match x with | .int _ n=>N-n.toNat | _=>0
theorem U3 {A:(Value→World→Prop)→Value→(Nat→Value)→World→Prop} (N:Nat) (a:Nat→World→Prop) (f:a 0 w)
 (b: ∀n w d,n≤N→a n w→A (fun y w'=>UpI N a y w'∧UpM N y<UpM N (I n)) (I n) d w):lp (α:=Value) (.int .i64 0) w A:=by
 refine Wo (UpI N a) (fun x _=>UpM N x) ⟨0,rfl,Nat.zero_le _,f⟩ ?_
 rintro _ d w' ⟨n,rfl,e,c⟩
 exact b n w' d e c
theorem Y5 {N n:Nat} {a:Nat→World→Prop} (d:N≤9223372036854775807) (c:n<N) (b:a (n+1) w):UpI N a (.int .i64 (IntKind.i64.wrap (n+1))) w∧UpM N (.int .i64 (IntKind.i64.wrap (n+1)))<UpM N (I n):=by
 rw[G7 (by omega) (by omega)]
 exact ⟨⟨n+1,rfl,c,b⟩,by simp only[UpM];omega⟩
def Fs {α:Type} (N:Nat) (a:Nat→α→World→Prop) (x:α×Value) (w:World):Prop:= ∃n:Nat,x.2=I n∧n≤N∧a n x.1 w
def Ns {α:Type} (N:Nat) (x:α×Value):Nat:=UpM N x.2
theorem E2 {α:Type} {A:(α×Value→World→Prop)→α×Value→(Nat→Value)→World→Prop} {a:α} (N:Nat) (b:Nat→α→World→Prop) (h:b 0 a w)
 (c: ∀n a w d,n≤N→b n a w→A (fun y w'=>Fs N b y w'∧Ns N y<Ns N (a,I n)) (a,I n) d w):lp (α:=α×Value) (a, .int .i64 0) w A:=by
 refine Wo (Fs N b) (fun x _=>Ns N x) ⟨0,rfl,Nat.zero_le _,h⟩ ?_
 rintro ⟨a,x⟩ d w' ⟨n,f,g,e⟩
 simp only at f e
 subst f
 exact c n a w' d g e
theorem J5 {α:Type} {a c:α} {N n:Nat} {b:Nat→α→World→Prop} (f:N≤9223372036854775807) (e:n<N) (d:b (n+1) c w):Fs N b (c, .int .i64 (IntKind.i64.wrap (n+1))) w∧Ns N (c, .int .i64 (IntKind.i64.wrap (n+1)))<Ns N (a,I n):=by
 rw[G7 (by omega) (by omega)]
 exact ⟨⟨n+1,rfl,e,d⟩,by simp only[Ns,UpM];omega⟩
theorem N0 {α:Type} {R:Q6→α→List Value→Prop} {sz:Nat} {σ:Q6} {v:Value} {xs:List α} {t e:TypeId} {b:Nat} {z:Value} [TS P t e] [TZ P e sz b z] (h:Sl sz R σ v xs) {n:Nat} (i:n<xs.length)
 (f: ∀a cs,Z6 σ a cs→cs.length=sz→R σ xs[n] cs→K (.pointer (some a)) w):indexAddr P t v (I n) w K:=
 X3Q h (by omega) (by simpa using i) (fun a cs d g c=>f a cs d g (by simpa using c))
theorem Y8 {t:TypeId} {sz d:Nat} {z:Value} {A:Value→Value→World→Prop} [tz:TZ P t sz d z] {σ:Q6} {cs:List Value} (i:X3 w σ) (j:z.cells.size=sz) (n:cs.length=sz) (l: ∀u∈cs,u.oneCell'=true)
 (h: ∀a w' c,Stp w σ w' c→Z6 c a cs→A (.pointer (some a)) undef w'):V6 P t w (fun p w=>X9 P t p (.agg cs.toArray) w (fun u w=>A p u w)):=by
 refine Ti i fun b w1 g o f=>?_
 refine Wc f (by simpa using j) n (by rw[List.all_toArray];exact List.all_eq_true.2 l) fun k m e=>?_
 have s:Stp w σ k σ:=m.stp o g f.1
 obtain ⟨c,q,r,_⟩:=e.keep s g
 exact h _ _ _ q r
theorem U7 {t:TypeId} {f:Nat} {z:Value} {A:Value→Value→World→Prop} [tz:TZ P t 1 f z] {σ:Q6} {v:Value} (j:X3 w σ) (k:z.cells.size=1) (o:v.cells= #[v]) (m:v.oneCell'=true)
 (h: ∀a w' d,Stp w σ w' d→Z6 d a [v]→A (.pointer (some a)) undef w'):V6 P t w (fun p w=>X9 P t p v w (fun u w=>A p u w)):=by
 refine Ti j fun b w1 i r g=>?_
 have q:z.cells.toList.length=1:=by simpa using k
 refine st0 g (by omega) o m fun l n c=>?_
 have B:Stp w σ l σ:=n.stp r i g.1
 have e:z.cells.toList.set 0 v=[v]:=by
  match hzl:z.cells.toList,q with
  | [x],_=>rfl
 rw[e] at c
 obtain ⟨d,s,y,_⟩:=c.keep B i
 exact h _ _ _ s y
theorem L2 {α:Type} {xs:List α} {p:α→Bool} {n:Nat} (h:n<xs.length):(xs.take (n+1)).any p=((xs.take n).any p||p xs[n]):=by
 rw[List.take_add_one,List.getElem?_eq_getElem h,List.any_append];simp
theorem C0 {α:Type} {xs:List α} {p:α→Bool} {n:Nat} (h:n<xs.length) (a:p xs[n]=true):xs.any p=true:=List.any_eq_true.2 ⟨_,List.getElem_mem h,a⟩
theorem E0 {α:Type} {xs:List α} {p:α→Bool} {n:Nat} (h: ¬n<xs.length):(xs.take n).any p=xs.any p:=by rw[List.take_of_length_le (by omega)]
end Go.Emb

namespace Go.Hm
open Go.Kd
structure Fld where
  name : X0
  kind : X0
  tr : Bool
deriving DecidableEq
structure Ins where
  op : X0
  n : Int
  s : X0
deriving DecidableEq
structure Cat where
  frm : Int
  to : Int
  at_ : Int
  cls : X0
deriving DecidableEq
structure Met where
  name : X0
  params : List X0
  result : X0
  abs : Bool
  locals : Int
  code : List Ins
  catches : List Cat
deriving DecidableEq
structure Cla where
  name : X0
  super : X0
  like : List X0
  iface : Bool
  abs : Bool
  fin : Bool
  fields : List Fld
  methods : List Hm.Met
deriving DecidableEq
def Fld.zero:Fld:=⟨[],[],false⟩
def Met.zero:Hm.Met:=⟨[],[],[],false,0,[],[]⟩
def Cla.zero:Cla:=⟨[],[],[],false,false,false,[],[]⟩
end Go.Hm

namespace Go.Emb
open Go.RowKit Go.Hm
abbrev Yn (n:Int):Prop:= -9223372036854775808≤n∧n≤9223372036854775807
def S5 (_:Q6) (f:Fld) (cs:List Value):Prop:=cs=[S f.name,S f.kind, .bool f.tr]∧f.name.length≤U2∧f.kind.length≤U2
def Qp (_:Q6) (i:Ins) (cs:List Value):Prop:=cs=[S i.op,I i.n,S i.s]∧i.op.length≤U2∧Yn i.n∧i.s.length≤U2
def Um (_:Q6) (c:Cat) (cs:List Value):Prop:=cs=[I c.frm,I c.to,I c.at_,S c.cls]∧Yn c.frm∧Yn c.to∧Yn c.at_∧c.cls.length≤U2
def E7 (σ:Q6) (m:Hm.Met) (cs:List Value):Prop:= ∃pv a b,cs=[S m.name,pv,S m.result, .bool m.abs,I m.locals,a,b]∧Sl 1 U8 σ pv m.params∧Sl 3 Qp σ a m.code∧Sl 4 Um σ b m.catches∧m.name.length≤U2∧m.result.length≤U2∧Yn m.locals
def U9 (σ:Q6) (c:Cla) (cs:List Value):Prop:= ∃a b mv,cs=[S c.name,S c.super,a, .bool c.iface, .bool c.abs, .bool c.fin,b,mv]∧Sl 1 U8 σ a c.like∧Sl 3 S5 σ b c.fields∧Sl 7 E7 σ mv c.methods∧c.name.length≤U2∧c.super.length≤U2
theorem A8 {α:Type} {sz:Nat} {R:Q6→α→List Value→Prop} {σ:Q6} {v:Value} {xs:List α} (h:Sl sz R σ v xs):v.oneCell'=true:=by
 obtain ⟨a,b,rfl,_⟩:=h;rfl
instance:Rep S5:=⟨fun _ h=>h,fun h u hu=>by rw[h.1] at hu;simp at hu;rcases hu with rfl | rfl | rfl<;>rfl⟩
instance:Rep Qp:=⟨fun _ h=>h,fun h u hu=>by rw[h.1] at hu;simp at hu;rcases hu with rfl | rfl | rfl<;>rfl⟩
instance:Rep Um:=⟨fun _ h=>h,fun h u hu=>by rw[h.1] at hu;simp at hu;rcases hu with rfl | rfl | rfl | rfl<;>rfl⟩
instance:Rep E7:=⟨fun hk ⟨pv,cv,hv,h1,h2,h3,h4,h5⟩=>⟨pv,cv,hv,h1,h2.le hk,h3.le hk,h4.le hk,h5⟩,fun ⟨pv,cv,hv,h1,h2,h3,h4,h5⟩ u hu=>by
 rw[h1] at hu;simp at hu;rcases hu with rfl | rfl | rfl | rfl | rfl | rfl | rfl
 ·rfl
 ·exact A8 h2
 ·rfl
 ·rfl
 ·rfl
 ·exact A8 h3
 ·exact A8 h4⟩
instance:Rep U9:=⟨fun hk ⟨pv,cv,hv,h1,h2,h3,h4,h5⟩=>⟨pv,cv,hv,h1,h2.le hk,h3.le hk,h4.le hk,h5⟩,fun ⟨pv,cv,hv,h1,h2,h3,h4,h5⟩ u hu=>by
 rw[h1] at hu;simp at hu;rcases hu with rfl | rfl | rfl | rfl | rfl | rfl | rfl | rfl
 ·rfl
 ·rfl
 ·exact A8 h2
 ·rfl
 ·rfl
 ·rfl
 ·exact A8 h3
 ·exact A8 h4⟩
end Go.Emb
