/- Parts of a proof about the given program: its functions as texts of their own, what each computes, plain laws of that. The conditions of each stand in its statement. -/
import Derived.Test.YtjdiakhipmggjaaGreatDoorB1
import Derived.Below
import Derived.Maps.AppendAt
set_option linter.unnecessarySimpa false
set_option linter.defProp false
set_option linter.unusedSectionVars false
set_option linter.unusedVariables false
set_option linter.unusedSimpArgs false
set_option maxRecDepth 100000
namespace Go.Proofs.YtjdiakhipmggjaaGreatDoor
open Go.Emb
def Af:V7:=[none,none,none,none,none,none,some ([38],[4,5,6,38,39,40,41,42,43,44,45,46,47,48,49,50,51]),none,none,none,none,none,none,none]
def Ow (a0 a1:Value) (w:World) (K:Value→World→Prop):Prop:= box P T.m a1 w fun e w=>dr w fun b d=>Q5 b (fun φ7=> ∀w,d w→fieldAddr P T.m e 0 w (dk b φ7 w)) fun φ7=>Q5 b (fun φ8=> ∀t7 w,d w→φ7 t7 w→Q2 P T.c t7 w (dk b φ8 w)) fun φ8=>Q5 b (fun φ9=> ∀t8 w,d w→φ8 t8 w→Q1 P F.c5 [t8] w (dk b φ9 w)) fun φ9=>Q5 b (fun g=> ∀t9 w,d w→φ9 t9 w→Q3 P .eql T.c (.tmp 9) (.const (.string ⟨#[]⟩)) t9 (.string ⟨#[]⟩) w (dk b g w)) fun g=>Q5 b (fun l=> ∀c w,d w→g c w→Q0 c true w (fun w J=>J a0 w) (dk b l w)) fun l=>Q5 b (fun q=> ∀c ag w,d w→g c w→l ag w→Q0 c true w (nilCheck P ag) (dk b q w)) fun q=>Q5 b (fun ai=> ∀c B w,d w→g c w→q B w→Q0 c true w (fieldAddr P T.p B 0) (dk b ai w)) fun ai=>Q5 b (fun ab=> ∀c w,d w→g c w→Q0 c true w (fieldAddr P T.m e 0) (dk b ab w)) fun ab=>Q5 b (fun z=> ∀c A w,d w→g c w→ai A w→Q0 c true w (Q2 P T.r A) (dk b z w)) fun z=>Q5 b (fun k=> ∀c ad w,d w→g c w→ab ad w→Q0 c true w (Q2 P T.c ad) (dk b k w)) fun k=>Q5 b (fun t=> ∀c af Z w,d w→g c w→z af w→k Z w→Q0 c true w (Q1 P F.aD [af,Z]) (dk b t w)) fun t=>Q5 b (fun p=> ∀c aa w,d w→g c w→t aa w→Q0 c true w (J8 P .not aa) (dk b p w)) fun p=>Q5 b (fun f=> ∀c v w,d w→g c w→p v w→Q0 c true w (fun w J=>J v w) (dk b f w)) fun f=>Q5 b (fun i=> ∀a w,d w→f a w→Q0 a false w (fieldAddr P T.m e 1) (dk b i w)) fun i=>Q5 b (fun j=> ∀a w,d w→f a w→Q0 a false w (fun w J=>J a0 w) (dk b j w)) fun j=>Q5 b (fun n=> ∀a E w,d w→f a w→j E w→Q0 a false w (nilCheck P E) (dk b n w)) fun n=>Q5 b (fun R=> ∀a X w,d w→f a w→n X w→Q0 a false w (fieldAddr P T.p X 0) (dk b R w)) fun R=>Q5 b (fun ae=> ∀a w,d w→f a w→Q0 a false w (fieldAddr P T.m e 0) (dk b ae w)) fun ae=>Q5 b (fun Q=> ∀a o w,d w→f a w→i o w→Q0 a false w (Q2 P T.l o) (dk b Q w)) fun Q=>Q5 b (fun aj=> ∀a W w,d w→f a w→Q W w→Q0 a false w (X2 P .len [T.l] T.e [false] [W]) (dk b aj w)) fun aj=>Q5 b (fun ac=> ∀a u w,d w→f a w→R u w→Q0 a false w (Q2 P T.r u) (dk b ac w)) fun ac=>Q5 b (fun m=> ∀a V w,d w→f a w→ae V w→Q0 a false w (Q2 P T.c V) (dk b m w)) fun m=>Q5 b (fun ah=> ∀a r y w,d w→f a w→ac r w→m y w→Q0 a false w (Q1 P F.a2 [r,y]) (dk b ah w)) fun ah=>Q5 b (fun ao=> ∀a s w,d w→f a w→ah s w→Q0 a false w (X2 P .len [T.k] T.e [false] [s]) (dk b ao w)) fun ao=>∀t7 t8 t9 c ag B A ad af Z aa v a o E X u V W aw r y s ay w,d w→φ7 t7 w→φ8 t8 w→φ9 t9 w→g c w→l ag w→q B w→ai A w→ab ad w→z af w→k Z w→t aa w→p v w→f a w→i o w→j E w→n X w→R u w→ae V w→Q W w→aj aw w→ac r w→m y w→ah s w→ao ay w→ Q0 a false w (Q3 P .neq T.e (.tmp 23) (.tmp 31) aw ay) fun bf w=>Q0 c true w (pick P a (.bool true) bf) fun be w=>pick P c be (.bool false) w fun bh w=>X1 bh (K (.bool false) w) (fieldAddr P T.m e 1 w fun bd w=>Q2 P T.l bd w fun av w=>X2 P .len [T.l] T.e [false] [av] w fun bb w=>lp (α:=Value) (.int .i64 0) w fun O x6 d_ w=>Q3 P .lss T.e (.tmp 38) (.tmp 37) x6 bb w fun bk w=>X1 bk (indexAddr P T.l av x6 w fun ba w=>Q2 P T.g ba w fun bc w=>W1 P T.g w fun h w=>X9 P T.g h bc w fun _u w=>dr w fun b d=>Q5 b (fun al=> ∀w,d w→Q2 P T.g h w (dk b al w)) fun al=>Q5 b (fun N=> ∀w,d w→Q2 P T.m e w (dk b N w)) fun N=>Q5 b (fun ak=> ∀L w,d w→N L w→Q1 P F.aC [a0,L,x6] w (dk b ak w)) fun ak=>∀ax L az w,d w→al ax w→N L w→ak az w→ Q1 P F.aB [a0,ax,az] w fun bi w=>J8 P .not bi w fun bg w=>X1 bg (K (.bool false) w) (Q3 P .add T.e (.tmp 38) (.const (.int .i64 1)) x6 (.int .i64 1) w fun bj w=>O bj w)) (dr w fun b d=>Q5 b (fun M=> ∀w,d w→nilCheck P a0 w (dk b M w)) fun M=>Q5 b (fun C=> ∀H w,d w→M H w→fieldAddr P T.p H 0 w (dk b C w)) fun C=>Q5 b (fun Y=> ∀w,d w→fieldAddr P T.m e 0 w (dk b Y w)) fun Y=>Q5 b (fun am=> ∀D w,d w→C D w→Q2 P T.r D w (dk b am w)) fun am=>Q5 b (fun an=> ∀U w,d w→Y U w→Q2 P T.c U w (dk b an w)) fun an=>∀H D U ar aq w,d w→M H w→C D w→Y U w→am ar w→an aq w→ Q1 P F.s [ar,aq] w fun a9 w=>K a9 w))
theorem Au {a b:Value} {w:World} {K:Value→World→Prop} (h:Ow a b w K):Q1 P F.bC [a,b] w K:=Q9 Af Tryz.func55 rfl (by decide) (by kernel_rfl) h
def Ln (d g:Value) (w:World) (K:Value→World→Prop):Prop:= box P T.m d w fun a w=>Q2 P T.a5 g w fun e w=>Q2 P T.m a w fun b w=>Q1 P F.bC [e,b] w fun f w=>J8 P .not f w fun c w=>K c w
theorem Fi {a b:Value} {w:World} {K:Value→World→Prop} (h:Ln a b w K):Q1 P F.cs [a,b] w K:=Q9 (List.replicate 2 none) Tryz.func54 rfl (by decide) (by kernel_rfl) h
def Of (d:Value) (w:World) (K:Value→World→Prop):Prop:= box P T.a5 d w fun a w=>Q2 P T.a5 a w fun f w=>nilCheck P f w fun e w=>fieldAddr P T.p e 3 w fun b w=>Q2 P T.f b w fun h w=>H1 P (.func F.cs) [] [a] w fun c w=>Q1 P F.n [h,c] w fun g w=>J8 P .not g w fun i w=>K i w
theorem Tw {a:Value} {w:World} {K:Value→World→Prop} (h:Of a w K):Q1 P F.bx [a] w K:=Q9 (List.replicate 2 none) Tryz.func23 rfl (by decide) (by kernel_rfl) h
def Q3p (g e:Value) (w:World) (K:Value→World→Prop):Prop:= Q3 P .lss T.e (.tmp 6) (.const (.int .i64 0)) e (.int .i64 0) w fun c w=>Q0 c false w (fun w J=>J e w) fun h w=>Q0 c false w (Q3 P .gtr T.e (.tmp 9) (.const (.int .i64 1048576)) h (.int .i64 1048576)) fun f w=>pick P c (.bool true) f w fun b w=>X1 b (K (.tuple #[(.pointer none),(.int .i64 90)]) w) (E3 P T.p [(0,g),(1,e)] w fun a w=>box P T.p a w fun d w=>K (.tuple #[d,(.int .i64 0)]) w)
theorem Q8z {a b:Value} {w:World} {K:Value→World→Prop} (h:Q3p a b w K):Q1 P F.cO [a,b] w K:=Q9 (List.replicate 5 none) Tryz.func15 rfl (by decide) (by kernel_rfl) h
def Ip:V7:=[none,none,none,none,none,some ([1,3],[1,3,10,11,12,13,14,15,16,17,18,19,20,21,22,23]),none,none,none,none]
def Mh (w:World) (K:Value→World→Prop):Prop:= E3 P T.b [(0,(.string ⟨#[79,98,106,101,99,116]⟩))] w fun p w=>E3 P T.o [(0,(.string ⟨#[119,104,97,116]⟩)),(1,(.string ⟨#[116,101,120,116]⟩))] w fun l w=>buildSlice P T.k 1 [(0,l)] w fun o w=>E3 P T.b [(0,(.string ⟨#[70,97,117,108,116]⟩)),(1,(.string ⟨#[79,98,106,101,99,116]⟩)),(6,o)] w fun m w=>buildSlice P T.i 2 [(0,p),(1,m)] w fun n w=>buildSlice P T.h 6 [(0,(.string ⟨#[78,117,108,108,70,97,117,108,116]⟩)),(1,(.string ⟨#[73,110,100,101,120,70,97,117,108,116]⟩)),(2,(.string ⟨#[67,97,115,116,70,97,117,108,116]⟩)),(3,(.string ⟨#[90,101,114,111,70,97,117,108,116]⟩)),(4,(.string ⟨#[82,111,111,109,70,97,117,108,116]⟩)),(5,(.string ⟨#[67,97,108,108,70,97,117,108,116]⟩))] w fun k w=>lp (α:=Value×Value) (n,(.int .i64 0)) w fun a b q w=>X2 P .len [T.h] T.e [false] [k] w fun i w=>Q3 P .lss T.e (.tmp 10) (.tmp 12) b.2 i w fun h w=>X1 h (indexAddr P T.h k b.2 w fun f w=>Q2 P T.c f w fun j w=>E3 P T.b [(0,j),(1,(.string ⟨#[70,97,117,108,116]⟩)),(5,(.bool true))] w fun c w=>buildSlice P T.i 1 [(0,c)] w fun d w=>X2 P .append [T.i,T.i] T.i [false,false] [b.1,d] w fun e w=>Q3 P .add T.e (.tmp 14) (.const (.int .i64 1)) b.2 (.int .i64 1) w fun g w=>a (e,g) w) (K b.1 w)
theorem Pi {w:World} {K:Value→World→Prop} (h:Mh w K):Q1 P F.bm [] w K:=Q9 Ip Tryz.func99 rfl (by decide) (by kernel_rfl) h
def Ac:V7:=[none,none,none,some ([3],[2,3,4,5,6,7,8,9,10,11,12,13,14,15,16,17,18,19,20,21,22,23,24,25,26,27,28,29,30,31,32,33,34,35,36,37]),none,none,none,none,none,none,none]
def Oz (Z:Value) (w:World) (K:Value→World→Prop):Prop:= box P T.b Z w fun b w=>lp (α:=Value) (.int .i64 0) w fun h Q d_ w=>fieldAddr P T.b b 7 w fun t6 w=>Q2 P T.j t6 w fun Y w=>X2 P .len [T.j] T.e [false] [Y] w fun t8 w=>Q3 P .lss T.e (.tmp 5) (.tmp 8) Q t8 w fun t9 w=>X1 t9 (fieldAddr P T.b b 7 w fun X w=>Q2 P T.j X w fun W w=>indexAddr P T.j W Q w fun V w=>Q2 P T.d V w fun O w=>W1 P T.d w fun a w=>X9 P T.d a O w fun _u w=>fieldAddr P T.d a 1 w fun C w=>Q2 P T.h C w fun D w=>X2 P .len [T.h] T.e [false] [D] w fun L w=>Q3 P .gtr T.e (.tmp 19) (.const (.int .i64 32)) L (.int .i64 32) w fun f w=>Q0 f false w (fieldAddr P T.d a 6) fun v w=>Q0 f false w (Q2 P T.s v) fun J w=>Q0 f false w (X2 P .len [T.s] T.e [false] [J]) fun i w=>Q0 f false w (Q3 P .gtr T.e (.tmp 24) (.const (.int .i64 32)) i (.int .i64 32)) fun y w=>pick P f (.bool true) y w fun d w=>Q0 d false w (fieldAddr P T.d a 5) fun u w=>Q0 d false w (Q2 P T.q u) fun M w=>Q0 d false w (X2 P .len [T.q] T.e [false] [M]) fun B w=>Q0 d false w (Q3 P .gtr T.e (.tmp 30) (.const (.int .i64 200)) B (.int .i64 200)) fun k w=>pick P d (.bool true) k w fun g w=>Q0 g false w (fieldAddr P T.d a 4) fun o w=>Q0 g false w (Q2 P T.e o) fun R w=>Q0 g false w (Q3 P .gtr T.e (.tmp 35) (.const (.int .i64 64)) R (.int .i64 64)) fun s w=>pick P g (.bool true) s w fun r w=>X1 r (K (.bool true) w) (Q3 P .add T.e (.tmp 10) (.const (.int .i64 1)) Q (.int .i64 1) w fun p w=>h p w)) (fieldAddr P T.b b 2 w fun t w=>Q2 P T.h t w fun U w=>X2 P .len [T.h] T.e [false] [U] w fun z w=>Q3 P .gtr T.e (.tmp 40) (.const (.int .i64 32)) z (.int .i64 32) w fun c w=>Q0 c false w (fieldAddr P T.b b 6) fun A w=>Q0 c false w (Q2 P T.k A) fun j w=>Q0 c false w (X2 P .len [T.k] T.e [false] [j]) fun N w=>Q0 c false w (Q3 P .gtr T.e (.tmp 45) (.const (.int .i64 32)) N (.int .i64 32)) fun l w=>pick P c (.bool true) l w fun e w=>Q0 e false w (fieldAddr P T.b b 7) fun E w=>Q0 e false w (Q2 P T.j E) fun n w=>Q0 e false w (X2 P .len [T.j] T.e [false] [n]) fun H w=>Q0 e false w (Q3 P .gtr T.e (.tmp 51) (.const (.int .i64 32)) H (.int .i64 32)) fun q w=>pick P e (.bool true) q w fun m w=>K m w)
theorem Tn {a:Value} {w:World} {K:Value→World→Prop} (h:Oz a w K):Q1 P F.bJ [a] w K:=Q9 Ac Tryz.func147 rfl (by decide) (by kernel_rfl) h
def Q05:V7:=[none,none,none,some ([0,3],[0,3,4,5,6,7,8,9,10,11,12,13,14,15,16,17,18,19,20,21]),none,none,none,none]
def Dg (n:Value) (w:World) (K:Value→World→Prop):Prop:= lp (α:=Value×Value) (n,(.int .i64 0)) w fun a c q w=>X2 P .len [T.c] T.e [false] [c.1] w fun m w=>Q3 P .geq T.e (.tmp 5) (.const (.int .i64 2)) m (.int .i64 2) w fun b w=>Q0 b true w (fun w J=>J c.1 w) fun o w=>Q0 b true w (fun w J=>J c.1 w) fun p w=>Q0 b true w (X2 P .len [T.c] T.e [false] [p]) fun f w=>Q0 b true w (Q3 P .sub T.e (.tmp 10) (.const (.int .i64 2)) f (.int .i64 2)) fun d w=>Q0 b true w (R6 P T.c o (some d) none none) fun k w=>Q0 b true w (Q3 P .eql T.c (.tmp 12) (.const (.string ⟨#[91,93]⟩)) k (.string ⟨#[91,93]⟩)) fun j w=>pick P b j (.bool false) w fun i w=>X1 i (Q3 P .add T.e (.tmp 15) (.const (.int .i64 1)) c.2 (.int .i64 1) w fun h w=>X2 P .len [T.c] T.e [false] [c.1] w fun g w=>Q3 P .sub T.e (.tmp 19) (.const (.int .i64 2)) g (.int .i64 2) w fun l w=>R6 P T.c c.1 none (some l) none w fun e w=>a (e,h) w) (K c.2 w)
theorem Q06 {a:Value} {w:World} {K:Value→World→Prop} (h:Dg a w K):Q1 P F.a1 [a] w K:=Q9 Q05 Tryz.func107 rfl (by decide) (by kernel_rfl) h
def Pj:V7:=[none,none,none,some ([4],[4,5,6,7]),none,none,none,none]
def Me (a:Value) (w:World) (K:Value→World→Prop):Prop:= jn (α:=Value) w (fun b w=>Q3 P .eql T.c (.tmp 3) (.const (.string ⟨#[105,110,116]⟩)) a (.string ⟨#[105,110,116]⟩) w fun c w=>X1 c (b c w) (Q3 P .eql T.c (.tmp 3) (.const (.string ⟨#[98,111,111,108]⟩)) a (.string ⟨#[98,111,111,108]⟩) w fun d w=>X1 d (b d w) (Q3 P .eql T.c (.tmp 3) (.const (.string ⟨#[116,101,120,116]⟩)) a (.string ⟨#[116,101,120,116]⟩) w fun f w=>b f w))) fun e g w=>X1 e (K (.bool true) w) (K (.bool false) w)
theorem Iv {a:Value} {w:World} {K:Value→World→Prop} (h:Me a w K):Q1 P F.x [a] w K:=Q9 Pj Tryz.func111 rfl (by decide) (by kernel_rfl) h
def Ah:V7:=[none,none,none,some ([3],[2,3,4,5,6,7,8,9,10,11,12,13,14,15,16,17,18,19,20,21,22,23,24,25,26,27,28,29,30,31,32,33,34,35,36,37,38,39,40,41,42,43,44,45,46,47,48,49,50]),none,none,none,none,none,none,none]
def Di (g:Value) (w:World) (K:Value→World→Prop):Prop:= lp (α:=Value) (.int .i64 0) w fun i j d_ w=>X2 P .len [T.c] T.e [false] [g] w fun t7 w=>Q3 P .lss T.e (.tmp 5) (.tmp 7) j t7 w fun t8 w=>X1 t8 (C2 P T.c g j w fun aa w=>Q3 P .geq T.a3 (.tmp 13) (.const (.int .u8 97)) aa (.int .u8 97) w fun f w=>Q0 f true w (fun w J=>J g w) fun Y w=>Q0 f true w (fun w J=>J j w) fun M w=>Q0 f true w (C2 P T.c Y M) fun O w=>Q0 f true w (Q3 P .leq T.a3 (.tmp 18) (.const (.int .u8 122)) O (.int .u8 122)) fun V w=>pick P f V (.bool false) w fun b w=>Q0 b false w (fun w J=>J g w) fun C w=>Q0 b false w (fun w J=>J j w) fun U w=>Q0 b false w (C2 P T.c C U) fun l w=>Q0 b false w (Q3 P .geq T.a3 (.tmp 24) (.const (.int .u8 65)) l (.int .u8 65)) fun D w=>Q0 b false w (fun w J=>J D w) fun e w=>Q0 e true w (fun w J=>J g w) fun E w=>Q0 e true w (fun w J=>J j w) fun z w=>Q0 e true w (C2 P T.c E z) fun W w=>Q0 e true w (Q3 P .leq T.a3 (.tmp 29) (.const (.int .u8 90)) W (.int .u8 90)) fun L w=>Q0 b false w (pick P e L (.bool false)) fun m w=>pick P b (.bool true) m w fun k w=>J8 P .not k w fun a w=>Q0 a true w (fun w J=>J j w) fun y w=>Q0 a true w (Q3 P .eql T.e (.tmp 36) (.const (.int .i64 0)) y (.int .i64 0)) fun t w=>Q0 a true w (fun w J=>J t w) fun d w=>Q0 d false w (fun w J=>J g w) fun Z w=>Q0 d false w (fun w J=>J j w) fun B w=>Q0 d false w (C2 P T.c Z B) fun r w=>Q0 d false w (Q3 P .lss T.a3 (.tmp 41) (.const (.int .u8 48)) r (.int .u8 48)) fun R w=>Q0 a true w (pick P d (.bool true) R) fun H w=>Q0 a true w (fun w J=>J H w) fun c w=>Q0 c false w (fun w J=>J g w) fun X w=>Q0 c false w (fun w J=>J j w) fun n w=>Q0 c false w (C2 P T.c X n) fun ab w=>Q0 c false w (Q3 P .gtr T.a3 (.tmp 47) (.const (.int .u8 57)) ab (.int .u8 57)) fun A w=>Q0 a true w (pick P c (.bool true) A) fun Q w=>pick P a Q (.bool false) w fun p w=>X1 p (K (.bool false) w) (Q3 P .add T.e (.tmp 9) (.const (.int .i64 1)) j (.int .i64 1) w fun N w=>i N w)) (X2 P .len [T.c] T.e [false] [g] w fun s w=>Q3 P .geq T.e (.tmp 52) (.const (.int .i64 1)) s (.int .i64 1) w fun h w=>Q0 h true w (fun w J=>J g w) fun v w=>Q0 h true w (X2 P .len [T.c] T.e [false] [v]) fun u w=>Q0 h true w (Q3 P .leq T.e (.tmp 56) (.const (.int .i64 32)) u (.int .i64 32)) fun q w=>pick P h q (.bool false) w fun o w=>K o w)
theorem Tl {a:Value} {w:World} {K:Value→World→Prop} (h:Di a w K):Q1 P F.aX [a] w K:=Q9 Ah Tryz.func190 rfl (by decide) (by kernel_rfl) h
def Nf (b:Value) (w:World) (K:Value→World→Prop):Prop:= Q1 P F.aX [b] w fun a w=>Q0 a true w (fun w J=>J b w) fun e w=>Q0 a true w (C2 P T.c e (.int .i64 0)) fun c w=>Q0 a true w (Q3 P .leq T.a3 (.tmp 7) (.const (.int .u8 90)) c (.int .u8 90)) fun d w=>pick P a d (.bool false) w fun f w=>K f w
theorem Kw {a:Value} {w:World} {K:Value→World→Prop} (h:Nf a w K):Q1 P F.d [a] w K:=Q9 (List.replicate 2 none) Tryz.func160 rfl (by decide) (by kernel_rfl) h
def Lw (g:Value) (w:World) (K:Value→World→Prop):Prop:= Q1 P F.a1 [g] w fun m w=>X2 P .len [T.c] T.e [false] [g] w fun n w=>Q3 P .mul T.e (.const (.int .i64 2)) (.tmp 10) (.int .i64 2) m w fun e w=>Q3 P .sub T.e (.tmp 9) (.tmp 11) n e w fun h w=>R6 P T.c g none (some h) none w fun c w=>Q3 P .leq T.e (.tmp 14) (.const (.int .i64 3)) m (.int .i64 3) w fun a w=>Q0 a true w (fun w J=>J c w) fun k w=>Q0 a true w (Q1 P F.x [k]) fun d w=>Q0 a true w (fun w J=>J d w) fun b w=>Q0 b false w (fun w J=>J c w) fun l w=>Q0 b false w (Q1 P F.d [l]) fun i w=>Q0 a true w (pick P b (.bool true) i) fun j w=>pick P a j (.bool false) w fun f w=>K f w
theorem Kf {a:Value} {w:World} {K:Value→World→Prop} (h:Lw a w K):Q1 P F.e [a] w K:=Q9 (List.replicate 4 none) Tryz.func118 rfl (by decide) (by kernel_rfl) h
def Ll (b:Value) (w:World) (K:Value→World→Prop):Prop:= Q1 P F.aX [b] w fun a w=>Q0 a true w (fun w J=>J b w) fun e w=>Q0 a true w (C2 P T.c e (.int .i64 0)) fun c w=>Q0 a true w (Q3 P .geq T.a3 (.tmp 7) (.const (.int .u8 97)) c (.int .u8 97)) fun d w=>pick P a d (.bool false) w fun f w=>K f w
theorem Gt {a:Value} {w:World} {K:Value→World→Prop} (h:Ll a w K):Q1 P F.u [a] w K:=Q9 (List.replicate 2 none) Tryz.func181 rfl (by decide) (by kernel_rfl) h
def Mz (f k:Value) (w:World) (K:Value→World→Prop):Prop:= X2 P .len [T.c] T.e [false] [f] w fun n w=>Q3 P .lss T.e (.tmp 5) (.tmp 7) k n w fun b w=>Q0 b true w (fun w J=>J f w) fun m w=>Q0 b true w (fun w J=>J k w) fun d w=>Q0 b true w (C2 P T.c m d) fun g w=>Q0 b true w (Q3 P .geq T.a3 (.tmp 12) (.const (.int .u8 128)) g (.int .u8 128)) fun e w=>pick P b e (.bool false) w fun a w=>Q0 a true w (fun w J=>J f w) fun j w=>Q0 a true w (fun w J=>J k w) fun i w=>Q0 a true w (C2 P T.c j i) fun c w=>Q0 a true w (Q3 P .lss T.a3 (.tmp 18) (.const (.int .u8 192)) c (.int .u8 192)) fun h w=>pick P a h (.bool false) w fun l w=>K l w
theorem Ta {a b:Value} {w:World} {K:Value→World→Prop} (h:Mz a b w K):Q1 P F.r [a,b] w K:=Q9 (List.replicate 2 none) Tryz.func154 rfl (by decide) (by kernel_rfl) h
def An:V7:=[none,none,some ([],[2,4,5,9,10,11,12,13,14,15,16,17,18,19,20,21,22,23,24,25,26,27,28,29,30,31,32,33,34,35,36,37,38,39,40,41,42,43,44,45,46,47,48,49,50,51,52,53,54,55,56,57,58,59,60,61,62,63,64,65,66,67,68,69,70,71,72,73,74,75,76,77,78,79,80,81,82,83,84,85,86,87,88,89,90,91,92,93,94,95,96,97,98,99,100,101,102,103,104,105,106]),none,none,none,none,none,none,none,none,none,none,none,none,none]
def Oe (c:Value) (w:World) (K:Value→World→Prop):Prop:= C2 P T.c c (.int .i64 0) w fun t7 w=>conv P T.a3 T.e t7 w fun L w=>jn (α:=Unit) w (fun J2 w=>Q3 P .lss T.e (.tmp 10) (.const (.int .i64 128)) L (.int .i64 128) w fun bq w=>X1 bq (K (.int .i64 1) w) (Q3 P .geq T.e (.tmp 13) (.const (.int .i64 194)) L (.int .i64 194) w fun an w=>Q0 an true w (fun w J=>J L w) fun b0 w=>Q0 an true w (Q3 P .lss T.e (.tmp 16) (.const (.int .i64 224)) b0 (.int .i64 224)) fun bx w=>pick P an bx (.bool false) w fun av w=>Q0 av true w (fun w J=>J c w) fun bm w=>Q0 av true w (Q1 P F.r [bm,(.int .i64 1)]) fun bd w=>pick P av bd (.bool false) w fun bv w=>X1 bv (K (.int .i64 2) w) (Q3 P .geq T.e (.tmp 24) (.const (.int .i64 224)) L (.int .i64 224) w fun aq w=>Q0 aq true w (fun w J=>J L w) fun be w=>Q0 aq true w (Q3 P .lss T.e (.tmp 27) (.const (.int .i64 240)) be (.int .i64 240)) fun bu w=>pick P aq bu (.bool false) w fun ak w=>Q0 ak true w (fun w J=>J c w) fun bp w=>Q0 ak true w (Q1 P F.r [bp,(.int .i64 1)]) fun bn w=>pick P ak bn (.bool false) w fun ao w=>Q0 ao true w (fun w J=>J c w) fun bj w=>Q0 ao true w (Q1 P F.r [bj,(.int .i64 2)]) fun bc w=>pick P ao bc (.bool false) w fun ba w=>X1 ba (dr w fun a b=>Q5 a (fun Y=> ∀w,b w→Q3 P .rem T.e (.tmp 38) (.const (.int .i64 16)) L (.int .i64 16) w (dk a Y w)) fun Y=>Q5 a (fun af=> ∀ab w,b w→Y ab w→Q3 P .mul T.e (.tmp 39) (.const (.int .i64 4096)) ab (.int .i64 4096) w (dk a af w)) fun af=>Q5 a (fun v=> ∀w,b w→C2 P T.c c (.int .i64 1) w (dk a v w)) fun v=>Q5 a (fun ae=> ∀o w,b w→v o w→Q3 P .rem T.a3 (.tmp 42) (.const (.int .u8 64)) o (.int .u8 64) w (dk a ae w)) fun ae=>Q5 a (fun g=> ∀w,b w→C2 P T.c c (.int .i64 2) w (dk a g w)) fun g=>Q5 a (fun N=> ∀Q w,b w→g Q w→Q3 P .rem T.a3 (.tmp 48) (.const (.int .u8 64)) Q (.int .u8 64) w (dk a N w)) fun N=>Q5 a (fun h=> ∀R w,b w→ae R w→conv P T.a3 T.e R w (dk a h w)) fun h=>Q5 a (fun s=> ∀E w,b w→h E w→Q3 P .mul T.e (.tmp 44) (.const (.int .i64 64)) E (.int .i64 64) w (dk a s w)) fun s=>Q5 a (fun ap=> ∀l Z w,b w→af l w→s Z w→Q3 P .add T.e (.tmp 40) (.tmp 45) l Z w (dk a ap w)) fun ap=>Q5 a (fun aj=> ∀X w,b w→N X w→conv P T.a3 T.e X w (dk a aj w)) fun aj=>∀ab l o R Q X E Z a4 a5 w,b w→Y ab w→af l w→v o w→ae R w→g Q w→N X w→h E w→s Z w→ap a4 w→aj a5 w→ Q3 P .add T.e (.tmp 46) (.tmp 50) a4 a5 w fun ax w=>Q3 P .geq T.e (.tmp 52) (.const (.int .i64 2048)) ax (.int .i64 2048) w fun d w=>Q0 d true w (fun w J=>J ax w) fun bb w=>Q0 d true w (Q3 P .lss T.e (.tmp 55) (.const (.int .i64 55296)) bb (.int .i64 55296)) fun br w=>Q0 d true w (fun w J=>J br w) fun ah w=>Q0 ah false w (fun w J=>J ax w) fun a8 w=>Q0 ah false w (Q3 P .gtr T.e (.tmp 58) (.const (.int .i64 57343)) a8 (.int .i64 57343)) fun bf w=>Q0 d true w (pick P ah (.bool true) bf) fun bw w=>pick P d bw (.bool false) w fun bs w=>X1 bs (K (.int .i64 3) w) (J2 () w)) (Q3 P .geq T.e (.tmp 63) (.const (.int .i64 240)) L (.int .i64 240) w fun ar w=>Q0 ar true w (fun w J=>J L w) fun bl w=>Q0 ar true w (Q3 P .lss T.e (.tmp 66) (.const (.int .i64 245)) bl (.int .i64 245)) fun bh w=>pick P ar bh (.bool false) w fun al w=>Q0 al true w (fun w J=>J c w) fun bz w=>Q0 al true w (Q1 P F.r [bz,(.int .i64 1)]) fun a9 w=>pick P al a9 (.bool false) w fun ai w=>Q0 ai true w (fun w J=>J c w) fun bo w=>Q0 ai true w (Q1 P F.r [bo,(.int .i64 2)]) fun bi w=>pick P ai bi (.bool false) w fun am w=>Q0 am true w (fun w J=>J c w) fun bg w=>Q0 am true w (Q1 P F.r [bg,(.int .i64 3)]) fun bk w=>pick P am bk (.bool false) w fun a7 w=>X1 a7 (dr w fun a b=>Q5 a (fun D=> ∀w,b w→Q3 P .rem T.e (.tmp 81) (.const (.int .i64 8)) L (.int .i64 8) w (dk a D w)) fun D=>Q5 a (fun k=> ∀t w,b w→D t w→Q3 P .mul T.e (.tmp 82) (.const (.int .i64 262144)) t (.int .i64 262144) w (dk a k w)) fun k=>Q5 a (fun i=> ∀w,b w→C2 P T.c c (.int .i64 1) w (dk a i w)) fun i=>Q5 a (fun ac=> ∀U w,b w→i U w→Q3 P .rem T.a3 (.tmp 85) (.const (.int .u8 64)) U (.int .u8 64) w (dk a ac w)) fun ac=>Q5 a (fun H=> ∀w,b w→C2 P T.c c (.int .i64 2) w (dk a H w)) fun H=>Q5 a (fun p=> ∀m w,b w→H m w→Q3 P .rem T.a3 (.tmp 91) (.const (.int .u8 64)) m (.int .u8 64) w (dk a p w)) fun p=>Q5 a (fun W=> ∀w,b w→C2 P T.c c (.int .i64 3) w (dk a W w)) fun W=>Q5 a (fun C=> ∀u w,b w→W u w→Q3 P .rem T.a3 (.tmp 97) (.const (.int .u8 64)) u (.int .u8 64) w (dk a C w)) fun C=>Q5 a (fun z=> ∀M w,b w→ac M w→conv P T.a3 T.e M w (dk a z w)) fun z=>Q5 a (fun ad=> ∀j w,b w→z j w→Q3 P .mul T.e (.tmp 87) (.const (.int .i64 4096)) j (.int .i64 4096) w (dk a ad w)) fun ad=>Q5 a (fun r=> ∀B y w,b w→k B w→ad y w→Q3 P .add T.e (.tmp 83) (.tmp 88) B y w (dk a r w)) fun r=>Q5 a (fun n=> ∀A w,b w→p A w→conv P T.a3 T.e A w (dk a n w)) fun n=>Q5 a (fun f=> ∀aa w,b w→n aa w→Q3 P .mul T.e (.tmp 93) (.const (.int .i64 64)) aa (.int .i64 64) w (dk a f w)) fun f=>Q5 a (fun aw=> ∀O V w,b w→r O w→f V w→Q3 P .add T.e (.tmp 89) (.tmp 94) O V w (dk a aw w)) fun aw=>Q5 a (fun ay=> ∀q w,b w→C q w→conv P T.a3 T.e q w (dk a ay w)) fun ay=>∀t B U M m A u q j y O aa V a3 a2 w,b w→D t w→k B w→i U w→ac M w→H m w→p A w→W u w→C q w→z j w→ad y w→r O w→n aa w→f V w→aw a3 w→ay a2 w→ Q3 P .add T.e (.tmp 95) (.tmp 99) a3 a2 w fun ag w=>Q3 P .geq T.e (.tmp 101) (.const (.int .i64 65536)) ag (.int .i64 65536) w fun e w=>Q0 e true w (fun w J=>J ag w) fun a1 w=>Q0 e true w (Q3 P .leq T.e (.tmp 104) (.const (.int .i64 1114111)) a1 (.int .i64 1114111)) fun az w=>pick P e az (.bool false) w fun a6 w=>X1 a6 (K (.int .i64 4) w) (J2 () w)) (J2 () w))))) fun z2 d_ w=>K (.int .i64 0) w
theorem Al {a:Value} {w:World} {K:Value→World→Prop} (h:Oe a w K):Q1 P F.bG [a] w K:=Q9 An Tryz.func113 rfl (by decide) (by kernel_rfl) h
def Kc:V7:=[none,none,some ([0],[0,2,3,4,5,6,7,8,9,10,11,12]),none,none,none,none,none,none,none]
def Mx (f:Value) (w:World) (K:Value→World→Prop):Prop:= lp (α:=Value) f w fun a b h w=>Q3 P .neq T.c (.tmp 4) (.const (.string ⟨#[]⟩)) b (.string ⟨#[]⟩) w fun e w=>X1 e (Q1 P F.bG [b] w fun d w=>Q3 P .eql T.e (.tmp 8) (.const (.int .i64 0)) d (.int .i64 0) w fun g w=>X1 g (K (.bool false) w) (R6 P T.c b (some d) none none w fun c w=>a c w)) (K (.bool true) w)
theorem Il {a:Value} {w:World} {K:Value→World→Prop} (h:Mx a w K):Q1 P F.aJ [a] w K:=Q9 Kc Tryz.func65 rfl (by decide) (by kernel_rfl) h
def Eu (w:World) (K:Value→World→Prop):Prop:= buildSlice P T.h 42 [(0,(.string ⟨#[105,110,116]⟩)),(1,(.string ⟨#[116,114,117,101]⟩)),(2,(.string ⟨#[102,97,108,115,101]⟩)),(3,(.string ⟨#[119,111,114,100]⟩)),(4,(.string ⟨#[110,117,108,108]⟩)),(5,(.string ⟨#[108,111,97,100]⟩)),(6,(.string ⟨#[115,116,111,114,101]⟩)),(7,(.string ⟨#[112,111,112]⟩)),(8,(.string ⟨#[100,117,112]⟩)),(9,(.string ⟨#[115,119,97,112]⟩)),(10,(.string ⟨#[97,100,100]⟩)),(11,(.string ⟨#[115,117,98]⟩)),(12,(.string ⟨#[109,117,108]⟩)),(13,(.string ⟨#[100,105,118]⟩)),(14,(.string ⟨#[114,101,109]⟩)),(15,(.string ⟨#[110,101,103]⟩)),(16,(.string ⟨#[108,101,115,115]⟩)),(17,(.string ⟨#[115,97,109,101]⟩)),(18,(.string ⟨#[110,111,116]⟩)),(19,(.string ⟨#[98,111,116,104]⟩)),(20,(.string ⟨#[106,111,105,110]⟩)),(21,(.string ⟨#[115,105,122,101]⟩)),(22,(.string ⟨#[106,117,109,112]⟩)),(23,(.string ⟨#[98,114,97,110,99,104]⟩)),(24,(.string ⟨#[110,101,119]⟩)),(25,(.string ⟨#[103,101,116]⟩)),(26,(.string ⟨#[112,117,116]⟩)),(27,(.string ⟨#[99,97,108,108]⟩)),(28,(.string ⟨#[97,114,114,97,121]⟩)),(29,(.string ⟨#[97,116]⟩)),(30,(.string ⟨#[115,101,116]⟩)),(31,(.string ⟨#[105,115]⟩)),(32,(.string ⟨#[99,97,115,116]⟩)),(33,(.string ⟨#[114,101,116,117,114,110]⟩)),(34,(.string ⟨#[116,104,114,111,119]⟩)),(35,(.string ⟨#[111,117,116]⟩)),(36,(.string ⟨#[101,113,117,97,108]⟩)),(37,(.string ⟨#[97,110,100]⟩)),(38,(.string ⟨#[111,114]⟩)),(39,(.string ⟨#[120,111,114]⟩)),(40,(.string ⟨#[115,104,108]⟩)),(41,(.string ⟨#[115,104,114]⟩))] w fun a w=>K a w
theorem Q0s {w:World} {K:Value→World→Prop} (h:Eu w K):Q1 P F.bV [] w K:=Q9 (List.replicate 2 none) Tryz.func233 rfl (by decide) (by kernel_rfl) h
def Ft:V7:=[none,none,none,none,some ([4],[2,4,6,7,8,9,10,11,12,13,14,15,16,17,18]),none,none,none,none,none,none]
def Lq (h:Value) (w:World) (K:Value→World→Prop):Prop:= Q1 P F.bV [] w fun g w=>lp (α:=Value) (.int .i64 0) w fun a b k w=>X2 P .len [T.h] T.e [false] [g] w fun i w=>Q3 P .lss T.e (.tmp 6) (.tmp 8) b i w fun j w=>X1 j (indexAddr P T.h g b w fun c w=>Q2 P T.c c w fun e w=>Q3 P .eql T.c (.tmp 15) (.tmp 16) e h w fun f w=>X1 f (K b w) (Q3 P .add T.e (.tmp 10) (.const (.int .i64 1)) b (.int .i64 1) w fun d w=>a d w)) (K (.int .i64 (-1)) w)
theorem Gj {a:Value} {w:World} {K:Value→World→Prop} (h:Lq a w K):Q1 P F.bf [a] w K:=Q9 Ft Tryz.func230 rfl (by decide) (by kernel_rfl) h
def Kr:V7:=[none,none,none,some ([4],[4,5,6,7,8,9]),none,none,none,none,none,some ([10],[10,11,12,13,14,15,16,17,18]),none,none,none,none,none,none,none,none,none,none,none,none]
def Ms (a:Value) (w:World) (K:Value→World→Prop):Prop:= jn (α:=Value) w (fun f w=>Q3 P .eql T.c (.tmp 3) (.const (.string ⟨#[105,110,116]⟩)) a (.string ⟨#[105,110,116]⟩) w fun n w=>X1 n (f n w) (Q3 P .eql T.c (.tmp 3) (.const (.string ⟨#[108,111,97,100]⟩)) a (.string ⟨#[108,111,97,100]⟩) w fun q w=>X1 q (f q w) (Q3 P .eql T.c (.tmp 3) (.const (.string ⟨#[115,116,111,114,101]⟩)) a (.string ⟨#[115,116,111,114,101]⟩) w fun o w=>X1 o (f o w) (Q3 P .eql T.c (.tmp 3) (.const (.string ⟨#[106,117,109,112]⟩)) a (.string ⟨#[106,117,109,112]⟩) w fun p w=>X1 p (f p w) (Q3 P .eql T.c (.tmp 3) (.const (.string ⟨#[98,114,97,110,99,104]⟩)) a (.string ⟨#[98,114,97,110,99,104]⟩) w fun t w=>f t w))))) fun u s w=>X1 u (K (.int .i64 1) w) (jn (α:=Value) w (fun b w=>Q3 P .eql T.c (.tmp 3) (.const (.string ⟨#[119,111,114,100]⟩)) a (.string ⟨#[119,111,114,100]⟩) w fun c w=>X1 c (b c w) (Q3 P .eql T.c (.tmp 3) (.const (.string ⟨#[110,101,119]⟩)) a (.string ⟨#[110,101,119]⟩) w fun j w=>X1 j (b j w) (Q3 P .eql T.c (.tmp 3) (.const (.string ⟨#[103,101,116]⟩)) a (.string ⟨#[103,101,116]⟩) w fun i w=>X1 i (b i w) (Q3 P .eql T.c (.tmp 3) (.const (.string ⟨#[112,117,116]⟩)) a (.string ⟨#[112,117,116]⟩) w fun g w=>X1 g (b g w) (Q3 P .eql T.c (.tmp 3) (.const (.string ⟨#[99,97,108,108]⟩)) a (.string ⟨#[99,97,108,108]⟩) w fun h w=>X1 h (b h w) (Q3 P .eql T.c (.tmp 3) (.const (.string ⟨#[97,114,114,97,121]⟩)) a (.string ⟨#[97,114,114,97,121]⟩) w fun e w=>X1 e (b e w) (Q3 P .eql T.c (.tmp 3) (.const (.string ⟨#[105,115]⟩)) a (.string ⟨#[105,115]⟩) w fun d w=>X1 d (b d w) (Q3 P .eql T.c (.tmp 3) (.const (.string ⟨#[99,97,115,116]⟩)) a (.string ⟨#[99,97,115,116]⟩) w fun l w=>b l w)))))))) fun r s w=>X1 r (K (.int .i64 2) w) (Q1 P F.bf [a] w fun m w=>Q3 P .lss T.e (.tmp 20) (.const (.int .i64 0)) m (.int .i64 0) w fun k w=>X1 k (K (.int .i64 (-1)) w) (K (.int .i64 0) w)))
theorem Pq {a:Value} {w:World} {K:Value→World→Prop} (h:Ms a w K):Q1 P F.bu [a] w K:=Q9 Kr Tryz.func225 rfl (by decide) (by kernel_rfl) h
def Gz:V7:=[none,none,none,some ([5],[2,3,4,5,6,7,8,9,10,11,12,13,14,15,16,17,18,19,20,21,22,23,24,25,26,27,28,29,30,31,32,33]),none,none,none,none,none,none]
def Lz (z:Value) (w:World) (K:Value→World→Prop):Prop:= lp (α:=Value) (.int .i64 0) w fun o y N w=>X2 P .len [T.c] T.e [false] [z] w fun L w=>Q3 P .lss T.e (.tmp 6) (.tmp 8) y L w fun M w=>X1 M (C2 P T.c z y w fun E w=>Q3 P .eql T.a3 (.tmp 14) (.const (.int .u8 46)) E (.int .u8 46) w fun H w=>X1 H (dr w fun b d=>Q5 b (fun u=> ∀w,d w→R6 P T.c z none (some y) none w (dk b u w)) fun u=>Q5 b (fun g=> ∀w,d w→Q3 P .add T.e (.tmp 20) (.const (.int .i64 1)) y (.int .i64 1) w (dk b g w)) fun g=>Q5 b (fun t=> ∀j w,d w→g j w→R6 P T.c z (some j) none none w (dk b t w)) fun t=>Q5 b (fun i=> ∀w,d w→R6 P T.c z none (some y) none w (dk b i w)) fun i=>Q5 b (fun c=> ∀l w,d w→i l w→Q1 P F.d [l] w (dk b c w)) fun c=>Q5 b (fun q=> ∀a w,d w→c a w→Q0 a true w (fun w J=>J z w) (dk b q w)) fun q=>Q5 b (fun h=> ∀a w,d w→c a w→Q0 a true w (fun w J=>J y w) (dk b h w)) fun h=>Q5 b (fun r=> ∀a p w,d w→c a w→h p w→Q0 a true w (Q3 P .add T.e (.tmp 29) (.const (.int .i64 1)) p (.int .i64 1)) (dk b r w)) fun r=>Q5 b (fun s=> ∀a k m w,d w→c a w→q k w→r m w→Q0 a true w (R6 P T.c k (some m) none none) (dk b s w)) fun s=>Q5 b (fun n=> ∀a f w,d w→c a w→s f w→Q0 a true w (Q1 P F.u [f]) (dk b n w)) fun n=>Q5 b (fun v=> ∀a e w,d w→c a w→n e w→pick P a e (.bool false) w (dk b v w)) fun v=>∀B j A l a k p m f e C w,d w→u B w→g j w→t A w→i l w→c a w→q k w→h p w→r m w→s f w→n e w→v C w→ K (.tuple #[B,A,C]) w) (Q3 P .add T.e (.tmp 10) (.const (.int .i64 1)) y (.int .i64 1) w fun D w=>o D w)) (K (.tuple #[(.string ⟨#[]⟩),(.string ⟨#[]⟩),(.bool false)]) w)
theorem Ih {a:Value} {w:World} {K:Value→World→Prop} (h:Lz a w K):Q1 P F.bv [a] w K:=Q9 Gz Tryz.func226 rfl (by decide) (by kernel_rfl) h
def Ie:V7:=[none,none,none,none,none,none,some ([4],[4,5,6,7,8,30,31,32,33,34,35,36,37,38,39,40,41,42,43,44,45,46,47,48,49,50,51,52,53,54,55,56,57,58,59,60,61,62,63,64,65,66,67,68,69,70,71,72,73,74,75,76,77,78,79,80,81,82,83,84,85,86,87,88,89,90,91,92,93,94,95,96,97,98,99,100,101,102,103,104,105,106,107,108,109,110]),none,none,none,none,none,some ([4,5],[4,5,59,60,61,62,63,64,65,66,67,68,69,70,71,72,73]),none,none,none,none,some ([82],[82,83,84]),none,none,none,none,none,none,none]
def Nn (a0:Value) (w:World) (K:Value→World→Prop):Prop:= box P T.v a0 w fun d w=>fieldAddr P T.v d 0 w fun t9 w=>Q2 P T.c t9 w fun a6 w=>Q1 P F.bu [a6] w fun k w=>Q3 P .lss T.e (.tmp 12) (.const (.int .i64 0)) k (.int .i64 0) w fun ai w=>X1 ai (K (.int .i64 40) w) (Q3 P .eql T.e (.tmp 14) (.const (.int .i64 1)) k (.int .i64 1) w fun l w=>Q0 l false w (fieldAddr P T.v d 1) fun a5 w=>Q0 l false w (Q2 P T.a1 a5) fun a8 w=>Q0 l false w (Q3 P .eql T.a1 (.tmp 18) (.const (.int .i64 0)) a8 (.int .i64 0)) fun aa w=>pick P l (.bool true) aa w fun g w=>Q0 g true w (fun w J=>J k w) fun a1 w=>Q0 g true w (Q3 P .eql T.e (.tmp 22) (.const (.int .i64 2)) a1 (.int .i64 2)) fun Y w=>Q0 g true w (fun w J=>J Y w) fun i w=>Q0 i false w (fieldAddr P T.v d 2) fun a2 w=>Q0 i false w (Q2 P T.c a2) fun X w=>Q0 i false w (Q3 P .eql T.c (.tmp 26) (.const (.string ⟨#[]⟩)) X (.string ⟨#[]⟩)) fun W w=>Q0 g true w (pick P i (.bool true) W) fun az w=>pick P g az (.bool false) w fun a w=>jn (α:=Value) w (fun n w=>Q3 P .eql T.e (.tmp 30) (.const (.int .i64 2)) k (.int .i64 2) w fun ap w=>X1 ap (fieldAddr P T.v d 0 w fun al w=>Q2 P T.c al w fun f w=>Q3 P .eql T.c (.tmp 33) (.const (.string ⟨#[119,111,114,100]⟩)) f (.string ⟨#[119,111,114,100]⟩) w fun aq w=>X1 aq (Q0 a true w (fieldAddr P T.v d 2) fun ba w=>Q0 a true w (Q2 P T.c ba) fun ar w=>Q0 a true w (X2 P .len [T.c] T.e [false] [ar]) fun a9 w=>Q0 a true w (Q3 P .leq T.e (.tmp 51) (.const (.int .i64 64)) a9 (.int .i64 64)) fun Q w=>pick P a Q (.bool false) w fun j w=>Q0 j true w (fieldAddr P T.v d 2) fun R w=>Q0 j true w (Q2 P T.c R) fun aw w=>Q0 j true w (Q1 P F.aJ [aw]) fun L w=>pick P j L (.bool false) w fun H w=>lp (α:=Value×Value) (H,(.int .i64 0)) w fun e b d_ w=>fieldAddr P T.v d 2 w fun a3 w=>Q2 P T.c a3 w fun ay w=>X2 P .len [T.c] T.e [false] [ay] w fun an w=>Q3 P .lss T.e (.tmp 59) (.tmp 62) b.2 an w fun bd w=>X1 bd (Q0 b.1 true w (fieldAddr P T.v d 2) fun ac w=>Q0 b.1 true w (Q2 P T.c ac) fun av w=>Q0 b.1 true w (fun w J=>J b.2 w) fun bb w=>Q0 b.1 true w (C2 P T.c av bb) fun M w=>Q0 b.1 true w (Q3 P .neq T.a3 (.tmp 71) (.const (.int .u8 10)) M (.int .u8 10)) fun O w=>pick P b.1 O (.bool false) w fun C w=>Q3 P .add T.e (.tmp 64) (.const (.int .i64 1)) b.2 (.int .i64 1) w fun am w=>e (C,am) w) (n b.1 w)) (Q3 P .eql T.c (.tmp 33) (.const (.string ⟨#[110,101,119]⟩)) f (.string ⟨#[110,101,119]⟩) w fun ae w=>X1 ae (Q0 a true w (fieldAddr P T.v d 2) fun Z w=>Q0 a true w (Q2 P T.c Z) fun af w=>Q0 a true w (Q1 P F.d [af]) fun B w=>pick P a B (.bool false) w fun be w=>n be w) (jn (α:=Value) w (fun p w=>Q3 P .eql T.c (.tmp 33) (.const (.string ⟨#[105,115]⟩)) f (.string ⟨#[105,115]⟩) w fun r w=>X1 r (p r w) (Q3 P .eql T.c (.tmp 33) (.const (.string ⟨#[99,97,115,116]⟩)) f (.string ⟨#[99,97,115,116]⟩) w fun D w=>p D w)) fun ad d_ w=>X1 ad (Q0 a true w (fieldAddr P T.v d 2) fun N w=>Q0 a true w (Q2 P T.c N) fun ah w=>Q0 a true w (Q1 P F.e [ah]) fun ax w=>pick P a ax (.bool false) w fun h w=>Q0 h true w (fieldAddr P T.v d 2) fun aj w=>Q0 h true w (Q2 P T.c aj) fun bc w=>Q0 h true w (Q1 P F.x [bc]) fun a7 w=>Q0 h true w (J8 P .not a7) fun ak w=>pick P h ak (.bool false) w fun E w=>n E w) (Q3 P .eql T.c (.tmp 33) (.const (.string ⟨#[97,114,114,97,121]⟩)) f (.string ⟨#[97,114,114,97,121]⟩) w fun ab w=>X1 ab (Q0 a true w (fieldAddr P T.v d 2) fun q w=>Q0 a true w (Q2 P T.c q) fun y w=>Q0 a true w (Q1 P F.e [y]) fun t w=>pick P a t (.bool false) w fun c w=>Q0 c true w (fieldAddr P T.v d 2) fun A w=>Q0 c true w (Q2 P T.c A) fun v w=>Q0 c true w (Q1 P F.a1 [v]) fun s w=>Q0 c true w (Q3 P .lss T.e (.tmp 108) (.const (.int .i64 3)) s (.int .i64 3)) fun u w=>pick P c u (.bool false) w fun z w=>n z w) (fieldAddr P T.v d 2 w fun ag w=>Q2 P T.c ag w fun U w=>Q1 P F.bv [U] w fun m w=>ext P m 0 w fun bh w=>ext P m 1 w fun bj w=>ext P m 2 w fun V w=>Q0 a true w (fun w J=>J V w) fun a4 w=>pick P a a4 (.bool false) w fun ao w=>n ao w))))) (n a w)) fun z6 d_ w=>J8 P .not z6 w fun o w=>X1 o (K (.int .i64 41) w) (K (.int .i64 0) w))
theorem Ik {a:Value} {w:World} {K:Value→World→Prop} (h:Nn a w K):Q1 P F.bt [a] w K:=Q9 Ie Tryz.func215 rfl (by decide) (by kernel_rfl) h
def Q0k:V7:=[none,none,none,some ([3],[2,3,4,5,6,7,8,9,10,11,12,13,14,15,16,17,18]),none,none,none,none,none,none,none]
def Es (h:Value) (w:World) (K:Value→World→Prop):Prop:= lp (α:=Value) (.int .i64 0) w fun a e k w=>X2 P .len [T.q] T.e [false] [h] w fun i w=>Q3 P .lss T.e (.tmp 5) (.tmp 7) e i w fun j w=>X1 j (indexAddr P T.q h e w fun d w=>Q2 P T.v d w fun c w=>Q1 P F.bt [c] w fun b w=>Q3 P .neq T.y (.tmp 16) (.const (.int .i64 0)) b (.int .i64 0) w fun f w=>X1 f (K b w) (Q3 P .add T.e (.tmp 9) (.const (.int .i64 1)) e (.int .i64 1) w fun g w=>a g w)) (K (.int .i64 0) w)
theorem Q0O {a:Value} {w:World} {K:Value→World→Prop} (h:Es a w K):Q1 P F.b2 [a] w K:=Q9 Q0k Tryz.func203 rfl (by decide) (by kernel_rfl) h
def Fw:V7:=[none,none,none,none,some ([3,4],[3,4,21,22,23,24,25,26,27,28,29,30,31,32,33,34,35,36]),none,none,none,none,none,none,none,none,none,some ([3,6],[3,6,7,60,61,62,63,64,65,66,67,68,69,70,71,72,73,74,75,76,77,78,79,80,81,82,83,84,85,86,87,88,89,90,91,92,93,94,95,96,97,98,99,100,101,102,103,104,105,106]),none,none,none,none,none]
def Wx (a0:Value) (w:World) (K:Value→World→Prop):Prop:= box P T.d a0 w fun e w=>fieldAddr P T.d e 0 w fun t8 w=>Q2 P T.c t8 w fun t9 w=>Q1 P F.u [t9] w fun g w=>Q0 g true w (fieldAddr P T.d e 2) fun bw w=>Q0 g true w (Q2 P T.c bw) fun ay w=>Q0 g true w (Q3 P .eql T.c (.tmp 13) (.const (.string ⟨#[]⟩)) ay (.string ⟨#[]⟩)) fun aw w=>Q0 g true w (fun w J=>J aw w) fun p w=>Q0 p false w (fieldAddr P T.d e 2) fun bu w=>Q0 p false w (Q2 P T.c bu) fun bo w=>Q0 p false w (Q1 P F.e [bo]) fun bq w=>Q0 g true w (pick P p (.bool true) bq) fun aj w=>pick P g aj (.bool false) w fun a5 w=>lp (α:=Value×Value) (a5,(.int .i64 0)) w fun n d d_ w=>fieldAddr P T.d e 1 w fun bk w=>Q2 P T.h bk w fun ai w=>X2 P .len [T.h] T.e [false] [ai] w fun a9 w=>Q3 P .lss T.e (.tmp 21) (.tmp 24) d.2 a9 w fun bl w=>X1 bl (Q0 d.1 true w (fieldAddr P T.d e 1) fun ag w=>Q0 d.1 true w (Q2 P T.h ag) fun bc w=>Q0 d.1 true w (fun w J=>J d.2 w) fun a6 w=>Q0 d.1 true w (indexAddr P T.h bc a6) fun az w=>Q0 d.1 true w (Q2 P T.c az) fun bf w=>Q0 d.1 true w (Q1 P F.e [bf]) fun ar w=>pick P d.1 ar (.bool false) w fun ad w=>Q3 P .add T.e (.tmp 26) (.const (.int .i64 1)) d.2 (.int .i64 1) w fun af w=>n (ad,af) w) (fieldAddr P T.d e 3 w fun ab w=>Q2 P T.u ab w fun ae w=>X1 ae (Q0 d.1 true w (fieldAddr P T.d e 4) fun W w=>Q0 d.1 true w (Q2 P T.e W) fun ah w=>Q0 d.1 true w (Q3 P .eql T.e (.tmp 42) (.const (.int .i64 0)) ah (.int .i64 0)) fun bm w=>pick P d.1 bm (.bool false) w fun k w=>Q0 k true w (fieldAddr P T.d e 5) fun bd w=>Q0 k true w (Q2 P T.q bd) fun bx w=>Q0 k true w (X2 P .len [T.q] T.e [false] [bx]) fun bj w=>Q0 k true w (Q3 P .eql T.e (.tmp 48) (.const (.int .i64 0)) bj (.int .i64 0)) fun br w=>pick P k br (.bool false) w fun l w=>Q0 l true w (fieldAddr P T.d e 6) fun aa w=>Q0 l true w (Q2 P T.s aa) fun bb w=>Q0 l true w (X2 P .len [T.s] T.e [false] [bb]) fun a7 w=>Q0 l true w (Q3 P .eql T.e (.tmp 54) (.const (.int .i64 0)) a7 (.int .i64 0)) fun ac w=>pick P l ac (.bool false) w fun bg w=>K bg w) (fieldAddr P T.d e 5 w fun X w=>Q2 P T.q X w fun V w=>X2 P .len [T.q] T.e [false] [V] w fun r w=>lp (α:=Value×Value) (d.1,(.int .i64 0)) w fun m b d_ w=>fieldAddr P T.d e 6 w fun bi w=>Q2 P T.s bi w fun ba w=>X2 P .len [T.s] T.e [false] [ba] w fun bz w=>Q3 P .lss T.e (.tmp 60) (.tmp 63) b.2 bz w fun bn w=>X1 bn (fieldAddr P T.d e 6 w fun am w=>Q2 P T.s am w fun al w=>indexAddr P T.s al b.2 w fun bs w=>Q2 P T.t bs w fun Y w=>W1 P T.t w fun q w=>X9 P T.t q Y w fun _u w=>Q0 b.1 true w (fieldAddr P T.t q 0) fun a8 w=>Q0 b.1 true w (Q2 P T.e a8) fun ao w=>Q0 b.1 true w (Q3 P .geq T.e (.tmp 75) (.const (.int .i64 0)) ao (.int .i64 0)) fun aq w=>pick P b.1 aq (.bool false) w fun h w=>Q0 h true w (fieldAddr P T.t q 0) fun av w=>Q0 h true w (Q2 P T.e av) fun U w=>Q0 h true w (fieldAddr P T.t q 1) fun b0 w=>Q0 h true w (Q2 P T.e b0) fun an w=>Q0 h true w (Q3 P .lss T.e (.tmp 80) (.tmp 82) U an) fun a3 w=>pick P h a3 (.bool false) w fun i w=>Q0 i true w (fieldAddr P T.t q 1) fun be w=>Q0 i true w (Q2 P T.e be) fun Z w=>Q0 i true w (fun w J=>J r w) fun ax w=>Q0 i true w (Q3 P .leq T.e (.tmp 87) (.tmp 88) Z ax) fun bh w=>pick P i bh (.bool false) w fun o w=>Q0 o true w (fieldAddr P T.t q 2) fun a2 w=>Q0 o true w (Q2 P T.e a2) fun bv w=>Q0 o true w (Q3 P .geq T.e (.tmp 93) (.const (.int .i64 0)) bv (.int .i64 0)) fun bp w=>pick P o bp (.bool false) w fun j w=>Q0 j true w (fieldAddr P T.t q 2) fun ap w=>Q0 j true w (Q2 P T.e ap) fun ak w=>Q0 j true w (fun w J=>J r w) fun a4 w=>Q0 j true w (Q3 P .lss T.e (.tmp 98) (.tmp 99) ak a4) fun Q w=>pick P j Q (.bool false) w fun f w=>Q0 f true w (fieldAddr P T.t q 3) fun B w=>Q0 f true w (Q2 P T.c B) fun v w=>Q0 f true w (Q1 P F.d [v]) fun u w=>pick P f u (.bool false) w fun M w=>Q3 P .add T.e (.tmp 65) (.const (.int .i64 1)) b.2 (.int .i64 1) w fun a1 w=>m (M,a1) w) (Q0 b.1 true w (fun w J=>J r w) fun N w=>Q0 b.1 true w (Q3 P .gtr T.e (.tmp 109) (.const (.int .i64 0)) N (.int .i64 0)) fun R w=>pick P b.1 R (.bool false) w fun a w=>Q0 a true w (fieldAddr P T.d e 4) fun L w=>Q0 a true w (Q2 P T.e L) fun E w=>Q0 a true w (fieldAddr P T.d e 1) fun A w=>Q0 a true w (Q2 P T.h A) fun O w=>Q0 a true w (X2 P .len [T.h] T.e [false] [O]) fun s w=>Q0 a true w (Q3 P .gtr T.e (.tmp 114) (.tmp 117) E s) fun y w=>pick P a y (.bool false) w fun c w=>Q0 c true w (fieldAddr P T.d e 5) fun C w=>Q0 c true w (Q2 P T.q C) fun z w=>Q0 c true w (Q1 P F.b2 [z]) fun D w=>Q0 c true w (Q3 P .eql T.y (.tmp 123) (.const (.int .i64 0)) D (.int .i64 0)) fun H w=>pick P c H (.bool false) w fun t w=>K t w)))
theorem Fz {a:Value} {w:World} {K:Value→World→Prop} (h:Wx a w K):Q1 P F.a4 [a] w K:=Q9 Fw Tryz.func182 rfl (by decide) (by kernel_rfl) h
end Go.Proofs.YtjdiakhipmggjaaGreatDoor

set_option maxRecDepth 100000
namespace Go.Proofs.YtjdiakhipmggjaaGreatDoor
open Go.Emb
def Pe:V7:=[none,none,none,none,some ([3,4],[3,4,5,26,27,28,29,30,31,32,33,34,35,36,37,38,39,40,41,42,43,44,45,46,47,48,49,50,51,52,53,54,55,56,57,58,59,60,61,62,63,64,65,66,67,68,69,70]),none,none,none,none,none,some ([3,5],[3,5,52,53,54,55,56,57,58,59,60,61,62,63,64,65,66,67,68,69,70]),none,none,none,none,none,some ([3,6],[3,6,7,71,72,73,74,75,76,77,78,79,80,81,82,83,84,85,86,87,88,89,90,91,92,93,94,95,96,97,98,99,100,101,102,103,104,105,106,107,108,109,110,111,112,113,114,115,116,117,118,119,120,121,122]),none,none,none,none,none,some ([3,7],[3,7,102,103,104,105,106,107,108,109,110,111,112,113,114,115,116,117,118,119,120,121,122]),none,none,none,none,none,some ([3,8],[3,8,9,10,123,124,125,126,127,128,129,130,131,132,133,134,135,136,137,138,139,140,141,142,143,144,145,146,147,148,149,150,151,152,153,154,155,156,157,158,159,160,161,162,163,164,165,166,167,168,169,170,171,172,173,174]),none,none,none,none,none,none,some ([3,10],[3,10,158,159,160,161,162,163,164,165,166,167,168,169,170,171,172,173,174]),none,none,none,none]
def Mg (a0:Value) (w:World) (K:Value→World→Prop):Prop:= box P T.b a0 w fun i w=>fieldAddr P T.b i 0 w fun eh w=>Q2 P T.c eh w fun em w=>Q1 P F.d [em] w fun bq w=>Q0 bq true w (fieldAddr P T.b i 1) fun e9 w=>Q0 bq true w (Q2 P T.c e9) fun el w=>Q0 bq true w (Q1 P F.d [el]) fun e4 w=>pick P bq e4 (.bool false) w fun ah w=>Q0 ah true w (fieldAddr P T.b i 0) fun eu w=>Q0 ah true w (Q2 P T.c eu) fun d2 w=>Q0 ah true w (fieldAddr P T.b i 1) fun e2 w=>Q0 ah true w (Q2 P T.c e2) fun d6 w=>Q0 ah true w (Q3 P .neq T.c (.tmp 21) (.tmp 23) d2 d6) fun ew w=>pick P ah ew (.bool false) w fun e3 w=>lp (α:=Value×Value) (e3,(.int .i64 0)) w fun bv u d_ w=>fieldAddr P T.b i 2 w fun d4 w=>Q2 P T.h d4 w fun e1 w=>X2 P .len [T.h] T.e [false] [e1] w fun d7 w=>Q3 P .lss T.e (.tmp 26) (.tmp 29) u.2 d7 w fun d5 w=>X1 d5 (dr w fun a b=>Q5 a (fun bl=> ∀w,b w→Q0 u.1 true w (fieldAddr P T.b i 2) (dk a bl w)) fun bl=>Q5 a (fun ax=> ∀w,b w→Q0 u.1 true w (fun w J=>J u.2 w) (dk a ax w)) fun ax=>Q5 a (fun bi=> ∀ba w,b w→bl ba w→Q0 u.1 true w (Q2 P T.h ba) (dk a bi w)) fun bi=>Q5 a (fun bn=> ∀a3 a2 w,b w→bi a3 w→ax a2 w→Q0 u.1 true w (indexAddr P T.h a3 a2) (dk a bn w)) fun bn=>Q5 a (fun bg=> ∀a4 w,b w→bn a4 w→Q0 u.1 true w (Q2 P T.c a4) (dk a bg w)) fun bg=>Q5 a (fun b3=> ∀b2 w,b w→bg b2 w→Q0 u.1 true w (Q1 P F.d [b2]) (dk a b3 w)) fun b3=>Q5 a (fun j=> ∀a5 w,b w→b3 a5 w→pick P u.1 a5 (.bool false) w (dk a j w)) fun j=>Q5 a (fun bj=> ∀c w,b w→j c w→Q0 c true w (fieldAddr P T.b i 2) (dk a bj w)) fun bj=>Q5 a (fun bo=> ∀c w,b w→j c w→Q0 c true w (fun w J=>J u.2 w) (dk a bo w)) fun bo=>Q5 a (fun ay=> ∀c w,b w→j c w→Q0 c true w (fieldAddr P T.b i 0) (dk a ay w)) fun ay=>Q5 a (fun az=> ∀c b0 w,b w→j c w→bj b0 w→Q0 c true w (Q2 P T.h b0) (dk a az w)) fun az=>Q5 a (fun be=> ∀c bd bh w,b w→j c w→az bd w→bo bh w→Q0 c true w (indexAddr P T.h bd bh) (dk a be w)) fun be=>Q5 a (fun cb=> ∀c bs w,b w→j c w→be bs w→Q0 c true w (Q2 P T.c bs) (dk a cb w)) fun cb=>Q5 a (fun ca=> ∀c bz w,b w→j c w→ay bz w→Q0 c true w (Q2 P T.c bz) (dk a ca w)) fun ca=>∀ba a2 a3 a4 b2 a5 c b0 bh bz bd bs d0 c2 w,b w→bl ba w→ax a2 w→bi a3 w→bn a4 w→bg b2 w→b3 a5 w→j c w→bj b0 w→bo bh w→ay bz w→az bd w→be bs w→cb d0 w→ca c2 w→ Q0 c true w (Q3 P .neq T.c (.tmp 47) (.tmp 49) d0 c2) fun eg w=>pick P c eg (.bool false) w fun e6 w=>lp (α:=Value×Value) (e6,(.int .i64 0)) w fun aq e d_ w=>Q3 P .lss T.e (.tmp 52) (.tmp 53) e.2 u.2 w fun ee w=>X1 ee (dr w fun a b=>Q5 a (fun bp=> ∀w,b w→Q0 e.1 true w (fieldAddr P T.b i 2) (dk a bp w)) fun bp=>Q5 a (fun bu=> ∀w,b w→Q0 e.1 true w (fun w J=>J e.2 w) (dk a bu w)) fun bu=>Q5 a (fun bx=> ∀w,b w→Q0 e.1 true w (fieldAddr P T.b i 2) (dk a bx w)) fun bx=>Q5 a (fun a7=> ∀w,b w→Q0 e.1 true w (fun w J=>J u.2 w) (dk a a7 w)) fun a7=>Q5 a (fun bw=> ∀a8 w,b w→bp a8 w→Q0 e.1 true w (Q2 P T.h a8) (dk a bw w)) fun bw=>Q5 a (fun a6=> ∀b1 bf w,b w→bw b1 w→bu bf w→Q0 e.1 true w (indexAddr P T.h b1 bf) (dk a a6 w)) fun a6=>Q5 a (fun b9=> ∀bc w,b w→a6 bc w→Q0 e.1 true w (Q2 P T.c bc) (dk a b9 w)) fun b9=>Q5 a (fun a1=> ∀b4 w,b w→bx b4 w→Q0 e.1 true w (Q2 P T.h b4) (dk a a1 w)) fun a1=>Q5 a (fun bk=> ∀bb br w,b w→a1 bb w→a7 br w→Q0 e.1 true w (indexAddr P T.h bb br) (dk a bk w)) fun bk=>Q5 a (fun cc=> ∀a9 w,b w→bk a9 w→Q0 e.1 true w (Q2 P T.c a9) (dk a cc w)) fun cc=>∀a8 bf b4 br b1 bc c9 bb a9 df w,b w→bp a8 w→bu bf w→bx b4 w→a7 br w→bw b1 w→a6 bc w→b9 c9 w→a1 bb w→bk a9 w→cc df w→ Q0 e.1 true w (Q3 P .neq T.c (.tmp 63) (.tmp 68) c9 df) fun ey w=>pick P e.1 ey (.bool false) w fun ek w=>Q3 P .add T.e (.tmp 55) (.const (.int .i64 1)) e.2 (.int .i64 1) w fun ez w=>aq (ek,ez) w) (Q3 P .add T.e (.tmp 31) (.const (.int .i64 1)) u.2 (.int .i64 1) w fun ed w=>bv (e.1,ed) w)) (lp (α:=Value×Value) (u.1,(.int .i64 0)) w fun av f d_ w=>fieldAddr P T.b i 6 w fun er w=>Q2 P T.k er w fun d1 w=>X2 P .len [T.k] T.e [false] [d1] w fun ef w=>Q3 P .lss T.e (.tmp 71) (.tmp 74) f.2 ef w fun ea w=>X1 ea (Q0 f.1 true w (fieldAddr P T.b i 6) fun ep w=>Q0 f.1 true w (Q2 P T.k ep) fun eo w=>Q0 f.1 true w (fun w J=>J f.2 w) fun d9 w=>Q0 f.1 true w (indexAddr P T.k eo d9) fun es w=>Q0 f.1 true w (fieldAddr P T.o es 0) fun eq w=>Q0 f.1 true w (Q2 P T.c eq) fun e5 w=>Q0 f.1 true w (Q1 P F.u [e5]) fun ex w=>pick P f.1 ex (.bool false) w fun o w=>Q0 o true w (fieldAddr P T.b i 6) fun ei w=>Q0 o true w (Q2 P T.k ei) fun e0 w=>Q0 o true w (fun w J=>J f.2 w) fun d3 w=>Q0 o true w (indexAddr P T.k e0 d3) fun eb w=>Q0 o true w (fieldAddr P T.o eb 1) fun e8 w=>Q0 o true w (Q2 P T.c e8) fun ej w=>Q0 o true w (Q1 P F.e [ej]) fun ec w=>pick P o ec (.bool false) w fun bm w=>Q0 bm true w (fieldAddr P T.b i 3) fun d8 w=>Q0 bm true w (Q2 P T.u d8) fun et w=>Q0 bm true w (J8 P .not et) fun c6 w=>pick P bm c6 (.bool false) w fun ch w=>lp (α:=Value×Value) (ch,(.int .i64 0)) w fun ao d d_ w=>Q3 P .lss T.e (.tmp 102) (.tmp 103) d.2 f.2 w fun cl w=>X1 cl (dr w fun a b=>Q5 a (fun aa=> ∀w,b w→Q0 d.1 true w (fieldAddr P T.b i 6) (dk a aa w)) fun aa=>Q5 a (fun W=> ∀w,b w→Q0 d.1 true w (fun w J=>J d.2 w) (dk a W w)) fun W=>Q5 a (fun ae=> ∀w,b w→Q0 d.1 true w (fieldAddr P T.b i 6) (dk a ae w)) fun ae=>Q5 a (fun t=> ∀w,b w→Q0 d.1 true w (fun w J=>J f.2 w) (dk a t w)) fun t=>Q5 a (fun E=> ∀Q w,b w→aa Q w→Q0 d.1 true w (Q2 P T.k Q) (dk a E w)) fun E=>Q5 a (fun ab=> ∀C A w,b w→E C w→W A w→Q0 d.1 true w (indexAddr P T.k C A) (dk a ab w)) fun ab=>Q5 a (fun M=> ∀q w,b w→ab q w→Q0 d.1 true w (fieldAddr P T.o q 0) (dk a M w)) fun M=>Q5 a (fun aw=> ∀L w,b w→M L w→Q0 d.1 true w (Q2 P T.c L) (dk a aw w)) fun aw=>Q5 a (fun Z=> ∀ac w,b w→ae ac w→Q0 d.1 true w (Q2 P T.k ac) (dk a Z w)) fun Z=>Q5 a (fun ag=> ∀R V w,b w→Z R w→t V w→Q0 d.1 true w (indexAddr P T.k R V) (dk a ag w)) fun ag=>Q5 a (fun D=> ∀Y w,b w→ag Y w→Q0 d.1 true w (fieldAddr P T.o Y 0) (dk a D w)) fun D=>Q5 a (fun aj=> ∀af w,b w→D af w→Q0 d.1 true w (Q2 P T.c af) (dk a aj w)) fun aj=>∀Q A ac V C q L b8 R Y af b6 w,b w→aa Q w→W A w→ae ac w→t V w→E C w→ab q w→M L w→aw b8 w→Z R w→ag Y w→D af w→aj b6 w→ Q0 d.1 true w (Q3 P .neq T.c (.tmp 114) (.tmp 120) b8 b6) fun dp w=>pick P d.1 dp (.bool false) w fun cp w=>Q3 P .add T.e (.tmp 105) (.const (.int .i64 1)) d.2 (.int .i64 1) w fun c7 w=>ao (cp,c7) w) (Q3 P .add T.e (.tmp 76) (.const (.int .i64 1)) f.2 (.int .i64 1) w fun e7 w=>av (d.1,e7) w)) (lp (α:=Value×Value) (f.1,(.int .i64 0)) w fun an h d_ w=>fieldAddr P T.b i 7 w fun dv w=>Q2 P T.j dv w fun de w=>X2 P .len [T.j] T.e [false] [de] w fun ce w=>Q3 P .lss T.e (.tmp 123) (.tmp 126) h.2 ce w fun cm w=>X1 cm (fieldAddr P T.b i 7 w fun ct w=>Q2 P T.j ct w fun dh w=>indexAddr P T.j dh h.2 w fun di w=>Q2 P T.d di w fun dm w=>W1 P T.d w fun t9 w=>X9 P T.d t9 dm w fun _u w=>Q0 h.1 true w (Q2 P T.d t9) fun dx w=>Q0 h.1 true w (Q1 P F.a4 [dx]) fun cq w=>pick P h.1 cq (.bool false) w fun k w=>Q0 k true w (fieldAddr P T.d t9 3) fun cf w=>Q0 k true w (Q2 P T.u cf) fun cz w=>Q0 k true w (J8 P .not cz) fun dj w=>Q0 k true w (fun w J=>J dj w) fun ap w=>Q0 ap false w (fieldAddr P T.b i 4) fun dq w=>Q0 ap false w (Q2 P T.u dq) fun c5 w=>Q0 k true w (pick P ap (.bool true) c5) fun cx w=>pick P k cx (.bool false) w fun l w=>Q0 l true w (fieldAddr P T.b i 3) fun c1 w=>Q0 l true w (Q2 P T.u c1) fun dg w=>Q0 l true w (J8 P .not dg) fun dd w=>Q0 l true w (fun w J=>J dd w) fun ai w=>Q0 ai false w (fieldAddr P T.d t9 3) fun dc w=>Q0 ai false w (Q2 P T.u dc) fun cr w=>Q0 l true w (pick P ai (.bool true) cr) fun dl w=>pick P l dl (.bool false) w fun da w=>lp (α:=Value×Value) (da,(.int .i64 0)) w fun al g d_ w=>Q3 P .lss T.e (.tmp 158) (.tmp 159) g.2 h.2 w fun dz w=>X1 dz (dr w fun a b=>Q5 a (fun s=> ∀w,b w→Q0 g.1 true w (fieldAddr P T.b i 7) (dk a s w)) fun s=>Q5 a (fun U=> ∀w,b w→Q0 g.1 true w (fun w J=>J g.2 w) (dk a U w)) fun U=>Q5 a (fun H=> ∀w,b w→Q0 g.1 true w (fieldAddr P T.d t9 0) (dk a H w)) fun H=>Q5 a (fun v=> ∀N w,b w→s N w→Q0 g.1 true w (Q2 P T.j N) (dk a v w)) fun v=>Q5 a (fun z=> ∀p O w,b w→v p w→U O w→Q0 g.1 true w (indexAddr P T.j p O) (dk a z w)) fun z=>Q5 a (fun ad=> ∀y w,b w→z y w→Q0 g.1 true w (fieldAddr P T.d y 0) (dk a ad w)) fun ad=>Q5 a (fun am=> ∀B w,b w→ad B w→Q0 g.1 true w (Q2 P T.c B) (dk a am w)) fun am=>Q5 a (fun ak=> ∀r w,b w→H r w→Q0 g.1 true w (Q2 P T.c r) (dk a ak w)) fun ak=>∀N O r p y B b5 b7 w,b w→s N w→U O w→H r w→v p w→z y w→ad B w→am b5 w→ak b7 w→ Q0 g.1 true w (Q3 P .neq T.c (.tmp 170) (.tmp 172) b5 b7) fun ds w=>pick P g.1 ds (.bool false) w fun cu w=>Q3 P .add T.e (.tmp 161) (.const (.int .i64 1)) g.2 (.int .i64 1) w fun cn w=>al (cu,cn) w) (Q3 P .add T.e (.tmp 128) (.const (.int .i64 1)) h.2 (.int .i64 1) w fun c4 w=>an (g.1,c4) w)) (Q0 h.1 true w (fieldAddr P T.b i 3) fun cs w=>Q0 h.1 true w (Q2 P T.u cs) fun ci w=>Q0 h.1 true w (J8 P .not ci) fun cj w=>Q0 h.1 true w (fun w J=>J cj w) fun n w=>Q0 n false w (fieldAddr P T.b i 4) fun cw w=>Q0 n false w (Q2 P T.u cw) fun cg w=>Q0 n false w (fun w J=>J cg w) fun X w=>Q0 X true w (fieldAddr P T.b i 1) fun cy w=>Q0 X true w (Q2 P T.c cy) fun cd w=>Q0 X true w (Q3 P .eql T.c (.tmp 185) (.const (.string ⟨#[79,98,106,101,99,116]⟩)) cd (.string ⟨#[79,98,106,101,99,116]⟩)) fun dn w=>Q0 n false w (pick P X dn (.bool false)) fun co w=>Q0 h.1 true w (pick P n (.bool true) co) fun dy w=>pick P h.1 dy (.bool false) w fun m w=>Q0 m true w (fieldAddr P T.b i 4) fun du w=>Q0 m true w (Q2 P T.u du) fun cv w=>Q0 m true w (fun w J=>J cv w) fun ar w=>Q0 ar true w (fieldAddr P T.b i 5) fun db w=>Q0 ar true w (Q2 P T.u db) fun dt w=>Q0 m true w (pick P ar dt (.bool false)) fun c8 w=>Q0 m true w (J8 P .not c8) fun dw w=>pick P m dw (.bool false) w fun c0 w=>K c0 w)))
theorem Iw {a:Value} {w:World} {K:Value→World→Prop} (h:Mg a w K):Q1 P F.bp [a] w K:=Q9 Pe Tryz.func148 rfl (by decide) (by kernel_rfl) h
def Nq (e:Value) (w:World) (K:Value→World→Prop):Prop:= box P T.b e w fun a w=>Q2 P T.b a w fun f w=>Q1 P F.bJ [f] w fun d w=>X1 d (K (.int .i64 51) w) (Q2 P T.b a w fun b w=>Q1 P F.bp [b] w fun g w=>J8 P .not g w fun c w=>X1 c (K (.int .i64 50) w) (K (.int .i64 0) w))
theorem Pa {a:Value} {w:World} {K:Value→World→Prop} (h:Nq a w K):Q1 P F.bn [a] w K:=Q9 (List.replicate 8 none) Tryz.func100 rfl (by decide) (by kernel_rfl) h
def Ao:V7:=[none,none,none,some ([5],[4,5,6,7,8,9,10,11,12,13,14,15,16,17,18,19]),none,none,none,none,none,none]
def Oj (h k:Value) (w:World) (K:Value→World→Prop):Prop:= lp (α:=Value) (.int .i64 0) w fun a b l w=>X2 P .len [T.i] T.e [false] [h] w fun i w=>Q3 P .lss T.e (.tmp 6) (.tmp 8) b i w fun j w=>X1 j (indexAddr P T.i h b w fun d w=>fieldAddr P T.b d 0 w fun f w=>Q2 P T.c f w fun g w=>Q3 P .eql T.c (.tmp 16) (.tmp 17) g k w fun c w=>X1 c (K b w) (Q3 P .add T.e (.tmp 10) (.const (.int .i64 1)) b (.int .i64 1) w fun e w=>a e w)) (K (.int .i64 (-1)) w)
theorem Aq {a b:Value} {w:World} {K:Value→World→Prop} (h:Oj a b w K):Q1 P F.b [a,b] w K:=Q9 Ao Tryz.func101 rfl (by decide) (by kernel_rfl) h
def Gk:V7:=[none,none,none,none,none,none,none,some ([6],[4,6,7,28,29,30,31,32,33,34,35,36,37,38,39,40,41,42,43,44,45,46,47,48,49,50,51]),none,none,none,none,none,none,none]
def Lh (g W:Value) (w:World) (K:Value→World→Prop):Prop:= box P T.b W w fun a w=>fieldAddr P T.b a 1 w fun V w=>Q2 P T.c V w fun A w=>Q1 P F.b [g,A] w fun f w=>Q3 P .lss T.e (.tmp 12) (.const (.int .i64 0)) f (.int .i64 0) w fun c w=>Q0 c false w (fun w J=>J g w) fun R w=>Q0 c false w (fun w J=>J f w) fun O w=>Q0 c false w (indexAddr P T.i R O) fun z w=>Q0 c false w (fieldAddr P T.b z 3) fun B w=>Q0 c false w (Q2 P T.u B) fun L w=>pick P c (.bool true) L w fun d w=>Q0 d false w (fun w J=>J g w) fun t w=>Q0 d false w (fun w J=>J f w) fun H w=>Q0 d false w (indexAddr P T.i t H) fun j w=>Q0 d false w (fieldAddr P T.b j 5) fun u w=>Q0 d false w (Q2 P T.u u) fun E w=>pick P d (.bool true) E w fun v w=>X1 v (K (.int .i64 61) w) (lp (α:=Value) (.int .i64 0) w fun e p X w=>fieldAddr P T.b a 2 w fun M w=>Q2 P T.h M w fun y w=>X2 P .len [T.h] T.e [false] [y] w fun k w=>Q3 P .lss T.e (.tmp 28) (.tmp 31) p k w fun i w=>X1 i (fieldAddr P T.b a 2 w fun q w=>Q2 P T.h q w fun o w=>indexAddr P T.h o p w fun Q w=>Q2 P T.c Q w fun s w=>Q1 P F.b [g,s] w fun h w=>Q3 P .lss T.e (.tmp 42) (.const (.int .i64 0)) h (.int .i64 0) w fun b w=>Q0 b false w (fun w J=>J g w) fun N w=>Q0 b false w (fun w J=>J h w) fun l w=>Q0 b false w (indexAddr P T.i N l) fun U w=>Q0 b false w (fieldAddr P T.b U 3) fun r w=>Q0 b false w (Q2 P T.u r) fun D w=>Q0 b false w (J8 P .not D) fun m w=>pick P b (.bool true) m w fun C w=>X1 C (K (.int .i64 62) w) (Q3 P .add T.e (.tmp 33) (.const (.int .i64 1)) p (.int .i64 1) w fun n w=>e n w)) (K (.int .i64 0) w))
theorem Fk {a b:Value} {w:World} {K:Value→World→Prop} (h:Lh a b w K):Q1 P F.bd [a,b] w K:=Q9 Gk Tryz.func102 rfl (by decide) (by kernel_rfl) h
def Im:V7:=[none,none,none,none,some ([3,4],[3,4,5,6,7,8,13,14,15,16,17,18,19,20,21,22,23,24,25,26,27,28,29,30,31,32,33,34,35,36,37,38,39,40,41,42,43,44,45,46,47,48,49,50,51,52,53,54]),none,none,none,none,none,none,none,some ([7],[7,8,34,35,36,37,38,39,40,41,42,43,44,45,46,47,48,49,50]),none,none,some ([],[8,40,41,42,43,44,45,46,47,48,49,50]),none,none,none,none,some ([9],[9,10,11,55,56,57,58,59,60,61,62,63,64,65,66,67,68,69,70,71,72,73,74,75,76,77,78,79,80,81,82,83,84,85,86,87,88,89,90,91,92,93,94,95,96,97,98,99,100,101,102,103]),none,none,none,none,some ([10],[10,11,61,62,63,64,65,66,67,68,69,70,71,72,73,74,75,76,77,78,79,80,81,82,83,84,85,86,87,88,89,90,91,92,93,94,95,96,97,98,99,100,101,102,103]),none,none,none,none,some ([11],[11,67,68,69,70,71,72,73,74,75,76,77,78,79,80,81,82,83,84,85,86,87,88,89,90,91,92,93,94,95,96,97,98,99,100,101,102,103]),none,none,none,none]
def Md (a0:Value) (w:World) (K:Value→World→Prop):Prop:= buildSlice P T.a8 0 [] w fun b1 w=>lp (α:=Value×Value) (b1,(.int .i64 0)) w fun ag r d_ w=>X2 P .len [T.i] T.e [false] [a0] w fun b0 w=>Q3 P .lss T.e (.tmp 13) (.tmp 15) r.2 b0 w fun bx w=>X1 bx (X2 P .len [T.i] T.e [false] [a0] w fun bb w=>Ls P T.a6 bb bb w fun a6 w=>dr w fun b d=>Q5 b (fun y=> ∀w,d w→indexAddr P T.i a0 r.2 w (dk b y w)) fun y=>Q5 b (fun B=> ∀ac w,d w→y ac w→fieldAddr P T.b ac 1 w (dk b B w)) fun B=>Q5 b (fun aw=> ∀w,d w→indexAddr P T.i a0 r.2 w (dk b aw w)) fun aw=>Q5 b (fun ay=> ∀D w,d w→aw D w→fieldAddr P T.b D 2 w (dk b ay w)) fun ay=>Q5 b (fun ah=> ∀am w,d w→B am w→Q2 P T.c am w (dk b ah w)) fun ah=>Q5 b (fun a5=> ∀E w,d w→ah E w→buildSlice P T.h 1 [(0,E)] w (dk b a5 w)) fun a5=>Q5 b (fun a3=> ∀ae w,d w→ay ae w→Q2 P T.h ae w (dk b a3 w)) fun a3=>∀ac am D ae E a7 bc w,d w→y ac w→B am w→aw D w→ay ae w→ah E w→a5 a7 w→a3 bc w→ X2 P .append [T.h,T.h] T.h [false,false] [a7,bc] w fun ba w=>lp (α:=Value) (.int .i64 0) w fun k a4 d_ w=>X2 P .len [T.h] T.e [false] [ba] w fun bk w=>Q3 P .lss T.e (.tmp 34) (.tmp 36) a4 bk w fun bj w=>X1 bj (jn (α:=Unit) w (fun a9 w=>indexAddr P T.h ba a4 w fun br w=>Q2 P T.c br w fun bn w=>Q1 P F.b [a0,bn] w fun bf w=>Q3 P .geq T.e (.tmp 46) (.const (.int .i64 0)) bf (.int .i64 0) w fun b2 w=>X1 b2 (indexAddr P T.a6 a6 bf w fun bp w=>X9 P T.u bp (.bool true) w fun _u w=>a9 () w) (a9 () w)) fun b4 d_ w=>Q3 P .add T.e (.tmp 38) (.const (.int .i64 1)) a4 (.int .i64 1) w fun bz w=>k bz w) (buildSlice P T.a8 1 [(0,a6)] w fun bo w=>X2 P .append [T.a8,T.a8] T.a8 [false,false] [r.1,bo] w fun bm w=>Q3 P .add T.e (.tmp 17) (.const (.int .i64 1)) r.2 (.int .i64 1) w fun bv w=>ag (bm,bv) w)) (lp (α:=Value) (.int .i64 0) w fun p N d_ w=>X2 P .len [T.i] T.e [false] [a0] w fun bh w=>Q3 P .lss T.e (.tmp 55) (.tmp 57) N bh w fun bg w=>X1 bg (lp (α:=Value) (.int .i64 0) w fun o l d_ w=>X2 P .len [T.i] T.e [false] [a0] w fun b3 w=>Q3 P .lss T.e (.tmp 61) (.tmp 63) l b3 w fun bu w=>X1 bu (lp (α:=Value) (.int .i64 0) w fun n q d_ w=>X2 P .len [T.i] T.e [false] [a0] w fun bq w=>Q3 P .lss T.e (.tmp 67) (.tmp 69) q bq w fun bw w=>X1 bw (dr w fun b d=>Q5 b (fun al=> ∀w,d w→indexAddr P T.a8 r.1 l w (dk b al w)) fun al=>Q5 b (fun V=> ∀w,d w→indexAddr P T.a8 r.1 l w (dk b V w)) fun V=>Q5 b (fun a2=> ∀Q w,d w→al Q w→Q2 P T.a6 Q w (dk b a2 w)) fun a2=>Q5 b (fun R=> ∀t w,d w→V t w→Q2 P T.a6 t w (dk b R w)) fun R=>Q5 b (fun A=> ∀av w,d w→R av w→indexAddr P T.a6 av q w (dk b A w)) fun A=>Q5 b (fun e=> ∀Y w,d w→A Y w→Q2 P T.u Y w (dk b e w)) fun e=>Q5 b (fun ar=> ∀a w,d w→e a w→Q0 a false w (fun w J=>J r.1 w) (dk b ar w)) fun ar=>Q5 b (fun W=> ∀a w,d w→e a w→Q0 a false w (fun w J=>J l w) (dk b W w)) fun W=>Q5 b (fun ax=> ∀a af z w,d w→e a w→ar af w→W z w→Q0 a false w (indexAddr P T.a8 af z) (dk b ax w)) fun ax=>Q5 b (fun aj=> ∀a w,d w→e a w→Q0 a false w (fun w J=>J N w) (dk b aj w)) fun aj=>Q5 b (fun M=> ∀a U w,d w→e a w→ax U w→Q0 a false w (Q2 P T.a6 U) (dk b M w)) fun M=>Q5 b (fun ad=> ∀a ak ai w,d w→e a w→M ak w→aj ai w→Q0 a false w (indexAddr P T.a6 ak ai) (dk b ad w)) fun ad=>Q5 b (fun H=> ∀a C w,d w→e a w→ad C w→Q0 a false w (Q2 P T.u C) (dk b H w)) fun H=>Q5 b (fun f=> ∀a X w,d w→e a w→H X w→Q0 a false w (fun w J=>J X w) (dk b f w)) fun f=>Q5 b (fun s=> ∀c w,d w→f c w→Q0 c true w (fun w J=>J r.1 w) (dk b s w)) fun s=>Q5 b (fun ao=> ∀c w,d w→f c w→Q0 c true w (fun w J=>J N w) (dk b ao w)) fun ao=>Q5 b (fun u=> ∀c an ab w,d w→f c w→s an w→ao ab w→Q0 c true w (indexAddr P T.a8 an ab) (dk b u w)) fun u=>Q5 b (fun aa=> ∀c w,d w→f c w→Q0 c true w (fun w J=>J q w) (dk b aa w)) fun aa=>Q5 b (fun ap=> ∀c v w,d w→f c w→u v w→Q0 c true w (Q2 P T.a6 v) (dk b ap w)) fun ap=>Q5 b (fun aq=> ∀c O L w,d w→f c w→ap O w→aa L w→Q0 c true w (indexAddr P T.a6 O L) (dk b aq w)) fun aq=>Q5 b (fun g=> ∀c Z w,d w→f c w→aq Z w→Q0 c true w (Q2 P T.u Z) (dk b g w)) fun g=>Q5 b (fun i=> ∀a c j w,d w→e a w→f c w→g j w→Q0 a false w (pick P c j (.bool false)) (dk b i w)) fun i=>Q5 b (fun m=> ∀a h w,d w→e a w→i h w→pick P a (.bool true) h w (dk b m w)) fun m=>∀Q t a8 av Y a af z U ai ak C X c an ab v L O Z j h a1 w,d w→al Q w→V t w→a2 a8 w→R av w→A Y w→e a w→ar af w→W z w→ax U w→aj ai w→M ak w→ad C w→H X w→f c w→s an w→ao ab w→u v w→aa L w→ap O w→aq Z w→g j w→i h w→m a1 w→ indexAddr P T.a6 a8 q w fun bd w=>X9 P T.u bd a1 w fun _u w=>Q3 P .add T.e (.tmp 71) (.const (.int .i64 1)) q (.int .i64 1) w fun bi w=>n bi w) (Q3 P .add T.e (.tmp 65) (.const (.int .i64 1)) l (.int .i64 1) w fun bl w=>o bl w)) (Q3 P .add T.e (.tmp 59) (.const (.int .i64 1)) N (.int .i64 1) w fun bs w=>p bs w)) (K r.1 w))
theorem Kp {a:Value} {w:World} {K:Value→World→Prop} (h:Md a w K):Q1 P F.aj [a] w K:=Q9 Im Tryz.func103 rfl (by decide) (by kernel_rfl) h
def Q1d:V7:=[none,none,none,none,none,none,some ([9],[8,9,16,17,18,19,20,21,22,23,24,25,26,27,28]),none,none,none,none,none,none,none,none,some ([1,11],[1,11,41,42,43,44,45,46,47,48,49,50,51,52,53,54,55,56]),none,none,none,none]
def Ev (y v X t:Value) (w:World) (K:Value→World→Prop):Prop:= Q3 P .lss T.e (.tmp 12) (.tmp 13) t X w fun W w=>X1 W (K v w) (lp (α:=Value) (.int .i64 0) w fun g U Y w=>X2 P .len [T.a7] T.e [false] [v] w fun R w=>Q3 P .lss T.e (.tmp 16) (.tmp 18) U R w fun V w=>X1 V (indexAddr P T.a7 v U w fun A w=>Q2 P T.e A w fun L w=>Q3 P .eql T.e (.tmp 25) (.tmp 26) L t w fun M w=>X1 M (K v w) (Q3 P .add T.e (.tmp 20) (.const (.int .i64 1)) U (.int .i64 1) w fun J w=>g J w)) (dr w fun a o=>Q5 a (fun n=> ∀w,o w→indexAddr P T.i y t w (dk a n w)) fun n=>Q5 a (fun k=> ∀f w,o w→n f w→fieldAddr P T.b f 1 w (dk a k w)) fun k=>Q5 a (fun d=> ∀w,o w→indexAddr P T.i y t w (dk a d w)) fun d=>Q5 a (fun j=> ∀h w,o w→d h w→fieldAddr P T.b h 2 w (dk a j w)) fun j=>Q5 a (fun l=> ∀e w,o w→k e w→Q2 P T.c e w (dk a l w)) fun l=>Q5 a (fun p=> ∀m w,o w→l m w→buildSlice P T.h 1 [(0,m)] w (dk a p w)) fun p=>Q5 a (fun q=> ∀i w,o w→j i w→Q2 P T.h i w (dk a q w)) fun q=>∀f e h i m r u w,o w→n f w→k e w→d h w→j i w→l m w→p r w→q u w→ X2 P .append [T.h,T.h] T.h [false,false] [r,u] w fun s w=>lp (α:=Value×Value) (v,(.int .i64 0)) w fun b c Y w=>X2 P .len [T.h] T.e [false] [s] w fun N w=>Q3 P .lss T.e (.tmp 41) (.tmp 43) c.2 N w fun B w=>X1 B (indexAddr P T.h s c.2 w fun C w=>Q2 P T.c C w fun z w=>Q1 P F.b [y,z] w fun H w=>Q1 P F.b0 [y,c.1,X,H] w fun E w=>Q3 P .add T.e (.tmp 45) (.const (.int .i64 1)) c.2 (.int .i64 1) w fun D w=>b (E,D) w) (buildSlice P T.a7 1 [(0,t)] w fun Q w=>X2 P .append [T.a7,T.a7] T.a7 [false,false] [c.1,Q] w fun O w=>K O w)))
theorem Q0d {b d a c:Value} {w:World} {K:Value→World→Prop} (h:Ev b d a c w K):Q1 P F.b0 [b,d,a,c] w K:=Q9 Q1d Tryz.func104 rfl (by decide) (by kernel_rfl) h
def Xz (u A:Value) (w:World) (K:Value→World→Prop):Prop:= Q1 P F.b [u,A] w fun v w=>Q3 P .lss T.e (.tmp 9) (.const (.int .i64 0)) v (.int .i64 0) w fun z w=>X1 z (K (.slice none 0 0) w) (dr w fun a b=>Q5 a (fun o=> ∀w,b w→indexAddr P T.i u v w (dk a o w)) fun o=>Q5 a (fun l=> ∀p w,b w→o p w→fieldAddr P T.b p 1 w (dk a l w)) fun l=>Q5 a (fun f=> ∀w,b w→indexAddr P T.i u v w (dk a f w)) fun f=>Q5 a (fun c=> ∀h w,b w→f h w→fieldAddr P T.b h 6 w (dk a c w)) fun c=>Q5 a (fun g=> ∀w,b w→buildSlice P T.k 0 [] w (dk a g w)) fun g=>Q5 a (fun d=> ∀n w,b w→l n w→Q2 P T.c n w (dk a d w)) fun d=>Q5 a (fun j=> ∀i w,b w→d i w→Q1 P F.p [u,i] w (dk a j w)) fun j=>Q5 a (fun r=> ∀e k w,b w→g e w→j k w→X2 P .append [T.k,T.k] T.k [false,false] [e,k] w (dk a r w)) fun r=>Q5 a (fun q=> ∀m w,b w→c m w→Q2 P T.k m w (dk a q w)) fun q=>∀p n h m e i k t s w,b w→o p w→l n w→f h w→c m w→g e w→d i w→j k w→r t w→q s w→ X2 P .append [T.k,T.k] T.k [false,false] [t,s] w fun y w=>K y w)
theorem Lt {a b:Value} {w:World} {K:Value→World→Prop} (h:Xz a b w K):Q1 P F.p [a,b] w K:=Q9 (List.replicate 6 none) Tryz.func73 rfl (by decide) (by kernel_rfl) h
def Pc:V7:=[none,none,none,none,some ([8],[6,8,12,13,14,15,16,17,18,19,20,21,22,23,24,25]),none,none,none,none,none,none]
def Nk (l m k:Value) (w:World) (K:Value→World→Prop):Prop:= Q1 P F.p [l,m] w fun b w=>lp (α:=Value) (.int .i64 0) w fun a c n w=>X2 P .len [T.k] T.e [false] [b] w fun d w=>Q3 P .lss T.e (.tmp 12) (.tmp 14) c d w fun e w=>X1 e (indexAddr P T.k b c w fun j w=>fieldAddr P T.o j 0 w fun g w=>Q2 P T.c g w fun h w=>Q3 P .eql T.c (.tmp 22) (.tmp 23) h k w fun f w=>X1 f (K c w) (Q3 P .add T.e (.tmp 16) (.const (.int .i64 1)) c (.int .i64 1) w fun i w=>a i w)) (K (.int .i64 (-1)) w)
theorem Ix {b c a:Value} {w:World} {K:Value→World→Prop} (h:Nk b c a w K):Q1 P F.bq [b,c,a] w K:=Q9 Pc Tryz.func149 rfl (by decide) (by kernel_rfl) h
def Ob (a:Value) (w:World) (K:Value→World→Prop):Prop:= X2 P .len [T.c] T.e [false] [a] w fun c w=>Q1 P F.a1 [a] w fun d w=>Q3 P .mul T.e (.const (.int .i64 2)) (.tmp 7) (.int .i64 2) d w fun e w=>Q3 P .sub T.e (.tmp 5) (.tmp 8) c e w fun f w=>R6 P T.c a none (some f) none w fun b w=>K b w
theorem Ae {a:Value} {w:World} {K:Value→World→Prop} (h:Ob a w K):Q1 P F.aW [a] w K:=Q9 (List.replicate 2 none) Tryz.func153 rfl (by decide) (by kernel_rfl) h
def De (p d:Value) (w:World) (K:Value→World→Prop):Prop:= Q3 P .eql T.c (.tmp 5) (.const (.string ⟨#[110,117,108,108]⟩)) d (.string ⟨#[110,117,108,108]⟩) w fun c w=>Q0 c false w (fun w J=>J d w) fun q w=>Q0 c false w (Q1 P F.e [q]) fun r w=>Q0 c false w (fun w J=>J r w) fun a w=>Q0 a true w (fun w J=>J d w) fun e w=>Q0 a true w (Q1 P F.aW [e]) fun n w=>Q0 a true w (Q1 P F.x [n]) fun m w=>Q0 a true w (fun w J=>J m w) fun b w=>Q0 b false w (fun w J=>J p w) fun l w=>Q0 b false w (fun w J=>J d w) fun k w=>Q0 b false w (Q1 P F.aW [k]) fun h w=>Q0 b false w (Q1 P F.b [l,h]) fun i w=>Q0 b false w (Q3 P .geq T.e (.tmp 18) (.const (.int .i64 0)) i (.int .i64 0)) fun j w=>Q0 a true w (pick P b (.bool true) j) fun o w=>Q0 c false w (pick P a o (.bool false)) fun f w=>pick P c (.bool true) f w fun g w=>K g w
theorem Aw {a b:Value} {w:World} {K:Value→World→Prop} (h:De a b w K):Q1 P F.a0 [a,b] w K:=Q9 (List.replicate 2 none) Tryz.func106 rfl (by decide) (by kernel_rfl) h
def Nx (e d:Value) (w:World) (K:Value→World→Prop):Prop:= Q3 P .neq T.c (.tmp 5) (.const (.string ⟨#[110,117,108,108]⟩)) d (.string ⟨#[110,117,108,108]⟩) w fun a w=>Q0 a true w (fun w J=>J e w) fun g w=>Q0 a true w (fun w J=>J d w) fun f w=>Q0 a true w (Q1 P F.a0 [g,f]) fun c w=>pick P a c (.bool false) w fun b w=>K b w
theorem Km {a b:Value} {w:World} {K:Value→World→Prop} (h:Nx a b w K):Q1 P F.br [a,b] w K:=Q9 (List.replicate 2 none) Tryz.func150 rfl (by decide) (by kernel_rfl) h
def Tx:V7:=[none,none,none,none,some ([3,4],[3,4,5,6,7,8,9,10,11,12,13,14,15,16,17,18,19,20,21,22]),none,none,none,some ([3],[3,12,13,14,15]),none,none]
def Ot (r:Value) (w:World) (K:Value→World→Prop):Prop:= box P T.d r w fun a w=>lp (α:=Value×Value) ((.string ⟨#[40]⟩),(.int .i64 0)) w fun b c u w=>fieldAddr P T.d a 1 w fun t w=>Q2 P T.h t w fun q w=>X2 P .len [T.h] T.e [false] [q] w fun s w=>Q3 P .lss T.e (.tmp 5) (.tmp 8) c.2 s w fun y w=>X1 y (jn (α:=Value) w (fun p w=>Q3 P .gtr T.e (.tmp 12) (.const (.int .i64 0)) c.2 (.int .i64 0) w fun n w=>X1 n (Q3 P .add T.c (.tmp 14) (.const (.string ⟨#[44]⟩)) c.1 (.string ⟨#[44]⟩) w fun m w=>p m w) (p c.1 w)) fun v u w=>fieldAddr P T.d a 1 w fun j w=>Q2 P T.h j w fun k w=>indexAddr P T.h k c.2 w fun o w=>Q2 P T.c o w fun f w=>Q3 P .add T.c (.tmp 16) (.tmp 21) v f w fun g w=>Q3 P .add T.e (.tmp 10) (.const (.int .i64 1)) c.2 (.int .i64 1) w fun e w=>b (g,e) w) (Q3 P .add T.c (.tmp 23) (.const (.string ⟨#[41]⟩)) c.1 (.string ⟨#[41]⟩) w fun d w=>fieldAddr P T.d a 2 w fun h w=>Q2 P T.c h w fun l w=>Q3 P .add T.c (.tmp 24) (.tmp 26) d l w fun i w=>K i w)
theorem Am {a:Value} {w:World} {K:Value→World→Prop} (h:Ot a w K):Q1 P F.aV [a] w K:=Q9 Tx Tryz.func151 rfl (by decide) (by kernel_rfl) h
def Q0H:V7:=[none,none,none,some ([5],[4,5,6,7,8,9,10,11,12,13,14,15,16,17,18,19,20,21]),none,none,none,none,none,none]
def En (m p:Value) (w:World) (K:Value→World→Prop):Prop:= box P T.b m w fun a w=>lp (α:=Value) (.int .i64 0) w fun b c q w=>fieldAddr P T.b a 7 w fun l w=>Q2 P T.j l w fun n w=>X2 P .len [T.j] T.e [false] [n] w fun o w=>Q3 P .lss T.e (.tmp 6) (.tmp 9) c o w fun e w=>X1 e (fieldAddr P T.b a 7 w fun i w=>Q2 P T.j i w fun h w=>indexAddr P T.j h c w fun g w=>fieldAddr P T.d g 0 w fun d w=>Q2 P T.c d w fun f w=>Q3 P .eql T.c (.tmp 18) (.tmp 19) f p w fun k w=>X1 k (K c w) (Q3 P .add T.e (.tmp 11) (.const (.int .i64 1)) c (.int .i64 1) w fun j w=>b j w)) (K (.int .i64 (-1)) w)
theorem Q0A {a b:Value} {w:World} {K:Value→World→Prop} (h:En a b w K):Q1 P F.b1 [a,b] w K:=Q9 Q0H Tryz.func183 rfl (by decide) (by kernel_rfl) h
def Kx:V7:=[none,none,none,some ([9],[6,8,9,10,11,12,13,14,15,16,17,18,19,20,21,22,23,24,25,26,27,28,29,30,31,32,33,34,35,36,37,38,39,40,41,42,43,44,45,46,47,48,49,50,51,52,53,54]),none,none,none,none,none,none,none,none,none,none,none,none]
def Nu (C a1 a2:Value) (w:World) (K:Value→World→Prop):Prop:= box P T.b a1 w fun d w=>W1 P T.d w fun s w=>lp (α:=Value) (.int .i64 0) w fun i x3 d_ w=>fieldAddr P T.b d 2 w fun aa w=>Q2 P T.h aa w fun U w=>X2 P .len [T.h] T.e [false] [U] w fun V w=>Q3 P .lss T.e (.tmp 15) (.tmp 18) x3 V w fun Y w=>X1 Y (fieldAddr P T.b d 2 w fun B w=>Q2 P T.h B w fun O w=>indexAddr P T.h O x3 w fun Q w=>Q2 P T.c Q w fun N w=>Q1 P F.b [C,N] w fun Z w=>indexAddr P T.i C Z w fun R w=>Q2 P T.b R w fun D w=>W1 P T.b w fun a w=>X9 P T.b a D w fun _u w=>Q2 P T.b a w fun A w=>Q1 P F.b1 [A,a2] w fun u w=>Q3 P .geq T.e (.tmp 35) (.const (.int .i64 0)) u (.int .i64 0) w fun L w=>X1 L (dr w fun b e=>Q5 b (fun f=> ∀w,e w→fieldAddr P T.b a 0 w (dk b f w)) fun f=>Q5 b (fun k=> ∀w,e w→fieldAddr P T.b a 7 w (dk b k w)) fun k=>Q5 b (fun q=> ∀g w,e w→f g w→Q2 P T.c g w (dk b q w)) fun q=>Q5 b (fun l=> ∀n w,e w→k n w→Q2 P T.j n w (dk b l w)) fun l=>Q5 b (fun m=> ∀h w,e w→l h w→indexAddr P T.j h u w (dk b m w)) fun m=>Q5 b (fun r=> ∀j w,e w→m j w→Q2 P T.d j w (dk b r w)) fun r=>∀g n v h j y w,e w→f g w→k n w→q v w→l h w→m j w→r y w→ X9 P T.d s y w fun _u w=>Y7 P T.d s w fun z=>K (.tuple #[v,z,(.bool true)]) w) (Q2 P T.b a w fun E w=>Q1 P F.aM [C,E,a2] w fun p w=>ext P p 0 w fun W w=>ext P p 1 w fun H w=>ext P p 2 w fun X w=>W1 P T.d w fun c w=>X9 P T.d c H w fun _u w=>X1 X (dr w fun b e=>Q5 b (fun o=> ∀w,e w→Q2 P T.d c w (dk b o w)) fun o=>∀t w,e w→o t w→ X9 P T.d s t w fun _u w=>Y7 P T.d s w fun z=>K (.tuple #[W,z,(.bool true)]) w) (Q3 P .add T.e (.tmp 20) (.const (.int .i64 1)) x3 (.int .i64 1) w fun M w=>i M w))) (E3 P T.d [] w fun J w=>X9 P T.d s J w fun _u w=>Y7 P T.d s w fun z=>K (.tuple #[(.string ⟨#[]⟩),z,(.bool false)]) w)
theorem Kh {b c a:Value} {w:World} {K:Value→World→Prop} (h:Nu b c a w K):Q1 P F.aM [b,c,a] w K:=Q9 Kx Tryz.func184 rfl (by decide) (by kernel_rfl) h
def Ga:V7:=[none,none,none,some ([9],[6,8,9,10,18,19,20,21,22,23,24,25,26,27,28,29,30,31,32,33,34,35,36,37,38,39,40,41,42,43,44,45,46,47]),none,none,none,none,none,none,none,none,some ([11],[6,8,11,12,13,14,51,52,53,54,55,56,57,58,59,60,61,62,63,64,65,66,67,68,69,70,71,72,73]),none,none,none,none,none,none,none]
def Ld (c a1 a2:Value) (w:World) (K:Value→World→Prop):Prop:= W1 P T.d w fun y w=>Q1 P F.b [c,a1] w fun Z w=>lp (α:=Value) Z w fun n C d_ w=>Q3 P .geq T.e (.tmp 18) (.const (.int .i64 0)) C (.int .i64 0) w fun ad w=>X1 ad (indexAddr P T.i c C w fun ae w=>Q2 P T.b ae w fun Y w=>Q1 P F.b1 [Y,a2] w fun z w=>Q3 P .geq T.e (.tmp 33) (.const (.int .i64 0)) z (.int .i64 0) w fun R w=>X1 R (dr w fun a b=>Q5 a (fun e=> ∀w,b w→indexAddr P T.i c C w (dk a e w)) fun e=>Q5 a (fun l=> ∀j w,b w→e j w→fieldAddr P T.b j 0 w (dk a l w)) fun l=>Q5 a (fun p=> ∀w,b w→indexAddr P T.i c C w (dk a p w)) fun p=>Q5 a (fun q=> ∀o w,b w→p o w→fieldAddr P T.b o 7 w (dk a q w)) fun q=>Q5 a (fun u=> ∀k w,b w→l k w→Q2 P T.c k w (dk a u w)) fun u=>Q5 a (fun g=> ∀m w,b w→q m w→Q2 P T.j m w (dk a g w)) fun g=>Q5 a (fun i=> ∀f w,b w→g f w→indexAddr P T.j f z w (dk a i w)) fun i=>Q5 a (fun s=> ∀h w,b w→i h w→Q2 P T.d h w (dk a s w)) fun s=>∀j k o m D f h H w,b w→e j w→l k w→p o w→q m w→u D w→g f w→i h w→s H w→ X9 P T.d y H w fun _u w=>Y7 P T.d y w fun B=>K (.tuple #[D,B,(.bool true)]) w) (indexAddr P T.i c C w fun ac w=>fieldAddr P T.b ac 1 w fun L w=>Q2 P T.c L w fun X w=>Q1 P F.b [c,X] w fun ab w=>n ab w)) (Q1 P F.b [c,a1] w fun O w=>lp (α:=Value) O w fun d t d_ w=>Q3 P .geq T.e (.tmp 51) (.const (.int .i64 0)) t (.int .i64 0) w fun U w=>X1 U (indexAddr P T.i c t w fun ah w=>Q2 P T.b ah w fun J w=>Q1 P F.aM [c,J,a2] w fun v w=>ext P v 0 w fun af w=>ext P v 1 w fun V w=>ext P v 2 w fun ag w=>W1 P T.d w fun E w=>X9 P T.d E V w fun _u w=>X1 ag (dr w fun a b=>Q5 a (fun r=> ∀w,b w→Q2 P T.d E w (dk a r w)) fun r=>∀A w,b w→r A w→ X9 P T.d y A w fun _u w=>Y7 P T.d y w fun B=>K (.tuple #[af,B,(.bool true)]) w) (indexAddr P T.i c t w fun W w=>fieldAddr P T.b W 1 w fun Q w=>Q2 P T.c Q w fun N w=>Q1 P F.b [c,N] w fun aa w=>d aa w)) (E3 P T.d [] w fun M w=>X9 P T.d y M w fun _u w=>Y7 P T.d y w fun B=>K (.tuple #[(.string ⟨#[]⟩),B,(.bool false)]) w))
theorem Gu {b c a:Value} {w:World} {K:Value→World→Prop} (h:Ld b c a w K):Q1 P F.be [b,c,a] w K:=Q9 Ga Tryz.func152 rfl (by decide) (by kernel_rfl) h
def Fb:V7:=[none,none,none,none,some ([6],[4,6,24,25,26,27,28,29,30,31,32,33,34,35,36,37,38,39,40,41]),none,none,none,none,none,none,none,none,some ([7,8],[7,8,43,44,45,46,47,48,49,50,51,52,53,54,55,56,57,58]),none,none,none,none,none,some ([7,9],[7,9,59,60,61,62,63,64,65,66,67,68,69,70,71,72,73,74,75,76,77,78,79,80,81,82,83,84,85,86,87,88,89]),none,none,some ([7],[7,66,67,68,69,70,71,72,73,74,75,76,77,78,79,80,81,82,83,84,85,86,87,88,89]),none,none,none,none,some ([10],[4,10,90,91,92,93,94,95,96,97,98,99,100,101,102]),none,none,none,none,none,none,none,none,none,some ([12,13],[12,13,106,107,108,109,110,111,112,113,114,115,116,117,118,119,120,121,122,123,124,125,126,127,128,129,130]),none,none,some ([12],[12,112,113,114,115,116,117,118,119,120,121,122,123,124,125,126,127,128,129,130]),none,none,none,some ([14],[4,14,15,131,132,133,134,135,136,137,138,139,140,141,142,143,144,145,146,147,148,149,150,151,152,153,154,155,156,157,158,159,160,161,162,163,164,165]),none,none,none,none,some ([15],[4,15,137,138,139,140,141,142,143,144,145,146,147,148,149,150,151,152,153,154,155,156,157,158,159,160,161,162,163,164,165]),none,none,none,none,none,none,none,some ([16],[4,16,17,18,19,166,167,168,169,170,171,172,173,174,175,176,177,178,179,180,181,182,183,184,185,186,187,188,189,190,191,192,193,194,195]),none,none,none,none,none,none,none]
def Vn (a0 a1:Value) (w:World) (K:Value→World→Prop):Prop:= indexAddr P T.i a0 a1 w fun d9 w=>Q2 P T.b d9 w fun c6 w=>W1 P T.b w fun t5 w=>X9 P T.b t5 c6 w fun _u w=>lp (α:=Value) (.int .i64 0) w fun bd x4 d_ w=>fieldAddr P T.b t5 6 w fun ea w=>Q2 P T.k ea w fun c4 w=>X2 P .len [T.k] T.e [false] [c4] w fun c2 w=>Q3 P .lss T.e (.tmp 24) (.tmp 27) x4 c2 w fun d8 w=>X1 d8 (dr w fun b c=>Q5 b (fun bc=> ∀w,c w→fieldAddr P T.b t5 1 w (dk b bc w)) fun bc=>Q5 b (fun ba=> ∀w,c w→fieldAddr P T.b t5 6 w (dk b ba w)) fun ba=>Q5 b (fun bn=> ∀bf w,c w→bc bf w→Q2 P T.c bf w (dk b bn w)) fun bn=>Q5 b (fun a9=> ∀be w,c w→ba be w→Q2 P T.k be w (dk b a9 w)) fun a9=>Q5 b (fun a2=> ∀a6 w,c w→a9 a6 w→indexAddr P T.k a6 x4 w (dk b a2 w)) fun a2=>Q5 b (fun bb=> ∀a3 w,c w→a2 a3 w→fieldAddr P T.o a3 0 w (dk b bb w)) fun bb=>Q5 b (fun bk=> ∀a4 w,c w→bb a4 w→Q2 P T.c a4 w (dk b bk w)) fun bk=>∀bf be bz a6 a3 a4 cv w,c w→bc bf w→ba be w→bn bz w→a9 a6 w→a2 a3 w→bb a4 w→bk cv w→ Q1 P F.bq [a0,bz,cv] w fun c1 w=>Q3 P .geq T.e (.tmp 40) (.const (.int .i64 0)) c1 (.int .i64 0) w fun cx w=>X1 cx (K (.int .i64 64) w) (Q3 P .add T.e (.tmp 29) (.const (.int .i64 1)) x4 (.int .i64 1) w fun c3 w=>bd c3 w)) (buildSlice P T.h 0 [] w fun c5 w=>lp (α:=Value×Value) (c5,(.int .i64 0)) w fun ao ap d_ w=>fieldAddr P T.b t5 6 w fun dl w=>Q2 P T.k dl w fun dq w=>X2 P .len [T.k] T.e [false] [dq] w fun d5 w=>Q3 P .lss T.e (.tmp 43) (.tmp 46) ap.2 d5 w fun eh w=>X1 eh (fieldAddr P T.b t5 6 w fun ed w=>Q2 P T.k ed w fun d1 w=>indexAddr P T.k d1 ap.2 w fun dh w=>fieldAddr P T.o dh 1 w fun c0 w=>Q2 P T.c c0 w fun d7 w=>buildSlice P T.h 1 [(0,d7)] w fun cy w=>X2 P .append [T.h,T.h] T.h [false,false] [ap.1,cy] w fun dy w=>Q3 P .add T.e (.tmp 48) (.const (.int .i64 1)) ap.2 (.int .i64 1) w fun dp w=>ao (dy,dp) w) (lp (α:=Value×Value) (ap.1,(.int .i64 0)) w fun ak j d_ w=>fieldAddr P T.b t5 7 w fun eb w=>Q2 P T.j eb w fun dn w=>X2 P .len [T.j] T.e [false] [dn] w fun dj w=>Q3 P .lss T.e (.tmp 59) (.tmp 62) j.2 dj w fun dv w=>X1 dv (jn (α:=Value) w (fun ch w=>fieldAddr P T.b t5 7 w fun c9 w=>Q2 P T.j c9 w fun d2 w=>indexAddr P T.j d2 j.2 w fun dt w=>fieldAddr P T.d dt 1 w fun cz w=>Q2 P T.h cz w fun d0 w=>X2 P .append [T.h,T.h] T.h [false,false] [j.1,d0] w fun bo w=>fieldAddr P T.b t5 7 w fun di w=>Q2 P T.j di w fun db w=>indexAddr P T.j db j.2 w fun ee w=>fieldAddr P T.d ee 2 w fun c7 w=>Q2 P T.c c7 w fun dc w=>Q3 P .neq T.c (.tmp 79) (.const (.string ⟨#[]⟩)) dc (.string ⟨#[]⟩) w fun dw w=>X1 dw (fieldAddr P T.b t5 7 w fun da w=>Q2 P T.j da w fun d3 w=>indexAddr P T.j d3 j.2 w fun ec w=>fieldAddr P T.d ec 2 w fun d6 w=>Q2 P T.c d6 w fun dz w=>buildSlice P T.h 1 [(0,dz)] w fun dd w=>X2 P .append [T.h,T.h] T.h [false,false] [bo,dd] w fun dm w=>ch dm w) (ch bo w)) fun ds d_ w=>Q3 P .add T.e (.tmp 64) (.const (.int .i64 1)) j.2 (.int .i64 1) w fun dg w=>ak (ds,dg) w) (lp (α:=Value) (.int .i64 0) w fun aq bm d_ w=>X2 P .len [T.h] T.e [false] [j.1] w fun de w=>Q3 P .lss T.e (.tmp 90) (.tmp 92) bm de w fun ef w=>X1 ef (indexAddr P T.h j.1 bm w fun d4 w=>Q2 P T.c d4 w fun ce w=>Q1 P F.br [a0,ce] w fun bu w=>J8 P .not bu w fun cw w=>X1 cw (K (.int .i64 65) w) (Q3 P .add T.e (.tmp 94) (.const (.int .i64 1)) bm (.int .i64 1) w fun df w=>aq df w)) (Q1 P F.aj [a0] w fun bw w=>buildSlice P T.j 0 [] w fun bs w=>lp (α:=Value×Value) (bs,(.int .i64 0)) w fun av f d_ w=>X2 P .len [T.i] T.e [false] [a0] w fun b3 w=>Q3 P .lss T.e (.tmp 106) (.tmp 108) f.2 b3 w fun cb w=>X1 cb (jn (α:=Value) w (fun ck w=>Q3 P .eql T.e (.tmp 112) (.tmp 113) f.2 a1 w fun g w=>Q0 g false w (fun w J=>J bw w) fun cd w=>Q0 g false w (fun w J=>J a1 w) fun cf w=>Q0 g false w (indexAddr P T.a8 cd cf) fun cj w=>Q0 g false w (Q2 P T.a6 cj) fun cu w=>Q0 g false w (fun w J=>J f.2 w) fun ci w=>Q0 g false w (indexAddr P T.a6 cu ci) fun co w=>Q0 g false w (Q2 P T.u co) fun b2 w=>pick P g (.bool true) b2 w fun cq w=>X1 cq (indexAddr P T.i a0 f.2 w fun bx w=>fieldAddr P T.b bx 7 w fun cm w=>Q2 P T.j cm w fun ca w=>X2 P .append [T.j,T.j] T.j [false,false] [f.1,ca] w fun b4 w=>ck b4 w) (ck f.1 w)) fun dx d_ w=>Q3 P .add T.e (.tmp 110) (.const (.int .i64 1)) f.2 (.int .i64 1) w fun b5 w=>av (dx,b5) w) (lp (α:=Value) (.int .i64 0) w fun ay ar d_ w=>X2 P .len [T.j] T.e [false] [f.1] w fun cl w=>Q3 P .lss T.e (.tmp 131) (.tmp 133) ar cl w fun cn w=>X1 cn (lp (α:=Value) (.int .i64 0) w fun aj a8 d_ w=>Q3 P .lss T.e (.tmp 137) (.tmp 138) a8 ar w fun bv w=>X1 bv (dr w fun b c=>Q5 b (fun m=> ∀w,c w→indexAddr P T.j f.1 ar w (dk b m w)) fun m=>Q5 b (fun y=> ∀aa w,c w→m aa w→fieldAddr P T.d aa 0 w (dk b y w)) fun y=>Q5 b (fun ad=> ∀w,c w→indexAddr P T.j f.1 a8 w (dk b ad w)) fun ad=>Q5 b (fun C=> ∀A w,c w→ad A w→fieldAddr P T.d A 0 w (dk b C w)) fun C=>Q5 b (fun H=> ∀ae w,c w→y ae w→Q2 P T.c ae w (dk b H w)) fun H=>Q5 b (fun N=> ∀z w,c w→C z w→Q2 P T.c z w (dk b N w)) fun N=>Q5 b (fun d=> ∀D Y w,c w→H D w→N Y w→Q3 P .eql T.c (.tmp 146) (.tmp 151) D Y w (dk b d w)) fun d=>Q5 b (fun U=> ∀a w,c w→d a w→Q0 a true w (fun w J=>J f.1 w) (dk b U w)) fun U=>Q5 b (fun O=> ∀a w,c w→d a w→Q0 a true w (fun w J=>J ar w) (dk b O w)) fun O=>Q5 b (fun p=> ∀a R s w,c w→d a w→U R w→O s w→Q0 a true w (indexAddr P T.j R s) (dk b p w)) fun p=>Q5 b (fun ag=> ∀a w,c w→d a w→Q0 a true w (fun w J=>J f.1 w) (dk b ag w)) fun ag=>Q5 b (fun q=> ∀a w,c w→d a w→Q0 a true w (fun w J=>J a8 w) (dk b q w)) fun q=>Q5 b (fun X=> ∀a W af w,c w→d a w→ag W w→q af w→Q0 a true w (indexAddr P T.j W af) (dk b X w)) fun X=>Q5 b (fun u=> ∀a ac w,c w→d a w→p ac w→Q0 a true w (Q2 P T.d ac) (dk b u w)) fun u=>Q5 b (fun ax=> ∀a M w,c w→d a w→u M w→Q0 a true w (Q1 P F.aV [M]) (dk b ax w)) fun ax=>Q5 b (fun az=> ∀a L w,c w→d a w→X L w→Q0 a true w (Q2 P T.d L) (dk b az w)) fun az=>∀aa ae A z D Y a R s ac W af L M bh bg w,c w→m aa w→y ae w→ad A w→C z w→H D w→N Y w→d a w→U R w→O s w→p ac w→ag W w→q af w→X L w→u M w→ax bh w→az bg w→ Q0 a true w (Q1 P F.aV [bg]) fun cc w=>Q0 a true w (Q3 P .neq T.c (.tmp 158) (.tmp 163) bh cc) fun br w=>pick P a br (.bool false) w fun b9 w=>X1 b9 (K (.int .i64 66) w) (Q3 P .add T.e (.tmp 140) (.const (.int .i64 1)) a8 (.int .i64 1) w fun bp w=>aj bp w)) (Q3 P .add T.e (.tmp 135) (.const (.int .i64 1)) ar (.int .i64 1) w fun b6 w=>ay b6 w)) (lp (α:=Value) (.int .i64 0) w fun am bj d_ w=>X2 P .len [T.j] T.e [false] [f.1] w fun b1 w=>Q3 P .lss T.e (.tmp 166) (.tmp 168) bj b1 w fun t w=>Q0 t true w (fieldAddr P T.b t5 4) fun bq w=>Q0 t true w (Q2 P T.u bq) fun cr w=>Q0 t true w (J8 P .not cr) fun cp w=>pick P t cp (.bool false) w fun b7 w=>X1 b7 (dr w fun b c=>Q5 b (fun Z=> ∀w,c w→fieldAddr P T.b t5 0 w (dk b Z w)) fun Z=>Q5 b (fun n=> ∀w,c w→indexAddr P T.j f.1 bj w (dk b n w)) fun n=>Q5 b (fun Q=> ∀V w,c w→n V w→fieldAddr P T.d V 0 w (dk b Q w)) fun Q=>Q5 b (fun r=> ∀o w,c w→Z o w→Q2 P T.c o w (dk b r w)) fun r=>Q5 b (fun ab=> ∀v w,c w→Q v w→Q2 P T.c v w (dk b ab w)) fun ab=>Q5 b (fun h=> ∀E l w,c w→r E w→ab l w→Q1 P F.be [a0,E,l] w (dk b h w)) fun h=>Q5 b (fun ai=> ∀e w,c w→h e w→ext P e 0 w (dk b ai w)) fun ai=>Q5 b (fun B=> ∀e w,c w→h e w→ext P e 1 w (dk b B w)) fun B=>Q5 b (fun an=> ∀e w,c w→h e w→ext P e 2 w (dk b an w)) fun an=>Q5 b (fun a5=> ∀w,c w→W1 P T.d w (dk b a5 w)) fun a5=>Sr b (fun al=> ∀k i w,c w→a5 k w→B i w→X9 P T.d k i w (dk b (al [k,i]) w)) fun al=>∀o V v E l e b0 i bi k eg w,c w→Z o w→n V w→Q v w→r E w→ab l w→h e w→ai b0 w→B i w→an bi w→a5 k w→al [k,i] eg w→ J8 P .not bi w fun aw w=>Q0 aw false w (fieldAddr P T.d k 3) fun ct w=>Q0 aw false w (Q2 P T.u ct) fun cg w=>pick P aw (.bool true) cg w fun cs w=>X1 cs (K (.int .i64 67) w) (Q3 P .add T.e (.tmp 175) (.const (.int .i64 1)) bj (.int .i64 1) w fun b8 w=>am b8 w)) (K (.int .i64 0) w)))))))
theorem Bt {a b:Value} {w:World} {K:Value→World→Prop} (h:Vn a b w K):Q1 P F.b8 [a,b] w K:=Q9 Fb Tryz.func105 rfl (by decide) (by kernel_rfl) h
end Go.Proofs.YtjdiakhipmggjaaGreatDoor

set_option maxRecDepth 100000
namespace Go.Proofs.YtjdiakhipmggjaaGreatDoor
open Go.Emb
def Q1g:V7:=[none,none,none,none,none,some ([5,7],[2,3,4,5,7,8,21,22,23,24,25,26,27,28,29,30,31,32,33,34,35,36,37,38,39,40,41,42]),none,none,none,none,none,none,none,none,none,some ([9],[2,3,4,9,43,44,45,46,47,48,49,50,51,52,53,54,55,56,57,58,59,60]),none,none,none,none,none,none,none,some ([10],[2,3,4,10,11,61,62,63,64,65,66,67,68,69,70,71,72,73,74,75,76]),none,none,none,none,none,none,none,none,none,some ([13],[2,3,4,13,79,80,81,82,83,84,85,86,87,88,89,90,91,92,93,94,95,96]),none,none,none,none,none,none,none,none,some ([14,15],[14,15,98,99,100,101,102,103,104,105,106,107,108,109,110]),none,none,none,none,none,some ([16],[2,3,4,16,17,111,112,113,114,115,116,117,118,119,120,121,122,123,124,125,126,127,128,129,130,131]),none,none,none,none,none,none,none]
def Ex (l:Value) (w:World) (K:Value→World→Prop):Prop:= Q1 P F.bm [] w fun A w=>X2 P .len [T.i] T.e [false] [A] w fun b w=>lp (α:=Value×Value) (A,(.int .i64 0)) w fun o c C w=>X2 P .len [T.i] T.e [false] [l] w fun al w=>Q3 P .lss T.e (.tmp 21) (.tmp 23) c.2 al w fun Q w=>X1 Q (indexAddr P T.i l c.2 w fun an w=>Q2 P T.b an w fun ag w=>Q1 P F.bn [ag] w fun s w=>Q3 P .neq T.y (.tmp 32) (.const (.int .i64 0)) s (.int .i64 0) w fun az w=>X1 az (K (.tuple #[(.slice none 0 0),c.2,s]) w) (indexAddr P T.i l c.2 w fun aw w=>Q2 P T.b aw w fun af w=>buildSlice P T.i 1 [(0,af)] w fun Y w=>X2 P .append [T.i,T.i] T.i [false,false] [c.1,Y] w fun ak w=>Q3 P .add T.e (.tmp 25) (.const (.int .i64 1)) c.2 (.int .i64 1) w fun aj w=>o (ak,aj) w)) (lp (α:=Value) (.int .i64 0) w fun h j C w=>X2 P .len [T.i] T.e [false] [l] w fun ao w=>Q3 P .lss T.e (.tmp 43) (.tmp 45) j ao w fun U w=>X1 U (indexAddr P T.i l j w fun aa w=>fieldAddr P T.b aa 0 w fun V w=>Q2 P T.c V w fun O w=>Q1 P F.b [c.1,O] w fun ab w=>Q3 P .add T.e (.tmp 56) (.tmp 57) b j w fun X w=>Q3 P .neq T.e (.tmp 55) (.tmp 58) ab X w fun ah w=>X1 ah (K (.tuple #[(.slice none 0 0),j,(.int .i64 60)]) w) (Q3 P .add T.e (.tmp 47) (.const (.int .i64 1)) j (.int .i64 1) w fun ae w=>h ae w)) (lp (α:=Value) (.int .i64 0) w fun i m C w=>X2 P .len [T.i] T.e [false] [l] w fun ay w=>Q3 P .lss T.e (.tmp 61) (.tmp 63) m ay w fun a2 w=>X1 a2 (indexAddr P T.i l m w fun ap w=>Q2 P T.b ap w fun Z w=>Q1 P F.bd [c.1,Z] w fun v w=>Q3 P .neq T.y (.tmp 73) (.const (.int .i64 0)) v (.int .i64 0) w fun R w=>X1 R (K (.tuple #[(.slice none 0 0),m,v]) w) (Q3 P .add T.e (.tmp 65) (.const (.int .i64 1)) m (.int .i64 1) w fun a1 w=>i a1 w)) (Q1 P F.aj [c.1] w fun am w=>lp (α:=Value) (.int .i64 0) w fun e d C w=>X2 P .len [T.i] T.e [false] [l] w fun a3 w=>Q3 P .lss T.e (.tmp 79) (.tmp 81) d a3 w fun ar w=>X1 ar (Q3 P .add T.e (.tmp 86) (.tmp 87) b d w fun ax w=>indexAddr P T.a8 am ax w fun ad w=>Q2 P T.a6 ad w fun ac w=>Q3 P .add T.e (.tmp 91) (.tmp 92) b d w fun av w=>indexAddr P T.a6 ac av w fun ai w=>Q2 P T.u ai w fun a4 w=>X1 a4 (K (.tuple #[(.slice none 0 0),d,(.int .i64 63)]) w) (Q3 P .add T.e (.tmp 83) (.const (.int .i64 1)) d (.int .i64 1) w fun W w=>e W w)) (buildSlice P T.a7 0 [] w fun aq w=>lp (α:=Value×Value) (aq,(.int .i64 0)) w fun f a C w=>X2 P .len [T.i] T.e [false] [l] w fun L w=>Q3 P .lss T.e (.tmp 98) (.tmp 100) a.2 L w fun D w=>X1 D (Q3 P .add T.e (.tmp 107) (.tmp 108) b a.2 w fun E w=>Q1 P F.b0 [c.1,a.1,b,E] w fun M w=>Q3 P .add T.e (.tmp 102) (.const (.int .i64 1)) a.2 (.int .i64 1) w fun t w=>f (M,t) w) (lp (α:=Value) (.int .i64 0) w fun g n C w=>X2 P .len [T.a7] T.e [false] [a.1] w fun B w=>Q3 P .lss T.e (.tmp 111) (.tmp 113) n B w fun y w=>X1 y (indexAddr P T.a7 a.1 n w fun H w=>Q2 P T.e H w fun u w=>Q1 P F.b8 [c.1,u] w fun q w=>Q3 P .neq T.y (.tmp 123) (.const (.int .i64 0)) q (.int .i64 0) w fun z w=>X1 z (dr w fun Tr Br=>Q5 Tr (fun k=> ∀w,Br w→indexAddr P T.a7 a.1 n w (dk Tr k w)) fun k=>∀p w,Br w→k p w→ Q2 P T.e p w fun N w=>Q3 P .sub T.e (.tmp 128) (.tmp 129) N b w fun r w=>K (.tuple #[(.slice none 0 0),r,q]) w) (Q3 P .add T.e (.tmp 115) (.const (.int .i64 1)) n (.int .i64 1) w fun J w=>g J w)) (K (.tuple #[c.1,(.int .i64 0),(.int .i64 0)]) w))))))
theorem Q12 {a:Value} {w:World} {K:Value→World→Prop} (h:Ex a w K):Q1 P F.bN [a] w K:=Q9 Q1g Tryz.func56 rfl (by decide) (by kernel_rfl) h
def Mc (C:Value) (w:World) (K:Value→World→Prop):Prop:= W1 P T.a w fun e w=>Q1 P F.ay [] w fun z w=>Q1 P F.cN [z] w fun c w=>ext P c 0 w fun i w=>ext P c 1 w fun D w=>ext P c 2 w fun t w=>Q1 P F.ay [] w fun B w=>Q1 P F.bN [B] w fun a w=>ext P a 0 w fun r w=>ext P a 1 w fun E w=>ext P a 2 w fun k w=>Q3 P .rem T.aq (.tmp 25) (.const (.int .u16 301)) C (.int .u16 301) w fun v w=>conv P T.aq T.e v w fun f w=>Q3 P .neq T.y (.tmp 28) (.const (.int .i64 0)) t (.int .i64 0) w fun b w=>Q0 b false w (fun w J=>J k w) fun m w=>Q0 b false w (Q3 P .neq T.y (.tmp 31) (.const (.int .i64 0)) m (.int .i64 0)) fun j w=>pick P b (.bool true) j w fun d w=>Q0 d false w (fun w J=>J i w) fun y w=>Q0 d false w (Q3 P .eql T.r (.tmp 35) (.const (.pointer none)) y (.pointer none)) fun p w=>pick P d (.bool true) p w fun o w=>X1 o (E3 P T.a [] w fun q w=>X9 P T.a e q w fun _u w=>Y7 P T.a e w fun g=>K (.tuple #[(.pointer none),g]) w) (Q1 P F.cO [i,f] w fun h w=>ext P h 0 w fun s w=>ext P h 1 w fun l w=>Q3 P .neq T.y (.tmp 45) (.const (.int .i64 0)) l (.int .i64 0) w fun n w=>X1 n (E3 P T.a [] w fun A w=>X9 P T.a e A w fun _u w=>Y7 P T.a e w fun g=>K (.tuple #[(.pointer none),g]) w) (E3 P T.a [(0,r),(1,f)] w fun u w=>X9 P T.a e u w fun _u w=>Y7 P T.a e w fun g=>K (.tuple #[s,g]) w))
theorem Kv {a:Value} {w:World} {K:Value→World→Prop} (h:Mc a w K):Q1 P F.ah [a] w K:=Q9 (List.replicate 12 none) Tryz.func24 rfl (by decide) (by kernel_rfl) h
def Q21 (e:Value) (w:World) (K:Value→World→Prop):Prop:= W1 P T.g w fun a w=>Q3 P .eql T.c (.tmp 3) (.const (.string ⟨#[105,110,116]⟩)) e (.string ⟨#[105,110,116]⟩) w fun g w=>X1 g (E3 P T.g [(0,(.int .i64 1))] w fun i w=>X9 P T.g a i w fun _u w=>Y7 P T.g a w fun b=>K b w) (Q3 P .eql T.c (.tmp 3) (.const (.string ⟨#[98,111,111,108]⟩)) e (.string ⟨#[98,111,111,108]⟩) w fun h w=>X1 h (E3 P T.g [(0,(.int .i64 2))] w fun j w=>X9 P T.g a j w fun _u w=>Y7 P T.g a w fun b=>K b w) (Q3 P .eql T.c (.tmp 3) (.const (.string ⟨#[116,101,120,116]⟩)) e (.string ⟨#[116,101,120,116]⟩) w fun c w=>X1 c (E3 P T.g [(0,(.int .i64 3))] w fun f w=>X9 P T.g a f w fun _u w=>Y7 P T.g a w fun b=>K b w) (E3 P T.g [] w fun d w=>X9 P T.g a d w fun _u w=>Y7 P T.g a w fun b=>K b w)))
theorem Q6J {a:Value} {w:World} {K:Value→World→Prop} (h:Q21 a w K):Q1 P F.cv [a] w K:=Q9 (List.replicate 10 none) Tryz.func29 rfl (by decide) (by kernel_rfl) h
def Hn (a z v:Value) (w:World) (K:Value→World→Prop):Prop:= nilCheck P a w fun y w=>fieldAddr P T.p y 2 w fun l w=>Q2 P T.e l w fun e w=>X2 P .len [T.l] T.e [false] [v] w fun s w=>Q3 P .add T.e (.const (.int .i64 1)) (.tmp 13) (.int .i64 1) s w fun q w=>Q3 P .add T.e (.tmp 11) (.tmp 14) e q w fun r w=>nilCheck P a w fun o w=>fieldAddr P T.p o 2 w fun k w=>X9 P T.e k r w fun _u w=>nilCheck P a w fun u w=>fieldAddr P T.p u 3 w fun f w=>Q2 P T.f f w fun h w=>E3 P T.m [(0,z),(1,v)] w fun i w=>buildSlice P T.f 1 [(0,i)] w fun m w=>X2 P .append [T.f,T.f] T.f [false,false] [h,m] w fun j w=>nilCheck P a w fun g w=>fieldAddr P T.p g 3 w fun n w=>X9 P T.f n j w fun _u w=>nilCheck P a w fun c w=>fieldAddr P T.p c 3 w fun b w=>Q2 P T.f b w fun t w=>X2 P .len [T.f] T.e [false] [t] w fun d w=>Q3 P .sub T.e (.tmp 34) (.const (.int .i64 1)) d (.int .i64 1) w fun p w=>K (.tuple #[p,(.int .i64 0)]) w
theorem Q1N {b c a:Value} {w:World} {K:Value→World→Prop} (h:Hn b c a w K):Q1 P F.b5 [b,c,a] w K:=Q9 (List.replicate 4 none) Tryz.func67 rfl (by decide) (by kernel_rfl) h
def Ks:V7:=[none,none,none,none,none,none,none,none,none,none,none,some ([7,31],[7,9,31,32,33,34,35,36,37,38,39,40,41]),none,none,none,none,none]
def Nj (f E:Value) (w:World) (K:Value→World→Prop):Prop:= nilCheck P f w fun l w=>fieldAddr P T.p l 0 w fun C w=>Q2 P T.r C w fun B w=>Q1 P F.aD [B,E] w fun A w=>J8 P .not A w fun y w=>X1 y (K (.tuple #[(.int .i64 0),(.int .i64 91)]) w) (nilCheck P f w fun u w=>fieldAddr P T.p u 0 w fun v w=>Q2 P T.r v w fun J w=>Q1 P F.a2 [J,E] w fun d w=>X2 P .len [T.k] T.e [false] [d] w fun h w=>Q3 P .add T.e (.const (.int .i64 1)) (.tmp 24) (.int .i64 1) h w fun r w=>Q1 P F.af [f] w fun s w=>Q3 P .gtr T.e (.tmp 25) (.tmp 27) r s w fun p w=>X1 p (K (.tuple #[(.int .i64 0),(.int .i64 90)]) w) (X2 P .len [T.k] T.e [false] [d] w fun t w=>lp (α:=Value×Value) ((.slice none 0 0),(.int .i64 0)) w fun b a L w=>Q3 P .lss T.e (.tmp 31) (.tmp 30) a.2 t w fun g w=>X1 g (indexAddr P T.k d a.2 w fun D w=>Q2 P T.o D w fun j w=>W1 P T.o w fun c w=>X9 P T.o c j w fun _u w=>fieldAddr P T.o c 1 w fun n w=>Q2 P T.c n w fun m w=>Q1 P F.cv [m] w fun o w=>buildSlice P T.l 1 [(0,o)] w fun z w=>X2 P .append [T.l,T.l] T.l [false,false] [a.1,z] w fun q w=>Q3 P .add T.e (.tmp 31) (.const (.int .i64 1)) a.2 (.int .i64 1) w fun k w=>b (q,k) w) (Q1 P F.b5 [f,E,a.1] w fun e w=>ext P e 0 w fun i w=>ext P e 1 w fun H w=>K (.tuple #[i,H]) w)))
theorem Ki {a b:Value} {w:World} {K:Value→World→Prop} (h:Nj a b w K):Q1 P F.aI [a,b] w K:=Q9 Ks Tryz.func33 rfl (by decide) (by kernel_rfl) h
def Q47 (d:Value) (w:World) (K:Value→World→Prop):Prop:= Q1 P F.z [d] w fun f w=>J8 P .not f w fun a w=>Q0 a false w (fun w J=>J d w) fun g w=>Q0 a false w (Q1 P F.cw [g]) fun h w=>Q0 a false w (Q3 P .eql T.e (.tmp 9) (.const (.int .i64 3)) h (.int .i64 3)) fun e w=>pick P a (.bool true) e w fun b w=>X1 b (K (.tuple #[(.string ⟨#[]⟩),(.int .i64 30)]) w) (Q3 P .add T.c (.tmp 12) (.const (.string ⟨#[91,93]⟩)) d (.string ⟨#[91,93]⟩) w fun c w=>K (.tuple #[c,(.int .i64 0)]) w)
theorem Q9k {a:Value} {w:World} {K:Value→World→Prop} (h:Q47 a w K):Q1 P F.cS [a] w K:=Q9 (List.replicate 5 none) Tryz.func68 rfl (by decide) (by kernel_rfl) h
def Q08:V7:=[none,none,none,none,none,none,none,none,none,none,none,none,some ([45],[11,45,46,47,48,49,50,51,52,53]),none,none,none,none,none]
def Og (l i h:Value) (w:World) (K:Value→World→Prop):Prop:= Q1 P F.cS [i] w fun g w=>ext P g 0 w fun M w=>ext P g 1 w fun E w=>Q3 P .neq T.y (.tmp 18) (.const (.int .i64 0)) E (.int .i64 0) w fun a w=>Q0 a false w (fun w J=>J l w) fun s w=>Q0 a false w (nilCheck P s) fun u w=>Q0 a false w (fieldAddr P T.p u 0) fun D w=>Q0 a false w (Q2 P T.r D) fun k w=>Q0 a false w (fun w J=>J i w) fun v w=>Q0 a false w (Q1 P F.s [k,v]) fun C w=>Q0 a false w (J8 P .not C) fun y w=>pick P a (.bool true) y w fun c w=>Q0 c false w (fun w J=>J i w) fun z w=>Q0 c false w (Q3 P .eql T.c (.tmp 30) (.const (.string ⟨#[110,117,108,108]⟩)) z (.string ⟨#[110,117,108,108]⟩)) fun n w=>pick P c (.bool true) n w fun j w=>X1 j (K (.tuple #[(.int .i64 0),(.int .i64 91)]) w) (Q3 P .lss T.a1 (.tmp 34) (.const (.int .i64 0)) h (.int .i64 0) w fun H w=>X1 H (K (.tuple #[(.int .i64 0),(.int .i64 93)]) w) (Q1 P F.af [l] w fun L w=>Q3 P .geq T.a1 (.tmp 37) (.tmp 39) h L w fun t w=>X1 t (K (.tuple #[(.int .i64 0),(.int .i64 90)]) w) (Ls P T.l h h w fun e w=>X2 P .len [T.l] T.e [false] [e] w fun m w=>lp (α:=Value) (.int .i64 0) w fun b d N w=>Q3 P .lss T.e (.tmp 45) (.tmp 44) d m w fun o w=>X1 o (Q1 P F.cv [i] w fun B w=>indexAddr P T.l e d w fun r w=>X9 P T.g r B w fun _u w=>Q3 P .add T.e (.tmp 45) (.const (.int .i64 1)) d (.int .i64 1) w fun p w=>b p w) (Q1 P F.b5 [l,M,e] w fun f w=>ext P f 0 w fun q w=>ext P f 1 w fun A w=>K (.tuple #[q,A]) w))))
theorem Tq {b c a:Value} {w:World} {K:Value→World→Prop} (h:Og b c a w K):Q1 P F.aP [b,c,a] w K:=Q9 Q08 Tryz.func34 rfl (by decide) (by kernel_rfl) h
def Oy (b:Value) (w:World) (K:Value→World→Prop):Prop:= nilCheck P b w fun c w=>fieldAddr P T.p c 0 w fun a w=>Q2 P T.r a w fun d w=>K d w
theorem As {a:Value} {w:World} {K:Value→World→Prop} (h:Oy a w K):Q1 P F.bA [a] w K:=Q9 (List.replicate 2 none) Tryz.func35 rfl (by decide) (by kernel_rfl) h
def My (w:World) (K:Value→World→Prop):Prop:= Q1 P F.ah [(.int .u16 10)] w fun t8 w=>ext P t8 0 w fun f w=>ext P t8 1 w fun N w=>W1 P T.a w fun t2 w=>X9 P T.a t2 N w fun _u w=>Q3 P .eql T.a5 (.tmp 11) (.const (.pointer none)) f (.pointer none) w fun Y w=>X1 Y (K (.bool false) w) (Q1 P F.aI [f,(.string ⟨#[90,101,114,111,70,97,117,108,116]⟩)] w fun k w=>ext P k 0 w fun U w=>ext P k 1 w fun L w=>Q1 P F.aP [f,(.string ⟨#[105,110,116]⟩),(.int .i64 3)] w fun l w=>ext P l 0 w fun z w=>ext P l 1 w fun C w=>Q3 P .eql T.e (.tmp 23) (.const (.int .i64 0)) U (.int .i64 0) w fun g w=>Q0 g true w (fun w J=>J L w) fun Q w=>Q0 g true w (Q3 P .eql T.y (.tmp 26) (.const (.int .i64 0)) Q (.int .i64 0)) fun E w=>pick P g E (.bool false) w fun j w=>Q0 j true w (fun w J=>J z w) fun H w=>Q0 j true w (Q3 P .eql T.e (.tmp 30) (.const (.int .i64 1)) H (.int .i64 1)) fun q w=>pick P j q (.bool false) w fun h w=>Q0 h true w (fun w J=>J C w) fun u w=>Q0 h true w (Q3 P .eql T.y (.tmp 34) (.const (.int .i64 0)) u (.int .i64 0)) fun V w=>pick P h V (.bool false) w fun c w=>Q0 c true w (fun w J=>J f w) fun y w=>Q0 c true w (Q1 P F.af [y]) fun W w=>Q0 c true w (Q3 P .eql T.e (.tmp 39) (.const (.int .i64 4)) W (.int .i64 4)) fun B w=>pick P c B (.bool false) w fun b w=>Q0 b true w (fun w J=>J f w) fun D w=>Q0 b true w (Q1 P F.c2 [D]) fun p w=>Q0 b true w (Q3 P .eql T.e (.tmp 44) (.const (.int .i64 2)) p (.int .i64 2)) fun R w=>pick P b R (.bool false) w fun a w=>Q0 a true w (fun w J=>J f w) fun A w=>Q0 a true w (Q1 P F.az [A,(.int .i64 0)]) fun O w=>Q0 a true w (Q3 P .eql T.c (.tmp 49) (.const (.string ⟨#[90,101,114,111,70,97,117,108,116]⟩)) O (.string ⟨#[90,101,114,111,70,97,117,108,116]⟩)) fun t w=>pick P a t (.bool false) w fun e w=>Q0 e true w (fun w J=>J f w) fun r w=>Q0 e true w (Q1 P F.bM [r,(.int .i64 1)]) fun n w=>Q0 e true w (Q3 P .eql T.e (.tmp 54) (.const (.int .i64 3)) n (.int .i64 3)) fun v w=>pick P e v (.bool false) w fun i w=>Q0 i true w (fun w J=>J f w) fun s w=>Q0 i true w (Q1 P F.bx [s]) fun M w=>pick P i M (.bool false) w fun d w=>Q0 d true w (fun w J=>J f w) fun o w=>Q0 d true w (Q1 P F.bA [o]) fun X w=>Q0 d true w (Q3 P .neq T.r (.tmp 63) (.const (.pointer none)) X (.pointer none)) fun Z w=>pick P d Z (.bool false) w fun m w=>K m w)
theorem Ke {w:World} {K:Value→World→Prop} (h:My w K):Q1 P F.aH [] w K:=Q9 (List.replicate 8 none) Tryz.func14 rfl (by decide) (by kernel_rfl) h
def Db (p r q:Value) (w:World) (K:Value→World→Prop):Prop:= Q1 P F.aF [p,r] w fun i w=>J8 P .not i w fun c w=>X1 c (K (.int .i64 92) w) (Q3 P .lss T.a1 (.tmp 13) (.const (.int .i64 0)) q (.int .i64 0) w fun a w=>Q0 a false w (fun w J=>J q w) fun n w=>Q0 a false w (fun w J=>J p w) fun h w=>Q0 a false w (nilCheck P h) fun j w=>Q0 a false w (fieldAddr P T.p j 3) fun m w=>Q0 a false w (Q2 P T.f m) fun o w=>Q0 a false w (fun w J=>J r w) fun d w=>Q0 a false w (indexAddr P T.f o d) fun e w=>Q0 a false w (fieldAddr P T.m e 1) fun l w=>Q0 a false w (Q2 P T.l l) fun b w=>Q0 a false w (X2 P .len [T.l] T.e [false] [b]) fun f w=>Q0 a false w (Q3 P .geq T.a1 (.tmp 16) (.tmp 25) n f) fun k w=>pick P a (.bool true) k w fun g w=>X1 g (K (.int .i64 93) w) (K (.int .i64 0) w))
theorem Ak {b c a:Value} {w:World} {K:Value→World→Prop} (h:Db b c a w K):Q1 P F.aR [b,c,a] w K:=Q9 (List.replicate 7 none) Tryz.func50 rfl (by decide) (by kernel_rfl) h
def Hs (n p o:Value) (w:World) (K:Value→World→Prop):Prop:= W1 P T.g w fun b w=>Q1 P F.aR [n,p,o] w fun a w=>Q3 P .neq T.y (.tmp 13) (.const (.int .i64 0)) a (.int .i64 0) w fun j w=>X1 j (E3 P T.g [] w fun k w=>X9 P T.g b k w fun _u w=>Y7 P T.g b w fun l=>K (.tuple #[l,a]) w) (nilCheck P n w fun f w=>fieldAddr P T.p f 3 w fun i w=>Q2 P T.f i w fun m w=>indexAddr P T.f m p w fun d w=>fieldAddr P T.m d 1 w fun h w=>Q2 P T.l h w fun c w=>indexAddr P T.l c o w fun g w=>Q2 P T.g g w fun e w=>X9 P T.g b e w fun _u w=>Y7 P T.g b w fun l=>K (.tuple #[l,(.int .i64 0)]) w)
theorem Q1U {b c a:Value} {w:World} {K:Value→World→Prop} (h:Hs b c a w K):Q1 P F.c1 [b,c,a] w K:=Q9 (List.replicate 6 none) Tryz.func16 rfl (by decide) (by kernel_rfl) h
def Ay:V7:=[none,none,none,none,some ([3,12],[3,5,6,12,13,14,15,16,17,18,19,20,21,22,23,24,25,26,27,28,29,30,31]),none,none,none,none,none,none,none]
def Ou (u:Value) (w:World) (K:Value→World→Prop):Prop:= nilCheck P u w fun v w=>fieldAddr P T.p v 3 w fun z w=>Q2 P T.f z w fun c w=>X2 P .len [T.f] T.e [false] [c] w fun h w=>lp (α:=Value×Value) ((.slice none 0 0),(.int .i64 0)) w fun b f A w=>Q3 P .lss T.e (.tmp 12) (.tmp 11) f.2 h w fun t w=>X1 t (indexAddr P T.f c f.2 w fun r w=>Q2 P T.m r w fun s w=>W1 P T.m w fun a w=>X9 P T.m a s w fun _u w=>fieldAddr P T.m a 1 w fun q w=>Q2 P T.l q w fun n w=>X2 P .len [T.l] T.e [false] [n] w fun d w=>Ls P T.l d d w fun e w=>fieldAddr P T.m a 1 w fun i w=>Q2 P T.l i w fun k w=>X2 P .copy [T.l,T.l] T.e [false,false] [e,k] w fun y w=>fieldAddr P T.m a 0 w fun l w=>Q2 P T.c l w fun o w=>E3 P T.m [(0,o),(1,e)] w fun j w=>buildSlice P T.f 1 [(0,j)] w fun p w=>X2 P .append [T.f,T.f] T.f [false,false] [f.1,p] w fun m w=>Q3 P .add T.e (.tmp 12) (.const (.int .i64 1)) f.2 (.int .i64 1) w fun g w=>b (m,g) w) (K f.1 w)
theorem Tu {a:Value} {w:World} {K:Value→World→Prop} (h:Ou a w K):Q1 P F.ab [a] w K:=Q9 Ay Tryz.func19 rfl (by decide) (by kernel_rfl) h
def Hu (D V Q W:Value) (w:World) (K:Value→World→Prop):Prop:= box P T.g W w fun c w=>Q1 P F.aR [D,V,Q] w fun M w=>Q3 P .neq T.y (.tmp 14) (.const (.int .i64 0)) M (.int .i64 0) w fun U w=>X1 U (K M w) (dr w fun a b=>Q5 a (fun g=> ∀w,b w→nilCheck P D w (dk a g w)) fun g=>Q5 a (fun j=> ∀o w,b w→g o w→fieldAddr P T.p o 3 w (dk a j w)) fun j=>Q5 a (fun A=> ∀w,b w→Q2 P T.g c w (dk a A w)) fun A=>Q5 a (fun f=> ∀p w,b w→j p w→Q2 P T.f p w (dk a f w)) fun f=>Q5 a (fun l=> ∀u w,b w→f u w→indexAddr P T.f u V w (dk a l w)) fun l=>Q5 a (fun m=> ∀q w,b w→l q w→Q2 P T.m q w (dk a m w)) fun m=>Q5 a (fun C=> ∀t w,b w→m t w→Q1 P F.aC [D,t,Q] w (dk a C w)) fun C=>∀o p L u q t H w,b w→g o w→j p w→A L w→f u w→l q w→m t w→C H w→ Q1 P F.aB [D,L,H] w fun R w=>J8 P .not R w fun O w=>X1 O (K (.int .i64 91) w) (dr w fun a b=>Q5 a (fun r=> ∀w,b w→nilCheck P D w (dk a r w)) fun r=>Q5 a (fun s=> ∀e w,b w→r e w→fieldAddr P T.p e 3 w (dk a s w)) fun s=>Q5 a (fun h=> ∀y w,b w→s y w→Q2 P T.f y w (dk a h w)) fun h=>Q5 a (fun v=> ∀i w,b w→h i w→indexAddr P T.f i V w (dk a v w)) fun v=>Q5 a (fun d=> ∀n w,b w→v n w→fieldAddr P T.m n 1 w (dk a d w)) fun d=>Q5 a (fun z=> ∀k w,b w→d k w→Q2 P T.l k w (dk a z w)) fun z=>Q5 a (fun B=> ∀w,b w→Q2 P T.g c w (dk a B w)) fun B=>∀e y i n k E J w,b w→r e w→s y w→h i w→v n w→d k w→z E w→B J w→ indexAddr P T.l E Q w fun N w=>X9 P T.g N J w fun _u w=>K (.int .i64 0) w))
theorem Q1K {b d a c:Value} {w:World} {K:Value→World→Prop} (h:Hu b d a c w K):Q1 P F.b3 [b,d,a,c] w K:=Q9 (List.replicate 10 none) Tryz.func22 rfl (by decide) (by kernel_rfl) h
def Dw (h:Value) (w:World) (K:Value→World→Prop):Prop:= box P T.n h w fun a w=>fieldAddr P T.n a 1 w fun j w=>Q2 P T.c j w fun i w=>X2 P .len [T.c] T.e [false] [i] w fun g w=>Q3 P .leq T.e (.tmp 5) (.const (.int .i64 100)) g (.int .i64 100) w fun b w=>Q0 b true w (fieldAddr P T.n a 4) fun k w=>Q0 b true w (fieldAddr P T.g k 2) fun l w=>Q0 b true w (Q2 P T.c l) fun f w=>Q0 b true w (X2 P .len [T.c] T.e [false] [f]) fun c w=>Q0 b true w (Q3 P .leq T.e (.tmp 11) (.const (.int .i64 5000)) c (.int .i64 5000)) fun e w=>pick P b e (.bool false) w fun d w=>K d w
theorem Q1b {a:Value} {w:World} {K:Value→World→Prop} (h:Dw a w K):Q1 P F.aA [a] w K:=Q9 (List.replicate 2 none) Tryz.func25 rfl (by decide) (by kernel_rfl) h
def Yu:V7:=[none,none,none,some ([8],[4,5,8,9,10,11,12,13,14,15,16,17,18]),none,none,none,none,none,none,none]
def G6 (g j:Value) (w:World) (K:Value→World→Prop):Prop:= X2 P .len [T.l] T.e [false] [g] w fun h w=>lp (α:=Value) (.int .i64 0) w fun a b k w=>Q3 P .lss T.e (.tmp 8) (.tmp 7) b h w fun i w=>X1 i (indexAddr P T.l g b w fun d w=>Q2 P T.g d w fun e w=>Z3 P j [e] w fun f w=>X1 f (K b w) (Q3 P .add T.e (.tmp 8) (.const (.int .i64 1)) b (.int .i64 1) w fun c w=>a c w)) (K (.int .i64 (-1)) w)
theorem Yn {a b:Value} {w:World} {K:Value→World→Prop} (h:G6 a b w K):Q1 P F.a3 [a,b] w K:=Q9 Yu Tryz.func119 rfl (by decide) (by kernel_rfl) h
def B0 (b d:Value) (w:World) (K:Value→World→Prop):Prop:= Q1 P F.a3 [b,d] w fun a w=>Q3 P .geq T.e (.tmp 7) (.const (.int .i64 0)) a (.int .i64 0) w fun c w=>K c w
theorem Xc {a b:Value} {w:World} {K:Value→World→Prop} (h:B0 a b w K):Q1 P F.k [a,b] w K:=Q9 (List.replicate 2 none) Tryz.func75 rfl (by decide) (by kernel_rfl) h
def Om (g k:Value) (w:World) (K:Value→World→Prop):Prop:= box P T.g g w fun a w=>fieldAddr P T.g a 0 w fun h w=>Q2 P T.e h w fun f w=>Q3 P .eql T.e (.tmp 5) (.const (.int .i64 4)) f (.int .i64 4) w fun b w=>Q0 b true w (fieldAddr P T.g a 3) fun i w=>Q0 b true w (Q2 P T.e i) fun j w=>Q0 b true w (Q2 P T.e k) fun e w=>Q0 b true w (Q3 P .geq T.e (.tmp 9) (.tmp 10) j e) fun c w=>pick P b c (.bool false) w fun d w=>K d w
theorem Q02 {a b:Value} {w:World} {K:Value→World→Prop} (h:Om a b w K):Q1 P F.bF [a,b] w K:=Q9 (List.replicate 2 none) Tryz.func76 rfl (by decide) (by kernel_rfl) h
def Q1S:V7:=[none,none,none,none,some ([22],[5,22,23,24,25,26,27,28,29,30]),none,none,none,none,none,some ([],[6,31,32,33,34,35,36,37,38,39,40,41,42,43,44,45,46,47,48,49,50,51,52,53,54,55,56,57,58,59,60,61,62,63,64,65,66,67,68,69]),none,none,none,none]
def Hq (d a1:Value) (w:World) (K:Value→World→Prop):Prop:= box P T.e a1 w fun t3 w=>Q2 P T.e t3 w fun t7 w=>X2 P .max [T.e,T.e] T.e [false,true] [t7,(.int .i64 0)] w fun t8 w=>X9 P T.e t3 t8 w fun _u w=>dr w fun a b=>Q5 a (fun R=> ∀w,b w→nilCheck P d w (dk a R w)) fun R=>Q5 a (fun H=> ∀N w,b w→R N w→fieldAddr P T.p N 3 w (dk a H w)) fun H=>Q5 a (fun m=> ∀w,b w→nilCheck P d w (dk a m w)) fun m=>Q5 a (fun U=> ∀Z w,b w→m Z w→fieldAddr P T.p Z 3 w (dk a U w)) fun U=>Q5 a (fun ab=> ∀E w,b w→H E w→Q2 P T.f E w (dk a ab w)) fun ab=>Q5 a (fun i=> ∀w,b w→Q2 P T.e t3 w (dk a i w)) fun i=>Q5 a (fun f=> ∀Y w,b w→U Y w→Q2 P T.f Y w (dk a f w)) fun f=>Q5 a (fun l=> ∀M w,b w→f M w→X2 P .len [T.f] T.e [false] [M] w (dk a l w)) fun l=>Q5 a (fun ac=> ∀p Q w,b w→i p w→l Q w→X2 P .min [T.e,T.e] T.e [false,false] [p,Q] w (dk a ac w)) fun ac=>∀N E Z Y an p M Q ai w,b w→R N w→H E w→m Z w→U Y w→ab an w→i p w→f M w→l Q w→ac ai w→ R6 P T.f an none (some ai) none w fun ak w=>X2 P .len [T.f] T.e [false] [ak] w fun av w=>lp (α:=Value) (.int .i64 0) w fun C x4 d_ w=>Q3 P .lss T.e (.tmp 22) (.tmp 21) x4 av w fun a4 w=>X1 a4 (indexAddr P T.f ak x4 w fun ba w=>Q2 P T.m ba w fun bd w=>W1 P T.m w fun t5 w=>X9 P T.m t5 bd w fun _u w=>fieldAddr P T.m t5 1 w fun a2 w=>Q2 P T.l a2 w fun ax w=>H1 P (.func F.bF) [] [t3] w fun bc w=>Q1 P F.k [ax,bc] w fun a5 w=>X1 a5 (K (.tuple #[]) w) (Q3 P .add T.e (.tmp 22) (.const (.int .i64 1)) x4 (.int .i64 1) w fun ay w=>C ay w)) (lp (α:=Unit) () w fun c bm d_ w=>dr w fun a b=>Q5 a (fun k=> ∀w,b w→nilCheck P d w (dk a k w)) fun k=>Q5 a (fun O=> ∀s w,b w→k s w→fieldAddr P T.p s 3 w (dk a O w)) fun O=>Q5 a (fun e=> ∀q w,b w→O q w→Q2 P T.f q w (dk a e w)) fun e=>Q5 a (fun aa=> ∀D w,b w→e D w→X2 P .len [T.f] T.e [false] [D] w (dk a aa w)) fun aa=>Q5 a (fun af=> ∀w,b w→Q2 P T.e t3 w (dk a af w)) fun af=>∀s q D aj ah w,b w→k s w→O q w→e D w→aa aj w→af ah w→ Q3 P .gtr T.e (.tmp 35) (.tmp 36) aj ah w fun ar w=>X1 ar (nilCheck P d w fun bg w=>fieldAddr P T.p bg 3 w fun aw w=>Q2 P T.f aw w fun aq w=>X2 P .len [T.f] T.e [false] [aq] w fun a3 w=>Q3 P .sub T.e (.tmp 42) (.const (.int .i64 1)) a3 (.int .i64 1) w fun am w=>dr w fun a b=>Q5 a (fun n=> ∀w,b w→nilCheck P d w (dk a n w)) fun n=>Q5 a (fun A=> ∀X w,b w→n X w→fieldAddr P T.p X 2 w (dk a A w)) fun A=>Q5 a (fun z=> ∀w,b w→nilCheck P d w (dk a z w)) fun z=>Q5 a (fun h=> ∀W w,b w→z W w→fieldAddr P T.p W 3 w (dk a h w)) fun h=>Q5 a (fun ae=> ∀v w,b w→A v w→Q2 P T.e v w (dk a ae w)) fun ae=>Q5 a (fun j=> ∀B w,b w→h B w→Q2 P T.f B w (dk a j w)) fun j=>Q5 a (fun y=> ∀V w,b w→j V w→indexAddr P T.f V am w (dk a y w)) fun y=>Q5 a (fun r=> ∀u w,b w→y u w→fieldAddr P T.m u 1 w (dk a r w)) fun r=>Q5 a (fun o=> ∀t w,b w→r t w→Q2 P T.l t w (dk a o w)) fun o=>Q5 a (fun L=> ∀g w,b w→o g w→X2 P .len [T.l] T.e [false] [g] w (dk a L w)) fun L=>Q5 a (fun ad=> ∀J w,b w→L J w→Q3 P .add T.e (.const (.int .i64 1)) (.tmp 56) (.int .i64 1) J w (dk a ad w)) fun ad=>∀X v W B ao V u t g J ag w,b w→n X w→A v w→z W w→h B w→ae ao w→j V w→y u w→r t w→o g w→L J w→ad ag w→ Q3 P .sub T.e (.tmp 47) (.tmp 57) ao ag w fun ap w=>nilCheck P d w fun az w=>fieldAddr P T.p az 2 w fun be w=>X9 P T.e be ap w fun _u w=>nilCheck P d w fun bh w=>fieldAddr P T.p bh 3 w fun bf w=>Q2 P T.f bf w fun a9 w=>R6 P T.f a9 none (some am) none w fun a8 w=>nilCheck P d w fun a7 w=>fieldAddr P T.p a7 3 w fun bb w=>X9 P T.f bb a8 w fun _u w=>c () w) (K (.tuple #[]) w))
theorem Q1M {a b:Value} {w:World} {K:Value→World→Prop} (h:Hq a b w K):Q1 P F.c4 [a,b] w K:=Q9 Q1S Tryz.func40 rfl (by decide) (by kernel_rfl) h
def Ts:V7:=[none,none,some ([],[5,6,7]),none,some ([],[8,9,10]),none,some ([],[11,12,13]),none,none]
def Oc (b:Value) (w:World) (K:Value→World→Prop):Prop:= W1 P T.g w fun g w=>E3 P T.g [] w fun n w=>W1 P T.g w fun a w=>X9 P T.g a n w fun _u w=>jn (α:=Unit) w (fun i w=>Q3 P .eql T.c (.tmp 5) (.const (.string ⟨#[105,110,116]⟩)) b (.string ⟨#[105,110,116]⟩) w fun m w=>X1 m (fieldAddr P T.g a 0 w fun l w=>X9 P T.e l (.int .i64 1) w fun _u w=>i () w) (i () w)) fun r h w=>jn (α:=Unit) w (fun j w=>Q3 P .eql T.c (.tmp 8) (.const (.string ⟨#[98,111,111,108]⟩)) b (.string ⟨#[98,111,111,108]⟩) w fun o w=>X1 o (fieldAddr P T.g a 0 w fun c w=>X9 P T.e c (.int .i64 2) w fun _u w=>j () w) (j () w)) fun q h w=>jn (α:=Unit) w (fun k w=>Q3 P .eql T.c (.tmp 11) (.const (.string ⟨#[116,101,120,116]⟩)) b (.string ⟨#[116,101,120,116]⟩) w fun f w=>X1 f (fieldAddr P T.g a 0 w fun e w=>X9 P T.e e (.int .i64 3) w fun _u w=>k () w) (k () w)) fun s h w=>Q2 P T.g a w fun d w=>X9 P T.g g d w fun _u w=>Y7 P T.g g w fun p=>K p w
theorem Ai {a:Value} {w:World} {K:Value→World→Prop} (h:Oc a w K):Q1 P F.aO [a] w K:=Q9 Ts Tryz.func30 rfl (by decide) (by kernel_rfl) h
def Q03:V7:=[none,none,none,none,some ([3,4],[3,4,7,8,9,10,11,12,13,14,15,16,17,18,19,20,21,22,23]),none,none,none,none]
def Od (p:Value) (w:World) (K:Value→World→Prop):Prop:= box P T.a p w fun a w=>fieldAddr P T.a a 1 w fun o w=>Q2 P T.e o w fun r w=>lp (α:=Value×Value) (r,(.int .i64 0)) w fun b c t w=>fieldAddr P T.a a 2 w fun q w=>Q2 P T.f q w fun s w=>X2 P .len [T.f] T.e [false] [s] w fun h w=>Q3 P .lss T.e (.tmp 7) (.tmp 10) c.2 h w fun e w=>X1 e (fieldAddr P T.a a 2 w fun m w=>Q2 P T.f m w fun l w=>indexAddr P T.f l c.2 w fun i w=>fieldAddr P T.m i 1 w fun k w=>Q2 P T.l k w fun d w=>X2 P .len [T.l] T.e [false] [d] w fun f w=>Q3 P .add T.e (.const (.int .i64 1)) (.tmp 21) (.int .i64 1) f w fun g w=>Q3 P .sub T.e (.tmp 14) (.tmp 22) c.1 g w fun j w=>Q3 P .add T.e (.tmp 12) (.const (.int .i64 1)) c.2 (.int .i64 1) w fun n w=>b (j,n) w) (K c.1 w)
theorem Q01 {a:Value} {w:World} {K:Value→World→Prop} (h:Od a w K):Q1 P F.aQ [a] w K:=Q9 Q03 Tryz.func37 rfl (by decide) (by kernel_rfl) h
def Vq (i k:Value) (w:World) (K:Value→World→Prop):Prop:= Q1 P F.b [i,k] w fun j w=>Q3 P .geq T.e (.tmp 9) (.const (.int .i64 0)) j (.int .i64 0) w fun a w=>Q0 a true w (fun w J=>J i w) fun f w=>Q0 a true w (fun w J=>J j w) fun e w=>Q0 a true w (indexAddr P T.i f e) fun c w=>Q0 a true w (fieldAddr P T.b c 4) fun d w=>Q0 a true w (Q2 P T.u d) fun g w=>Q0 a true w (J8 P .not g) fun h w=>pick P a h (.bool false) w fun b w=>K b w
theorem Bl {a b:Value} {w:World} {K:Value→World→Prop} (h:Vq a b w K):Q1 P F.b6 [a,b] w K:=Q9 (List.replicate 3 none) Tryz.func72 rfl (by decide) (by kernel_rfl) h
def Gp:V7:=[none,none,none,none,none,none,none,none,none,none,none,some ([8],[8,28,29,30,31,32,33,34,35,36,37,38,39,40,41,42,43,44]),none,none,none,none,none]
def La (a0 a1:Value) (w:World) (K:Value→World→Prop):Prop:= box P T.a a0 w fun a w=>W1 P T.a w fun H w=>fieldAddr P T.a a 0 w fun t9 w=>Q2 P T.i t9 w fun ad w=>Q1 P F.b6 [ad,a1] w fun ak w=>J8 P .not ak w fun aj w=>X1 aj (Q2 P T.a a w fun ah w=>X9 P T.a H ah w fun _u w=>Y7 P T.a H w fun O=>K (.tuple #[O,(.int .i64 91)]) w) (fieldAddr P T.a a 0 w fun ai w=>Q2 P T.i ai w fun ag w=>Q1 P F.p [ag,a1] w fun D w=>X2 P .len [T.k] T.e [false] [D] w fun an w=>Q3 P .add T.e (.const (.int .i64 1)) (.tmp 20) (.int .i64 1) an w fun X w=>Q2 P T.a a w fun Y w=>Q1 P F.aQ [Y] w fun af w=>Q3 P .gtr T.e (.tmp 21) (.tmp 23) X af w fun Q w=>X1 Q (Q2 P T.a a w fun Z w=>X9 P T.a H Z w fun _u w=>Y7 P T.a H w fun O=>K (.tuple #[O,(.int .i64 90)]) w) (E3 P T.m [(0,a1)] w fun aa w=>W1 P T.m w fun c w=>X9 P T.m c aa w fun _u w=>lp (α:=Value) (.int .i64 0) w fun e B d_ w=>X2 P .len [T.k] T.e [false] [D] w fun ac w=>Q3 P .lss T.e (.tmp 28) (.tmp 30) B ac w fun U w=>X1 U (dr w fun b d=>Q5 b (fun j=> ∀w,d w→fieldAddr P T.m c 1 w (dk b j w)) fun j=>Q5 b (fun o=> ∀w,d w→indexAddr P T.k D B w (dk b o w)) fun o=>Q5 b (fun r=> ∀n w,d w→o n w→fieldAddr P T.o n 1 w (dk b r w)) fun r=>Q5 b (fun z=> ∀k w,d w→j k w→Q2 P T.l k w (dk b z w)) fun z=>Q5 b (fun t=> ∀v w,d w→r v w→Q2 P T.c v w (dk b t w)) fun t=>Q5 b (fun f=> ∀p w,d w→t p w→Q1 P F.aO [p] w (dk b f w)) fun f=>Q5 b (fun E=> ∀l w,d w→f l w→buildSlice P T.l 1 [(0,l)] w (dk b E w)) fun E=>∀k n v N p l M w,d w→j k w→o n w→r v w→z N w→t p w→f l w→E M w→ X2 P .append [T.l,T.l] T.l [false,false] [N,M] w fun ab w=>fieldAddr P T.m c 1 w fun R w=>X9 P T.l R ab w fun _u w=>Q3 P .add T.e (.tmp 32) (.const (.int .i64 1)) B (.int .i64 1) w fun al w=>e al w) (dr w fun b d=>Q5 b (fun i=> ∀w,d w→fieldAddr P T.a a 2 w (dk b i w)) fun i=>Q5 b (fun u=> ∀w,d w→buildSlice P T.f 0 [] w (dk b u w)) fun u=>Q5 b (fun m=> ∀g w,d w→i g w→Q2 P T.f g w (dk b m w)) fun m=>Q5 b (fun A=> ∀s y w,d w→u s w→m y w→X2 P .append [T.f,T.f] T.f [false,false] [s,y] w (dk b A w)) fun A=>Q5 b (fun h=> ∀w,d w→Q2 P T.m c w (dk b h w)) fun h=>Q5 b (fun C=> ∀q w,d w→h q w→buildSlice P T.f 1 [(0,q)] w (dk b C w)) fun C=>∀g s y L q J w,d w→i g w→u s w→m y w→A L w→h q w→C J w→ X2 P .append [T.f,T.f] T.f [false,false] [L,J] w fun ae w=>fieldAddr P T.a a 2 w fun W w=>X9 P T.f W ae w fun _u w=>Q2 P T.a a w fun V w=>X9 P T.a H V w fun _u w=>Y7 P T.a H w fun O=>K (.tuple #[O,(.int .i64 0)]) w)))
theorem Gb {a b:Value} {w:World} {K:Value→World→Prop} (h:La a b w K):Q1 P F.bb [a,b] w K:=Q9 Gp Tryz.func57 rfl (by decide) (by kernel_rfl) h
def Pf:V7:=[none,none,none,none,none,none,none,none,none,none,none,none,none,some ([9],[9,41,42,43,44,45,46,47,48,49,50,51,52]),none,none,none,none,none]
def Mv (a0 L N:Value) (w:World) (K:Value→World→Prop):Prop:= box P T.a a0 w fun a w=>W1 P T.a w fun u w=>Q3 P .eql T.c (.tmp 10) (.const (.string ⟨#[110,117,108,108]⟩)) L (.string ⟨#[110,117,108,108]⟩) w fun d w=>Q0 d false w (fieldAddr P T.a a 0) fun aq w=>Q0 d false w (Q2 P T.i aq) fun an w=>Q0 d false w (fun w J=>J L w) fun ap w=>Q0 d false w (Q1 P F.a0 [an,ap]) fun al w=>Q0 d false w (J8 P .not al) fun af w=>pick P d (.bool true) af w fun r w=>Q0 r false w (fun w J=>J L w) fun av w=>Q0 r false w (Q1 P F.a1 [av]) fun Y w=>Q0 r false w (Q3 P .gtr T.e (.tmp 21) (.const (.int .i64 2)) Y (.int .i64 2)) fun ab w=>pick P r (.bool true) ab w fun aj w=>X1 aj (Q2 P T.a a w fun Q w=>X9 P T.a u Q w fun _u w=>Y7 P T.a u w fun B=>K (.tuple #[B,(.int .i64 91)]) w) (Q3 P .lss T.a1 (.tmp 25) (.const (.int .i64 0)) N (.int .i64 0) w fun ai w=>X1 ai (Q2 P T.a a w fun ac w=>X9 P T.a u ac w fun _u w=>Y7 P T.a u w fun B=>K (.tuple #[B,(.int .i64 93)]) w) (Q3 P .gtr T.a1 (.tmp 28) (.const (.int .i64 1048576)) N (.int .i64 1048576) w fun f w=>Q0 f false w (fun w J=>J N w) fun R w=>Q0 f false w (Q3 P .add T.e (.const (.int .i64 1)) (.tmp 31) (.int .i64 1) R) fun O w=>Q0 f false w (Q2 P T.a a) fun ar w=>Q0 f false w (Q1 P F.aQ [ar]) fun U w=>Q0 f false w (Q3 P .gtr T.e (.tmp 32) (.tmp 34) O U) fun am w=>pick P f (.bool true) am w fun X w=>X1 X (Q2 P T.a a w fun W w=>X9 P T.a u W w fun _u w=>Y7 P T.a u w fun B=>K (.tuple #[B,(.int .i64 90)]) w) (Q3 P .add T.c (.tmp 38) (.const (.string ⟨#[91,93]⟩)) L (.string ⟨#[91,93]⟩) w fun ao w=>E3 P T.m [(0,ao)] w fun aa w=>W1 P T.m w fun c w=>X9 P T.m c aa w fun _u w=>lp (α:=Value) (.int .i64 0) w fun g H d_ w=>Q3 P .lss T.a1 (.tmp 41) (.tmp 42) H N w fun ad w=>X1 ad (dr w fun b e=>Q5 b (fun o=> ∀w,e w→fieldAddr P T.m c 1 w (dk b o w)) fun o=>Q5 b (fun v=> ∀k w,e w→o k w→Q2 P T.l k w (dk b v w)) fun v=>Q5 b (fun n=> ∀w,e w→Q1 P F.aO [L] w (dk b n w)) fun n=>Q5 b (fun y=> ∀s w,e w→n s w→buildSlice P T.l 1 [(0,s)] w (dk b y w)) fun y=>∀k M s C w,e w→o k w→v M w→n s w→y C w→ X2 P .append [T.l,T.l] T.l [false,false] [M,C] w fun ah w=>fieldAddr P T.m c 1 w fun V w=>X9 P T.l V ah w fun _u w=>Q3 P .add T.a1 (.tmp 44) (.const (.int .i64 1)) H (.int .i64 1) w fun ak w=>g ak w) (dr w fun b e=>Q5 b (fun h=> ∀w,e w→fieldAddr P T.a a 2 w (dk b h w)) fun h=>Q5 b (fun l=> ∀w,e w→buildSlice P T.f 0 [] w (dk b l w)) fun l=>Q5 b (fun t=> ∀j w,e w→h j w→Q2 P T.f j w (dk b t w)) fun t=>Q5 b (fun z=> ∀m q w,e w→l m w→t q w→X2 P .append [T.f,T.f] T.f [false,false] [m,q] w (dk b z w)) fun z=>Q5 b (fun i=> ∀w,e w→Q2 P T.m c w (dk b i w)) fun i=>Q5 b (fun A=> ∀p w,e w→i p w→buildSlice P T.f 1 [(0,p)] w (dk b A w)) fun A=>∀j m q E p D w,e w→h j w→l m w→t q w→z E w→i p w→A D w→ X2 P .append [T.f,T.f] T.f [false,false] [E,D] w fun ag w=>fieldAddr P T.a a 2 w fun ae w=>X9 P T.f ae ag w fun _u w=>Q2 P T.a a w fun Z w=>X9 P T.a u Z w fun _u w=>Y7 P T.a u w fun B=>K (.tuple #[B,(.int .i64 0)]) w))))
theorem Ij {b c a:Value} {w:World} {K:Value→World→Prop} (h:Mv b c a w K):Q1 P F.bk [b,c,a] w K:=Q9 Pf Tryz.func58 rfl (by decide) (by kernel_rfl) h
def Q1W:V7:=[none,none,some ([],[4,14,15,16,17,18,19,20,21,22,23,24,25,26,27,28,29,30,31,32,33,34,35,36,37,38,39,40,41,42,43,44,45,46,47,48,49,50,51,52,53,54,55,56,57,58,59,60,61,62,63,64,65,66,67,68,69,70,71,72,73,74,75,76,77,78,79,80,81,82,83,84,85,86,87,88,89,90]),none,none,none,none,none,none,none,none,none,none,none,none,none,none,none,none,none]
def Hp (a0 a1:Value) (w:World) (K:Value→World→Prop):Prop:= box P T.a a0 w fun t2 w=>box P T.g a1 w fun c w=>fieldAddr P T.g c 3 w fun t6 w=>Q2 P T.e t6 w fun t7 w=>Q3 P .eql T.e (.tmp 7) (.const (.int .i64 0)) t7 (.int .i64 0) w fun l w=>Q0 l true w (fieldAddr P T.g c 2) fun av w=>Q0 l true w (Q2 P T.c av) fun af w=>Q0 l true w (Q3 P .eql T.c (.tmp 11) (.const (.string ⟨#[]⟩)) af (.string ⟨#[]⟩)) fun az w=>pick P l az (.bool false) w fun a w=>jn (α:=Unit) w (fun k w=>fieldAddr P T.g c 0 w fun Q w=>Q2 P T.e Q w fun e w=>Q3 P .eql T.e (.tmp 15) (.const (.int .i64 0)) e (.int .i64 0) w fun aq w=>X1 aq (Q0 a true w (fieldAddr P T.g c 1) fun W w=>Q0 a true w (Q2 P T.a1 W) fun A w=>Q0 a true w (Q3 P .eql T.a1 (.tmp 21) (.const (.int .i64 0)) A (.int .i64 0)) fun al w=>pick P a al (.bool false) w fun D w=>X1 D (K (.string ⟨#[110,117,108,108]⟩) w) (k () w)) (Q3 P .eql T.e (.tmp 15) (.const (.int .i64 1)) e (.int .i64 1) w fun am w=>X1 am (X1 a (K (.string ⟨#[105,110,116]⟩) w) (k () w)) (Q3 P .eql T.e (.tmp 15) (.const (.int .i64 2)) e (.int .i64 2) w fun aj w=>X1 aj (Q0 a true w (fieldAddr P T.g c 1) fun ac w=>Q0 a true w (Q2 P T.a1 ac) fun X w=>Q0 a true w (Q3 P .eql T.a1 (.tmp 32) (.const (.int .i64 0)) X (.int .i64 0)) fun U w=>Q0 a true w (fun w J=>J U w) fun i w=>Q0 i false w (fieldAddr P T.g c 1) fun N w=>Q0 i false w (Q2 P T.a1 N) fun y w=>Q0 i false w (Q3 P .eql T.a1 (.tmp 36) (.const (.int .i64 1)) y (.int .i64 1)) fun v w=>Q0 a true w (pick P i (.bool true) v) fun z w=>pick P a z (.bool false) w fun ay w=>X1 ay (K (.string ⟨#[98,111,111,108]⟩) w) (k () w)) (Q3 P .eql T.e (.tmp 15) (.const (.int .i64 3)) e (.int .i64 3) w fun q w=>X1 q (fieldAddr P T.g c 1 w fun C w=>Q2 P T.a1 C w fun an w=>Q3 P .eql T.a1 (.tmp 43) (.const (.int .i64 0)) an (.int .i64 0) w fun h w=>Q0 h true w (fieldAddr P T.g c 3) fun ad w=>Q0 h true w (Q2 P T.e ad) fun a2 w=>Q0 h true w (Q3 P .eql T.e (.tmp 47) (.const (.int .i64 0)) a2 (.int .i64 0)) fun ak w=>pick P h ak (.bool false) w fun d w=>Q0 d true w (fieldAddr P T.g c 2) fun aw w=>Q0 d true w (Q2 P T.c aw) fun u w=>Q0 d true w (X2 P .len [T.c] T.e [false] [u]) fun ab w=>Q0 d true w (Q3 P .leq T.e (.tmp 53) (.const (.int .i64 4096)) ab (.int .i64 4096)) fun Y w=>pick P d Y (.bool false) w fun f w=>Q0 f true w (fieldAddr P T.g c 2) fun r w=>Q0 f true w (Q2 P T.c r) fun p w=>Q0 f true w (Q1 P F.aJ [p]) fun B w=>pick P f B (.bool false) w fun ao w=>X1 ao (K (.string ⟨#[116,101,120,116]⟩) w) (k () w)) (Q3 P .eql T.e (.tmp 15) (.const (.int .i64 4)) e (.int .i64 4) w fun aa w=>X1 aa (fieldAddr P T.g c 1 w fun a3 w=>Q2 P T.a1 a3 w fun ap w=>Q3 P .eql T.a1 (.tmp 64) (.const (.int .i64 0)) ap (.int .i64 0) w fun g w=>Q0 g true w (fieldAddr P T.g c 2) fun L w=>Q0 g true w (Q2 P T.c L) fun H w=>Q0 g true w (Q3 P .eql T.c (.tmp 68) (.const (.string ⟨#[]⟩)) H (.string ⟨#[]⟩)) fun ag w=>pick P g ag (.bool false) w fun j w=>Q0 j true w (fieldAddr P T.g c 3) fun t w=>Q0 j true w (Q2 P T.e t) fun n w=>Q0 j true w (Q3 P .geq T.e (.tmp 73) (.const (.int .i64 0)) n (.int .i64 0)) fun Z w=>pick P j Z (.bool false) w fun b w=>Q0 b true w (fieldAddr P T.g c 3) fun ax w=>Q0 b true w (Q2 P T.e ax) fun E w=>Q0 b true w (fieldAddr P T.a t2 2) fun O w=>Q0 b true w (Q2 P T.f O) fun m w=>Q0 b true w (X2 P .len [T.f] T.e [false] [m]) fun a4 w=>Q0 b true w (Q3 P .lss T.e (.tmp 78) (.tmp 81) E a4) fun M w=>pick P b M (.bool false) w fun V w=>X1 V (fieldAddr P T.a t2 2 w fun o w=>Q2 P T.f o w fun ar w=>fieldAddr P T.g c 3 w fun ae w=>Q2 P T.e ae w fun s w=>indexAddr P T.f ar s w fun R w=>fieldAddr P T.m R 0 w fun ai w=>Q2 P T.c ai w fun ah w=>K ah w) (k () w)) (k () w)))))) fun z2 d_ w=>K (.string ⟨#[]⟩) w
theorem Q1L {a b:Value} {w:World} {K:Value→World→Prop} (h:Hp a b w K):Q1 P F.c3 [a,b] w K:=Q9 Q1W Tryz.func32 rfl (by decide) (by kernel_rfl) h
def Et (k j h:Value) (w:World) (K:Value→World→Prop):Prop:= Q1 P F.a0 [k,j] w fun u w=>J8 P .not u w fun b w=>Q0 b false w (fun w J=>J k w) fun V w=>Q0 b false w (fun w J=>J h w) fun Y w=>Q0 b false w (Q1 P F.a0 [V,Y]) fun Q w=>Q0 b false w (J8 P .not Q) fun H w=>pick P b (.bool true) H w fun c w=>Q0 c false w (fun w J=>J j w) fun ac w=>Q0 c false w (fun w J=>J h w) fun z w=>Q0 c false w (Q3 P .eql T.c (.tmp 20) (.tmp 21) ac z) fun D w=>pick P c (.bool true) D w fun L w=>X1 L (Q3 P .eql T.c (.tmp 24) (.tmp 25) j h w fun d w=>Q0 d true w (fun w J=>J k w) fun A w=>Q0 d true w (fun w J=>J j w) fun M w=>Q0 d true w (Q1 P F.a0 [A,M]) fun E w=>pick P d E (.bool false) w fun p w=>K p w) (Q1 P F.x [j] w fun i w=>Q0 i false w (fun w J=>J h w) fun U w=>Q0 i false w (Q1 P F.x [U]) fun y w=>pick P i (.bool true) y w fun e w=>Q0 e false w (fun w J=>J h w) fun W w=>Q0 e false w (Q3 P .eql T.c (.tmp 39) (.const (.string ⟨#[110,117,108,108]⟩)) W (.string ⟨#[110,117,108,108]⟩)) fun C w=>pick P e (.bool true) C w fun t w=>X1 t (K (.bool false) w) (Q3 P .eql T.c (.tmp 42) (.const (.string ⟨#[110,117,108,108]⟩)) j (.string ⟨#[110,117,108,108]⟩) w fun g w=>Q0 g false w (fun w J=>J h w) fun N w=>Q0 g false w (Q3 P .eql T.c (.tmp 45) (.const (.string ⟨#[79,98,106,101,99,116]⟩)) N (.string ⟨#[79,98,106,101,99,116]⟩)) fun q w=>pick P g (.bool true) q w fun aa w=>X1 aa (K (.bool true) w) (Q1 P F.b [k,j] w fun m w=>Q1 P F.b [k,h] w fun l w=>Q3 P .geq T.e (.tmp 54) (.const (.int .i64 0)) m (.int .i64 0) w fun f w=>Q0 f true w (fun w J=>J l w) fun s w=>Q0 f true w (Q3 P .geq T.e (.tmp 57) (.const (.int .i64 0)) s (.int .i64 0)) fun r w=>pick P f r (.bool false) w fun a w=>Q0 a true w (fun w J=>J k w) fun B w=>Q0 a true w (Q1 P F.aj [B]) fun o w=>Q0 a true w (fun w J=>J m w) fun X w=>Q0 a true w (indexAddr P T.a8 o X) fun ab w=>Q0 a true w (Q2 P T.a6 ab) fun n w=>Q0 a true w (fun w J=>J l w) fun Z w=>Q0 a true w (indexAddr P T.a6 n Z) fun R w=>Q0 a true w (Q2 P T.u R) fun O w=>pick P a O (.bool false) w fun v w=>K v w)))
theorem Q0D {b c a:Value} {w:World} {K:Value→World→Prop} (h:Et b c a w K):Q1 P F.bS [b,c,a] w K:=Q9 (List.replicate 12 none) Tryz.func63 rfl (by decide) (by kernel_rfl) h
def Oq (l o k:Value) (w:World) (K:Value→World→Prop):Prop:= box P T.a l w fun b w=>box P T.g o w fun c w=>Q2 P T.a b w fun n w=>Q2 P T.g c w fun m w=>Q1 P F.c3 [n,m] w fun d w=>Q3 P .neq T.c (.tmp 11) (.const (.string ⟨#[]⟩)) d (.string ⟨#[]⟩) w fun a w=>Q0 a true w (fieldAddr P T.a b 0) fun f w=>Q0 a true w (Q2 P T.i f) fun g w=>Q0 a true w (fun w J=>J d w) fun i w=>Q0 a true w (fun w J=>J k w) fun j w=>Q0 a true w (Q1 P F.bS [g,i,j]) fun e w=>pick P a e (.bool false) w fun h w=>K h w
theorem Ag {b c a:Value} {w:World} {K:Value→World→Prop} (h:Oq b c a w K):Q1 P F.bz [b,c,a] w K:=Q9 (List.replicate 3 none) Tryz.func28 rfl (by decide) (by kernel_rfl) h
def Oi (d:Value) (w:World) (K:Value→World→Prop):Prop:= X2 P .len [T.c] T.e [false] [d] w fun e w=>Q3 P .lss T.e (.tmp 6) (.const (.int .i64 3)) e (.int .i64 3) w fun c w=>Q0 c false w (fun w J=>J d w) fun s w=>Q0 c false w (fun w J=>J e w) fun m w=>Q0 c false w (Q3 P .sub T.e (.tmp 10) (.const (.int .i64 2)) m (.int .i64 2)) fun g w=>Q0 c false w (R6 P T.c s (some g) none none) fun r w=>Q0 c false w (Q3 P .neq T.c (.tmp 12) (.const (.string ⟨#[91,93]⟩)) r (.string ⟨#[91,93]⟩)) fun q w=>pick P c (.bool true) q w fun b w=>Q0 b false w (fun w J=>J d w) fun p w=>Q0 b false w (Q1 P F.a1 [p]) fun l w=>Q0 b false w (Q3 P .gtr T.e (.tmp 17) (.const (.int .i64 3)) l (.int .i64 3)) fun n w=>pick P b (.bool true) n w fun a w=>Q0 a false w (fun w J=>J d w) fun h w=>Q0 a false w (Q1 P F.e [h]) fun j w=>Q0 a false w (J8 P .not j) fun o w=>pick P a (.bool true) o w fun f w=>X1 f (K (.string ⟨#[]⟩) w) (Q3 P .sub T.e (.tmp 26) (.const (.int .i64 2)) e (.int .i64 2) w fun k w=>R6 P T.c d none (some k) none w fun i w=>K i w)
theorem Ax {a:Value} {w:World} {K:Value→World→Prop} (h:Oi a w K):Q1 P F.bD [a] w K:=Q9 (List.replicate 6 none) Tryz.func71 rfl (by decide) (by kernel_rfl) h
end Go.Proofs.YtjdiakhipmggjaaGreatDoor

set_option maxRecDepth 100000
namespace Go.Proofs.YtjdiakhipmggjaaGreatDoor
open Go.Emb
def Da (m q o:Value) (w:World) (K:Value→World→Prop):Prop:= box P T.a m w fun b w=>box P T.m q w fun a w=>fieldAddr P T.m a 0 w fun n w=>Q2 P T.c n w fun p w=>Q1 P F.bD [p] w fun c w=>Q3 P .neq T.c (.tmp 11) (.const (.string ⟨#[]⟩)) c (.string ⟨#[]⟩) w fun k w=>X1 k (K c w) (fieldAddr P T.a b 0 w fun i w=>Q2 P T.i i w fun j w=>fieldAddr P T.m a 0 w fun h w=>Q2 P T.c h w fun f w=>Q1 P F.p [j,f] w fun g w=>indexAddr P T.k g o w fun l w=>fieldAddr P T.o l 1 w fun d w=>Q2 P T.c d w fun e w=>K e w)
theorem Tv {b c a:Value} {w:World} {K:Value→World→Prop} (h:Da b c a w K):Q1 P F.bE [b,c,a] w K:=Q9 (List.replicate 6 none) Tryz.func74 rfl (by decide) (by kernel_rfl) h
def Ly (v s u:Value) (w:World) (K:Value→World→Prop):Prop:= box P T.a v w fun b w=>Q3 P .lss T.e (.tmp 7) (.const (.int .i64 0)) s (.int .i64 0) w fun c w=>Q0 c false w (fun w J=>J s w) fun k w=>Q0 c false w (fieldAddr P T.a b 2) fun e w=>Q0 c false w (Q2 P T.f e) fun r w=>Q0 c false w (X2 P .len [T.f] T.e [false] [r]) fun q w=>Q0 c false w (Q3 P .geq T.e (.tmp 10) (.tmp 13) k q) fun o w=>pick P c (.bool true) o w fun p w=>X1 p (K (.int .i64 92) w) (Q3 P .lss T.a1 (.tmp 16) (.const (.int .i64 0)) u (.int .i64 0) w fun a w=>Q0 a false w (fun w J=>J u w) fun n w=>Q0 a false w (fieldAddr P T.a b 2) fun t w=>Q0 a false w (Q2 P T.f t) fun f w=>Q0 a false w (fun w J=>J s w) fun h w=>Q0 a false w (indexAddr P T.f f h) fun m w=>Q0 a false w (fieldAddr P T.m m 1) fun d w=>Q0 a false w (Q2 P T.l d) fun i w=>Q0 a false w (X2 P .len [T.l] T.e [false] [i]) fun l w=>Q0 a false w (Q3 P .geq T.a1 (.tmp 19) (.tmp 26) n l) fun j w=>pick P a (.bool true) j w fun g w=>X1 g (K (.int .i64 93) w) (K (.int .i64 0) w))
theorem Kq {b c a:Value} {w:World} {K:Value→World→Prop} (h:Ly b c a w K):Q1 P F.aL [b,c,a] w K:=Q9 (List.replicate 8 none) Tryz.func108 rfl (by decide) (by kernel_rfl) h
def Ha (a0 B W a3:Value) (w:World) (K:Value→World→Prop):Prop:= box P T.a a0 w fun a w=>box P T.g a3 w fun c w=>W1 P T.a w fun s w=>Q2 P T.a a w fun aa w=>Q1 P F.aL [aa,B,W] w fun z w=>Q3 P .neq T.y (.tmp 17) (.const (.int .i64 0)) z (.int .i64 0) w fun V w=>X1 V (Q2 P T.a a w fun Y w=>X9 P T.a s Y w fun _u w=>Y7 P T.a s w fun A=>K (.tuple #[A,z]) w) (dr w fun b i=>Q5 b (fun f=> ∀w,i w→fieldAddr P T.a a 2 w (dk b f w)) fun f=>Q5 b (fun o=> ∀w,i w→Q2 P T.a a w (dk b o w)) fun o=>Q5 b (fun p=> ∀w,i w→Q2 P T.g c w (dk b p w)) fun p=>Q5 b (fun e=> ∀w,i w→Q2 P T.a a w (dk b e w)) fun e=>Q5 b (fun g=> ∀d w,i w→f d w→Q2 P T.f d w (dk b g w)) fun g=>Q5 b (fun m=> ∀j w,i w→g j w→indexAddr P T.f j B w (dk b m w)) fun m=>Q5 b (fun n=> ∀k w,i w→m k w→Q2 P T.m k w (dk b n w)) fun n=>Q5 b (fun r=> ∀l h w,i w→e l w→n h w→Q1 P F.bE [l,h,W] w (dk b r w)) fun r=>∀d u v l j k h y w,i w→f d w→o u w→p v w→e l w→g j w→m k w→n h w→r y w→ Q1 P F.bz [u,v,y] w fun D w=>J8 P .not D w fun C w=>X1 C (Q2 P T.a a w fun ab w=>X9 P T.a s ab w fun _u w=>Y7 P T.a s w fun A=>K (.tuple #[A,(.int .i64 91)]) w) (buildSlice P T.f 0 [] w fun H w=>fieldAddr P T.a a 2 w fun Z w=>Q2 P T.f Z w fun N w=>X2 P .append [T.f,T.f] T.f [false,false] [H,N] w fun q w=>buildSlice P T.l 0 [] w fun O w=>indexAddr P T.f q B w fun J w=>fieldAddr P T.m J 1 w fun X w=>Q2 P T.l X w fun U w=>X2 P .append [T.l,T.l] T.l [false,false] [O,U] w fun t w=>Q2 P T.g c w fun ac w=>indexAddr P T.l t W w fun R w=>X9 P T.g R ac w fun _u w=>indexAddr P T.f q B w fun L w=>fieldAddr P T.m L 1 w fun E w=>X9 P T.l E t w fun _u w=>fieldAddr P T.a a 2 w fun M w=>X9 P T.f M q w fun _u w=>Q2 P T.a a w fun Q w=>X9 P T.a s Q w fun _u w=>Y7 P T.a s w fun A=>K (.tuple #[A,(.int .i64 0)]) w))
theorem Q15 {b d a c:Value} {w:World} {K:Value→World→Prop} (h:Ha b d a c w K):Q1 P F.bO [b,d,a,c] w K:=Q9 (List.replicate 14 none) Tryz.func59 rfl (by decide) (by kernel_rfl) h
def Ew (p o n:Value) (w:World) (K:Value→World→Prop):Prop:= box P T.a p w fun a w=>W1 P T.g w fun c w=>Q2 P T.a a w fun q w=>Q1 P F.aL [q,o,n] w fun b w=>Q3 P .neq T.y (.tmp 13) (.const (.int .i64 0)) b (.int .i64 0) w fun j w=>X1 j (E3 P T.g [] w fun k w=>X9 P T.g c k w fun _u w=>Y7 P T.g c w fun l=>K (.tuple #[l,b]) w) (fieldAddr P T.a a 2 w fun h w=>Q2 P T.f h w fun i w=>indexAddr P T.f i o w fun m w=>fieldAddr P T.m m 1 w fun e w=>Q2 P T.l e w fun f w=>indexAddr P T.l f n w fun d w=>Q2 P T.g d w fun g w=>X9 P T.g c g w fun _u w=>Y7 P T.g c w fun l=>K (.tuple #[l,(.int .i64 0)]) w)
theorem Q1c {b c a:Value} {w:World} {K:Value→World→Prop} (h:Ew b c a w K):Q1 P F.bP [b,c,a] w K:=Q9 (List.replicate 6 none) Tryz.func60 rfl (by decide) (by kernel_rfl) h
def Q1h:V7:=[none,some ([1],[1,8,9]),none,none,none,some ([5],[5,6,7,10,11,12,13,14,15,16,17,18,19,20,21,22,23,24,25,26,27,28,29,30,31,32,33,34,35,36,37,38,39,40,41,42,43,44,45,46,47,48,49,50,51]),none,none,none,none,some ([6],[6,7,22,23,24,25,26,27,28,29,30,31,32,33,34,35,36,37,38,39,40,41,42,43,44,45,46,47,48,49,50,51]),none,none,none,none,none,none,some ([],[52,53,54,55,56,57,58,59,60,61,62,63]),none,none]
def Ej (a0 a1:Value) (w:World) (K:Value→World→Prop):Prop:= box P T.a a0 w fun e w=>W1 P T.a w fun j w=>jn (α:=Value) w (fun J1 w=>Q3 P .lss T.e (.tmp 8) (.const (.int .i64 0)) a1 (.int .i64 0) w fun t9 w=>X1 t9 (J1 (.int .i64 0) w) (J1 a1 w)) fun i Y w=>lp (α:=Value) (.int .i64 0) w fun d g Y w=>Q3 P .lss T.e (.tmp 10) (.tmp 11) g i w fun a w=>Q0 a true w (fun w J=>J g w) fun af w=>Q0 a true w (fieldAddr P T.a e 2) fun ah w=>Q0 a true w (Q2 P T.f ah) fun ae w=>Q0 a true w (X2 P .len [T.f] T.e [false] [ae]) fun R w=>Q0 a true w (Q3 P .lss T.e (.tmp 14) (.tmp 17) af R) fun V w=>pick P a V (.bool false) w fun ac w=>X1 ac (lp (α:=Value) (.int .i64 0) w fun c f Y w=>fieldAddr P T.a e 2 w fun ab w=>Q2 P T.f ab w fun n w=>indexAddr P T.f n g w fun Z w=>fieldAddr P T.m Z 1 w fun N w=>Q2 P T.l N w fun E w=>X2 P .len [T.l] T.e [false] [E] w fun ad w=>Q3 P .lss T.e (.tmp 22) (.tmp 29) f ad w fun Q w=>X1 Q (fieldAddr P T.a e 2 w fun ai w=>Q2 P T.f ai w fun u w=>indexAddr P T.f u g w fun B w=>fieldAddr P T.m B 1 w fun y w=>Q2 P T.l y w fun C w=>indexAddr P T.l C f w fun L w=>Q2 P T.g L w fun v w=>W1 P T.g w fun k w=>X9 P T.g k v w fun _u w=>fieldAddr P T.g k 0 w fun aa w=>Q2 P T.e aa w fun M w=>Q3 P .eql T.e (.tmp 43) (.const (.int .i64 4)) M (.int .i64 4) w fun b w=>Q0 b true w (fieldAddr P T.g k 3) fun p w=>Q0 b true w (Q2 P T.e p) fun ak w=>Q0 b true w (fun w J=>J i w) fun H w=>Q0 b true w (Q3 P .geq T.e (.tmp 47) (.tmp 48) ak H) fun X w=>pick P b X (.bool false) w fun s w=>X1 s (Q2 P T.a e w fun W w=>X9 P T.a j W w fun _u w=>Y7 P T.a j w fun r0=>K r0 w) (Q3 P .add T.e (.tmp 31) (.const (.int .i64 1)) f (.int .i64 1) w fun l w=>c l w)) (Q3 P .add T.e (.tmp 20) (.const (.int .i64 1)) g (.int .i64 1) w fun D w=>d D w)) (jn (α:=Unit) w (fun h w=>fieldAddr P T.a e 2 w fun q w=>Q2 P T.f q w fun m w=>X2 P .len [T.f] T.e [false] [m] w fun A w=>Q3 P .lss T.e (.tmp 52) (.tmp 55) i A w fun z w=>X1 z (buildSlice P T.f 0 [] w fun t w=>fieldAddr P T.a e 2 w fun r w=>Q2 P T.f r w fun U w=>R6 P T.f U none (some i) none w fun O w=>X2 P .append [T.f,T.f] T.f [false,false] [t,O] w fun o w=>fieldAddr P T.a e 2 w fun ag w=>X9 P T.f ag o w fun _u w=>h () w) (h () w)) fun aq Y w=>Q2 P T.a e w fun al w=>X9 P T.a j al w fun _u w=>Y7 P T.a j w fun r0=>K r0 w)
theorem Q0l {a b:Value} {w:World} {K:Value→World→Prop} (h:Ej a b w K):Q1 P F.bQ [a,b] w K:=Q9 Q1h Tryz.func61 rfl (by decide) (by kernel_rfl) h
def Hr (a0 a1 a2:Value) (w:World) (K:Value→World→Prop):Prop:= box P T.a a1 w fun t4 w=>box P T.n a2 w fun r w=>W1 P T.a w fun t6 w=>fieldAddr P T.n r 0 w fun ep w=>Q2 P T.e ep w fun ay w=>Q3 P .eql T.e (.tmp 23) (.const (.int .i64 0)) ay (.int .i64 0) w fun eq w=>X1 eq (Q2 P T.a t4 w fun d9 w=>fieldAddr P T.n r 1 w fun eo w=>Q2 P T.c eo w fun eb w=>Q1 P F.bb [d9,eb] w fun c2 w=>ext P c2 0 w fun el w=>ext P c2 1 w fun cv w=>W1 P T.a w fun t8 w=>X9 P T.a t8 el w fun _u w=>fieldAddr P T.n r 1 w fun ef w=>Q2 P T.c ef w fun d8 w=>Q1 P F.aI [a0,d8] w fun c0 w=>ext P c0 0 w fun c1 w=>ext P c0 1 w fun es w=>dr w fun a b=>Q5 a (fun m=> ∀w,b w→Q3 P .eql T.y (.tmp 41) (.tmp 42) cv es w (dk a m w)) fun m=>Q5 a (fun b3=> ∀d w,b w→m d w→Q0 d true w (fun w J=>J cv w) (dk a b3 w)) fun b3=>Q5 a (fun bn=> ∀d bu w,b w→m d w→b3 bu w→Q0 d true w (Q3 P .neq T.y (.tmp 45) (.const (.int .i64 0)) bu (.int .i64 0)) (dk a bn w)) fun bn=>Q5 a (fun av=> ∀d b8 w,b w→m d w→bn b8 w→Q0 d true w (fun w J=>J b8 w) (dk a av w)) fun av=>Q5 a (fun a7=> ∀o w,b w→av o w→Q0 o true w (fun w J=>J c1 w) (dk a a7 w)) fun a7=>Q5 a (fun cb=> ∀o ce w,b w→av o w→a7 ce w→Q0 o true w (Q3 P .eql T.e (.tmp 48) (.const (.int .i64 0)) ce (.int .i64 0)) (dk a cb w)) fun cb=>Q5 a (fun ba=> ∀d o bs w,b w→m d w→av o w→cb bs w→Q0 d true w (pick P o bs (.bool false)) (dk a ba w)) fun ba=>Q5 a (fun v=> ∀d bo w,b w→m d w→ba bo w→Q0 d true w (fun w J=>J bo w) (dk a v w)) fun v=>Q5 a (fun bd=> ∀i w,b w→v i w→Q0 i false w (fun w J=>J cv w) (dk a bd w)) fun bd=>Q5 a (fun b9=> ∀i bz w,b w→v i w→bd bz w→Q0 i false w (Q3 P .eql T.y (.tmp 52) (.const (.int .i64 0)) bz (.int .i64 0)) (dk a b9 w)) fun b9=>Q5 a (fun s=> ∀i bm w,b w→v i w→b9 bm w→Q0 i false w (fun w J=>J bm w) (dk a s w)) fun s=>Q5 a (fun b4=> ∀g w,b w→s g w→Q0 g true w (fun w J=>J c1 w) (dk a b4 w)) fun b4=>Q5 a (fun br=> ∀g w,b w→s g w→Q0 g true w (fieldAddr P T.a t4 2) (dk a br w)) fun br=>Q5 a (fun cl=> ∀w,b w→Q2 P T.a t8 w (dk a cl w)) fun cl=>Q5 a (fun b7=> ∀g cd w,b w→s g w→br cd w→Q0 g true w (Q2 P T.f cd) (dk a b7 w)) fun b7=>Q5 a (fun bh=> ∀g a8 w,b w→s g w→b7 a8 w→Q0 g true w (X2 P .len [T.f] T.e [false] [a8]) (dk a bh w)) fun bh=>Q5 a (fun b5=> ∀g a9 bx w,b w→s g w→b4 a9 w→bh bx w→Q0 g true w (Q3 P .eql T.e (.tmp 55) (.tmp 58) a9 bx) (dk a b5 w)) fun b5=>Q5 a (fun cc=> ∀i g bc w,b w→v i w→s g w→b5 bc w→Q0 i false w (pick P g bc (.bool false)) (dk a cc w)) fun cc=>Q5 a (fun ca=> ∀d i cf w,b w→m d w→v i w→cc cf w→Q0 d true w (pick P i (.bool true) cf) (dk a ca w)) fun ca=>Q5 a (fun ct=> ∀d bq w,b w→m d w→ca bq w→pick P d bq (.bool false) w (dk a ct w)) fun ct=>Sr a (fun k=> ∀aq w,b w→cl aq w→X9 P T.a t6 aq w (dk a (k [aq]) w)) fun k=>∀d bu b8 o ce bs bo i bz bm g a9 cd aq a8 bx bc cf bq da cw w,b w→m d w→b3 bu w→bn b8 w→av o w→a7 ce w→cb bs w→ba bo w→v i w→bd bz w→b9 bm w→s g w→b4 a9 w→br cd w→cl aq w→b7 a8 w→bh bx w→b5 bc w→cc cf w→ca bq w→ct da w→k [aq] cw w→ Y7 P T.a t6 w fun r0=>K (.tuple #[r0,da]) w) (Q3 P .eql T.e (.tmp 23) (.const (.int .i64 1)) ay (.int .i64 1) w fun eu w=>X1 eu (Q2 P T.a t4 w fun ek w=>fieldAddr P T.n r 1 w fun ec w=>Q2 P T.c ec w fun ej w=>fieldAddr P T.n r 2 w fun em w=>Q2 P T.a1 em w fun eh w=>Q1 P F.bk [ek,ej,eh] w fun cy w=>ext P cy 0 w fun ei w=>ext P cy 1 w fun cs w=>W1 P T.a w fun dm w=>X9 P T.a dm ei w fun _u w=>fieldAddr P T.n r 1 w fun ee w=>Q2 P T.c ee w fun er w=>fieldAddr P T.n r 2 w fun ea w=>Q2 P T.a1 ea w fun eg w=>Q1 P F.aP [a0,er,eg] w fun ds w=>ext P ds 0 w fun dp w=>ext P ds 1 w fun ed w=>dr w fun a b=>Q5 a (fun l=> ∀w,b w→Q3 P .eql T.y (.tmp 84) (.tmp 85) cs ed w (dk a l w)) fun l=>Q5 a (fun ck=> ∀c w,b w→l c w→Q0 c true w (fun w J=>J cs w) (dk a ck w)) fun ck=>Q5 a (fun b2=> ∀c bg w,b w→l c w→ck bg w→Q0 c true w (Q3 P .neq T.y (.tmp 88) (.const (.int .i64 0)) bg (.int .i64 0)) (dk a b2 w)) fun b2=>Q5 a (fun aw=> ∀c bp w,b w→l c w→b2 bp w→Q0 c true w (fun w J=>J bp w) (dk a aw w)) fun aw=>Q5 a (fun bl=> ∀n w,b w→aw n w→Q0 n true w (fun w J=>J dp w) (dk a bl w)) fun bl=>Q5 a (fun b1=> ∀n bb w,b w→aw n w→bl bb w→Q0 n true w (Q3 P .eql T.e (.tmp 91) (.const (.int .i64 0)) bb (.int .i64 0)) (dk a b1 w)) fun b1=>Q5 a (fun be=> ∀c n bi w,b w→l c w→aw n w→b1 bi w→Q0 c true w (pick P n bi (.bool false)) (dk a be w)) fun be=>Q5 a (fun u=> ∀c cj w,b w→l c w→be cj w→Q0 c true w (fun w J=>J cj w) (dk a u w)) fun u=>Q5 a (fun cg=> ∀h w,b w→u h w→Q0 h false w (fun w J=>J cs w) (dk a cg w)) fun cg=>Q5 a (fun bv=> ∀h bk w,b w→u h w→cg bk w→Q0 h false w (Q3 P .eql T.y (.tmp 95) (.const (.int .i64 0)) bk (.int .i64 0)) (dk a bv w)) fun bv=>Q5 a (fun t=> ∀h bw w,b w→u h w→bv bw w→Q0 h false w (fun w J=>J bw w) (dk a t w)) fun t=>Q5 a (fun bj=> ∀f w,b w→t f w→Q0 f true w (fun w J=>J dp w) (dk a bj w)) fun bj=>Q5 a (fun ci=> ∀f w,b w→t f w→Q0 f true w (fieldAddr P T.a t4 2) (dk a ci w)) fun ci=>Q5 a (fun b0=> ∀w,b w→Q2 P T.a dm w (dk a b0 w)) fun b0=>Q5 a (fun Y=> ∀f b6 w,b w→t f w→ci b6 w→Q0 f true w (Q2 P T.f b6) (dk a Y w)) fun Y=>Q5 a (fun E=> ∀f U w,b w→t f w→Y U w→Q0 f true w (X2 P .len [T.f] T.e [false] [U]) (dk a E w)) fun E=>Q5 a (fun A=> ∀f bf B w,b w→t f w→bj bf w→E B w→Q0 f true w (Q3 P .eql T.e (.tmp 98) (.tmp 101) bf B) (dk a A w)) fun A=>Q5 a (fun an=> ∀h f ap w,b w→u h w→t f w→A ap w→Q0 h false w (pick P f ap (.bool false)) (dk a an w)) fun an=>Q5 a (fun z=> ∀c h O w,b w→l c w→u h w→an O w→Q0 c true w (pick P h (.bool true) O) (dk a z w)) fun z=>Q5 a (fun a5=> ∀c D w,b w→l c w→z D w→pick P c D (.bool false) w (dk a a5 w)) fun a5=>Sr a (fun k=> ∀ar w,b w→b0 ar w→X9 P T.a t6 ar w (dk a (k [ar]) w)) fun k=>∀c bg bp n bb bi cj h bk bw f bf b6 ar U B ap O D cm cw w,b w→l c w→ck bg w→b2 bp w→aw n w→bl bb w→b1 bi w→be cj w→u h w→cg bk w→bv bw w→t f w→bj bf w→ci b6 w→b0 ar w→Y U w→E B w→A ap w→an O w→z D w→a5 cm w→k [ar] cw w→ Y7 P T.a t6 w fun r0=>K (.tuple #[r0,cm]) w) (Q3 P .eql T.e (.tmp 23) (.const (.int .i64 2)) ay (.int .i64 2) w fun d6 w=>X1 d6 (Q2 P T.a t4 w fun dj w=>fieldAddr P T.n r 3 w fun db w=>Q2 P T.e db w fun c8 w=>fieldAddr P T.n r 2 w fun cz w=>Q2 P T.a1 cz w fun dd w=>fieldAddr P T.n r 4 w fun d4 w=>Q2 P T.g d4 w fun d1 w=>Q1 P F.bO [dj,c8,dd,d1] w fun cq w=>ext P cq 0 w fun dt w=>ext P cq 1 w fun du w=>W1 P T.a w fun dg w=>X9 P T.a dg dt w fun _u w=>dr w fun a b=>Q5 a (fun ao=> ∀w,b w→fieldAddr P T.n r 3 w (dk a ao w)) fun ao=>Q5 a (fun Z=> ∀w,b w→fieldAddr P T.n r 2 w (dk a Z w)) fun Z=>Q5 a (fun am=> ∀w,b w→fieldAddr P T.n r 4 w (dk a am w)) fun am=>Q5 a (fun Q=> ∀w,b w→Q2 P T.a dg w (dk a Q w)) fun Q=>Q5 a (fun ac=> ∀ah w,b w→ao ah w→Q2 P T.e ah w (dk a ac w)) fun ac=>Q5 a (fun ak=> ∀ai w,b w→Z ai w→Q2 P T.a1 ai w (dk a ak w)) fun ak=>Q5 a (fun al=> ∀ab w,b w→am ab w→Q2 P T.g ab w (dk a al w)) fun al=>Q5 a (fun af=> ∀L aj y w,b w→ac L w→ak aj w→al y w→Q1 P F.b3 [a0,L,aj,y] w (dk a af w)) fun af=>Q5 a (fun a3=> ∀H w,b w→af H w→Q3 P .eql T.y (.tmp 127) (.tmp 128) H du w (dk a a3 w)) fun a3=>Sr a (fun a4=> ∀q w,b w→Q q w→X9 P T.a t6 q w (dk a (a4 [q]) w)) fun a4=>∀ah ai ab q L aj y H cp et w,b w→ao ah w→Z ai w→am ab w→Q q w→ac L w→ak aj w→al y w→af H w→a3 cp w→a4 [q] et w→ Y7 P T.a t6 w fun r0=>K (.tuple #[r0,cp]) w) (Q3 P .eql T.e (.tmp 23) (.const (.int .i64 3)) ay (.int .i64 3) w fun dv w=>X1 dv (Q2 P T.a t4 w fun dw w=>fieldAddr P T.n r 3 w fun d2 w=>Q2 P T.e d2 w fun c3 w=>fieldAddr P T.n r 2 w fun c9 w=>Q2 P T.a1 c9 w fun d5 w=>Q1 P F.bP [dw,c3,d5] w fun cn w=>ext P cn 0 w fun c4 w=>ext P cn 1 w fun dn w=>W1 P T.g w fun dc w=>X9 P T.g dc c4 w fun _u w=>fieldAddr P T.n r 3 w fun dx w=>Q2 P T.e dx w fun dz w=>fieldAddr P T.n r 2 w fun d3 w=>Q2 P T.a1 d3 w fun di w=>Q1 P F.c1 [a0,dz,di] w fun co w=>ext P co 0 w fun d0 w=>ext P co 1 w fun de w=>W1 P T.g w fun dy w=>X9 P T.g dy d0 w fun _u w=>dr w fun a b=>Q5 a (fun R=> ∀w,b w→Q2 P T.a t4 w (dk a R w)) fun R=>Q5 a (fun W=> ∀w,b w→Q2 P T.g dc w (dk a W w)) fun W=>Q5 a (fun ae=> ∀w,b w→Q2 P T.g dy w (dk a ae w)) fun ae=>Q5 a (fun j=> ∀ad aa w,b w→W ad w→ae aa w→Q3 P .eql T.g (.tmp 151) (.tmp 152) ad aa w (dk a j w)) fun j=>Q5 a (fun X=> ∀e w,b w→j e w→Q0 e true w (fun w J=>J dn w) (dk a X w)) fun X=>Q5 a (fun C=> ∀e w,b w→j e w→Q0 e true w (fun w J=>J de w) (dk a C w)) fun C=>Q5 a (fun N=> ∀e M ag w,b w→j e w→X M w→C ag w→Q0 e true w (Q3 P .eql T.y (.tmp 155) (.tmp 156) M ag) (dk a N w)) fun N=>Q5 a (fun a6=> ∀e V w,b w→j e w→N V w→pick P e V (.bool false) w (dk a a6 w)) fun a6=>Sr a (fun cu=> ∀p w,b w→R p w→X9 P T.a t6 p w (dk a (cu [p]) w)) fun cu=>∀p ad aa e M ag V cr u9 w,b w→R p w→W ad w→ae aa w→j e w→X M w→C ag w→N V w→a6 cr w→cu [p] u9 w→ Y7 P T.a t6 w fun r0=>K (.tuple #[r0,cr]) w) (Q3 P .eql T.e (.tmp 23) (.const (.int .i64 4)) ay (.int .i64 4) w fun d7 w=>X1 d7 (fieldAddr P T.n r 3 w fun c5 w=>Q2 P T.e c5 w fun dl w=>Q1 P F.c4 [a0,dl] w fun ew w=>Q2 P T.a t4 w fun df w=>fieldAddr P T.n r 3 w fun cx w=>Q2 P T.e cx w fun dh w=>Q1 P F.bQ [df,dh] w fun c6 w=>X9 P T.a t6 c6 w fun _u w=>Y7 P T.a t6 w fun r0=>K (.tuple #[r0,(.bool true)]) w) (Q2 P T.a t4 w fun c7 w=>X9 P T.a t6 c7 w fun _u w=>Y7 P T.a t6 w fun r0=>K (.tuple #[r0,(.bool true)]) w)))))
theorem Q1J {b c a:Value} {w:World} {K:Value→World→Prop} (h:Hr b c a w K):Q1 P F.ai [b,c,a] w K:=Q9 (List.replicate 22 none) Tryz.func26 rfl (by decide) (by kernel_rfl) h
def Av:V7:=[none,none,none,none,none,none,some ([5],[4,5,6,12,13,14,15,16,17,18,19,20,21,22,23,24,25,26,27,28,29,30,31,32,33,34,35,36,37,38,39,40,41,42,43,44,45,46,47,48,49,50,51,52,53,54,55,56,57,58,59,60,61,62,63,64,65,66,67,68,69,70]),none,none,none,none,none,none,none,some ([6],[4,6,44,45,46,47,48,49,50,51,52,53,54,55,56,57,58,59,60,61,62,63,64,65,66,67,68,69,70]),none,none,none,none,none,none]
def Oh (a0 a1:Value) (w:World) (K:Value→World→Prop):Prop:= X2 P .len [T.f] T.e [false] [a0] w fun t8 w=>X2 P .len [T.f] T.e [false] [a1] w fun bb w=>Q3 P .neq T.e (.tmp 8) (.tmp 10) t8 bb w fun a7 w=>X1 a7 (K (.bool false) w) (lp (α:=Value) (.int .i64 0) w fun R x6 d_ w=>X2 P .len [T.f] T.e [false] [a0] w fun a4 w=>Q3 P .lss T.e (.tmp 12) (.tmp 14) x6 a4 w fun bf w=>X1 bf (dr w fun b c=>Q5 b (fun E=> ∀w,c w→indexAddr P T.f a0 x6 w (dk b E w)) fun E=>Q5 b (fun g=> ∀L w,c w→E L w→fieldAddr P T.m L 0 w (dk b g w)) fun g=>Q5 b (fun n=> ∀w,c w→indexAddr P T.f a1 x6 w (dk b n w)) fun n=>Q5 b (fun Y=> ∀aa w,c w→n aa w→fieldAddr P T.m aa 0 w (dk b Y w)) fun Y=>Q5 b (fun W=> ∀q w,c w→g q w→Q2 P T.c q w (dk b W w)) fun W=>Q5 b (fun ah=> ∀z w,c w→Y z w→Q2 P T.c z w (dk b ah w)) fun ah=>Q5 b (fun d=> ∀ab t w,c w→W ab w→ah t w→Q3 P .neq T.c (.tmp 22) (.tmp 27) ab t w (dk b d w)) fun d=>Q5 b (fun ak=> ∀a w,c w→d a w→Q0 a false w (fun w J=>J a0 w) (dk b ak w)) fun ak=>Q5 b (fun an=> ∀a w,c w→d a w→Q0 a false w (fun w J=>J x6 w) (dk b an w)) fun an=>Q5 b (fun y=> ∀a v Q w,c w→d a w→ak v w→an Q w→Q0 a false w (indexAddr P T.f v Q) (dk b y w)) fun y=>Q5 b (fun ae=> ∀a M w,c w→d a w→y M w→Q0 a false w (fieldAddr P T.m M 1) (dk b ae w)) fun ae=>Q5 b (fun ai=> ∀a w,c w→d a w→Q0 a false w (fun w J=>J a1 w) (dk b ai w)) fun ai=>Q5 b (fun f=> ∀a w,c w→d a w→Q0 a false w (fun w J=>J x6 w) (dk b f w)) fun f=>Q5 b (fun s=> ∀a o m w,c w→d a w→ai o w→f m w→Q0 a false w (indexAddr P T.f o m) (dk b s w)) fun s=>Q5 b (fun ag=> ∀a p w,c w→d a w→s p w→Q0 a false w (fieldAddr P T.m p 1) (dk b ag w)) fun ag=>Q5 b (fun i=> ∀a D w,c w→d a w→ae D w→Q0 a false w (Q2 P T.l D) (dk b i w)) fun i=>Q5 b (fun ao=> ∀a U w,c w→d a w→i U w→Q0 a false w (X2 P .len [T.l] T.e [false] [U]) (dk b ao w)) fun ao=>Q5 b (fun A=> ∀a aj w,c w→d a w→ag aj w→Q0 a false w (Q2 P T.l aj) (dk b A w)) fun A=>Q5 b (fun ap=> ∀a r w,c w→d a w→A r w→Q0 a false w (X2 P .len [T.l] T.e [false] [r]) (dk b ap w)) fun ap=>∀L q aa z ab t a v Q M D o m p aj U ax r aw w,c w→E L w→g q w→n aa w→Y z w→W ab w→ah t w→d a w→ak v w→an Q w→y M w→ae D w→ai o w→f m w→s p w→ag aj w→i U w→ao ax w→A r w→ap aw w→ Q0 a false w (Q3 P .neq T.e (.tmp 35) (.tmp 41) ax aw) fun a3 w=>pick P a (.bool true) a3 w fun a9 w=>X1 a9 (K (.bool false) w) (lp (α:=Value) (.int .i64 0) w fun e l d_ w=>indexAddr P T.f a0 x6 w fun bg w=>fieldAddr P T.m bg 1 w fun a8 w=>Q2 P T.l a8 w fun bc w=>X2 P .len [T.l] T.e [false] [bc] w fun a6 w=>Q3 P .lss T.e (.tmp 44) (.tmp 50) l a6 w fun bd w=>X1 bd (dr w fun b c=>Q5 b (fun ad=> ∀w,c w→indexAddr P T.f a0 x6 w (dk b ad w)) fun ad=>Q5 b (fun O=> ∀Z w,c w→ad Z w→fieldAddr P T.m Z 1 w (dk b O w)) fun O=>Q5 b (fun X=> ∀w,c w→indexAddr P T.f a1 x6 w (dk b X w)) fun X=>Q5 b (fun j=> ∀am w,c w→X am w→fieldAddr P T.m am 1 w (dk b j w)) fun j=>Q5 b (fun C=> ∀k w,c w→O k w→Q2 P T.l k w (dk b C w)) fun C=>Q5 b (fun V=> ∀h w,c w→C h w→indexAddr P T.l h l w (dk b V w)) fun V=>Q5 b (fun aq=> ∀ac w,c w→V ac w→Q2 P T.g ac w (dk b aq w)) fun aq=>Q5 b (fun u=> ∀N w,c w→j N w→Q2 P T.l N w (dk b u w)) fun u=>Q5 b (fun al=> ∀H w,c w→u H w→indexAddr P T.l H l w (dk b al w)) fun al=>Q5 b (fun ar=> ∀B w,c w→al B w→Q2 P T.g B w (dk b ar w)) fun ar=>∀Z k am N h ac az H B ay w,c w→ad Z w→O k w→X am w→j N w→C h w→V ac w→aq az w→u H w→al B w→ar ay w→ Q3 P .neq T.g (.tmp 61) (.tmp 69) az ay w fun be w=>X1 be (K (.bool false) w) (Q3 P .add T.e (.tmp 52) (.const (.int .i64 1)) l (.int .i64 1) w fun a5 w=>e a5 w)) (Q3 P .add T.e (.tmp 16) (.const (.int .i64 1)) x6 (.int .i64 1) w fun ba w=>R ba w))) (K (.bool true) w))
theorem Az {a b:Value} {w:World} {K:Value→World→Prop} (h:Oh a b w K):Q1 P F.bB [a,b] w K:=Q9 Av Tryz.func38 rfl (by decide) (by kernel_rfl) h
end Go.Proofs.YtjdiakhipmggjaaGreatDoor

set_option maxRecDepth 100000
namespace Go.Proofs.YtjdiakhipmggjaaGreatDoor
open Go.Emb
def Sg:V7:=[none,none,none,none,none,none,none,some ([7],[7,22,23,24,25,26,27,28,29,30,31,32,33,34,35,36,37,38,39,40,41,42,43,44,45,46]),none,none,some ([],[32,33,34,35,36,37,38,39,40,41,42,43,44,45,46]),none,none,none,none,some ([9],[9,10,49,50,51,52,53,54,55,56,57,58,59,60,61,62,63,64,65,66,67,68,69,70,71,72,73,74,75,76]),none,none,none,none,none,some ([10],[10,59,60,61,62,63,64,65,66,67,68,69,70,71,72,73,74,75,76]),none,none,none,none]
def Jw (a0 a1:Value) (w:World) (K:Value→World→Prop):Prop:= Q1 P F.ah [a0] w fun t w=>ext P t 0 w fun g w=>ext P t 1 w fun al w=>W1 P T.a w fun u w=>X9 P T.a u al w fun _u w=>Q1 P F.aH [] w fun af w=>J8 P .not af w fun k w=>Q0 k false w (fun w J=>J g w) fun ab w=>Q0 k false w (Q3 P .eql T.a5 (.tmp 19) (.const (.pointer none)) ab (.pointer none)) fun M w=>pick P k (.bool true) M w fun U w=>X1 U (K (.bool false) w) (lp (α:=Value) (.int .i64 0) w fun f q Z w=>X2 P .len [T.z] T.e [false] [a1] w fun A w=>Q3 P .lss T.e (.tmp 22) (.tmp 24) q A w fun j w=>Q0 j true w (fun w J=>J q w) fun W w=>Q0 j true w (Q3 P .lss T.e (.tmp 27) (.const (.int .i64 30)) W (.int .i64 30)) fun V w=>pick P j V (.bool false) w fun ac w=>X1 ac (jn (α:=Unit) w (fun r w=>indexAddr P T.z a1 q w fun L w=>Q2 P T.n L w fun ai w=>Q1 P F.aA [ai] w fun R w=>X1 R (sq w fun w=>indexAddr P T.z a1 q w fun aa w=>Q2 P T.a u w fun aj w=>Q2 P T.n aa w fun X w=>Q1 P F.ai [g,aj,X] w fun p w=>ext P p 0 w fun ad w=>ext P p 1 w fun ar w=>X9 P T.a u ad w fun _u w=>r () w) (r () w)) fun av Z w=>Q3 P .add T.e (.tmp 30) (.const (.int .i64 1)) q (.int .i64 1) w fun C w=>f C w) (Q1 P F.ab [g] w fun e w=>lp (α:=Value) (.int .i64 0) w fun b c Z w=>X2 P .len [T.f] T.e [false] [e] w fun Y w=>Q3 P .lss T.e (.tmp 49) (.tmp 51) c Y w fun Q w=>X1 Q (indexAddr P T.f e c w fun H w=>fieldAddr P T.m H 0 w fun E w=>X9 P T.c E (.string ⟨#[120]⟩) w fun _u w=>lp (α:=Value) (.int .i64 0) w fun a l Z w=>indexAddr P T.f e c w fun B w=>fieldAddr P T.m B 1 w fun ak w=>Q2 P T.l ak w fun ao w=>X2 P .len [T.l] T.e [false] [ao] w fun y w=>Q3 P .lss T.e (.tmp 59) (.tmp 65) l y w fun am w=>X1 am (indexAddr P T.f e c w fun N w=>fieldAddr P T.m N 1 w fun O w=>Q2 P T.l O w fun D w=>E3 P T.g [(0,(.int .i64 9))] w fun ag w=>indexAddr P T.l D l w fun ah w=>X9 P T.g ah ag w fun _u w=>Q3 P .add T.e (.tmp 67) (.const (.int .i64 1)) l (.int .i64 1) w fun ae w=>a ae w) (Q3 P .add T.e (.tmp 53) (.const (.int .i64 1)) c (.int .i64 1) w fun z w=>b z w)) (dr w fun n v=>Q5 n (fun d=> ∀w,v w→fieldAddr P T.a u 2 w (dk n d w)) fun d=>Q5 n (fun i=> ∀w,v w→Q1 P F.ab [g] w (dk n i w)) fun i=>Q5 n (fun m=> ∀h w,v w→d h w→Q2 P T.f h w (dk n m w)) fun m=>∀h s o w,v w→d h w→i s w→m o w→ Q1 P F.bB [s,o] w fun ap w=>K ap w)))
theorem Sd {a b:Value} {w:World} {K:Value→World→Prop} (h:Jw a b w K):Q1 P F.c7 [a,b] w K:=Q9 Sg Tryz.func10 rfl (by decide) (by kernel_rfl) h
end Go.Proofs.YtjdiakhipmggjaaGreatDoor


namespace Go.Emb
open Go.RowKit (Below)
variable {P : Program} {w w' : World} {K : Value → World → Prop}
theorem Y0 {s:Sem Value} {v:Value} (h:s.run P w= .ok v w'):op P (sv s) w K=K v w':=by
 rw[T4];unfold P2 sv;simp[h]
theorem Uw {s:Sem Unit} (h:s.run P w= .ok () w'):op P (su s) w K=K undef w':=by
 rw[T4];unfold P2 su;simp[h]
abbrev S (l:List UInt8):Value:= .string ⟨l.toArray⟩
abbrev I (n:Int):Value:= .int .i64 n
theorem Ed {b:Bool} {x y:Value}:pick P (.bool b) x y w K=K (if b then x else y) w:=by
 unfold pick;rw[T4];unfold P2;cases b<;>simp[asBool]
theorem M5 {x y:Value}:pick P (.bool true) x y w K=K x w:=by rw[Ed];rfl
theorem W9 {x y:Value}:pick P (.bool false) x y w K=K y w:=by rw[Ed];rfl
theorem X0Q {a b:Bool} {u:Value}:pick P (.bool a) (if a=true then .bool b else u) (.bool false) w K=K (.bool (a&&b)) w:=by
 rw[Ed];cases a<;>rfl
theorem X2o {a b:Bool} {u:Value}:pick P (.bool a) (.bool true) (if a=false then .bool b else u) w K=K (.bool (a||b)) w:=by
 rw[Ed];cases a<;>rfl
theorem W2 {c:World→(Value→World→Prop)→Prop}:Q0 (.bool true) true w c K=c w K:=by rw[Ei];simp[Na]
theorem W7 {c:World→(Value→World→Prop)→Prop}:Q0 (.bool false) false w c K=c w K:=by rw[Ei];simp[Na]
theorem S2 {c:World→(Value→World→Prop)→Prop}:Q0 (.bool true) false w c K=K undef w:=by rw[Ei];simp[Na]
theorem E1 {c:World→(Value→World→Prop)→Prop}:Q0 (.bool false) true w c K=K undef w:=by rw[Ei];simp[Na]
theorem O7 {b:Bool} {c:World→(Value→World→Prop)→Prop}:Q0 undef b w c K=K undef w:=by rw[Ei];rfl
theorem X0M {a b:Bool} {v:Value}:Q0 (.bool a) b w (fun w J=>J v w) K=K (if a=b then v else undef) w:=by
 rw[Ei];unfold Na;by_cases h:a=b<;>simp[h]
theorem Q5d {b:Bool} {t e:Prop}:X1 (.bool b) t e=if b=true then t else e:=by rw[Q6c];cases b<;>rfl
theorem H6 {t e:Prop}:X1 (.bool true) t e=t:=by rw[Q5d];simp
theorem M4 {t e:Prop}:X1 (.bool false) t e=e:=by rw[Q5d];simp
section ints
variable {k : IntKind} {t : TypeId} {ox oy : Operand} {a b : Int}
theorem Fu:Q3 P .add t ox oy (.int k a) (.int k b) w K=K (.int k (k.wrap (a+b))) w:=Y0 (by simp[eqGuard,Go.binOp,Op.intArith])
theorem Q3W:Q3 P .sub t ox oy (.int k a) (.int k b) w K=K (.int k (k.wrap (a-b))) w:=Y0 (by simp[eqGuard,Go.binOp,Op.intArith])
theorem Q7e:Q3 P .mul t ox oy (.int k a) (.int k b) w K=K (.int k (k.wrap (a*b))) w:=Y0 (by simp[eqGuard,Go.binOp,Op.intArith])
theorem Q3J:Q3 P .lss t ox oy (.int k a) (.int k b) w K=K (.bool (decide (a<b))) w:=Y0 (by simp[eqGuard,Go.binOp,Op.intCmp])
theorem Q3V:Q3 P .leq t ox oy (.int k a) (.int k b) w K=K (.bool (decide (a≤b))) w:=Y0 (by simp[eqGuard,Go.binOp,Op.intCmp])
theorem Rj:Q3 P .gtr t ox oy (.int k a) (.int k b) w K=K (.bool (decide (b<a))) w:=Y0 (by simp[eqGuard,Go.binOp,Op.intCmp])
theorem Q1o:Q3 P .geq t ox oy (.int k a) (.int k b) w K=K (.bool (decide (b≤a))) w:=Y0 (by simp[eqGuard,Go.binOp,Op.intCmp])
theorem Q1l:Q3 P .eql t ox oy (.int k a) (.int k b) w K=K (.bool (decide (a=b))) w:=Y0 (by
 simp[eqGuard,Go.binOp,Op.intCmp];rfl)
theorem Q3D:Q3 P .neq t ox oy (.int k a) (.int k b) w K=K (.bool (!decide (a=b))) w:=Y0 (by
 simp[eqGuard,Go.binOp,Op.intCmp];rfl)
end ints
theorem Q3B {b:Bool}:J8 P .not (.bool b) w K=K (.bool (!b)) w:=Y0 (by simp[Op.unary])
section bools
variable {t : TypeId} {ox oy : Operand} {a b : Bool}
theorem Q2I (d:Nat) (h:P.underlying t=some .bool):(Op.equalIn (d+1) t (.bool a) (.bool b)).run P w= .ok (a==b) w:=by
 simp[Op.equalIn,run_underlying h]
theorem Gn (h:P.underlying t=some .bool):(Op.equal t (.bool a) (.bool b)).run P w= .ok (a==b) w:=Q2I 9999 h
theorem Q5S (h:P.underlying t=some .bool):Q3 P .eql t ox oy (.bool a) (.bool b) w K=K (.bool (a==b)) w:=Y0 (by
 simp[eqGuard,Go.binOp,Gn h])
theorem Q5n (h:P.underlying t=some .bool):Q3 P .neq t ox oy (.bool a) (.bool b) w K=K (.bool (!(a==b))) w:=Y0 (by
 simp[eqGuard,Go.binOp,Gn h])
end bools
theorem Ue {vs:List Value} {i:Nat} {v:Value} (h:vs[i]? =some v):ext P (.tuple vs.toArray) i w K=K v w:=Y0 (by
 simp[Instr.extract,h])
theorem X31 {a b:Value}:ext P (.tuple #[a,b]) 0 w K=K a w:=Ue (vs:=[a,b]) rfl
theorem X2P {a b:Value}:ext P (.tuple #[a,b]) 1 w K=K b w:=Ue (vs:=[a,b]) rfl
theorem X1h {a b c:Value}:ext P (.tuple #[a,b,c]) 0 w K=K a w:=Ue (vs:=[a,b,c]) rfl
theorem X1r {a b c:Value}:ext P (.tuple #[a,b,c]) 1 w K=K b w:=Ue (vs:=[a,b,c]) rfl
theorem X1d {a b c:Value}:ext P (.tuple #[a,b,c]) 2 w K=K c w:=Ue (vs:=[a,b,c]) rfl
theorem F9 {n:Int} (e: -9223372036854775808≤n) (c:n≤9223372036854775807):IntKind.i64.wrap n=n:=by
 have d:n % 18446744073709551616=n∨n % 18446744073709551616=n+18446744073709551616:=by omega
 show (if (true&&decide (n % 18446744073709551616≥9223372036854775808))=true then n % 18446744073709551616-18446744073709551616 else n % 18446744073709551616)=n
 simp only[Bool.true_and,decide_eq_true_eq]
 split<;>omega
theorem w32 {n:Int} (d: -2147483648≤n) (c:n≤2147483647):IntKind.i32.wrap n=n:=by
 show (if (true&&decide (n % 4294967296≥2147483648))=true then n % 4294967296-4294967296 else n % 4294967296)=n
 simp only[Bool.true_and,decide_eq_true_eq]
 split<;>omega
section strs
variable {t : TypeId} {ox oy : Operand} {a b : List UInt8}
theorem Q3Z (a b:List UInt8):(a==b)=decide (a=b):=by rw[Bool.eq_iff_iff];simp
theorem Bw:Q3 P .eql t ox oy (S a) (S b) w K=K (.bool (decide (a=b))) w:=Y0 (by
 simp[eqGuard,Go.binOp,Op.stringOp,Q3Z])
theorem Bx:Q3 P .neq t ox oy (S a) (S b) w K=K (.bool (!decide (a=b))) w:=Y0 (by
 simp[eqGuard,Go.binOp,Op.stringOp,Q3Z])
theorem I9 (l:List UInt8):(ByteArray.mk l.toArray).size=l.length:=by simp[ByteArray.size]
theorem Q9p (a b:List UInt8):ByteArray.mk a.toArray++ByteArray.mk b.toArray=ByteArray.mk (a++b).toArray:=by
 apply ByteArray.ext;simp
theorem X3x:IntKind.i64.max=9223372036854775807:=by decide
theorem Q22 (h:a.length+b.length≤9223372036854775807):Q3 P .add t ox oy (S a) (S b) w K=K (S (a++b)) w:=Y0 (by
 have c: ¬(((a.length+b.length:Nat):Int)>IntKind.i64.max):=by rw[X3x];omega
 simp only[eqGuard,Go.binOp,Op.stringOp,I9,Q9p]
 simp only[if_neg c]
 simp)
theorem R2 {cs:List Bool} {r:TypeId} (c:P.underlying t=some .string):X2 P .len [t] r cs [S a] w K=K (I a.length) w:=by
 have h:(Builtin.len_ #[t] r #[S a]).run P w= .ok (I a.length) w:=by
  simp[Builtin.len_,run_underlying c,I9,goInt]
 exact Y0 h
theorem Xw {i:Int} (c:P.underlying t=some .string) (d:0≤i) (h:i.toNat<a.length):C2 P t (S a) (I i) w K=K (.int .u8 (a[i.toNat]'h).toNat) w:=Y0 (by
 simp only[Instr.index,asIntOf,Sem.run_bind,Sem.run_pure,Result.andThen_ok,run_underlying c,d,if_true]
 have:(ByteArray.mk a.toArray)[i.toNat]? =some (a[i.toNat]'h):=by
  rw[getElem?_pos _ _ (by rw[I9];exact h)]
  rfl
 rw[this];simp)
theorem Q3h (l:List UInt8) (i j:Nat):(ByteArray.mk l.toArray).extract i j=ByteArray.mk ((l.take j).drop i).toArray:=by
 apply ByteArray.ext
 apply Array.ext'
 simp[List.drop_take]
theorem Ut {i:Int} (c:P.underlying t=some .string) (d:0≤i) (h:i≤a.length):R6 P t (S a) (some (I i)) none none w K=K (S (a.drop i.toNat)) w:=Y0 (by
 simp[Instr.sliceAt,Instr.slice,Instr.sliceBounds,Instr.sliceBound,asIntOf,run_underlying c,d,h,I9,Q3h])
theorem T3 {i:Int} (c:P.underlying t=some .string) (d:0≤i) (h:i≤a.length):R6 P t (S a) none (some (I i)) none w K=K (S (a.take i.toNat)) w:=Y0 (by
 simp[Instr.sliceAt,Instr.slice,Instr.sliceBounds,Instr.sliceBound,asIntOf,run_underlying c,d,h,I9,Q3h])
end strs
theorem Iz {s d:TypeId} {k j:IntKind} {n:Int} {ds:TypeDesc} (c:P.underlying s=some ds) (e:P.underlying d=some (.int k)):conv P s d (.int j n) w K=K (.int k (k.wrap n)) w:=Y0 (by
 simp[Go.convert,run_underlying c,run_underlying e,Conv.intToInt])
def Q0j (w:World) (r:Nat) (o:Obj):World:={w with heap:=w.heap.setIfInBounds r o}
theorem Q46 {B r:Nat} {a w:World} {o:Obj} (h:Below B a w) (d:B≤r):Below B a (Q0j w r o):=
 h.trans ⟨rfl,rfl,rfl,by simp[Q0j],fun k c=>by simp only[Q0j];rw[Array.getElem?_setIfInBounds_ne (by omega)]⟩
theorem Q7r {w:World} {r:Nat} {o:Obj} (h:r<w.heap.size):(Q0j w r o).heap[r]? =some o:=by
 simp only[Q0j];rw[Array.getElem?_setIfInBounds_self_of_lt h]
theorem X1G {t:TypeId} {a:List UInt8} (c:P.underlying t=some .string):rng P t (S a) w K=K (.pointer (some ⟨w.heap.size,0,none⟩)) (w.alloc (.stringIter ⟨a.toArray⟩ 0)):=Y0 (by
 simp[Instr.range,run_underlying c])
theorem X1U {t:TypeId} {r pos:Nat} {s:ByteArray} (h:w.heap[r]? =some (.stringIter s pos)) (c:pos<s.size):
 W3 P (.pointer (some ⟨r,0,none⟩)) true t w K=K (.tuple #[.bool true,I pos, .int .i32 (Utf8.decode s pos).1]) (Q0j w r (.stringIter s (pos+(Utf8.decode s pos).2))):=Y0 (by
 have d: ∀(k:Obj→Sem Value),(getObj r>>=k).run P w=(k (.stringIter s pos)).run P w:=by
  intro k;rw[Sem.run_bind];simp[getObj,Sem.run,h]
 have e: ∀o,(setObj r o).run P w= .ok () (Q0j w r o):=by intro o;simp[setObj,Sem.run,h,Q0j]
 unfold Instr.next
 simp only[d,c,if_true]
 simp[e,goInt])
theorem Q6H {t:TypeId} {r pos:Nat} {s:ByteArray} (h:w.heap[r]? =some (.stringIter s pos)) (c: ¬pos<s.size):
 W3 P (.pointer (some ⟨r,0,none⟩)) true t w K=K (.tuple #[.bool false]) w:=Y0 (by
 have d: ∀(k:Obj→Sem Value),(getObj r>>=k).run P w=(k (.stringIter s pos)).run P w:=by
  intro k;rw[Sem.run_bind];simp[getObj,Sem.run,h]
 unfold Instr.next
 simp only[d,c,if_false]
 simp)
theorem X1l {a:Value}:ext P (.tuple #[a]) 0 w K=K a w:=Ue (vs:=[a]) rfl
theorem Q8G {s:ByteArray} {i:Nat} (h:(s.get! i).toNat<128):Utf8.decode s i=((s.get! i).toNat,1):=by
 unfold Utf8.decode
 simp only[Nat.add_zero]
 rw[if_pos h]
theorem Q6Z {s:ByteArray} {i:Nat} (h: ¬(s.get! i).toNat<128):128≤(Utf8.decode s i).1:=by
 unfold Utf8.decode
 simp only[Nat.add_zero]
 rw[if_neg h]
 repeat' split
 all_goals (simp only[Utf8.runeError] at*;try omega)
 all_goals (simp only[Bool.and_eq_true,decide_eq_true_eq,ge_iff_le] at*;omega)
theorem Q5Q {s:ByteArray} {i:Nat}:1≤(Utf8.decode s i).2:=by
 unfold Utf8.decode
 simp only
 repeat' split
 all_goals simp
def Iq (p:Int→Bool) (s:ByteArray):Nat→Nat→Bool
 | 0,_=>true
 | n+1,i=>if i<s.size then p (Utf8.decode s i).1&&Iq p s n (i+(Utf8.decode s i).2) else true
theorem Q3A {a:List UInt8} {i:Nat} (h:i<a.length):(ByteArray.mk a.toArray).get! i=a[i]:=by
 show (ByteArray.mk a.toArray).data[i]! =a[i]
 simp[h]
theorem Q7S (p:Int→Bool) (e: ∀c:Int,128≤c→p c=false) (a:List UInt8): ∀(n i:Nat),a.length-i≤n→Iq p ⟨a.toArray⟩ n i=(a.drop i).all (fun b=>p b.toNat):=by
 intro n
 induction n with
 | zero=>intro i h;rw[List.drop_eq_nil_of_le (by omega)];rfl
 | succ n g=>
  intro i h
  simp only[Iq,I9]
  split
  ·rename_i d
   rw[List.drop_eq_getElem_cons d,List.all_cons]
   by_cases f:a[i].toNat<128
   ·rw[Q8G (by rw[Q3A d];exact f),Q3A d]
    simp only
    rw[g (i+1) (by omega)]
   ·have j:=Q6Z (s:=⟨a.toArray⟩) (i:=i) (by rw[Q3A d];exact f)
    rw[e _ (by omega),e _ (by omega)];rfl
  ·rename_i d;rw[List.drop_eq_nil_of_le (by omega)];rfl
theorem U6 {α:Type} {A:(α→World→Prop)→World→Prop} {B:α→(Nat→Value)→World→Prop} (h:A (fun x w=> ∀d,B x d w) w):jn w A B:=Ur _ h (fun _ d _ c=>c d)
theorem X4 {d:World→World→Prop} {A c:(Value→World→Prop)→Prop} (V:Value) (h:A (fun v _=>v=V)) (e:c (fun v _=>v=V)):Q5 d A c:=
 H0 _ (fun _ _ _ h _=>h) h e
theorem Dn {w w0:World} {A:(World→World→Prop)→(World→Prop)→Prop} (d:Below w0.heap.size w0 w)
 (h:A (fun w w'=>Below w.heap.size w w') (fun w'=>Below w0.heap.size w0 w')):dr w A:=
 Is _ _ d.drew (fun _ _ c e=>c.trans (e.mono c.size)) h
theorem Q2O {w w':World} {v V:Value} (c:Below w.heap.size w w') (h:v=V):dk (fun w w'=>Below w.heap.size w w') (fun v _=>v=V) w v w':=⟨c,h⟩
theorem X6 {w:World} {v V:Value} (h:v=V):dk (fun w w'=>Below w.heap.size w w') (fun v _=>v=V) w v w:=⟨Below.refl _ _,h⟩
theorem Q6F {n:Nat} {fn:Func} {e:Array Value→Sem Value} {xs:List Value} {v:Value} (l:P.funcs[n]? =some fn) (m:(fn.name== "runtime.NumGoroutine")=false) (o:fn.body.isNone=true)
 (g:(Extern.findNext fn).isNone=true) (i:Extern.find fn=some e) (j:(e xs.toArray).run P w= .ok v w) (h:K v w):Q1 P n xs w K:=by
 have d:Extern.findNext fn=none:=by simpa using g
 have f: ¬fn.name= "runtime.NumGoroutine":=by simpa using m
 have c:fn.body=none:=by simpa using o
 unfold Q1
 rw[T4]
 unfold P2 callFunc
 simp[l,f,c,d,i,j,h]
theorem Q3r {α:Type} (p:α→Bool) (c:Nat→Bool): ∀(l:List α),(∀i (h:i<l.length),c i=p l[i])→(List.range l.length).find? c=l.findIdx? p
 | [],_=>rfl
 | x::l,h=>by
  rw[List.length_cons,List.range_succ_eq_map,List.find?_cons,List.findIdx?_cons]
  have d:c 0=p x:=h 0 (by simp)
  rw[d]
  cases p x
  ·simp only[Bool.false_eq_true,if_false]
   rw[List.find?_map]
   have:=Q3r p (c ∘ Nat.succ) l (fun i e=>h (i+1) (by simpa using e))
   rw[this]
  ·rfl
def Mr:=And.intro @M5 <| And.intro @W9 <| And.intro @O7 <| And.intro @Fu <| And.intro @Q3W <| And.intro @Q7e <| And.intro @Q3J <| And.intro @Q3V <| And.intro @Rj <| And.intro @Q1o <| And.intro @Q1l <| And.intro @Q3D <| And.intro @Q3B <| And.intro @Bw <| And.intro @Bx <| And.intro @X31 <| And.intro @X2P <| And.intro @X1h <| And.intro @X1r <| And.intro @X1d <| And.intro @X1l <| And.intro @X0Q <| And.intro @X2o <| And.intro @W2 <| And.intro @W7 <| And.intro @S2 <| And.intro @E1 <| And.intro @X0M <| And.intro @H6 <| @M4
def Mp:=And.intro @M5 <| And.intro @W9 <| And.intro @O7 <| And.intro @Fu <| And.intro @Q3W <| And.intro @Q7e <| And.intro @Q3J <| And.intro @Q3V <| And.intro @Rj <| And.intro @Q1o <| And.intro @Q1l <| And.intro @Q3D <| And.intro @Q3B <| And.intro @Bw <| And.intro @Bx <| And.intro @X31 <| And.intro @X2P <| And.intro @X1h <| And.intro @X1r <| And.intro @X1d <| And.intro @X1l <| And.intro @W2 <| And.intro @W7 <| And.intro @S2 <| And.intro @E1 <| And.intro @H6 <| @M4
def Mb:=And.intro @Bool.true_eq_false <| And.intro @Bool.false_eq_true <| And.intro @Bool.not_true <| And.intro @Bool.not_false <| And.intro @Bool.and_true <| And.intro @Bool.true_and <| And.intro @Bool.and_false <| And.intro @Bool.false_and <| And.intro @Bool.or_true <| And.intro @Bool.true_or <| And.intro @Bool.or_false <| @Bool.false_or
end Go.Emb

namespace Go.Kd
abbrev X0:=List UInt8
def Xh (c:Int):Bool:=decide (65≤c)&&decide (c≤90)
def Qa (c:Int):Bool:=decide (97≤c)&&decide (c≤122)
def F7 (c:Int):Bool:=decide (48≤c)&&decide (c≤57)
def S8 (c:Int):Bool:=Xh c||Qa c||F7 c
def name (s:X0):Bool:=match s with
 | []=>false
 | c::_=>decide (s.length≤32)&& !F7 c.toNat&&s.all (fun b=>S8 b.toNat)
def M6 (s:X0):Bool:=match s with
 | []=>false
 | c::_=>name s&&Xh c.toNat
def D6 (s:X0):Bool:=match s with
 | []=>false
 | c::_=>name s&&Qa c.toNat
def plain (s:X0):Bool:=decide (s=[105,110,116])||decide (s=[98,111,111,108])||decide (s=[116,101,120,116])
def arr (s:X0):Bool:=decide (2≤s.length)&&decide (s.drop (s.length-2)=[91,93])
def cutA (s:X0):X0:=s.take (s.length-2)
def Yr:Nat→X0→X0×Nat
 | 0,s=>(s,0)
 | n+1,s=>if arr s then ((Yr n (cutA s)).1,(Yr n (cutA s)).2+1) else (s,0)
def base (s:X0):X0×Nat:=Yr s.length s
def right (s:X0):Bool:=decide ((base s).2≤3)&&(plain (base s).1||M6 (base s).1)
def elem (s:X0):X0:=if arr s&&right s then cutA s else []
def Xt (s:X0):Nat:=if right s then (base s).2 else 0
def Qz (s:X0):X0×X0×Bool:=match s with
 | []=>([],[],false)
 | c::r=>if c=46 then ([],r,true) else ((c::(Qz r).1),(Qz r).2.1,(Qz r).2.2)
def Zn (s:X0):Bool:=(Qz s).2.2&&M6 (Qz s).1&&D6 (Qz s).2.1
def Q1H (c:UInt8) (s:X0):Int:=match s.findIdx? (fun b=>decide (b=c)) with
 | some i=>i
 | none=> -1
def Q3g (s:X0) (o:Option Nat):X0×X0×Bool:=match o with
 | some i=>(s.take i,s.drop (i+1),true)
 | none=>(s,[],false)
theorem Kt (s:X0):Qz s=Q3g s (s.findIdx? (fun b=>decide (b=46))):=by
 induction s with
 | nil=>rfl
 | cons c r a=>
  rw[List.findIdx?_cons]
  simp only[Qz]
  by_cases h:c=46
  ·simp[h,Q3g]
  ·simp only[h,if_false,decide_false,Bool.false_eq_true]
   rw[a]
   cases r.findIdx? (fun b=>decide (b=46)) with
   | none=>simp[Q3g]
   | some i=>simp[Q3g]
end Go.Kd

namespace Go.Proofs.YtjdiakhipmggjaaGreatDoor
open Go.Emb Go.RowKit Go.Kd
variable {w : World} {K : Value → World → Prop}
theorem X8:P.underlying T.c=some .string:=by kernel_rfl
theorem Q1s:P.underlying T.e=some (.int .i64):=by kernel_rfl
theorem Q2N:P.underlying T.u=some .bool:=by kernel_rfl
theorem Q3R:P.underlying T.a3=some (.int .u8):=by kernel_rfl
theorem Q7b:P.underlying T.an=some (.int .i32):=by kernel_rfl
theorem Q7t (c:Int) (h:K (.bool (Xh c)) w):Q1 P F.ck [.int .i32 c] w K:=Q5h (by
 unfold Q0E
 (try simp only[↓Mr,Mr,Mb,reduceIte])
 cases a:decide (65≤c)<;>simp only[a,↓Mr,Mr,Mb,reduceIte]<;>simpa [Xh,a] using h)
theorem Q7y (c:Int) (h:K (.bool (Qa c)) w):Q1 P F.cl [.int .i32 c] w K:=Q56 (by
 unfold Q1a
 (try simp only[↓Mr,Mr,Mb,reduceIte])
 cases a:decide (97≤c)<;>simp only[a,↓Mr,Mr,Mb,reduceIte]<;>simpa [Qa,a] using h)
theorem X1I (c:Int) (h:K (.bool (S8 c)) w):Q1 P F.cc [.int .i32 c] w K:=Q4T (by
 unfold Ti
 refine Q7t c ?_
 cases a:Xh c
 ·(try simp only[↓Mr,Mr,Mb,reduceIte])
  refine Q7y c ?_
  cases b:Qa c
  ·(try simp only[↓Mr,Mr,Mb,reduceIte])
   cases d:decide (48≤c)
   ·(try simp only[↓Mr,Mr,Mb,reduceIte])
    simpa [S8,F7,a,b,d] using h
   ·(try simp only[↓Mr,Mr,Mb,reduceIte])
    simpa [S8,F7,a,b,d] using h
  ·(try simp only[↓Mr,Mr,Mb,reduceIte])
   simpa [S8,a,b] using h
 ·(try simp only[↓Mr,Mr,Mb,reduceIte])
  simpa [S8,a] using h)
theorem X3q (a:List UInt8) (f:Value) (p:Int→Bool) (l: ∀(c:Int) (w:World) (K:Value→World→Prop),K (.bool (p c)) w→Z3 P f [.int .i32 c] w K)
 (h: ∀w',Below w.heap.size w w'→K (.bool (Iq p ⟨a.toArray⟩ a.length 0)) w'):Q1 P F.cD [S a,f] w K:=Q7T (by
 unfold Q2K
 rw[X1G X8]
 refine We (fun _ w'=> ∃pos n:Nat,a.length-pos≤n∧Iq p ⟨a.toArray⟩ a.length 0=Iq p ⟨a.toArray⟩ n pos∧Below w.heap.size w w'∧w'.heap[w.heap.size]? =some (.stringIter ⟨a.toArray⟩ pos))
  (fun _ w'=>match w'.heap[w.heap.size]? with | some (.stringIter _ pos)=>a.length-pos | _=>0) ⟨0,a.length,by omega,rfl,(Below.refl _ _).alloc (Nat.le_refl _) _,heap_alloc_new w _⟩ ?_
 rintro _ _ w1 ⟨pos,n,q,b,j,g⟩
 by_cases e:pos<a.length
 ·rw[X1U g (by rw[I9];exact e)]
  (try simp only[↓Mr,Mr,Mb,reduceIte])
  refine l _ _ _ ?_
  obtain ⟨n,rfl⟩: ∃m,n=m+1:=⟨n-1,by omega⟩
  simp only[Iq,I9,e,if_true] at b
  have r:=Q5Q (s:=⟨a.toArray⟩) (i:=pos)
  have d:w.heap.size<w1.heap.size:=(Array.getElem?_eq_some_iff.1 g).1
  cases k:p (Utf8.decode ⟨a.toArray⟩ pos).1
  ·(try simp only[↓Mr,Mr,Mb,reduceIte])
   rw[k] at b
   have:=h _ (Q46 (o:= .stringIter ⟨a.toArray⟩ (pos+(Utf8.decode ⟨a.toArray⟩ pos).2)) j (Nat.le_refl _))
   rw[b] at this
   exact this
  ·(try simp only[↓Mr,Mr,Mb,reduceIte])
   rw[k] at b
   refine ⟨⟨_,n,?_,b,Q46 j (Nat.le_refl _),Q7r d⟩,?_⟩
   ·omega
   ·simp only[Q7r d,g];omega
 ·rw[Q6H g (by rw[I9];exact e)]
  (try simp only[↓Mr,Mr,Mb,reduceIte])
  have:Iq p ⟨a.toArray⟩ n pos=true:=by
   cases n with
   | zero=>rfl
   | succ n=>simp only[Iq,I9,e,if_false]
  rw[←this,←b]
  exact h _ j)
theorem Q7K (c:Int) (h:128≤c):S8 c=false:=by
 simp[S8,Xh,Qa,F7];omega
theorem Q62 (a:List UInt8) (n:a.length≤140737488355328) (h: ∀w',Below w.heap.size w w'→K (.bool (name a)) w'):Q1 P F.c6 [S a] w K:=Q6s (by
 unfold Q20
 have e: ∀c r,a=c::r→(decide (a.length≤32)&& !F7 c.toNat)=true→Q1 P F.cD [S a,(.func (.func F.cc) #[] #[])] w K:=by
  intro c r l b
  refine X3q a _ S8 (fun c w K h=>Z6 (first:=[]) (caps:=[]) (X1I c h)) fun w' m=>?_
  rw[Q7S _ Q7K a _ _ (by omega)]
  have:=h w' m
  rw[l] at this b⊢
  simp only[name] at this
  rw[b,Bool.true_and] at this
  simpa using this
 cases a with
 | nil=>
  simp only[↓Mr,Mr,Mb,reduceIte,decide_true]
  exact h w (Below.refl _ _)
 | cons c r=>
  have f:decide (c::r=[])=false:=by simp
  simp only[↓Mr,Mr,Mb,reduceIte,f,R2 X8]
  by_cases i:(c::r).length≤32
  ·have d:r.length≤31:=by simpa using i
   have b:decide ((32:Int)<((c::r).length:Int))=false:=by simp only[decide_eq_false_iff_not];omega
   simp only[↓Mr,Mr,Mb,reduceIte,b]
   rw[Xw X8 (by omega) (by simp)]
   (try simp only[↓Mr,Mr,Mb,reduceIte])
   have k:(c::r)[(0:Int).toNat]'(by simp)=c:=rfl
   simp only[k]
   cases g:decide ((48:Int)≤(c.toNat:Int))
   ·(try simp only[↓Mr,Mr,Mb,reduceIte])
    exact e c r rfl (by simp[F7,d,g])
   ·(try simp only[↓Mr,Mr,Mb,reduceIte])
    rw[Xw X8 (by omega) (by simp)]
    simp only[↓Mr,Mr,Mb,reduceIte,k]
    cases j:decide ((c.toNat:Int)≤57)
    ·(try simp only[↓Mr,Mr,Mb,reduceIte])
     exact e c r rfl (by simp only[F7,g,j];simp[d])
    ·(try simp only[↓Mr,Mr,Mb,reduceIte])
     have:name (c::r)=false:=by simp only[name,F7,g,j];simp
     rw[←this];exact h w (Below.refl _ _)
  ·have b:decide ((32:Int)<((c::r).length:Int))=true:=by simp only[decide_eq_true_eq];omega
   simp only[↓Mr,Mr,Mb,reduceIte,b]
   have:name (c::r)=false:=by simp only[name];rw[decide_eq_false i];rfl
   rw[←this];exact h w (Below.refl _ _))
theorem Rl (a:List UInt8) (f:a.length≤140737488355328) (h: ∀w',Below w.heap.size w w'→K (.bool (M6 a)) w'):Q1 P F.ak [S a] w K:=Q5P (by
 unfold Q1e
 refine Q62 a f fun w1 b=>?_
 cases a with
 | nil=>
  simp only[name,↓Mr,Mr,Mb,reduceIte]
  exact h w1 b
 | cons c r=>
  cases d:name (c::r)
  ·(try simp only[↓Mr,Mr,Mb,reduceIte])
   have:=h w1 b
   simp only[M6,d] at this
   simpa using this
  ·(try simp only[↓Mr,Mr,Mb,reduceIte])
   rw[Xw X8 (by omega) (by simp)]
   have e:(c::r)[(0:Int).toNat]'(by simp)=c:=rfl
   simp only[e]
   rw[Iz Q3R Q7b,w32 (by omega) (by have:=c.toNat_lt;omega)]
   refine Q7t _ ?_
   (try simp only[↓Mr,Mr,Mb,reduceIte])
   have:=h w1 b
   simp only[M6,d] at this
   simpa using this)
theorem Rm (a:List UInt8) (h:K (.bool (plain a)) w):Q1 P F.aN [S a] w K:=Q6e (by
 unfold Q0r
 (try simp only[↓Mr,Mr,Mb,reduceIte])
 cases b:decide (a=[105,110,116])<;>(try simp only[↓Mr,Mr,Mb,reduceIte])
 ·cases c:decide (a=[98,111,111,108])<;>(try simp only[↓Mr,Mr,Mb,reduceIte])<;>simpa [plain,b,c] using h
 ·simpa [plain,b] using h)
def Ug (a b:List UInt8):Bool:=decide (b.length≤a.length)&&decide (a.drop (a.length-b.length)=b)
theorem Dm (a b:List UInt8) (f:a.length≤140737488355328) (e:b.length≤140737488355328) (h:K (.bool (Ug a b)) w):Q1 P F.aa [S a,S b] w K:=Ck (by
 unfold Uz
 rw[R2 X8,R2 X8]
 (try simp only[↓Mr,Mr,Mb,reduceIte])
 by_cases d:b.length≤a.length
 ·have c:decide ((b.length:Int)≤a.length)=true:=by simp only[decide_eq_true_eq];omega
  simp only[↓Mr,Mr,Mb,reduceIte,c,R2 X8]
  rw[F9 (by omega) (by omega),Ut X8 (by omega) (by omega)]
  (try simp only[↓Mr,Mr,Mb,reduceIte])
  rw[show ((a.length:Int)-b.length).toNat=a.length-b.length from by omega]
  simpa [Ug,d] using h
 ·have c:decide ((b.length:Int)≤a.length)=false:=by simp only[decide_eq_false_iff_not];omega
  simp only[↓Mr,Mr,Mb,reduceIte,c]
  simpa [Ug,d] using h)
theorem Q6V (a b:List UInt8) (d:a.length≤140737488355328) (c:b.length≤140737488355328) (h:K (.bool (Ug a b)) w):Q1 P F.bK [S a,S b] w K:=Q00 (by
 unfold Oo
 exact Dm a b d c h)
def Dp (a b:List UInt8):List UInt8:=if Ug a b then a.take (a.length-b.length) else a
theorem Q4u {a b:List UInt8} (h:Ug a b=true):b.length≤a.length:=by
 simp only[Ug,Bool.and_eq_true,decide_eq_true_eq] at h;exact h.1
theorem Q5F (a b:List UInt8) (e:a.length≤140737488355328) (d:b.length≤140737488355328) (h:K (S (Dp a b)) w):Q1 P F.bs [S a,S b] w K:=Ib (by
 unfold Nv
 refine Ca ?_
 unfold Jo
 refine Dm a b e d ?_
 cases c:Ug a b
 ·(try simp only[↓Mr,Mr,Mb,reduceIte])
  simpa [Dp,c] using h
 ·have f:=Q4u c
  simp only[↓Mr,Mr,Mb,reduceIte,R2 X8]
  rw[F9 (by omega) (by omega),T3 X8 (by omega) (by omega)]
  rw[show ((a.length:Int)-b.length).toNat=a.length-b.length from by omega]
  simpa [Dp,c] using h)
theorem Q74 (a b:List UInt8) (e:a.length≤140737488355328) (d:b.length≤140737488355328) (h:K (.tuple #[S (Dp a b), .bool (Ug a b)]) w):Q1 P F.bI [S a,S b] w K:=Aj (by
 unfold Dd
 refine Co ?_
 unfold Ve
 refine Dm a b e d ?_
 cases c:Ug a b
 ·(try simp only[↓Mr,Mr,Mb,reduceIte])
  simpa [Dp,c] using h
 ·have f:=Q4u c
  simp only[↓Mr,Mr,Mb,reduceIte,R2 X8]
  rw[F9 (by omega) (by omega),T3 X8 (by omega) (by omega)]
  rw[show ((a.length:Int)-b.length).toNat=a.length-b.length from by omega]
  (try simp only[↓Mr,Mr,Mb,reduceIte])
  simpa [Dp,c] using h)
theorem Q3v (a:List UInt8):Ug a [91,93]=arr a:=rfl
theorem Q27 (a:List UInt8):Dp a [91,93]=if arr a then Kd.cutA a else a:=rfl
theorem K1 {a:List UInt8} (h:arr a=true):(Kd.cutA a).length+2=a.length:=by
 simp only[arr,Bool.and_eq_true,decide_eq_true_eq] at h
 simp only[Kd.cutA,List.length_take];omega
theorem Q31: ∀(n m:Nat) (a:List UInt8),a.length≤n→a.length≤m→Yr n a=Yr m a
 | 0,0,a,_,_=>rfl
 | 0,m+1,a,h,_=>by
  have:a=[]:=List.eq_nil_of_length_eq_zero (by omega)
  subst this;rfl
 | n+1,0,a,_,h=>by
  have:a=[]:=List.eq_nil_of_length_eq_zero (by omega)
  subst this;rfl
 | n+1,m+1,a,b,c=>by
  simp only[Yr]
  split
  ·rename_i h
   have:=K1 h
   rw[Q31 n m (Kd.cutA a) (by omega) (by omega)]
  ·rfl
theorem Xo (a:List UInt8):base a=if arr a then ((base (Kd.cutA a)).1,(base (Kd.cutA a)).2+1) else (a,0):=by
 unfold base
 cases b:a.length with
 | zero=>
  have:a=[]:=List.eq_nil_of_length_eq_zero b
  subst this;rfl
 | succ n=>
  simp only[Yr]
  split
  ·rename_i h
   have:=K1 h
   rw[Q31 n (Kd.cutA a).length (Kd.cutA a) (by omega) (Nat.le_refl _)]
  ·rfl
theorem Q1D (a:List UInt8):(base a).1.length+2*(base a).2=a.length:=by
 have key: ∀n (a:List UInt8),(Yr n a).1.length+2*(Yr n a).2=a.length:=by
  intro n
  induction n with
  | zero=>intro a;simp[Yr]
  | succ n b=>
   intro a
   simp only[Yr]
   split
   ·rename_i h
    have:=K1 h
    have:=b (Kd.cutA a)
    simp only;omega
   ·simp
 exact key _ a
theorem Q9o (a:List UInt8) (f:a.length≤140737488355328) (h:K (.tuple #[S (base a).1,I (base a).2]) w):Q1 P F.cx [S a] w K:=Q6T (by
 unfold Q2b
 refine We (fun x w'=>w'=w∧ ∃(b:List UInt8) (n:Nat),x=(S b,I n)∧b.length+2*n=a.length∧base a=((base b).1,(base b).2+n)) (fun x _=>match x.1 with | .string s=>s.size | _=>0)
  ⟨rfl,a,0,rfl,by omega,rfl⟩ ?_
 rintro _ _ _ ⟨rfl,b,n,rfl,e,d⟩
 refine Q6V b _ (by omega) (by simp) ?_
 rw[Q3v]
 cases c:arr b
 ·(try simp only[↓Mr,Mr,Mb,reduceIte])
  rw[Xo b,c] at d
  simp only[Bool.false_eq_true,if_false,Nat.zero_add] at d
  rw[d] at h;exact h
 ·(try simp only[↓Mr,Mr,Mb,reduceIte])
  refine Q5F b _ (by omega) (by simp) ?_
  rw[Q27,c]
  simp only[↓Mr,Mr,Mb,reduceIte,if_true]
  have g:=K1 c
  rw[F9 (by omega) (by omega)]
  refine ⟨⟨by first | rfl | trivial,Kd.cutA b,n+1,by simp,by omega,?_⟩,?_⟩
  ·rw[d,Xo b,c];simp;omega
  ·simp only[I9];omega)
theorem Zk (a:List UInt8) (g:a.length≤140737488355328) (h: ∀w',Below w.heap.size w w'→K (.bool (right a)) w'):Q1 P F.z [S a] w K:=Q6m (by
 unfold Q0Z
 have f:=Q1D a
 refine Q9o a g ?_
 (try simp only[↓Mr,Mr,Mb,reduceIte])
 by_cases b:(base a).2≤3
 ·have c:decide (((base a).2:Int)≤3)=true:=by simp only[decide_eq_true_eq];omega
  simp only[↓Mr,Mr,Mb,reduceIte,c]
  refine Rm _ ?_
  cases d:plain (base a).1
  ·(try simp only[↓Mr,Mr,Mb,reduceIte])
   refine Rl _ (by omega) fun w1 e=>?_
   (try simp only[↓Mr,Mr,Mb,reduceIte])
   have:=h w1 e
   simp only[right,b,d] at this
   simpa using this
  ·(try simp only[↓Mr,Mr,Mb,reduceIte])
   have:=h w (Below.refl _ _)
   simp only[right,b,d] at this
   simpa using this
 ·have c:decide (((base a).2:Int)≤3)=false:=by simp only[decide_eq_false_iff_not];omega
  simp only[↓Mr,Mr,Mb,reduceIte,c]
  have:=h w (Below.refl _ _)
  simp only[right,b] at this
  simpa using this)
theorem Q61 (a:List UInt8) (d:a.length≤140737488355328) (h: ∀w',Below w.heap.size w w'→K (S (elem a)) w'):Q1 P F.c5 [S a] w K:=Q6M (by
 unfold Q23
 refine Q74 a _ d (by simp) ?_
 rw[Q3v,Q27]
 (try simp only[↓Mr,Mr,Mb,reduceIte])
 cases b:arr a
 ·(try simp only[↓Mr,Mr,Mb,reduceIte])
  have:=h w (Below.refl _ _)
  simp only[elem,b] at this
  exact this
 ·(try simp only[↓Mr,Mr,Mb,reduceIte])
  refine Zk a d fun w1 e=>?_
  have:=h w1 e
  cases c:right a
  ·(try simp only[↓Mr,Mr,Mb,reduceIte])
   simp only[elem,b,c] at this
   exact this
  ·simp only[↓Mr,Mr,Mb,reduceIte,if_true]
   simp only[elem,b,c] at this
   exact this)
theorem Q97 (a:List UInt8) (b:a.length≤140737488355328) (h: ∀w',Below w.heap.size w w'→K (I (Xt a)) w'):Q1 P F.cw [S a] w K:=Q6v (by
 unfold Q2c
 refine Q9o a b ?_
 (try simp only[↓Mr,Mr,Mb,reduceIte])
 refine Zk a b fun w1 d=>?_
 have:=h w1 d
 cases c:right a<;>(try simp only[↓Mr,Mr,Mb,reduceIte])<;>simpa [Xt,c] using this)
theorem X4e (a:List UInt8) (i:a.length≤140737488355320) (h: ∀w',Below w.heap.size w w'→K (if right a&&decide (Xt a≠3) then .tuple #[S (a++[91,93]),I 0] else .tuple #[S [],I 30]) w'):Q1 P F.cS [S a] w K:=Q9k (by
 unfold Q47
 refine Zk a (by omega) fun w1 d=>?_
 cases c:right a
 ·(try simp only[↓Mr,Mr,Mb,reduceIte])
  have:=h w1 d
  simp only[c] at this
  simpa using this
 ·(try simp only[↓Mr,Mr,Mb,reduceIte])
  refine Q97 a (by omega) fun g b=>?_
  have:=h g (d.trans (b.mono d.size))
  by_cases f:Xt a=3
  ·have e:decide ((Xt a:Int)=3)=true:=by simp only[decide_eq_true_eq];omega
   simp only[↓Mr,Mr,Mb,reduceIte,e]
   simp only[c,f] at this
   simpa using this
  ·have e:decide ((Xt a:Int)=3)=false:=by simp only[decide_eq_false_iff_not];omega
   simp only[↓Mr,Mr,Mb,reduceIte,e]
   rw[Q22 (by simp;omega)]
   simp only[c] at this
   simpa [f] using this)
end Go.Proofs.YtjdiakhipmggjaaGreatDoor

namespace Go.Proofs.YtjdiakhipmggjaaGreatDoor
open Go.Emb Go.RowKit Go.Kd
variable {w : World} {K : Value → World → Prop}
theorem Q1Q (a:List UInt8) (c:UInt8) (h:K (I (Q1H c a)) w):Q1 P F.c0 [S a, .int .u8 c.toNat] w K:=by
 refine Q6F (e:=Extern.BytealgIndexByte.indexByte) Tryz.func231 (by decide) rfl (by kernel_rfl) (by kernel_rfl) ?_ h
 have g:((List.range (ByteArray.mk a.toArray).size).find? fun i=>(ByteArray.mk a.toArray)[i]! ==c)=a.findIdx? (fun b=>decide (b=c)):=by
  rw[I9]
  refine Q3r _ _ a fun i d=>?_
  have:(ByteArray.mk a.toArray)[i]! =a[i]:=by
   rw[getElem!_pos _ _ (by rw[I9];exact d)];rfl
  rw[this,Bool.eq_iff_iff];simp
 have f:((c.toNat:Int).toNat.toUInt8)=c:=by simp
 have:=run_indexByte_string (P:=P) ⟨a.toArray⟩ c.toNat w
 rw[f] at this
 refine this.trans ?_
 unfold firstIdx Q1H
 rw[g]
 cases a.findIdx? (fun b=>decide (b=c))<;>rfl
theorem X0c (a:List UInt8) (c:UInt8) (h:K (I (Q1H c a)) w):Q1 P F.bL [S a,S [c]] w K:=Ar (by
 unfold Ox
 simp only[R2 X8]
 have j:decide ((([c]:List UInt8).length:Int)=0)=false:=rfl
 have f:decide ((([c]:List UInt8).length:Int)=1)=true:=rfl
 simp only[Q1l,j,f]
 simp only[↓Mr,Mr,Mb,reduceIte]
 have d:C2 P T.c (S [c]) (I 0) w fun b w=>Q1 P F.aw [S a,b] w fun e w=>K e w:=by
  rw[Xw X8 (by omega) (by simp)]
  refine Cp ?_
  unfold Vh
  exact Q1Q a c h
 cases i:decide ([c]=a)
 ·(try simp only[↓Mr,Mr,Mb,reduceIte])
  exact d
 ·(try simp only[↓Mr,Mr,Mb,reduceIte])
  have g:[c]=a:=by simpa using i
  have:Q1H c a=0:=by rw[←g];simp[Q1H,List.findIdx?_cons]
  rw[this] at h;exact h)
theorem X0T {c:UInt8} {a:List UInt8} {i:Nat} (h:a.findIdx? (fun b=>decide (b=c))=some i):i<a.length:=by
 have:=List.findIdx?_eq_some_iff_getElem.1 h
 exact this.1
theorem X3H (a:List UInt8) (g:a.length≤140737488355328) (h: ∀w',Below w.heap.size w w'→K (.tuple #[S (Qz a).1,S (Qz a).2.1, .bool (Qz a).2.2]) w'):Q1 P F.cB [S a,S [46]] w K:=Q4O (by
 unfold Tg
 refine Q1Y ?_
 unfold Ho
 refine X0c a 46 ?_
 rw[Kt] at h
 unfold Q1H
 cases c:a.findIdx? (fun b=>decide (b=46)) with
 | none=>
  simp only[↓Mr,Mr,Mb,reduceIte,show decide ((0:Int)≤ -1)=false from rfl]
  have:=h w (Below.refl _ _)
  rw[c] at this;exact this
 | some i=>
  have f:=X0T c
  have e:decide ((0:Int)≤(i:Int))=true:=by simp
  simp only[Q1o,e]
  simp only[↓Mr,Mr,Mb,reduceIte]
  refine Dn (Below.refl _ w) ?_
  refine X4 (S (a.take i)) (fun w1 _=>?_) ?_
  ·rw[T3 X8 (by omega) (by omega)];exact X6 (by simp)
  refine X4 (I 1) (fun w1 _=>?_) ?_
  ·rw[R2 X8];exact X6 rfl
  refine X4 (I (i+1)) ?_ ?_
  ·rintro _ w1 _ rfl
   rw[Fu,F9 (by omega) (by omega)];exact X6 rfl
  refine X4 (S (a.drop (i+1))) ?_ ?_
  ·rintro _ w1 _ rfl
   rw[Ut X8 (by omega) (by omega)];exact X6 (by simp)
  rintro _ _ _ _ w1 d rfl rfl rfl rfl
  (try simp only[↓Mr,Mr,Mb,reduceIte])
  have:=h w1 d
  rw[c] at this;exact this)
theorem X28 (a:List UInt8) (z:a.length≤140737488355328) (h: ∀w',Below w.heap.size w w'→K (if Zn a then .tuple #[S (Qz a).1,S (Qz a).2.1,I 0] else .tuple #[S [],S [],I 30]) w'):Q1 P F.cI [S a] w K:=Q5G (by
 unfold Q0F
 refine X3H a z fun w1 e=>?_
 have o:(Qz a).1.length≤a.length∧(Qz a).2.1.length≤a.length:=by
  rw[Kt]
  cases a.findIdx? (fun b=>decide (b=46))<;>simp[Q3g]
  omega
 generalize t:(Qz a).1=p at h o
 generalize y:(Qz a).2.1=q at h o
 have k:Zn a=((Qz a).2.2&&M6 p&&D6 q):=by rw[Zn,t,y]
 cases j:(Qz a).2.2
 ·simp only[↓Mr,Mr,Mb,reduceIte]
  have:=h w1 e
  rw[k,j] at this;simpa using this
 ·simp only[↓Mr,Mr,Mb,reduceIte]
  refine Rl p (by omega) fun v g=>?_
  have d:=e.trans (g.mono e.size)
  cases s:M6 p
  ·(try simp only[↓Mr,Mr,Mb,reduceIte])
   have:=h v d
   rw[k,j,s] at this;simpa using this
  ·(try simp only[↓Mr,Mr,Mb,reduceIte])
   refine Q62 q (by omega) fun A m=>?_
   have f:=d.trans (m.mono d.size)
   have:=h A f
   rw[k,j,s] at this
   cases i:name q
   ·(try simp only[↓Mr,Mr,Mb,reduceIte])
    have l:D6 q=false:=by cases q with | nil=>rfl | cons c r=>simp[D6,i]
    rw[l] at this;simpa using this
   ·(try simp only[↓Mr,Mr,Mb,reduceIte])
    cases q with
    | nil=>simp[name] at i
    | cons c r=>
     rw[Xw X8 (by omega) (by simp)]
     have n:(c::r)[(0:Int).toNat]'(by simp)=c:=rfl
     (try simp only[↓Mr,Mr,Mb,reduceIte])
     rw[n,Iz Q3R Q7b,w32 (by omega) (by have:=c.toNat_lt;omega)]
     refine Q7y _ ?_
     have l:D6 (c::r)=Qa c.toNat:=by simp[D6,i]
     rw[l] at this
     cases u:Qa c.toNat<;>(try simp only[↓Mr,Mr,Mb,reduceIte])<;>rw[u] at this<;>simpa using this)
theorem Ek (a:List UInt8) (h:K (.bool (plain a)) w):Q1 P F.x [S a] w K:=Iv (by
 unfold Me
 refine U6 ?_
 (try simp only[↓Mr,Mr,Mb,reduceIte])
 cases b:decide (a=[105,110,116])
 ·cases c:decide (a=[98,111,111,108])
  ·cases d:decide (a=[116,101,120,116])<;>(try simp only[↓Mr,Mr,Mb,reduceIte])<;>intro _<;>(try simp only[↓Mr,Mr,Mb,reduceIte])<;>simpa [plain,b,c,d] using h
  ·(try simp only[↓Mr,Mr,Mb,reduceIte])
   intro _
   (try simp only[↓Mr,Mr,Mb,reduceIte])
   simpa [plain,b,c] using h
 ·(try simp only[↓Mr,Mr,Mb,reduceIte])
  intro _
  (try simp only[↓Mr,Mr,Mb,reduceIte])
  simpa [plain,b] using h)
def X11 (a:List UInt8) (w:World) (x:Value) (w':World):Prop:=
 w=w'∧ ∃i:Nat,x=I i∧i≤a.length∧(0<i→(a.head?.map fun c=>F7 c.toNat)=some false)∧(a.take i).all (fun b=>S8 b.toNat)=true
def Q4Y (a:List UInt8) (x:Value):Nat:=match x with | .int _ i=>a.length-i.toNat | _=>0
theorem Q5A (a:List UInt8) (N:a.length≤140737488355328) (h:K (.bool (name a)) w):Q1 P F.aX [S a] w K:=Tl (by
 unfold Di
 refine We (X11 a w) (fun x _=>Q4Y a x) ⟨rfl,0,rfl,by omega,by omega,by simp⟩ ?_
 rintro _ _ _ ⟨rfl,i,rfl,O,L,k⟩
 rw[R2 X8]
 (try simp only[↓Mr,Mr,Mb,reduceIte])
 by_cases m:i<a.length
 ·have H:decide ((i:Int)<a.length)=true:=by simp only[decide_eq_true_eq];omega
  simp only[H,↓Mr,Mr,Mb,reduceIte]
  have d: ∀J:Value→World→Prop,C2 P T.c (S a) (I i) w J=J (.int .u8 (a[i]'m).toNat) w:=fun J=>by
   rw[Xw X8 (by omega) (by simpa using m)];simp
  generalize q:a[i]=c at d
  have e:S8 c.toNat=false∨(i=0∧F7 c.toNat=true)→name a=false:=by
   intro y
   cases a with
   | nil=>rfl
   | cons c0 r=>
    simp only[name]
    rcases y with y | ⟨rfl,y⟩
    ·have:(c0::r).all (fun b=>S8 b.toNat)=false:=by
      rw[List.all_eq_false]
      exact ⟨c,by rw[←q];exact List.getElem_mem _,by simp[y]⟩
     rw[this];simp
    ·simp only[List.getElem_cons_zero] at q
     rw[q,y];simp
  have f:S8 c.toNat=true→(i=0→F7 c.toNat=false)→X11 a w (I (IntKind.i64.wrap ((i:Int)+1))) w∧Q4Y a (I (IntKind.i64.wrap ((i:Int)+1)))<Q4Y a (I i):=by
   intro C D
   rw[F9 (by omega) (by omega)]
   refine ⟨⟨rfl,i+1,by simp,by omega,fun _=>?_,?_⟩,by simp only[Q4Y];omega⟩
   ·by_cases p:0<i
    ·exact L p
    ·obtain rfl:i=0:=by omega
     cases a with
     | nil=>simp at m
     | cons c0 r=>simp only[List.getElem_cons_zero] at q;subst q;simp[D rfl]
   ·rw[List.take_add_one,List.getElem?_eq_getElem m,q]
    simp[k,C]
  have E:=c.toNat_lt
  have u:decide ((i:Int)=0)=decide (i=0):=by rw[Bool.eq_iff_iff];simp
  by_cases o:97≤(c.toNat:Int)
  ·by_cases B:(c.toNat:Int)≤122
   ·simp only[d,decide_eq_true o,decide_eq_true B,↓Mr,Mr,Mb,reduceIte]
    exact f (by simp[S8,Qa,o,B]) (fun _=>by simp[F7];omega)
   ·have n:(65:Int)≤c.toNat:=by omega
    have s: ¬(c.toNat:Int)≤90:=by omega
    have g: ¬(c.toNat:Int)<48:=by omega
    have j:(57:Int)<c.toNat:=by omega
    simp only[d,decide_eq_true o,decide_eq_false B,decide_eq_true n,decide_eq_false s,decide_eq_false g,decide_eq_true j,u,↓Mr,Mr,Mb,reduceIte]
    have l:=e (.inl (by simp[S8,Xh,Qa,F7];omega))
    rw[l] at h
    cases decide (i=0)<;>(try simp only[d,decide_eq_false g,decide_eq_true j,↓Mr,Mr,Mb,reduceIte])<;>exact h
  ·by_cases n:(65:Int)≤c.toNat
   ·by_cases s:(c.toNat:Int)≤90
    ·simp only[d,decide_eq_false o,decide_eq_true n,decide_eq_true s,↓Mr,Mr,Mb,reduceIte]
     exact f (by simp[S8,Xh,n,s]) (fun _=>by simp[F7];omega)
    ·have g: ¬(c.toNat:Int)<48:=by omega
     have j:(57:Int)<c.toNat:=by omega
     simp only[d,decide_eq_false o,decide_eq_true n,decide_eq_false s,decide_eq_false g,decide_eq_true j,u,↓Mr,Mr,Mb,reduceIte]
     have l:=e (.inl (by simp[S8,Xh,Qa,F7];omega))
     rw[l] at h
     cases decide (i=0)<;>(try simp only[d,decide_eq_false g,decide_eq_true j,↓Mr,Mr,Mb,reduceIte])<;>exact h
   ·by_cases g:(c.toNat:Int)<48
    ·simp only[d,decide_eq_false o,decide_eq_false n,decide_eq_true g,u,↓Mr,Mr,Mb,reduceIte]
     have l:=e (.inl (by simp[S8,Xh,Qa,F7];omega))
     rw[l] at h
     cases decide (i=0)<;>(try simp only[d,decide_eq_true g,↓Mr,Mr,Mb,reduceIte])<;>exact h
    ·by_cases j:(57:Int)<c.toNat
     ·simp only[d,decide_eq_false o,decide_eq_false n,decide_eq_false g,decide_eq_true j,u,↓Mr,Mr,Mb,reduceIte]
      have l:=e (.inl (by simp[S8,Xh,Qa,F7];omega))
      rw[l] at h
      cases decide (i=0)<;>(try simp only[d,decide_eq_false g,decide_eq_true j,↓Mr,Mr,Mb,reduceIte])<;>exact h
     ·have t:F7 c.toNat=true:=by simp[F7];omega
      simp only[d,decide_eq_false o,decide_eq_false n,decide_eq_false g,decide_eq_false j,u,↓Mr,Mr,Mb,reduceIte]
      by_cases p:i=0
      ·have l:=e (.inr ⟨p,t⟩)
       rw[l] at h
       simp only[decide_eq_true p,d,decide_eq_false g,decide_eq_false j,↓Mr,Mr,Mb,reduceIte]
       exact h
      ·simp only[decide_eq_false p,d,decide_eq_false g,decide_eq_false j,↓Mr,Mr,Mb,reduceIte]
       exact f (by simp[S8,t]) (fun h=>absurd h p)
 ·have H:decide ((i:Int)<a.length)=false:=by simp only[decide_eq_false_iff_not];omega
  obtain rfl:i=a.length:=by omega
  simp only[H,↓Mr,Mr,Mb,reduceIte]
  rw[R2 X8]
  cases a with
  | nil=>
   have A:decide ((1:Int)≤(([]:List UInt8).length:Int))=false:=rfl
   simp only[A,↓Mr,Mr,Mb,reduceIte];exact h
  | cons c r=>
   have A:decide ((1:Int)≤((c::r).length:Int))=true:=by simp only[decide_eq_true_eq,List.length_cons];omega
   have v:=L (by simp)
   simp only[List.head?_cons,Option.map_some,Option.some.injEq] at v
   simp only[List.take_length] at k
   have z:name (c::r)=decide ((c::r).length≤32):=by simp only[name,v,k];simp
   have M:decide (((c::r).length:Int)≤32)=decide ((c::r).length≤32):=by rw[Bool.eq_iff_iff];simp only[decide_eq_true_eq];omega
   simp only[A,R2 X8,M,↓Mr,Mr,Mb,reduceIte]
   rw[←z];exact h)
theorem Pt {c:UInt8} {r:List UInt8} (h:name (c::r)=true):S8 c.toNat=true∧F7 c.toNat=false:=by
 simp only[name,Bool.and_eq_true,List.all_cons,Bool.not_eq_true'] at h
 exact ⟨h.2.1,h.1.2⟩
theorem Yd (a:List UInt8) (e:a.length≤140737488355328) (h:K (.bool (M6 a)) w):Q1 P F.d [S a] w K:=Kw (by
 unfold Nf
 refine Q5A a e ?_
 cases a with
 | nil=>simp only[name,↓Mr,Mr,Mb,reduceIte];exact h
 | cons c r=>
  cases b:name (c::r)
  ·(try simp only[↓Mr,Mr,Mb,reduceIte])
   simpa [M6,b] using h
  ·(try simp only[↓Mr,Mr,Mb,reduceIte])
   rw[Xw X8 (by omega) (by simp)]
   have d:(c::r)[(0:Int).toNat]'(by simp)=c:=rfl
   (try simp only[↓Mr,Mr,Mb,reduceIte])
   rw[d]
   obtain ⟨f,g⟩:=Pt b
   have:decide ((c.toNat:Int)≤90)=Xh c.toNat:=by
    simp only[S8,Xh,Qa,F7,Bool.or_eq_true,Bool.and_eq_true,Bool.and_eq_false_iff,decide_eq_true_eq,decide_eq_false_iff_not] at f g⊢
    rw[Bool.eq_iff_iff];simp only[Bool.and_eq_true,decide_eq_true_eq];omega
   rw[this]
   simpa [M6,b] using h)
theorem Ic (a:List UInt8) (e:a.length≤140737488355328) (h:K (.bool (D6 a)) w):Q1 P F.u [S a] w K:=Gt (by
 unfold Ll
 refine Q5A a e ?_
 cases a with
 | nil=>simp only[name,↓Mr,Mr,Mb,reduceIte];exact h
 | cons c r=>
  cases b:name (c::r)
  ·(try simp only[↓Mr,Mr,Mb,reduceIte])
   simpa [D6,b] using h
  ·(try simp only[↓Mr,Mr,Mb,reduceIte])
   rw[Xw X8 (by omega) (by simp)]
   have d:(c::r)[(0:Int).toNat]'(by simp)=c:=rfl
   (try simp only[↓Mr,Mr,Mb,reduceIte])
   rw[d]
   obtain ⟨f,g⟩:=Pt b
   have:decide ((97:Int)≤c.toNat)=Qa c.toNat:=by
    simp only[S8,Xh,Qa,F7,Bool.or_eq_true,Bool.and_eq_true,Bool.and_eq_false_iff,decide_eq_true_eq,decide_eq_false_iff_not] at f g⊢
    rw[Bool.eq_iff_iff];simp only[Bool.and_eq_true,decide_eq_true_eq];omega
   rw[this]
   simpa [D6,b] using h)
def X42 (a:List UInt8) (w:World) (x:Value×Value) (w':World):Prop:=
 w=w'∧ ∃(b:List UInt8) (n:Nat),x=(S b,I n)∧b.length+2*n=a.length∧(base a).2=(base b).2+n
def X1p (x:Value×Value):Nat:=match x.1 with | .string s=>s.size | _=>0
theorem Ro (a:List UInt8) (k:a.length≤140737488355328) (h:K (I (base a).2) w):Q1 P F.a1 [S a] w K:=Q06 (by
 unfold Dg
 refine We (X42 a w) (fun x _=>X1p x) ⟨rfl,a,0,rfl,by omega,rfl⟩ ?_
 rintro _ _ _ ⟨rfl,b,n,rfl,j,c⟩
 rw[R2 X8]
 (try simp only[↓Mr,Mr,Mb,reduceIte])
 by_cases f:2≤b.length
 ·have e:decide ((2:Int)≤b.length)=true:=by simp only[decide_eq_true_eq];omega
  simp only[e,R2 X8,↓Mr,Mr,Mb,reduceIte]
  rw[F9 (by omega) (by omega),Ut X8 (by omega) (by omega)]
  rw[show ((b.length:Int)-2).toNat=b.length-2 from by omega]
  have g:decide (b.drop (b.length-2)=[91,93])=arr b:=by simp[arr,f]
  simp only[g,↓Mr,Mr,Mb,reduceIte]
  cases d:arr b
  ·(try simp only[↓Mr,Mr,Mb,reduceIte])
   rw[Xo b,d] at c
   simp only[Bool.false_eq_true,if_false,Nat.zero_add] at c
   rw[c] at h;exact h
  ·(try simp only[R2 X8,↓Mr,Mr,Mb,reduceIte])
   rw[T3 X8 (by omega) (by omega)]
   rw[show ((b.length:Int)-2).toNat=b.length-2 from by omega]
   have i:=K1 d
   refine ⟨⟨rfl,Kd.cutA b,n+1,?_,by omega,?_⟩,?_⟩
   ·simp only[Kd.cutA,Prod.mk.injEq,true_and]
    first | rfl | (rw[F9 (by omega) (by omega)];rfl)
   ·rw[c,Xo b,d];simp;omega
   ·simp only[X1p,I9,List.length_take];omega
 ·have e:decide ((2:Int)≤b.length)=false:=by simp only[decide_eq_false_iff_not];omega
  simp only[e,↓Mr,Mr,Mb,reduceIte]
  have d:arr b=false:=by simp[arr,f]
  rw[Xo b,d] at c
  simp only[Bool.false_eq_true,if_false,Nat.zero_add] at c
  rw[c] at h;exact h)
theorem Q4e (a:List UInt8):a.take (a.length-2*(base a).2)=(base a).1:=by
 have key: ∀n (a:List UInt8),a.take (a.length-2*(Yr n a).2)=(Yr n a).1:=by
  intro n
  induction n with
  | zero=>intro a;simp[Yr]
  | succ n b=>
   intro a
   simp only[Yr]
   split
   ·rename_i h
    have c:=K1 h
    simp only
    rw[←b (Kd.cutA a)]
    rw[Kd.cutA,List.take_take,List.length_take]
    congr 1
    omega
   ·simp
 exact key _ a
theorem Jt (a:List UInt8) (f:a.length≤140737488355328) (h:K (.bool (right a)) w):Q1 P F.e [S a] w K:=Kf (by
 unfold Lw
 have e:=Q1D a
 refine Ro a f ?_
 rw[R2 X8]
 (try simp only[↓Mr,Mr,Mb,reduceIte])
 rw[F9 (n:=2*((base a).2:Int)) (by omega) (by omega),F9 (by omega) (by omega),T3 X8 (by omega) (by omega)]
 rw[show ((a.length:Int)-2*((base a).2:Int)).toNat=a.length-2*(base a).2 from by omega,Q4e]
 (try simp only[↓Mr,Mr,Mb,reduceIte])
 by_cases b:(base a).2≤3
 ·have c:decide (((base a).2:Int)≤3)=true:=by simp only[decide_eq_true_eq];omega
  simp only[c,↓Mr,Mr,Mb,reduceIte]
  refine Ek _ ?_
  cases d:plain (base a).1
  ·(try simp only[↓Mr,Mr,Mb,reduceIte])
   refine Yd _ (by omega) ?_
   (try simp only[↓Mr,Mr,Mb,reduceIte])
   simpa [right,b,d] using h
  ·(try simp only[↓Mr,Mr,Mb,reduceIte])
   simpa [right,b,d] using h
 ·have c:decide (((base a).2:Int)≤3)=false:=by simp only[decide_eq_false_iff_not];omega
  simp only[c,↓Mr,Mr,Mb,reduceIte]
  simpa [right,b] using h)
theorem X1P {a:List UInt8} (h:arr a=true):2≤a.length:=by simp only[arr,Bool.and_eq_true,decide_eq_true_eq] at h;exact h.1
theorem Q4b {a:List UInt8} (h:arr a=true) (c:right a=true):3≤a.length:=by
 have d:=X1P h
 refine Nat.lt_of_le_of_ne d fun e=>?_
 have f:=K1 h
 have b:Kd.cutA a=[]:=List.eq_nil_of_length_eq_zero (by omega)
 simp only[right,Xo a,h,if_true,b] at c
 revert c;decide
theorem X0o (a:List UInt8) (e:a.length≤140737488355328) (h:K (S (elem a)) w):Q1 P F.bD [S a] w K:=Ax (by
 unfold Oi
 rw[R2 X8]
 (try simp only[↓Mr,Mr,Mb,reduceIte])
 by_cases j:a.length<3
 ·have b:decide ((a.length:Int)<3)=true:=by simp only[decide_eq_true_eq];omega
  simp only[b,↓Mr,Mr,Mb,reduceIte]
  have i:elem a=[]:=by
   simp only[elem]
   split
   ·rename_i hh
    simp only[Bool.and_eq_true] at hh
    have:=Q4b hh.1 hh.2
    omega
   ·rfl
  rw[i] at h;exact h
 ·have b:decide ((a.length:Int)<3)=false:=by simp only[decide_eq_false_iff_not];omega
  simp only[b,↓Mr,Mr,Mb,reduceIte]
  rw[F9 (by omega) (by omega),Ut X8 (by omega) (by omega)]
  rw[show ((a.length:Int)-2).toNat=a.length-2 from by omega]
  have f:decide (a.drop (a.length-2)=[91,93])=arr a:=by simp[arr];omega
  (try simp only[↓Mr,Mr,Mb,reduceIte])
  (try simp only[f,↓Mr,Mr,Mb,reduceIte])
  cases d:arr a
  ·(try simp only[↓Mr,Mr,Mb,reduceIte])
   simpa [elem,d] using h
  ·(try simp only[↓Mr,Mr,Mb,reduceIte])
   refine Ro a e ?_
   (try simp only[↓Mr,Mr,Mb,reduceIte])
   by_cases g:(base a).2≤3
   ·have b:decide ((3:Int)<((base a).2:Int))=false:=by simp only[decide_eq_false_iff_not];omega
    simp only[b,↓Mr,Mr,Mb,reduceIte]
    refine Jt a e ?_
    cases c:right a
    ·(try simp only[↓Mr,Mr,Mb,reduceIte])
     simpa [elem,d,c] using h
    ·(try simp only[↓Mr,Mr,Mb,reduceIte])
     try rw[F9 (by omega) (by omega)]
     rw[T3 X8 (by omega) (by omega)]
     rw[show ((a.length:Int)-2).toNat=a.length-2 from by omega]
     simpa [elem,d,c,Kd.cutA] using h
   ·have b:decide ((3:Int)<((base a).2:Int))=true:=by simp only[decide_eq_true_eq];omega
    simp only[b,↓Mr,Mr,Mb,reduceIte]
    have c:right a=false:=by simp[right,g]
    simpa [elem,d,c] using h)
def X36 (a:List UInt8) (w:World) (x:Value) (w':World):Prop:=
 w=w'∧ ∃n:Nat,x=I n∧n≤a.length∧(∀i,(h:i<n)→(b:i<a.length)→a[i]≠46)
def Q90 (a:List UInt8) (x:Value):Nat:=match x with | .int _ n=>(a.length-n).toNat | _=>0
theorem Q4l (a:List UInt8) (M:a.length≤140737488355328) (h: ∀w',Below w.heap.size w w'→K (if (Qz a).2.2 then .tuple #[S (Qz a).1,S (Qz a).2.1, .bool (Zn a)] else .tuple #[S [],S [], .bool false]) w'):Q1 P F.bv [S a] w K:=Ih (by
 unfold Lz
 refine We (X36 a w) (fun x _=>Q90 a x) ⟨rfl,0,rfl,by omega,by omega⟩ ?_
 rintro _ _ _ ⟨rfl,n,rfl,L,s⟩
 rw[R2 X8]
 (try simp only[↓Mr,Mr,Mb,reduceIte])
 by_cases E:n<a.length
 ·have v:decide ((n:Int)<a.length)=true:=by simp only[decide_eq_true_eq];omega
  simp only[v,↓Mr,Mr,Mb,reduceIte]
  rw[Xw X8 (by omega) (by omega)]
  (try simp only[↓Mr,Mr,Mb,reduceIte])
  simp only[Int.toNat_natCast]
  have H:decide (((a[n]).toNat:Int)=46)=decide (a[n]=46):=by
   rw[Bool.eq_iff_iff];simp only[decide_eq_true_eq]
   constructor
   ·intro e;exact UInt8.toNat_inj.1 (by have:(46:UInt8).toNat=46:=rfl;omega)
   ·intro e;rw[e];rfl
  rw[H]
  by_cases m:a[n]=46
  ·simp only[m,decide_true,↓Mr,Mr,Mb,reduceIte]
   have l:Qz a=(a.take n,a.drop (n+1),true):=by
    have:a.findIdx? (fun b=>decide (b=46))=some n:=by
     rw[List.findIdx?_eq_some_iff_getElem]
     exact ⟨E,by simpa using m,fun j J=>by simpa using s j J (by omega)⟩
    rw[Kt,this];rfl
   have r:Zn a=(M6 (a.take n)&&D6 (a.drop (n+1))):=by simp[Zn,l]
   rw[l,r] at h
   have q:((n:Int)+1).toNat=n+1:=by omega
   have y:(a.take n).length≤140737488355328:=by simp only[List.length_take];omega
   have o:(a.drop (n+1)).length≤140737488355328:=by simp only[List.length_drop];omega
   have z: ∀{w:World} {K:Value→World→Prop},K (S (a.take n)) w→R6 P T.c (S a) none (some (I n)) none w K:=by
    intro w K h
    rw[T3 X8 (by omega) (by omega),show ((n:Int)).toNat=n from by omega];exact h
   have B: ∀{w:World} {K:Value→World→Prop},K (S (a.drop (n+1))) w→R6 P T.c (S a) (some (I (n+1))) none none w K:=by
    intro w K h
    rw[Ut X8 (by omega) (by omega),q];exact h
   refine Dn (Below.refl _ _) ?_
   refine X4 (S (a.take n)) (fun w c=>z (X6 rfl)) ?_
   refine X4 (I (n+1)) (fun w c=>X6 (by rw[F9 (by omega) (by omega)])) ?_
   refine X4 (S (a.drop (n+1))) (fun t w c e=>by rw[e];exact B (X6 rfl)) ?_
   refine X4 (S (a.take n)) (fun w c=>z (X6 rfl)) ?_
   refine X4 (.bool (M6 (a.take n))) (fun t w c e=>by rw[e];exact Yd _ y (X6 rfl)) ?_
   cases g:M6 (a.take n)
   ·refine X4 undef (fun t w c e=>by rw[e,E1];exact X6 rfl) ?_
    refine X4 undef (fun t w c e=>by rw[e,E1];exact X6 rfl) ?_
    refine X4 undef (fun t f w c e d=>by rw[e,E1];exact X6 rfl) ?_
    refine X4 undef (fun t f p w c e d k=>by rw[e,E1];exact X6 rfl) ?_
    refine X4 undef (fun t f w c e d=>by rw[e,E1];exact X6 rfl) ?_
    refine X4 (.bool false) (fun t f w c e d=>by rw[e,W9];exact X6 rfl) ?_
    rintro _ _ _ _ _ _ _ _ _ _ _ w1 c rfl rfl rfl rfl rfl rfl rfl rfl rfl rfl rfl
    rw[g] at h
    exact h w1 (by simpa using c)
   ·refine X4 (S a) (fun t w c e=>by rw[e,W2];exact X6 rfl) ?_
    refine X4 (I n) (fun t w c e=>by rw[e,W2];exact X6 rfl) ?_
    refine X4 (I (n+1)) (fun t f w c e d=>by rw[e,d,W2];simp only[↓Mr,Mr,Mb,reduceIte];exact X6 (by rw[F9 (by omega) (by omega)])) ?_
    refine X4 (S (a.drop (n+1))) (fun t f p w c e d k=>by rw[e,d,k,W2];exact B (X6 rfl)) ?_
    refine X4 (.bool (D6 (a.drop (n+1)))) (fun t f w c e d=>by rw[e,d,W2];exact Ic _ o (X6 rfl)) ?_
    refine X4 (.bool (D6 (a.drop (n+1)))) (fun t f w c e d=>by rw[e,d,M5];exact X6 rfl) ?_
    rintro _ _ _ _ _ _ _ _ _ _ _ w1 c rfl rfl rfl rfl rfl rfl rfl rfl rfl rfl rfl
    rw[g] at h
    exact h w1 (by simpa using c)
  ·simp only[m,decide_false,↓Mr,Mr,Mb,reduceIte]
   rw[F9 (by omega) (by omega)]
   refine ⟨⟨rfl,n+1,rfl,by omega,fun i A C=>?_⟩,?_⟩
   ·by_cases u:i=n
    ·subst u;exact m
    ·exact s i (by omega) C
   ·simp only[Q90];omega
 ·have v:decide ((n:Int)<a.length)=false:=by simp only[decide_eq_false_iff_not];omega
  simp only[v,↓Mr,Mr,Mb,reduceIte]
  have l:(Qz a).2.2=false∧(Qz a).1=a∧(Qz a).2.1=[]:=by
   have:a.findIdx? (fun b=>decide (b=46))=none:=by
    rw[List.findIdx?_eq_none_iff]
    intro x D
    obtain ⟨i,A,rfl⟩:=List.getElem_of_mem D
    simpa using s i (by omega) A
   rw[Kt,this];exact ⟨rfl,rfl,rfl⟩
  rw[l.1] at h
  exact h w (Below.refl _ _))
end Go.Proofs.YtjdiakhipmggjaaGreatDoor

namespace Go.Emb
open Go.RowKit
class TZ (P : Program) (t : TypeId) (sz b : outParam Nat) (z : outParam Value) : Prop where
  h : (P.info? t).map (fun i => (i.size, i.bytes, i.zero)) = some (sz, b, some z)
def Q9Q:Option TypeDesc→Bool
 | some (.struct _)=>true
 | some (.array _ _)=>true
 | none=>true
 | _=>false
class TG (P : Program) (t : TypeId) (g : outParam Bool) : Prop where
  h : (Q9Q (P.underlying t), (P.underlying t).isSome) = (g, true)
class TS (P : Program) (t : TypeId) (e : outParam TypeId) : Prop where
  h : P.underlying t = some (.slice e)
class TA (P : Program) (t : TypeId) (n : outParam Nat) (e : outParam TypeId) : Prop where
  h : P.underlying t = some (.array n e)
class TM (P : Program) (t : TypeId) (k e : outParam TypeId) : Prop where
  h : P.underlying t = some (.map k e)
def Q3z (d:Option TypeDesc) (k:Nat):Option (Nat×TypeId):=match d with
 | some (.struct a)=>(a[k]?).map fun f=>(f.offset,f.type)
 | _=>none
class TF (P : Program) (t : TypeId) (k : Nat) (off : outParam Nat) (ft : outParam TypeId) : Prop where
  h : Q3z (P.underlying t) k = some (off, ft)
variable {P : Program} {w w0 w1 w' w'' : World} {K : Value → World → Prop}
theorem TZ.info {t:TypeId} {sz b:Nat} {z:Value} (h:TZ P t sz b z): ∃i,P.info? t=some i∧i.size=sz∧i.bytes=b∧i.zero=some z:=by
 obtain ⟨i,a,e⟩:=Option.map_eq_some_iff.1 h.h
 simp only[Prod.mk.injEq] at e
 exact ⟨i,a,e.1,e.2.1,e.2.2⟩
theorem W5 {t:TypeId} {sz b:Nat} {z:Value} (h:TZ P t sz b z) (w:World):(sizeOf t).run P w= .ok sz w:=by
 obtain ⟨i,a,rfl,_⟩:=h.info
 simp[sizeOf,typeInfo,a]
theorem Zj {t:TypeId} {sz b:Nat} {z:Value} (h:TZ P t sz b z) (w:World):(zeroValue t).run P w= .ok z w:=by
 obtain ⟨i,a,_,_,c⟩:=h.info
 simp[zeroValue,typeInfo,a,c]
theorem Xs {t:TypeId} {g:Bool} (h:TG P t g) (w:World):(isAgg t).run P w= .ok g w:=by
 have hh:=h.h
 simp only[Prod.mk.injEq] at hh
 obtain ⟨c,b⟩:=hh
 cases a:P.underlying t with
 | none=>rw[a] at b;cases b
 | some d=>
  rw[a] at c
  have:=run_underlying (P:=P) (w:=w) a
  simp only[isAgg,Sem.run_bind,this,Result.andThen_ok]
  cases d<;>simp_all [Q9Q]
theorem Q3E (a:Addr) (i j:Nat):(a.add i).add j=a.add (i+j):=by
 unfold Addr.add
 by_cases b:i=0
 ·simp[b]
 ·by_cases c:j=0
  ·simp[c]
  ·simp[b,c,Nat.add_assoc]
theorem add_zero (a:Addr):a.add 0=a:=by simp[Addr.add]
theorem S9 (a:Addr) (i:Nat):(a.add i).block=a.block:=by unfold Addr.add;split<;>rfl
theorem Qg (a:Addr) (i:Nat):(a.add i).off=a.off+i:=by unfold Addr.add;split<;>simp_all
theorem I6 {a:Addr} (h:a.spot=none) (i:Nat):(a.add i).spot=none:=by unfold Addr.add;split<;>simp_all
abbrev Q6:=Nat→Option Obj
def X3 (w:World) (σ:Q6):Prop:= ∀b o,σ b=some o→w.heap[b]? =some o
structure Stp (w : World) (σ : Q6) (w' : World) (σ' : Q6) : Prop where
  bel : Below w.heap.size w w'
  sat : X3 w' σ'
  le : ∀ b o, σ b = some o → σ' b = some o
  old : ∀ b, b < w.heap.size → σ' b = σ b
theorem X3.lt {σ:Q6} (h:X3 w σ) {b:Nat} {o:Obj} (a:σ b=some o):b<w.heap.size:=(Array.getElem?_eq_some_iff.1 (h b o a)).1
theorem X3.below {σ:Q6} (h:X3 w σ) (a:Below w.heap.size w w'):X3 w' σ:=fun b o e=>(a.block b (h.lt e)).trans (h b o e)
theorem Stp.refl {σ:Q6} (h:X3 w σ):Stp w σ w σ:=⟨Below.refl _ _,h,fun _ _ e=>e,fun _ _=>rfl⟩
theorem Stp.trans {σ0 σ1 c:Q6} (h:Stp w σ0 w' σ1) (k:Stp w' σ1 w'' c):Stp w σ0 w'' c:=
 ⟨h.bel.trans (k.bel.mono h.bel.size),k.sat,fun b o e=>k.le b o (h.le b o e),fun b a=>(k.old b (Nat.lt_of_lt_of_le a h.bel.size)).trans (h.old b a)⟩
theorem Stp.of_below {σ:Q6} (h:X3 w σ) (a:Below w.heap.size w w'):Stp w σ w' σ:=⟨a,h.below a,fun _ _ e=>e,fun _ _=>rfl⟩
def Q6.put (σ:Q6) (b:Nat) (o:Obj):Q6:=fun k=>if k=b then some o else σ k
theorem X3.none {σ:Q6} (h:X3 w σ) {b:Nat} (a:w.heap.size≤b):σ b=none:=by
 cases e:σ b with
 | none=>rfl
 | some o=>have:=h.lt e;omega
theorem Stp.alloc {σ:Q6} (h:X3 w σ) (o:Obj):Stp w σ (w.alloc o) (σ.put w.heap.size o):=by
 refine ⟨(Below.refl _ _).alloc (Nat.le_refl _) o,?_,?_,?_⟩
 ·intro b p e
  by_cases a:b=w.heap.size
  ·subst a
   simp only[Q6.put,if_true] at e
   cases e
   exact heap_alloc_new w o
  ·simp only[Q6.put,if_neg a] at e
   rw[Below.heap_alloc w o b (h.lt e)];exact h b p e
 ·intro b p e
  have:=h.lt e
  simp only[Q6.put];rw[if_neg (by omega)];exact e
 ·intro b a
  simp only[Q6.put];rw[if_neg (by omega)]
theorem Stp.own {σ:Q6} (h:X3 w σ) (o:Obj):Stp w σ (w.alloc o) σ:=Stp.of_below h ((Below.refl _ _).alloc (Nat.le_refl _) o)
def Z4 (σ:Q6) (a:Addr) (cs:List Value):Prop:=a.spot=none∧ ∃arr e b,σ a.block=some (.cells arr e b)∧ ∀i v,cs[i]? =some v→arr[a.off+i]? =some v
theorem Z4.up {σ σ':Q6} {a:Addr} {cs:List Value} (h:Z4 σ a cs) (b:Stp w σ w' σ'):Z4 σ' a cs:=by
 obtain ⟨d,arr,e,c,f,g⟩:=h
 exact ⟨d,arr,e,c,b.le _ _ f,g⟩
theorem Z4.cell {σ:Q6} {a:Addr} {cs:List Value} (h:Z4 σ a cs) (c:X3 w σ) {i:Nat} {v:Value} (b:cs[i]? =some v):w.cell? (a.add i)=some v:=by
 obtain ⟨d,arr,e,j,f,g⟩:=h
 have:=c _ _ f
 unfold World.cell?
 rw[S9,this,Qg,I6 d]
 exact g i v b
def Y2 (σ:Q6) (w:World) (b:Nat) (cs:List Value):Prop:=σ b=none∧ ∃e,w.heap[b]? =some (.cells cs.toArray e (0,0))
theorem Y2.lt {σ:Q6} {b:Nat} {cs:List Value} (h:Y2 σ w b cs):b<w.heap.size:=by
 obtain ⟨_,e,h⟩:=h
 exact (Array.getElem?_eq_some_iff.1 h).1
theorem Y2.up {σ σ':Q6} {b:Nat} {cs:List Value} (h:Y2 σ w b cs) (c:Stp w σ w' σ'):Y2 σ' w' b cs:=by
 have a:=h.lt
 obtain ⟨d,e,f⟩:=h
 exact ⟨(c.old b a).trans d,e,(c.bel.block b a).trans f⟩
theorem Y2.cell {σ:Q6} {b:Nat} {cs:List Value} (h:Y2 σ w b cs) {i:Nat} {v:Value} (a:cs[i]? =some v):w.cell? ((⟨b,0,none⟩:Addr).add i)=some v:=by
 obtain ⟨_,e,c⟩:=h
 unfold World.cell?
 rw[S9,Qg,I6 rfl]
 simp only[c]
 simpa using a
theorem Y2.keep {σ σ0:Q6} {b:Nat} {cs:List Value} (h:Y2 σ w b cs) (d:Stp w0 σ0 w σ) (m:w0.heap.size≤b): ∃σ',Stp w0 σ0 w σ'∧Z4 σ' ⟨b,0,none⟩ cs∧(∀k o,σ k=some o→σ' k=some o)∧(∀k,k≠b→σ' k=σ k):=by
 obtain ⟨g,e,j⟩:=h
 refine ⟨σ.put b (.cells cs.toArray e (0,0)),⟨d.bel,?_,?_,?_⟩,⟨rfl,cs.toArray,e,(0,0),by simp[Q6.put],?_⟩,?_,?_⟩
 ·intro k o c
  by_cases a:k=b
  ·subst a;simp only[Q6.put,if_true] at c;cases c;exact j
  ·simp only[Q6.put,if_neg a] at c;exact d.sat k o c
 ·intro k o c
  by_cases a:k=b
  ·subst a;have:=d.le _ _ c;rw[g] at this;cases this
  ·simp only[Q6.put,if_neg a];exact d.le _ _ c
 ·intro k f
  simp only[Q6.put];rw[if_neg (by omega)];exact d.old k f
 ·intro i v l;simpa using l
 ·intro k o c
  by_cases a:k=b
  ·subst a;rw[g] at c;cases c
  ·simp only[Q6.put,if_neg a];exact c
 ·intro k a;simp only[Q6.put,if_neg a]
theorem Q7g (t:TypeId) (v:Value) (w:World):(Instr.box t v).run P w= .ok (.pointer (some ⟨w.heap.size,0,none⟩)) (w.alloc (.cells v.cells t)):=by
 simp[Instr.box,newVar,newRow]
theorem Q3t {σ:Q6} (a:X3 w σ) (cs:Array Value) (t:TypeId):Y2 σ (w.alloc (.cells cs t)) w.heap.size cs.toList:=
 ⟨a.none (Nat.le_refl _),t,by simpa using heap_alloc_new w (.cells cs t)⟩
theorem Q8q {σ:Q6} (cs:Array Value) (t:TypeId):Z4 (σ.put w.heap.size (.cells cs t)) ⟨w.heap.size,0,none⟩ cs.toList:=
 ⟨rfl,cs,t,(0,0),by simp[Q6.put],fun i v h=>by simpa using h⟩
theorem E7 {σ:Q6} {t:TypeId} {v:Value} (b:X3 w σ) (h: ∀a w' σ',Stp w σ w' σ'→Z4 σ' a v.cells.toList→K (.pointer (some a)) w'):box P t v w K:=by
 unfold box;rw[Y0 (Q7g t v w)]
 exact h _ _ _ (Stp.alloc b _) (Q8q _ t)
theorem Q68 {σ:Q6} {t:TypeId} {v:Value} (a:X3 w σ) (h: ∀b w',w.heap.size≤b→Stp w σ w' σ→Y2 σ w' b v.cells.toList→K (.pointer (some ⟨b,0,none⟩)) w'):box P t v w K:=by
 unfold box;rw[Y0 (Q7g t v w)]
 exact h _ _ (Nat.le_refl _) (Stp.own a _) (Q3t a _ t)
theorem Px {σ:Q6} {t:TypeId} {sz a:Nat} {z:Value} [tz:TZ P t sz a z] (c:X3 w σ) (h: ∀b w',w.heap.size≤b→Stp w σ w' σ→Y2 σ w' b z.cells.toList→K (.pointer (some ⟨b,0,none⟩)) w'):W1 P t w K:=by
 unfold W1
 have:(Instr.alloc t true (.tuple #[])).run P w= .ok (.pointer (some ⟨w.heap.size,0,none⟩)) (w.alloc (.cells z.cells t)):=by
  simp[Instr.alloc,Zj tz,newVar,newRow]
 rw[Y0 this]
 exact h _ _ (Nat.le_refl _) (Stp.own c _) (Q3t c _ t)
theorem Qf {t:TypeId} [tg:TG P t false] {a:Addr} {v:Value} (b:w.cell? a=some v) (h:K v w):Q2 P t (.pointer (some a)) w K:=by
 unfold Q2
 rw[Y0 (v:=v) (w':=w) (by simp[Instr.loadAt,Instr.sureAddr,loadVar,Xs tg,b])]
 exact h
theorem Tb {t:TypeId} {sz b:Nat} {z:Value} [tg:TG P t true] [tz:TZ P t sz b z] {a:Addr} {cs:List Value} (c:cs.length=sz) (d: ∀j v,cs[j]? =some v→w.cell? (a.add j)=some v) (h:K (.agg cs.toArray) w):Q2 P t (.pointer (some a)) w K:=by
 unfold Q2
 have:=run_loadCells_list (P:=P) w a cs d
 rw[c] at this
 rw[Y0 (v:= .agg cs.toArray) (w':=w) (by simp[Instr.loadAt,Instr.sureAddr,loadVar,Xs tg,W5 tz,this])]
 exact h
theorem ld {σ:Q6} {t:TypeId} [TG P t false] {a:Addr} {cs:List Value} {i:Nat} {v:Value} (d:X3 w σ) (c:Z4 σ a cs) (b:cs[i]? =some v) (h:K v w):Q2 P t (.pointer (some (a.add i))) w K:=
 Qf (c.cell d b) h
theorem X7 {σ:Q6} {t:TypeId} [TG P t false] {a:Addr} {cs:List Value} {v:Value} (d:X3 w σ) (c:Z4 σ a cs) (b:cs[0]? =some v) (h:K v w):Q2 P t (.pointer (some a)) w K:=by
 have:=ld (P:=P) (t:=t) d c b h
 rwa [add_zero] at this
theorem Y4 {σ:Q6} {t:TypeId} {sz b:Nat} {z:Value} [TG P t true] [TZ P t sz b z] {a:Addr} {cs:List Value} (g:X3 w σ) (f:Z4 σ a cs) (d:cs.length=sz) (h:K (.agg cs.toArray) w):Q2 P t (.pointer (some a)) w K:=
 Tb d (fun _ _ c=>f.cell g c) h
theorem Yc {σ:Q6} {t:TypeId} [TG P t false] {b:Nat} {cs:List Value} {i:Nat} {v:Value} (c:Y2 σ w b cs) (a:cs[i]? =some v) (h:K v w):Q2 P t (.pointer (some ((⟨b,0,none⟩:Addr).add i))) w K:=
 Qf (c.cell a) h
theorem Q8v {σ:Q6} {t:TypeId} [TG P t false] {b:Nat} {cs:List Value} {v:Value} (c:Y2 σ w b cs) (a:cs[0]? =some v) (h:K v w):Q2 P t (.pointer (some ⟨b,0,none⟩)) w K:=by
 have:=Yc (P:=P) (t:=t) c a h
 rwa [add_zero] at this
theorem Rv {σ:Q6} {t:TypeId} {sz a:Nat} {z:Value} [TG P t true] [TZ P t sz a z] {b:Nat} {cs:List Value} (f:Y2 σ w b cs) (d:cs.length=sz) (h:K (.agg cs.toArray) w):Q2 P t (.pointer (some ⟨b,0,none⟩)) w K:=
 Tb d (fun _ _ c=>f.cell c) h
theorem V1 {t:TypeId} {sz a:Nat} {z:Value} [tg:TG P t true] [tz:TZ P t sz a z] {σ:Q6} {b:Nat} {cs:List Value} {K:Value→Prop} (f:Y2 σ w b cs) (d:cs.length=sz) (h:K (.agg cs.toArray)):Y7 P t (.pointer (some ⟨b,0,none⟩)) w K:=by
 rw[Q2Z]
 refine ⟨_,?_,h⟩
 have:=run_loadCells_list (P:=P) w ⟨b,0,none⟩ cs (fun _ _ c=>f.cell c)
 rw[d] at this
 simp[asAddr,loadVar,Xs tg,W5 tz,this]
structure Upd (w : World) (b : Nat) (w' : World) : Prop where
  os : w'.os = w.os
  tape : w'.tape = w.tape
  output : w'.output = w.output
  size : w'.heap.size = w.heap.size
  block : ∀ k, k ≠ b → w'.heap[k]? = w.heap[k]?
theorem Upd.stp {σ0 σ:Q6} {b:Nat} (c:Upd w b w') (a:Stp w0 σ0 w σ) (h:w0.heap.size≤b) (f:σ b=none):Stp w0 σ0 w' σ:=by
 refine ⟨⟨c.os.trans a.bel.os,c.tape.trans a.bel.tape,c.output.trans a.bel.output,by rw[c.size];exact a.bel.size,fun k g=>(c.block k (by omega)).trans (a.bel.block k g)⟩,?_,a.le,a.old⟩
 intro k o d
 rw[c.block k (by intro e;subst e;rw[f] at d;cases d)]
 exact a.sat k o d
theorem Y2.upd {σ:Q6} {b k:Nat} {cs:List Value} (h:Y2 σ w k cs) (c:Upd w b w') (a:k≠b):Y2 σ w' k cs:=by
 obtain ⟨d,e,f⟩:=h
 exact ⟨d,e,(c.block k a).trans f⟩
theorem Yi {b:Nat} {cs:Array Value} {a:Array Value} {e:TypeId} (h:w.heap[b]? =some (.cells a e (0,0))):Upd w b (w.setRow b cs)∧(w.setRow b cs).heap[b]? =some (.cells cs e (0,0)):=by
 have c:=(Array.getElem?_eq_some_iff.1 h).1
 refine ⟨⟨rfl,rfl,rfl,by simp[World.setRow],fun k d=>?_⟩,?_⟩
 ·simp only[World.setRow,Array.getElem?_modify]
  rw[if_neg (by omega)]
 ·simp only[World.setRow,Array.getElem?_modify,if_true,h]
  rfl
theorem Mn {t:TypeId} {sz a:Nat} {z:Value} [tz:TZ P t sz a z] {σ:Q6} {b:Nat} {cs ds:List Value} (n:Y2 σ w b cs) (g:cs.length=sz) (d:ds.length=sz) (m:ds.toArray.all (·.oneCell')=true)
 (h: ∀w',Upd w b w'→Y2 σ w' b ds→K undef w'):X9 P t (.pointer (some ⟨b,0,none⟩)) (.agg ds.toArray) w K:=by
 obtain ⟨j,e,f⟩:=n
 unfold X9
 obtain ⟨i,k,c,_⟩:=tz.info
 have:=run_storeVar_row (P:=P) w b e t cs.toArray ds.toArray f (by simp[k,c,d]) (by simp[g,d]) m
 rw[Uw (w':=w.setRow b ds.toArray) (by simpa [Instr.storeAt,Instr.sureAddr] using this)]
 obtain ⟨l,hh⟩:=Yi (cs:=ds.toArray) f
 exact h _ l ⟨j,e,hh⟩
theorem Q3X {cs:List Value} {i:Nat} {v:Value} (a:i<cs.length):(cs.take i++[v]++cs.drop (i+1))=cs.set i v:=by
 rw[List.set_eq_take_append_cons_drop,if_pos a];simp
theorem Uf {t:TypeId} {c:Nat} {z:Value} [tz:TZ P t 1 c z] {σ:Q6} {b i:Nat} {cs:List Value} {v:Value} (n:Y2 σ w b cs) (k:i<cs.length) (f:v.cells= #[v]) (m:v.oneCell'=true)
 (h: ∀w',Upd w b w'→Y2 σ w' b (cs.set i v)→K undef w'):X9 P t (.pointer (some ((⟨b,0,none⟩:Addr).add i))) v w K:=by
 obtain ⟨j,e,d⟩:=n
 unfold X9
 have a:(⟨b,0,none⟩:Addr).add i=⟨b,i,none⟩:=by unfold Addr.add;split<;>simp_all
 have:=run_storeCells_at P b i e [v] 0 cs.toArray w d (by simp;omega) (by simpa using m)
 simp only[Nat.add_zero] at this
 obtain ⟨l,hh⟩:=Yi (cs:=(cs.set i v).toArray) d
 have g:(List.take i cs.toArray.toList++[v]++List.drop (i+[v].length) cs.toArray.toList).toArray=(cs.set i v).toArray:=by
  rw[←Q3X k];simp
 rw[g] at this
 rw[Uw (w':=w.setRow b (cs.set i v).toArray) (by simp[Instr.storeAt,Instr.sureAddr,a,storeVar,W5 tz,f,this])]
 exact h _ l ⟨j,e,hh⟩
theorem st0 {t:TypeId} {a:Nat} {z:Value} [tz:TZ P t 1 a z] {σ:Q6} {b:Nat} {cs:List Value} {v:Value} (g:Y2 σ w b cs) (c:0<cs.length) (d:v.cells= #[v]) (f:v.oneCell'=true)
 (h: ∀w',Upd w b w'→Y2 σ w' b (cs.set 0 v)→K undef w'):X9 P t (.pointer (some ⟨b,0,none⟩)) v w K:=by
 have:=Uf (P:=P) (t:=t) g c d f h
 rwa [add_zero] at this
class NZ (n : Nat) : Prop where
  h : (n == 0) = false
instance (n:Nat):NZ (n+1):=⟨rfl⟩
theorem fa {t:TypeId} {k b:Nat} {g:TypeId} {sz c:Nat} {z:Value} [tf:TF P t k b g] [tz:TZ P g sz c z] [nz:NZ sz] {a:Addr}:fieldAddr P t (.pointer (some a)) k w K=K (.pointer (some (a.add b))) w:=by
 unfold fieldAddr
 have hh:=tf.h
 unfold Q3z at hh
 split at hh
 ·rename_i o l
  obtain ⟨f,j,d⟩:=Option.map_eq_some_iff.1 hh
  simp only[Prod.mk.injEq] at d
  obtain ⟨m,n⟩:=d
  subst n m
  have i: ¬sz=0:=by simpa using nz.h
  exact Y0 (by simp[Instr.fieldAt,run_underlying l,j,Instr.sureAddr,fieldPlace,W5 tz,i])
 ·cases hh
theorem Eb {t e:TypeId} {sz b:Nat} {z:Value} [ts:TS P t e] [tz:TZ P e sz b z] {a:Addr} {n c:Nat} {k:IntKind} {i:Int} (d:0≤i) (f:i<n):indexAddr P t (.slice (some a) n c) (.int k i) w K=K (.pointer (some (a.add (i.toNat*sz)))) w:=by
 unfold indexAddr
 exact Y0 (by simp[Instr.indexAt,run_underlying ts.h,asIntOf,W5 tz,d,f])
theorem Q9T {t e:TypeId} {n sz b:Nat} {z:Value} [ta:TA P t n e] [tz:TZ P e sz b z] {a:Addr} {k:IntKind} {i:Int} (c:0≤i) (d:i<n):indexAddr P t (.pointer (some a)) (.int k i) w K=K (.pointer (some (a.add (i.toNat*sz)))) w:=by
 unfold indexAddr
 exact Y0 (by simp[Instr.indexAt,run_underlying ta.h,asIntOf,Instr.sureAddr,W5 tz,c,d])
theorem L7 {a:Addr}:nilCheck P (.pointer (some a)) w K=K (.pointer (some a)) w:=by
 unfold nilCheck
 rw[T4];unfold P2
 simp[execOp]
class Rep {α : Type} (R : Q6 → α → List Value → Prop) : Prop where
  up : ∀ {σ σ' : Q6} {x : α} {cs : List Value}, (∀ b o, σ b = some o → σ' b = some o) → R σ x cs → R σ' x cs
  one : ∀ {σ : Q6} {x : α} {cs : List Value}, R σ x cs → ∀ u ∈ cs, u.oneCell' = true
def Sl {α:Type} (sz:Nat) (R:Q6→α→List Value→Prop) (σ:Q6) (v:Value) (xs:List α):Prop:=
 ∃a c,v= .slice a xs.length c∧xs.length≤c∧c≤maxLen∧(a=none→c=0)∧
  ∀b,a=some b→(0<xs.length→b.spot=none)∧ ∀i x,xs[i]? =some x→ ∃cs,Z4 σ (b.add (i*sz)) cs∧cs.length=sz∧R σ x cs
theorem Z4.le {σ σ':Q6} {a:Addr} {cs:List Value} (h:Z4 σ a cs) (c: ∀b o,σ b=some o→σ' b=some o):Z4 σ' a cs:=by
 obtain ⟨f,arr,e,d,g,i⟩:=h
 exact ⟨f,arr,e,d,c _ _ g,i⟩
section
variable {α : Type} {R : Q6 → α → List Value → Prop} {sz : Nat} {σ σ' : Q6} {v : Value} {xs : List α}
theorem Sl.le [hr:Rep R] (h:Sl sz R σ v xs) (g: ∀b o,σ b=some o→σ' b=some o):Sl sz R σ' v xs:=by
 obtain ⟨a,c,p,l,m,j,d⟩:=h
 refine ⟨a,c,p,l,m,j,fun b f=>⟨(d b f).1,fun i x k=>?_⟩⟩
 obtain ⟨cs,r,n,q⟩:=(d b f).2 i x k
 exact ⟨cs,r.le g,n,hr.up g q⟩
theorem Sl.up [Rep R] (h:Sl sz R σ v xs) (a:Stp w σ w' σ'):Sl sz R σ' v xs:=h.le a.le
theorem Sl.max (h:Sl sz R σ v xs):xs.length≤9223372036854775807:=by
 obtain ⟨a,b,f,g,c,d⟩:=h
 simp only[maxLen] at c;omega
theorem Sl.nil:Sl sz R σ (.slice none 0 0) ([]:List α):=⟨none,0,rfl,by simp,by simp,fun _=>rfl,fun b a=>by cases a⟩
theorem Rk {c e t:TypeId} {cs:List Bool} [ts:TS P c e] {a:Option Addr} {n b:Nat}:X2 P .len [c] t cs [.slice a n b] w K=K (I n) w:=by
 have h:(Builtin.len_ #[c] t #[.slice a n b]).run P w= .ok (I n) w:=by
  simp[Builtin.len_,run_underlying ts.h,goInt]
 exact Y0 h
theorem X32 {b e t:TypeId} {cs:List Bool} [ts:TS P b e] (h:Sl sz R σ v xs):X2 P .len [b] t cs [v] w K=K (I xs.length) w:=by
 obtain ⟨a,c,rfl,_⟩:=h
 exact Rk
theorem X3v {t e:TypeId} {c:Nat} {z:Value} [TS P t e] [TZ P e sz c z] (h:Sl sz R σ v xs) {k:IntKind} {i:Int} (g:0≤i) (m:i.toNat<xs.length)
 (o: ∀a cs,Z4 σ a cs→cs.length=sz→R σ xs[i.toNat] cs→K (.pointer (some a)) w):indexAddr P t v (.int k i) w K:=by
 obtain ⟨a,l,rfl,q,r,d,f⟩:=h
 cases a with
 | none=>have:=d rfl;omega
 | some b=>
  rw[Eb g (by omega)]
  obtain ⟨cs,p,j,n⟩:=(f b rfl).2 i.toNat xs[i.toNat] (by simp[m])
  exact o _ cs p j n
end
theorem Stp.turn {σ0 σ:Q6} {row:Option Nat} (b:w.grownBy w' row) (a:Stp w0 σ0 w σ) (f: ∀k,row=some k→w0.heap.size≤k∧σ k=none):Stp w0 σ0 w' σ:=by
 refine ⟨⟨b.os.trans a.bel.os,b.tape.trans a.bel.tape,b.output.trans a.bel.output,Nat.le_trans a.bel.size b.size,fun k d=>?_⟩,?_,a.le,a.old⟩
 ·refine (b.block k (Nat.lt_of_lt_of_le d a.bel.size) ?_).trans (a.bel.block k d)
  intro e;have:=(f k e.symm).1;omega
 ·intro k o c
  refine (b.block k (a.sat.lt c) ?_).trans (a.sat k o c)
  intro e;rw[(f k e.symm).2] at c;cases c
theorem Y2.turn {σ:Q6} {row:Option Nat} {k:Nat} {cs:List Value} (h:Y2 σ w k cs) (b:w.grownBy w' row) (a:some k≠row):Y2 σ w' k cs:=by
 have c:=h.lt
 obtain ⟨d,e,f⟩:=h
 exact ⟨d,e,(b.block k c a).trans f⟩
def V5 {α:Type} (B:Nat) (e:TypeId) (sz:Nat) (R:Q6→α→List Value→Prop) (σ:Q6) (w:World) (v:Value) (xs:List α):Prop:=
 ∃cells,w.ownsRow B e sz v xs.length cells∧(∀k,v.ownBlock=some k→σ k=none)∧ ∀i x,xs[i]? =some x→R σ x ((cells.drop (i*sz)).take sz)
section
variable {α : Type} {R : Q6 → α → List Value → Prop} {B sz : Nat} {e : TypeId} {σ σ' : Q6} {v u : Value} {xs ys : List α}
theorem V5.nil:V5 B e sz R σ w (.slice none 0 0) ([]:List α):=⟨[],World.ownsRow_nil w B e sz,by intro k a;simp[Value.ownBlock] at a,by intro i x h;simp at h⟩
theorem V5.mem (h:V5 B e sz R σ w v xs): ∀k,v.ownBlock=some k→B≤k∧k<w.heap.size∧σ k=none:=by
 obtain ⟨cells,d,f,_⟩:=h
 intro k c
 obtain ⟨a,b⟩:=d.lt k c
 exact ⟨a,b,f k c⟩
theorem V5.up [hr:Rep R] (h:V5 B e sz R σ w v xs) (a:Stp w σ w' σ'):V5 B e sz R σ' w' v xs:=by
 obtain ⟨cells,c,g,j⟩:=h
 refine ⟨cells,c.kept ⟨a.bel.os,a.bel.tape,a.bel.output,a.bel.size,fun k d _=>a.bel.block k d⟩ (by cases b:v.ownBlock<;>simp) (row:=none),?_,fun i x f=>hr.up a.le (j i x f)⟩
 intro k b
 rw[a.old k (c.lt k b).2];exact g k b
theorem Sl.cells (h:Sl sz R σ v xs) (C:X3 w σ) [hr:Rep R]: ∃(a:Option Addr) (d:Nat) (c:List Value),v= .slice a xs.length d∧(a=none→d=0)∧c.length=xs.length*sz∧(∀b,a=some b→ ∀j u,c[j]? =some u→w.cell? (b.add j)=some u)∧(∀u∈c,u.oneCell'=true)∧
 ∀i x,xs[i]? =some x→R σ x ((c.drop (i*sz)).take sz):=by
 obtain ⟨a,d,rfl,M,N,g,s⟩:=h
 cases a with
 | none=>
  have O:=g rfl
  have f:xs=[]:=List.eq_nil_of_length_eq_zero (by omega)
  subst f
  exact ⟨none,d,[],rfl,g,by simp,fun b D=>(by cases D),by simp,by simp⟩
 | some b=>
  obtain ⟨H,q⟩:=s b rfl
  clear s
  have key: ∀(ys:List α) (k:Nat),(∀i x,ys[i]? =some x→ ∃cs,Z4 σ (b.add ((k+i)*sz)) cs∧cs.length=sz∧R σ x cs)→
   ∃c:List Value,c.length=ys.length*sz∧(∀j u,c[j]? =some u→w.cell? (b.add (k*sz+j))=some u)∧(∀u∈c,u.oneCell'=true)∧ ∀i x,ys[i]? =some x→R σ x ((c.drop (i*sz)).take sz):=by
   intro ys
   induction ys with
   | nil=>intro k _;exact ⟨[],by simp,by simp,by simp,by simp⟩
   | cons y r E=>
    intro k t
    obtain ⟨cs,J,z,A⟩:=t 0 y rfl
    obtain ⟨c,l,o,p,m⟩:=E (k+1) (fun i x f=>by
     have:=t (i+1) x (by simpa using f)
     rwa [show k+1+i=k+(i+1) by omega])
    refine ⟨cs++c,by simp[l,z,Nat.add_mul,Nat.add_comm],?_,?_,?_⟩
    ·intro j u hu
     by_cases Q:j<sz
     ·rw[List.getElem?_append_left (by omega)] at hu
      have:=J.cell C hu
      rwa [Q3E,Nat.add_zero] at this
     ·rw[List.getElem?_append_right (by omega)] at hu
      have:=o _ _ hu
      rwa [z,show (k+1)*sz+(j-sz)=k*sz+j by rw[Nat.add_mul];omega] at this
    ·intro u hu
     rcases List.mem_append.1 hu with hu | hu
     ·exact hr.one A u hu
     ·exact p u hu
    ·intro i x f
     cases i with
     | zero=>
      simp at f;subst f
      simp only[Nat.zero_mul,List.drop_zero]
      rw[List.take_append_of_le_length (by omega),List.take_of_length_le (by omega)];exact A
     | succ i=>
      have:=m i x (by simpa using f)
      rw[show (i+1)*sz=cs.length+i*sz by rw[Nat.add_mul];omega,List.drop_append]
      simpa [List.drop_eq_nil_of_le] using this
  obtain ⟨c,l,o,p,m⟩:=key xs 0 (fun i x f=>by rw[Nat.zero_add];exact q i x f)
  refine ⟨some b,d,c,rfl,g,l,?_,p,m⟩
  intro L n j u hu
  cases n
  have:=o j u hu
  rwa [Nat.zero_mul,Nat.zero_add] at this
end
section
variable {α : Type} {R : Q6 → α → List Value → Prop} {sz : Nat} {e : TypeId} {σ σ0 : Q6} {v u : Value} {xs ys : List α}
theorem Wr (cells a:List Value) (n i:Nat) (c:cells.length=n*sz) (b:i<n):((cells++a).drop (i*sz)).take sz=(cells.drop (i*sz)).take sz:=by
 have h:i*sz+sz≤n*sz:=by rw[←Nat.succ_mul];exact Nat.mul_le_mul_right _ b
 rw[List.drop_append_of_le_length (by omega),List.take_append_of_le_length (by simp only[List.length_drop];omega)]
theorem app {t A:TypeId} {q:Nat} {z:Value} {cs:List Bool} [ts:TS P t e] [tz:TZ P e sz q z] [hr:Rep R] (D:Stp w0 σ0 w σ) (ha:V5 w0.heap.size e sz R σ w v xs) (V:Sl sz R σ u ys) (E:(z.cells.size==sz&&decide (0<sz))=true)
 (hb:(xs.length+ys.length)*q≤140737488355328) (hm:xs.length+ys.length≤9223372036854775807)
 (h: ∀d w',w.grownBy w' v.ownBlock→Stp w0 σ0 w' σ→V5 w0.heap.size e sz R σ w' d (xs++ys)→(d.ownBlock=v.ownBlock∨ ∀k,d.ownBlock=some k→w.heap.size≤k)→K d w'):X2 P .append [t,t] A cs [v,u] w K:=by
 obtain ⟨cells,s,Q,h3⟩:=ha
 obtain ⟨a,l,c,rfl,O,U,n3,n4,n5⟩:=V.cells D.sat
 obtain ⟨i,L,M,J,o⟩:=tz.info
 have r: ∀d w',(Builtin.append_ #[t,t] A #[v, .slice a ys.length l]).run P w= .ok d w'→w'.ownsRow w0.heap.size e sz d (xs.length+ys.length) (cells++c)→w.grownBy w' v.ownBlock→(d.ownBlock=v.ownBlock∨d.ownBlock=some w.heap.size)→X2 P .append [t,t] A cs [v, .slice a ys.length l] w K:=by
  intro d w' y f m hat
  have p:(builtin .append #[t,t] A cs.toArray #[v, .slice a ys.length l]).run P w= .ok (.value d) w':=by
   simp[builtin,y]
  unfold X2
  rw[T4];unfold P2
  rw[p]
  refine h d w' m (Stp.turn m D fun k n=>⟨(s.lt k n).1,Q k n⟩) ⟨cells++c,by rw[List.length_append];exact f,?_,?_⟩ ?_
  ·intro k n
   rcases hat with hat | hat
   ·exact Q k (hat▸n)
   ·rw[hat] at n;cases n;exact D.sat.none (Nat.le_refl _)
  ·intro j x C
   by_cases X:j<xs.length
   ·rw[List.getElem?_append_left X] at C
    rw[Wr cells c xs.length j s.1 X]
    exact h3 j x C
   ·rw[List.getElem?_append_right (by omega)] at C
    have:=n5 _ _ C
    rw[show j*sz=cells.length+(j-xs.length)*sz by rw[s.1,←Nat.add_mul];congr 1;omega,List.drop_append]
    simpa [List.drop_eq_nil_of_le] using this
  ·rcases hat with hat | hat
   ·exact .inl hat
   ·right;intro k n;rw[hat] at n;cases n;exact Nat.le_refl _
 simp only[Bool.and_eq_true,beq_iff_eq,decide_eq_true_eq] at E
 cases a with
 | some b=>
  obtain ⟨d,w',g1,g2,g3,_,Z⟩:=run_append_own_at (P:=P) w w0.heap.size t A e i z sz q ts.h L o M J E.1 E.2 v xs.length cells s b ys.length l c U (n3 b rfl) n4 (by simp only[maxLen];omega) hb D.bel.size
  exact r d w' g1 g2 g3 Z
 | none=>
  have hy:ys=[]:=List.eq_nil_of_length_eq_zero (by obtain ⟨a',W,e',q1,_,q3,_⟩:=V;injection e' with _ e2 e3;have:=O rfl;subst e3;omega)
  have N:=O rfl
  subst hy N
  have Y:c=[]:=List.eq_nil_of_length_eq_zero (by simpa using U)
  subst Y
  have f:=s
  rcases s.2 with ⟨rfl,h0⟩ | ⟨g,l,aa,rfl,ac,hg,H,_⟩
  ·refine r (.slice none 0 0) w ?_ (by simpa using f) (World.grownBy.refl w _) (.inl rfl)
   simp[Builtin.append_,run_underlying ts.h,sizeOf,typeInfo,L,Builtin.lenOf,Builtin.firstCells]
  ·refine r _ w ?_ (by simpa using f) (World.grownBy.refl w _) (.inl rfl)
   simp[Builtin.append_,run_underlying ts.h,sizeOf,typeInfo,L,Builtin.lenOf,Builtin.firstCells,H,storeCells]
end
section
variable {α : Type} {R : Q6 → α → List Value → Prop} {sz : Nat} {e : TypeId} {σ σ0 : Q6} {v u : Value} {xs ys : List α}
theorem Q6.put_le {w:World} (d:X3 w σ) {b:Nat} (h:σ b=none) (o:Obj): ∀k p,σ k=some p→(σ.put b o) k=some p:=by
 intro k p c
 by_cases a:k=b
 ·subst a;rw[h] at c;cases c
 ·simp only[Q6.put,if_neg a];exact c
theorem Stp.put {b:Nat} {o:Obj} (c:Stp w0 σ0 w σ) (f:σ b=none) (h:w0.heap.size≤b) (g:w.heap[b]? =some o):Stp w0 σ0 w (σ.put b o):=by
 refine ⟨c.bel,?_,fun k p a=>Q6.put_le c.sat f o k p (c.le k p a),?_⟩
 ·intro k p a
  by_cases d:k=b
  ·subst d;simp only[Q6.put,if_true] at a;cases a;exact g
  ·simp only[Q6.put,if_neg d] at a;exact c.sat k p a
 ·intro k a
  simp only[Q6.put];rw[if_neg (by omega)];exact c.old k a
theorem V5.keep [hr:Rep R] (h:V5 w0.heap.size e sz R σ w v xs) (q:Stp w0 σ0 w σ): ∃σ',Stp w0 σ0 w σ'∧Sl sz R σ' v xs∧(∀k o,σ k=some o→σ' k=some o)∧(∀k,some k≠v.ownBlock→σ' k=σ k):=by
 obtain ⟨cells,t,y,z⟩:=h
 rcases t.2 with ⟨rfl,A⟩ | ⟨g,p,c,rfl,D,C,n,f,H,m⟩
 ·have:xs=[]:=List.eq_nil_of_length_eq_zero A
  subst this
  exact ⟨σ,q,Sl.nil,fun _ _ h=>h,fun _ _=>rfl⟩
 ·have s:=y g rfl
  have a:=Q6.put_le q.sat s (.cells c e (0,0))
  refine ⟨σ.put g (.cells c e (0,0)),q.put s D C,⟨_,p,rfl,n,f,by simp,?_⟩,a,?_⟩
  ·intro b l
   cases l
   refine ⟨fun _=>rfl,fun i x r=>⟨(cells.drop (i*sz)).take sz,⟨I6 rfl _,c,e,(0,0),by rw[S9];simp[Q6.put],?_⟩,?_,hr.up a (z i x r)⟩⟩
   ·intro j u d
    rw[Qg]
    rw[List.getElem?_take] at d
    split at d
    ·rw[List.getElem?_drop,←m,List.getElem?_take] at d
     split at d
     ·simpa using d
     ·cases d
    ·cases d
   ·have E:i<xs.length:=(List.getElem?_eq_some_iff.1 r).1
    have h:i*sz+sz≤xs.length*sz:=by rw[←Nat.succ_mul];exact Nat.mul_le_mul_right _ E
    rw[List.length_take,List.length_drop,t.1];omega
  ·intro k J
   have:k≠g:=by intro e;subst e;exact J rfl
   simp only[Q6.put,if_neg this]
theorem Sl.piece {a:Option Addr} {n d:Nat} (h:Sl sz R σ (.slice a n d) xs) (l m:Nat) (L:l+m≤xs.length):Sl sz R σ (.slice (if d=l then a else a.map (·.add (l*sz))) m (d-l)) ((xs.drop l).take m):=by
 obtain ⟨O,p,C,M,N,s,k⟩:=h
 injection C with J t z
 subst J t z
 have c:((xs.drop l).take m).length=m:=by simp;omega
 refine ⟨_,d-l,by rw[c],by rw[c];omega,by omega,?_,?_⟩
 ·intro j
  split at j
  ·omega
  ·cases a with
   | none=>have:=s rfl;omega
   | some b=>simp at j
 ·intro b g
  split at g
  ·rename_i A
   obtain ⟨o,q⟩:=k b g
   have D:m=0:=by omega
   subst D
   exact ⟨fun h=>by simp at h,by simp⟩
  ·cases a with
   | none=>simp at g
   | some r=>
    simp only[Option.map_some,Option.some.injEq] at g
    obtain ⟨o,q⟩:=k r rfl
    subst g
    refine ⟨fun h=>I6 (o (by rw[c] at h;omega)) _,fun i x f=>?_⟩
    rw[List.getElem?_take] at f
    split at f
    ·rw[List.getElem?_drop] at f
     obtain ⟨cs,H,y,E⟩:=q _ _ f
     refine ⟨cs,?_,y,E⟩
     rw[Q3E,←Nat.add_mul];exact H
    ·cases f
theorem Ee {t:TypeId} {i:Nat} {z:Value} [ts:TS P t e] [tz:TZ P e sz i z] (h:Sl sz R σ v xs) (c d:Option Value) (l m:Nat) (g:c=none∧l=0∨c=some (I l)) (j:d=none∧m=xs.length∨d=some (I m)) (f:l≤m) (D:m≤xs.length)
 (p: ∀k,Sl sz R σ k ((xs.drop l).take (m-l))→K k w):R6 P t v c d none w K:=by
 have o:=h
 obtain ⟨a,b,rfl,s,y,q,r⟩:=h
 have hh: ∀w:World,(Instr.sliceBounds true xs.length b c d none).run P w= .ok (l,m,b) w:=by
  intro w
  have C:(m:Int)≤b:=by omega
  have A:(l:Int)≤m:=by omega
  have n:m≤b:=by omega
  rcases g with ⟨rfl,rfl⟩ | rfl<;>rcases j with ⟨rfl,rfl⟩ | rfl<;>
   simp[Instr.sliceBounds,Instr.sliceBound,asIntOf,n,f]<;>intros<;>omega
 unfold R6
 have:(Instr.sliceAt t (.slice a xs.length b) c d none).run P w= .ok (.slice (if b=l then a else a.map (·.add (l*sz))) (m-l) (b-l)) w:=by
  simp[Instr.sliceAt,run_underlying ts.h,Instr.slice,hh,W5 tz]
 rw[Y0 this]
 exact p _ (o.piece l (m-l) (by omega))
def en:Nat→List Value→List (Nat×Value)
 | _,[]=>[]
 | i,v::r=>(i,v)::en (i+1) r
theorem Q9J (off:Nat): ∀(vs:List Value) (k:Nat) (cs:Array Value),off+k+vs.length≤cs.size→
 ((vs.zipIdx k).foldl (fun cs (p:Value×Nat)=>cs.setIfInBounds (off+p.2) p.1) cs).toList=cs.toList.take (off+k)++vs++cs.toList.drop (off+k+vs.length):=by
 intro vs
 induction vs with
 | nil=>intro k cs _;simp
 | cons v r ih=>
  intro k cs h
  simp only[List.length_cons] at h
  rw[List.zipIdx_cons,List.foldl_cons,ih (k+1) _ (by simp;omega)]
  simp only[Array.toList_setIfInBounds,List.length_cons]
  apply List.ext_getElem?
  intro i
  simp only[List.getElem?_append,List.length_take,List.length_set,Array.length_toList,List.getElem?_take,List.getElem?_drop,List.length_append,List.getElem?_set,List.length_cons]
  rcases Nat.lt_trichotomy i (off+k) with hi | hi | hi
  ·simp[show i<off+(k+1) by omega,hi,show i<min (off+(k+1)) cs.size by omega,show i<min (off+(k+1)) cs.size+r.length by omega,show i<min (off+k) cs.size by omega,show i<min (off+k) cs.size+(r.length+1) by omega,show off+k≠i by omega]
  ·subst hi
   simp[show off+k<off+(k+1) by omega,show off+k<min (off+(k+1)) cs.size by omega,show off+k<min (off+(k+1)) cs.size+r.length by omega,show¬off+k<min (off+k) cs.size by omega,show off+k<min (off+k) cs.size+(r.length+1) by omega,show off+k<cs.size by omega,show off+k-min (off+k) cs.size=0 by omega]
  ·by_cases h2:i<off+(k+1)+r.length
   ·simp[show¬i<min (off+(k+1)) cs.size by omega,show i<min (off+(k+1)) cs.size+r.length by omega,show¬i<min (off+k) cs.size by omega,show i<min (off+k) cs.size+(r.length+1) by omega,show i-min (off+k) cs.size=(i-min (off+(k+1)) cs.size)+1 by omega]
   ·simp only[show¬i<min (off+(k+1)) cs.size+r.length by omega,show¬i<min (off+k) cs.size+(r.length+1) by omega,if_false]
    rw[show off+(k+1)+r.length+(i-(min (off+(k+1)) cs.size+r.length))=i by omega,show off+k+(r.length+1)+(i-(min (off+k) cs.size+(r.length+1)))=i by omega,if_neg (by omega)]
theorem Q7m (sz:Nat): ∀(vs:List Value) (i:Nat) (cs:Array Value),(i+vs.length)*sz≤cs.size→(∀v∈vs,v.cells.size=sz)→
 ∃cs',Instr.fill (fun i=>some (i*sz,sz)) cs (en i vs)=some cs'∧cs'.toList=cs.toList.take (i*sz)++vs.flatMap (·.cells.toList)++cs.toList.drop ((i+vs.length)*sz):=by
 intro vs
 induction vs with
 | nil=>intro i cs _ _;exact ⟨cs,rfl,by simp⟩
 | cons v r ih=>
  intro i cs h hv
  have hv0:=hv v (by simp)
  simp only[List.length_cons] at h
  have h1:i*sz+sz≤cs.size:=by
   have:(i+1)*sz≤(i+(r.length+1))*sz:=Nat.mul_le_mul_right _ (by omega)
   rw[Nat.succ_mul] at this;omega
  have hset:=Q9J (i*sz) v.cells.toList 0 cs (by simp;omega)
  simp only[Nat.add_zero] at hset
  have e1:v.cells.zipIdx.foldl (fun cs (p:Value×Nat)=>cs.setIfInBounds (i*sz+p.2) p.1) cs=(v.cells.toList.zipIdx 0).foldl (fun cs (p:Value×Nat)=>cs.setIfInBounds (i*sz+p.2) p.1) cs:=by
   rw[←Array.foldl_toList,Array.toList_zipIdx]
  have hsz':((v.cells.toList.zipIdx 0).foldl (fun cs (p:Value×Nat)=>cs.setIfInBounds (i*sz+p.2) p.1) cs).size=cs.size:=by
   rw[←Array.length_toList,hset]
   simp;omega
  obtain ⟨cs',q1,q2⟩:=ih (i+1) _ (by rw[hsz'];rw[show i+1+r.length=i+(r.length+1) by omega];exact h) (fun u hu=>hv u (by simp[hu]))
  refine ⟨cs',?_,?_⟩
  ·simp only[en,Instr.fill]
   rw[if_neg (by simp[hv0];omega)]
   rw[e1];exact q1
  ·rw[q2,hset]
   simp only[List.flatMap_cons,List.length_cons,Array.length_toList,hv0]
   have e2:(i+1)*sz=i*sz+sz:=by rw[Nat.succ_mul]
   have e3:(i+(r.length+1))*sz=i*sz+sz+r.length*sz:=by rw[Nat.add_mul,Nat.succ_mul];omega
   have e4:(i+1+r.length)*sz=i*sz+sz+r.length*sz:=by rw[Nat.add_mul,Nat.succ_mul]
   rw[e2,e3,e4]
   have t1:(cs.toList.take (i*sz)).length=i*sz:=by simp;omega
   have t2:(cs.toList.take (i*sz)++v.cells.toList).length=i*sz+sz:=by rw[List.length_append,t1];simp[hv0]
   have k1: ∀C:List Value,(cs.toList.take (i*sz)++v.cells.toList++C).take (i*sz+sz)=cs.toList.take (i*sz)++v.cells.toList:=by
    intro C
    rw[List.take_append_of_le_length (by omega),List.take_of_length_le (by omega)]
   have k2: ∀(C:List Value) (n:Nat),(cs.toList.take (i*sz)++v.cells.toList++C).drop (i*sz+sz+n)=C.drop n:=by
    intro C n
    rw[List.drop_append,t2,List.drop_eq_nil_of_le (by omega),List.nil_append]
    congr 1;omega
   rw[k1,k2,List.drop_drop]
   simp only[List.append_assoc]
theorem Hl {t:TypeId} {by_:Nat} {z:Value} [ts:TS P t e] [tz:TZ P e sz by_ z] (vs:List Value) (hv: ∀v∈vs,v.cells.size=sz) (hsm:vs.length*sz≤16777216) (w:World):
 ∃cells:Array Value,(Instr.buildSlice t vs.length (en 0 vs).toArray).run P w= .ok (.slice (some ⟨w.heap.size,0,none⟩) vs.length vs.length) (w.alloc (.cells cells e))∧cells.toList=vs.flatMap (·.cells.toList):=by
 have h2: ¬vs.length*sz>2 ^ 24:=by omega
 by_cases h:vs.length*sz=0
 ·obtain ⟨cells,hf,hl⟩:=Q7m sz vs 0 ((Array.range (vs.length*sz)).map ((#[]:Array Value)[· % (#[]:Array Value).size]!)) (by simp) hv
  refine ⟨cells,?_,by rw[hl];simp⟩
  simp only[Instr.buildSlice,Sem.run_bind,run_underlying ts.h,Result.andThen_ok,W5 tz,if_neg h2,if_pos h,Sem.run_pure,hf]
  simp[newRow]
 ·obtain ⟨cells,hf,hl⟩:=Q7m sz vs 0 ((Array.range (vs.length*sz)).map (z.cells[· % z.cells.size]!)) (by simp) hv
  refine ⟨cells,?_,by rw[hl];simp⟩
  simp only[Instr.buildSlice,Sem.run_bind,run_underlying ts.h,Result.andThen_ok,W5 tz,if_neg h2,if_neg h,Sem.run_pure,Zj tz,hf]
  simp[newRow]
theorem Q7W {vs:List Value} (d: ∀v∈vs,v.cells.size=sz) (i:Nat) (v:Value) (h:vs[i]? =some v):((vs.flatMap (·.cells.toList)).drop (i*sz)).take sz=v.cells.toList:=by
 induction vs generalizing i with
 | nil=>simp at h
 | cons a r f=>
  have b:=d a (by simp)
  cases i with
  | zero=>
   simp at h;subst h
   rw[List.flatMap_cons,Nat.zero_mul,List.drop_zero,List.take_append_of_le_length (by simp[b]),List.take_of_length_le (by simp[b])]
  | succ i=>
   rw[List.flatMap_cons,Nat.succ_mul,List.drop_append,List.drop_eq_nil_of_le (by simp[b]),List.nil_append]
   rw[show i*sz+sz-a.cells.toList.length=i*sz by simp[b]]
   exact f (fun v c=>d v (by simp[c])) i (by simpa using h)
theorem Q2B {vs:List Value} (b: ∀v∈vs,v.cells.size=sz):(vs.flatMap (·.cells.toList)).length=vs.length*sz:=by
 induction vs with
 | nil=>simp
 | cons a r c=>
  rw[List.flatMap_cons,List.length_append,c (fun v h=>b v (by simp[h]))]
  simp[b a (by simp),Nat.succ_mul,Nat.add_comm]
def Q0v (R:Q6→α→List Value→Prop) (σ:Q6):List Value→List α→Prop
 | [],[]=>True
 | v::vs,x::xs=>R σ x v.cells.toList∧Q0v R σ vs xs
 | _,_=>False
theorem Q0v.len {vs:List Value} (h:Q0v R σ vs xs):vs.length=xs.length:=by
 induction vs generalizing xs with
 | nil=>cases xs with
  | nil=>rfl
  | cons=>exact h.elim
 | cons v r a=>cases xs with
  | nil=>exact h.elim
  | cons x y=>simp[a h.2]
theorem Q0v.get {vs:List Value} (h:Q0v R σ vs xs) {i:Nat} {x:α} (a:xs[i]? =some x): ∃v,vs[i]? =some v∧R σ x v.cells.toList:=by
 induction vs generalizing xs i with
 | nil=>cases xs with
  | nil=>simp at a
  | cons=>exact h.elim
 | cons v r b=>cases xs with
  | nil=>exact h.elim
  | cons y ys=>
   cases i with
   | zero=>simp at a;subst a;exact ⟨v,rfl,h.1⟩
   | succ i=>obtain ⟨u,d,c⟩:=b h.2 (i:=i) (by simpa using a);exact ⟨u,by simpa using d,c⟩
theorem Zc {t:TypeId} {g:Nat} {z:Value} {n:Nat} {a:List (Nat×Value)} [ts:TS P t e] [tz:TZ P e sz g z] (l:Stp w0 σ0 w σ) (vs:List Value) (xs:List α) (p:n=vs.length) (q:a=en 0 vs) (c: ∀v∈vs,v.cells.size=sz) (b:(decide (0<sz)&&decide (vs.length*sz≤16777216))=true) (o:Q0v R σ vs xs)
 (h: ∀v w',Stp w σ w' σ→V5 w0.heap.size e sz R σ w' v xs→(∀k,v.ownBlock=some k→w.heap.size≤k)→K v w'):buildSlice P t n a w K:=by
 subst p q
 simp only[Bool.and_eq_true,decide_eq_true_eq] at b
 obtain ⟨j,b⟩:=b
 obtain ⟨cells,y,f⟩:=Hl (P:=P) (t:=t) vs c b w
 unfold buildSlice
 rw[Y0 y]
 have d:=o.len
 refine h _ _ (Stp.own l.sat _) ⟨cells.toList,⟨by rw[f,Q2B c,d], .inr ⟨_,_,cells,by rw[d],l.bel.size,heap_alloc_new w _,by omega,?_,?_,?_⟩⟩,?_,?_⟩ ?_
 ·simp only[maxLen]
  have:vs.length*1≤vs.length*sz:=Nat.mul_le_mul_left _ j
  omega
 ·rw[←Array.length_toList,f,Q2B c,d]
 ·rw[List.take_of_length_le (by rw[f,Q2B c,d];exact Nat.le_refl _)]
 ·intro k m;cases m;exact l.sat.none (Nat.le_refl _)
 ·intro i x r
  obtain ⟨v,s,A⟩:=o.get r
  rw[f,Q7W c i v s];exact A
 ·intro k m;cases m;exact Nat.le_refl _
theorem T1 [Rep R] {t:TypeId} {c:Nat} {z:Value} {n:Nat} {a:List (Nat×Value)} [ts:TS P t e] [tz:TZ P e sz c z] (g:X3 w σ) (vs:List Value) (xs:List α) (d:n=vs.length) (f:a=en 0 vs) (i: ∀v∈vs,v.cells.size=sz) (b:(decide (0<sz)&&decide (vs.length*sz≤16777216))=true) (l:Q0v R σ vs xs)
 (h: ∀v w' σ',Stp w σ w' σ'→Sl sz R σ' v xs→K v w'):buildSlice P t n a w K:=by
 refine Zc (Stp.refl g) vs xs d f i b l fun v w' m j _=>?_
 obtain ⟨σ',o,k,_⟩:=j.keep m
 exact h v w' σ' o k
theorem X1W {t:TypeId} {k a:Nat} {c:TypeId} [tf:TF P t k a c] [tg:TG P c false] {cs:Array Value} {v:Value} (d:cs[a]? =some v):F3 P t (.agg cs) k w K=K v w:=by
 unfold F3
 have hh:=tf.h
 unfold Q3z at hh
 split at hh
 ·rename_i m i
  obtain ⟨f,g,b⟩:=Option.map_eq_some_iff.1 hh
  simp only[Prod.mk.injEq] at b
  obtain ⟨j,l⟩:=b
  subst l j
  exact Y0 (by simp[Instr.field,run_underlying i,g,asAgg,part,Xs tg,d])
 ·cases hh
theorem Qe {f:Fn} {first caps:List Value}:H1 P f first caps w K=K (.func f first.toArray caps.toArray) w:=Y0 (by simp[Instr.makeFunc])
theorem V6 {t:TypeId} {a:List (Nat×Value)} {cells:Array Value} (h:P.built t a=some cells) (b:K (.agg cells) w):E3 P t a w K:=by
 unfold E3
 rw[Y0 (run_build w t a.toArray cells h)];exact b
end
def H2 (o:Option Obj) (m:List (List UInt8×Value)):Prop:=
 ∃b a,o=some (.map b a)∧b.toList.map (fun e=>(e.key,e.val))=m.map (fun p=>(S p.1,p.2))∧(b.toList.map (·.born)).Pairwise (· < ·)∧ ∀e∈b.toList,e.born<a
def C4 (m:List (List UInt8×Value)) (k:List UInt8):Option Value:=match m with
 | []=>none
 | p::r=>if p.1=k then some p.2 else C4 r k
def Wp (m:List (List UInt8×Value)) (k:List UInt8) (v:Value):List (List UInt8×Value):=match m with
 | []=>[(k,v)]
 | p::r=>if p.1=k then (k,v)::r else p::Wp r k v
theorem Em (a b:List UInt8):((⟨a.toArray⟩:ByteArray)==⟨b.toArray⟩)=decide (a=b):=by
 rw[←Q3Z]
 show (a.toArray==b.toArray)=_
 simp
theorem Bc (k:List UInt8): ∀(c:List MapEntry) (m:List (List UInt8×Value)) (i:Nat),c.map (fun e=>(e.key,e.val))=m.map (fun p=>(S p.1,p.2))→
 ∃r,Instr.findNow .string (S k) c i=some r∧r.map (·.2)=C4 m k∧(∀j v,r=some (j,v)→i≤j∧(∃e,c[j-i]? =some e∧e.key=S k)∧ ∀u,(c.modify (j-i) fun e=>{e with key:=S k,val:=u}).map (fun e=>(e.key,e.val))=(Wp m k u).map (fun p=>(S p.1,p.2)))∧
  (r=none→ ∀u,Wp m k u=m++[(k,u)]):=by
 intro c
 induction c with
 | nil=>
  intro m i h
  cases m with
  | nil=>exact ⟨none,rfl,rfl,(by simp),fun _ u=>rfl⟩
  | cons=>simp at h
 | cons e r y=>
  intro m i h
  cases m with
  | nil=>simp at h
  | cons p q=>
   simp only[List.map_cons,List.cons.injEq,Prod.mk.injEq] at h
   obtain ⟨⟨f,g⟩,l⟩:=h
   simp only[Instr.findNow,f,Instr.sameNow,Em]
   by_cases a:p.1=k
   ·have d:decide (k=p.1)=true:=by simp[a]
    simp only[d]
    refine ⟨_,rfl,by simp[C4,a,g],?_,by simp⟩
    intro j v b
    cases b
    refine ⟨Nat.le_refl _,⟨e,by simp,by rw[f,a]⟩,fun u=>?_⟩
    simp[Wp,a,l]
   ·have d:decide (k=p.1)=false:=by simp;exact fun e=>a e.symm
    simp only[d]
    obtain ⟨D,t,C,o,s⟩:=y q (i+1) l
    refine ⟨D,t,by simp[C4,a,C],?_,?_⟩
    ·intro j v b
     obtain ⟨E,z,A⟩:=o j v b
     refine ⟨by omega,by rw[show j-i=(j-(i+1))+1 by omega];simpa using z,fun u=>?_⟩
     have:=A u
     rw[show j-i=(j-(i+1))+1 by omega]
     simp[Wp,a,f,g,this]
    ·intro n u
     simp[Wp,a,s n u]
theorem I7 {t:TypeId} (a:P.underlying t=some .string) (b:Bool) (k:List UInt8) (w:World):(Instr.checkKey b 10000 t (S k)).run P w= .ok () w:=by
 unfold Instr.checkKey
 simp[run_underlying a]
theorem Q2A {t i f:TypeId} {sz d:Nat} {z:Value} [tm:TM P t i f] [tz:TZ P f sz d z] (c:P.underlying i=some .string) {r:Nat} {m:List (List UInt8×Value)} (q:H2 (w.heap[r]?) m) (k:List UInt8):
 lookup P t (.map (some r)) (S k) true w K=K (match C4 m k with | some v=> .tuple #[v, .bool true] | none=> .tuple #[z, .bool false]) w:=by
 obtain ⟨j,a,o,l,D,y⟩:=q
 obtain ⟨s,g,b,A,C⟩:=Bc k j.toList m 0 l
 unfold lookup
 refine Y0 ?_
 simp only[Instr.lookup,Sem.run_bind,run_underlying tm.h,Result.andThen_ok,Instr.findKey,run_underlying c,g,I7 c]
 have n:(getObj r).run P w= .ok (.map j a) w:=by simp[getObj,Sem.run,o]
 simp only[n,Result.andThen_ok,Sem.run_bind,Sem.run_pure,I7 c,run_underlying c,g]
 cases s with
 | none=>simp at b;rw[←b];simp[Zj tz]
 | some p=>simp at b;rw[←b];simp
theorem Q4t {t f d:TypeId} {sz c:Nat} {z:Value} [tm:TM P t f d] [tz:TZ P d sz c z] (i:P.underlying f=some .string) {r:Nat} {m:List (List UInt8×Value)} (q:H2 (w.heap[r]?) m) (k:List UInt8):
 lookup P t (.map (some r)) (S k) false w K=K ((C4 m k).getD z) w:=by
 obtain ⟨g,a,o,j,D,y⟩:=q
 obtain ⟨s,n,b,A,C⟩:=Bc k g.toList m 0 j
 unfold lookup
 refine Y0 ?_
 have l:(getObj r).run P w= .ok (.map g a) w:=by simp[getObj,Sem.run,o]
 simp only[Instr.lookup,Sem.run_bind,run_underlying tm.h,Result.andThen_ok,Instr.findKey,run_underlying i,n,I7 i,l,Sem.run_pure]
 cases s with
 | none=>simp at b;rw[←b];simp[Zj tz]
 | some p=>simp at b;rw[←b];simp
def C3 (σ:Q6) (w:World) (r:Nat) (m:List (List UInt8×Value)):Prop:=σ r=none∧H2 (w.heap[r]?) m
def Xi (σ:Q6) (r:Nat) (m:List (List UInt8×Value)):Prop:=H2 (σ r) m
theorem Xi.is {σ:Q6} {r:Nat} {m:List (List UInt8×Value)} (h:Xi σ r m) (c:X3 w σ):H2 (w.heap[r]?) m:=by
 obtain ⟨b,a,d,f⟩:=h
 exact ⟨b,a,c _ _ d,f⟩
theorem Xi.le {σ σ':Q6} {r:Nat} {m:List (List UInt8×Value)} (h:Xi σ r m) (d: ∀b o,σ b=some o→σ' b=some o):Xi σ' r m:=by
 obtain ⟨c,a,f,g⟩:=h
 exact ⟨c,a,d _ _ f,g⟩
theorem Xi.up {σ σ':Q6} {r:Nat} {m:List (List UInt8×Value)} (h:Xi σ r m) (a:Stp w σ w' σ'):Xi σ' r m:=h.le a.le
theorem C3.lt {σ:Q6} {r:Nat} {m:List (List UInt8×Value)} (h:C3 σ w r m):r<w.heap.size:=by
 obtain ⟨_,c,a,b,_⟩:=h
 exact (Array.getElem?_eq_some_iff.1 b).1
theorem C3.up {σ σ':Q6} {r:Nat} {m:List (List UInt8×Value)} (h:C3 σ w r m) (b:Stp w σ w' σ'):C3 σ' w' r m:=by
 have a:=h.lt
 exact ⟨(b.old r a).trans h.1,(b.bel.block r a).symm▸h.2⟩
theorem Q3l {t:TypeId} {σ:Q6} (a:X3 w σ) (h: ∀r w',w.heap.size≤r→Stp w σ w' σ→C3 σ w' r []→K (.map (some r)) w'):Ko P t none w K:=by
 unfold Ko
 rw[Y0 (v:= .map (some w.heap.size)) (w':=w.alloc (.map #[] 0)) (by simp[Instr.makeMap])]
 exact h _ _ (Nat.le_refl _) (Stp.own a _) ⟨a.none (Nat.le_refl _), #[],0,heap_alloc_new w _,rfl,by simp,by simp⟩
theorem C3.keep {σ σ0:Q6} {r:Nat} {m:List (List UInt8×Value)} (h:C3 σ w r m) (d:Stp w0 σ0 w σ) (f:w0.heap.size≤r): ∃σ',Stp w0 σ0 w σ'∧Xi σ' r m∧(∀k o,σ k=some o→σ' k=some o)∧(∀k,k≠r→σ' k=σ k):=by
 obtain ⟨b,c,a,i,j⟩:=h
 exact ⟨σ.put r (.map c a),d.put b f i,⟨c,a,by simp[Q6.put],j⟩,Q6.put_le d.sat b _,fun k g=>by simp only[Q6.put,if_neg g]⟩
theorem Ph {t U X:TypeId} [tm:TM P t U X] (C:P.underlying U=some .string) {σ:Q6} {r:Nat} {m:List (List UInt8×Value)} (hm:C3 σ w r m) (k:List UInt8) (v:Value)
 (h: ∀w',Upd w r w'→C3 σ w' r (Wp m k v)→K undef w'):mapUpdate P t (.map (some r)) (S k) v w K:=by
 obtain ⟨M,l,d,H,J,L,D⟩:=hm
 obtain ⟨Y,O,q2,q3,q4⟩:=Bc k l.toList m 0 J
 have N:(getObj r).run P w= .ok (.map l d) w:=by simp[getObj,Sem.run,H]
 have Z:=(Array.getElem?_eq_some_iff.1 H).1
 have n: ∀o,o=Obj.map l d∨True→(∀c e f,o≠ .cells c e f)→(setObj r o).run P w= .ok () {w with heap:=w.heap.setIfInBounds r o}:=by
  intro o _ _
  simp[setObj,Sem.run,H]
 have A: ∀o,Upd w r {w with heap:=w.heap.setIfInBounds r o}:=fun o=>⟨rfl,rfl,rfl,by simp,fun k C=>by simp only[Array.getElem?_setIfInBounds];rw[if_neg (by omega)]⟩
 have z: ∀o,({w with heap:=w.heap.setIfInBounds r o}:World).heap[r]? =some o:=fun o=>by simp[Array.getElem?_setIfInBounds,Z]
 unfold mapUpdate
 cases Y with
 | none=>
  rw[Uw (w':={w with heap:=w.heap.setIfInBounds r (.map (l.push {key:=S k,val:=v,born:=d}) (d+1))}) (by
   simp only[Instr.mapUpdate,Sem.run_bind,run_underlying tm.h,Result.andThen_ok,Instr.findKey,run_underlying C,O,I7 C,N,Sem.run_pure]
   exact n _ (.inr trivial) (by intros;simp))]
  refine h _ (A _) ⟨M,_,_,z _,?_,?_,?_⟩
  ·rw[q4 rfl];simp[J]
  ·simp only[Array.toList_push,List.map_append,List.map_cons,List.map_nil]
   rw[List.pairwise_append]
   refine ⟨L,by simp,?_⟩
   intro a ha b Q
   simp at Q;subst Q
   obtain ⟨e,s,rfl⟩:=List.mem_map.1 ha
   exact D e s
  ·intro e s
   simp at s
   rcases s with s | rfl
   ·have:=D e (by simpa using s);omega
   ·simp
 | some p=>
  obtain ⟨j,u⟩:=p
  obtain ⟨z1,z2,V⟩:=q3 j u rfl
  obtain ⟨e,W,e2⟩:=z2
  simp only[Nat.sub_zero] at W V
  have g:((l.modify j fun e=>{e with key:=S k,val:=v}).toList.map (·.born))=l.toList.map (·.born):=by
   apply List.ext_getElem?
   intro i
   simp only[Array.toList_modify,List.getElem?_map,List.getElem?_modify]
   by_cases E:j=i<;>cases l.toList[i]? <;>simp[E]
  have q:(Instr.keyThatStays (S k) (S k)).run P w= .ok (S k) w:=by
   simp[Instr.keyThatStays,Instr.sameBits,Em]
  rw[Uw (w':={w with heap:=w.heap.setIfInBounds r (.map (l.modify j fun e=>{e with key:=S k,val:=v}) d)}) (by
   simp only[Instr.mapUpdate,Sem.run_bind,run_underlying tm.h,Result.andThen_ok,Instr.findKey,run_underlying C,O,I7 C,N,Sem.run_pure]
   rw[show ((l[j]?).map (·.key)).getD (S k)=S k by rw[←Array.getElem?_toList,W];simp[e2]]
   simp only[q,Result.andThen_ok]
   exact n _ (.inr trivial) (by intros;simp))]
  refine h _ (A _) ⟨M,_,_,z _,?_,?_,?_⟩
  ·simp only[Array.toList_modify];exact V v
  ·rw[g];exact L
  ·intro x hx
   have:x.born∈l.toList.map (·.born):=by rw[←g];exact List.mem_map.2 ⟨x,hx,rfl⟩
   obtain ⟨y,hy,e⟩:=List.mem_map.1 this
   rw[←e];exact D y hy
end Go.Emb

namespace Go.Emb
open Go.RowKit
variable {P : Program} {w w0 w1 w' w'' : World} {K : Value → World → Prop}
theorem Z8 {c b:Bool} {a:World→(Value→World→Prop)→Prop} (d:c=b→a w K) (e:c=(!b)→K undef w):Q0 (.bool c) b w a K:=by
 cases c<;>cases b
 ·rw[W7];exact d rfl
 ·rw[E1];exact e rfl
 ·rw[S2];exact e rfl
 ·rw[W2];exact d rfl
theorem Q7 {c:Bool} {t e:Prop} (a:c=true→t) (b:c=false→e):X1 (.bool c) t e:=by
 cases c
 ·rw[M4];exact b rfl
 ·rw[H6];exact a rfl
theorem Q8 {α:Type} {R:Q6→α→List Value→Prop} {sz:Nat} {σ:Q6} {v:Value} {xs:List α} {a e t:TypeId} {cs:List Bool} [ts:TS P a e] (h:Sl sz R σ v xs) (b:K (I xs.length) w):X2 P .len [a] t cs [v] w K:=by
 rw[X32 h];exact b
structure Kpt (D : Nat → Prop) (w w' : World) : Prop where
  os : w'.os = w.os
  tape : w'.tape = w.tape
  output : w'.output = w.output
  size : w.heap.size ≤ w'.heap.size
  block : ∀ k, k < w.heap.size → ¬ D k → w'.heap[k]? = w.heap[k]?
theorem Kpt.refl {D:Nat→Prop}:Kpt D w w:=⟨rfl,rfl,rfl,Nat.le_refl _,fun _ _ _=>rfl⟩
theorem Kpt.trans {D:Nat→Prop} (h:Kpt D w w') (k:Kpt D w' w''):Kpt D w w'':=
 ⟨k.os.trans h.os,k.tape.trans h.tape,k.output.trans h.output,Nat.le_trans h.size k.size,fun i a b=>(k.block i (Nat.lt_of_lt_of_le a h.size) b).trans (h.block i a b)⟩
theorem Kpt.of_below {D:Nat→Prop} (h:Below w.heap.size w w'):Kpt D w w':=⟨h.os,h.tape,h.output,h.size,fun k a _=>h.block k a⟩
theorem Kpt.of_grown {D:Nat→Prop} {row:Option Nat} (h:w.grownBy w' row) (a: ∀k,row=some k→D k):Kpt D w w':=⟨h.os,h.tape,h.output,h.size,fun k b c=>h.block k b (fun e=>c (a k e.symm))⟩
theorem Kpt.of_upd {D:Nat→Prop} {b:Nat} (h:Upd w b w') (a:D b):Kpt D w w':=⟨h.os,h.tape,h.output,by rw[h.size];exact Nat.le_refl _,fun k d c=>h.block k (fun e=>c (e▸a))⟩
theorem Kpt.mono {D D':Nat→Prop} (h:Kpt D w w') (c: ∀k,k<w.heap.size→D k→D' k):Kpt D' w w':=⟨h.os,h.tape,h.output,h.size,fun k a b=>h.block k a (fun e=>b (c k a e))⟩
theorem Kpt.below {D:Nat→Prop} (h:Kpt D w w') (b: ∀k,¬D k):Below w.heap.size w w':=⟨h.os,h.tape,h.output,h.size,fun k a=>h.block k a (b k)⟩
theorem Stp.kp {σ0 σ:Q6} {D:Nat→Prop} (a:Stp w0 σ0 w σ) (b:Kpt D w w') (f: ∀k,D k→w0.heap.size≤k∧σ k=none):Stp w0 σ0 w' σ:=by
 refine ⟨⟨b.os.trans a.bel.os,b.tape.trans a.bel.tape,b.output.trans a.bel.output,Nat.le_trans a.bel.size b.size,fun k c=>?_⟩,?_,a.le,a.old⟩
 ·refine (b.block k (Nat.lt_of_lt_of_le c a.bel.size) ?_).trans (a.bel.block k c)
  intro e;have:=(f k e).1;omega
 ·intro k o d
  refine (b.block k (a.sat.lt d) ?_).trans (a.sat k o d)
  intro e;rw[(f k e).2] at d;cases d
theorem Y2.kp {σ:Q6} {D:Nat→Prop} {k:Nat} {cs:List Value} (h:Y2 σ w k cs) (c:Kpt D w w') (a: ¬D k):Y2 σ w' k cs:=by
 have b:=h.lt
 obtain ⟨d,e,f⟩:=h
 exact ⟨d,e,(c.block k b a).trans f⟩
theorem C3.kp {σ:Q6} {D:Nat→Prop} {r:Nat} {m:List (List UInt8×Value)} (h:C3 σ w r m) (b:Kpt D w w') (a: ¬D r):C3 σ w' r m:=
 ⟨h.1,(b.block r h.lt a).symm▸h.2⟩
theorem V5.kp {α:Type} {R:Q6→α→List Value→Prop} {B sz:Nat} {e:TypeId} {σ:Q6} {v:Value} {xs:List α} {D:Nat→Prop} (h:V5 B e sz R σ w v xs) (o:Kpt D w w') (b: ∀k,v.ownBlock=some k→ ¬D k):V5 B e sz R σ w' v xs:=by
 obtain ⟨cells,i,l,m⟩:=h
 refine ⟨cells,⟨i.1,?_⟩,l,m⟩
 rcases i.2 with j | ⟨g,d,c,rfl,n,f,a⟩
 ·exact .inl j
 ·refine .inr ⟨g,d,c,rfl,n,?_,a⟩
  rw[o.block g (Array.getElem?_eq_some_iff.1 f).1 (b g rfl)];exact f
theorem bt {w w1 b:World} (a:Below w.heap.size w w1) (c:Below w1.heap.size w1 b):Below w.heap.size w b:=a.trans (c.mono a.size)
abbrev U1:Nat:=140737488351232
def U8 (_:Q6) (s:List UInt8) (cs:List Value):Prop:=cs=[S s]∧s.length≤U1
instance:Rep U8:=⟨fun _ h=>h,fun h u hu=>by rw[h.1] at hu;simp at hu;subst hu;rfl⟩
def Ww (_:Q6) (n:Int) (cs:List Value):Prop:=cs=[I n]∧ -9223372036854775808≤n∧n≤9223372036854775807
instance:Rep Ww:=⟨fun _ h=>h,fun h u hu=>by rw[h.1] at hu;simp at hu;subst hu;rfl⟩
def Q3j (_:Q6) (b:Bool) (cs:List Value):Prop:=cs=[.bool b]
instance:Rep Q3j:=⟨fun _ h=>h,fun h u hu=>by rw[h] at hu;simp at hu;subst hu;rfl⟩
def UpI (N:Nat) (a:Nat→World→Prop) (x:Value) (w:World):Prop:= ∃n:Nat,x=I n∧n≤N∧a n w
def UpM (N:Nat) (x:Value):Nat:=match x with | .int _ n=>N-n.toNat | _=>0
theorem U0 {A:(Value→World→Prop)→Value→(Nat→Value)→World→Prop} (N:Nat) (a:Nat→World→Prop) (c:a 0 w)
 (b: ∀n w d,n≤N→a n w→A (fun y w'=>UpI N a y w'∧UpM N y<UpM N (I n)) (I n) d w):lp (α:=Value) (.int .i64 0) w A:=by
 refine We (UpI N a) (fun x _=>UpM N x) ⟨0,rfl,Nat.zero_le _,c⟩ ?_
 rintro _ d w' ⟨n,rfl,f,e⟩
 exact b n w' d f e
theorem Y5 {N n:Nat} {a:Nat→World→Prop} (d:N≤9223372036854775807) (c:n<N) (b:a (n+1) w):UpI N a (.int .i64 (IntKind.i64.wrap (n+1))) w∧UpM N (.int .i64 (IntKind.i64.wrap (n+1)))<UpM N (I n):=by
 rw[F9 (by omega) (by omega)]
 exact ⟨⟨n+1,rfl,c,b⟩,by simp only[UpM];omega⟩
def Fe {α:Type} (N:Nat) (a:Nat→α→World→Prop) (x:α×Value) (w:World):Prop:= ∃n:Nat,x.2=I n∧n≤N∧a n x.1 w
def Lx {α:Type} (N:Nat) (x:α×Value):Nat:=UpM N x.2
theorem E4 {α:Type} {A:(α×Value→World→Prop)→α×Value→(Nat→Value)→World→Prop} {a:α} (N:Nat) (b:Nat→α→World→Prop) (g:b 0 a w)
 (c: ∀n a w d,n≤N→b n a w→A (fun y w'=>Fe N b y w'∧Lx N y<Lx N (a,I n)) (a,I n) d w):lp (α:=α×Value) (a, .int .i64 0) w A:=by
 refine We (Fe N b) (fun x _=>Lx N x) ⟨0,rfl,Nat.zero_le _,g⟩ ?_
 rintro ⟨a,x⟩ d w' ⟨n,f,h,e⟩
 simp only at f e
 subst f
 exact c n a w' d h e
theorem J3 {α:Type} {a c:α} {N n:Nat} {b:Nat→α→World→Prop} (f:N≤9223372036854775807) (e:n<N) (d:b (n+1) c w):Fe N b (c, .int .i64 (IntKind.i64.wrap (n+1))) w∧Lx N (c, .int .i64 (IntKind.i64.wrap (n+1)))<Lx N (a,I n):=by
 rw[F9 (by omega) (by omega)]
 exact ⟨⟨n+1,rfl,e,d⟩,by simp only[Lx,UpM];omega⟩
theorem M9 {α:Type} {R:Q6→α→List Value→Prop} {sz:Nat} {σ:Q6} {v:Value} {xs:List α} {t e:TypeId} {b:Nat} {z:Value} [TS P t e] [TZ P e sz b z] (h:Sl sz R σ v xs) {n:Nat} (c:n<xs.length)
 (i: ∀a cs,Z4 σ a cs→cs.length=sz→R σ xs[n] cs→K (.pointer (some a)) w):indexAddr P t v (I n) w K:=
 X3v h (by omega) (by simpa using c) (fun a cs g d f=>i a cs g d (by simpa using f))
theorem Y9 {t:TypeId} {sz c:Nat} {z:Value} {A:Value→Value→World→Prop} [tz:TZ P t sz c z] {σ:Q6} {cs:List Value} (j:X3 w σ) (l:z.cells.size=sz) (i:cs.length=sz) (o: ∀u∈cs,u.oneCell'=true)
 (h: ∀a w' d,Stp w σ w' d→Z4 d a cs→A (.pointer (some a)) undef w'):W1 P t w (fun p w=>X9 P t p (.agg cs.toArray) w (fun u w=>A p u w)):=by
 refine Px j fun b w1 f r g=>?_
 refine Mn g (by simpa using l) i (by rw[List.all_toArray];exact List.all_eq_true.2 o) fun k n e=>?_
 have q:Stp w σ k σ:=n.stp r f g.1
 obtain ⟨d,s,m,_⟩:=e.keep q f
 exact h _ _ _ s m
theorem U7 {t:TypeId} {d:Nat} {z:Value} {A:Value→Value→World→Prop} [tz:TZ P t 1 d z] {σ:Q6} {v:Value} (k:X3 w σ) (m:z.cells.size=1) (n:v.cells= #[v]) (r:v.oneCell'=true)
 (h: ∀a w' f,Stp w σ w' f→Z4 f a [v]→A (.pointer (some a)) undef w'):W1 P t w (fun p w=>X9 P t p v w (fun u w=>A p u w)):=by
 refine Px k fun b w1 g y i=>?_
 have j:z.cells.toList.length=1:=by simpa using m
 refine st0 i (by omega) n r fun l q c=>?_
 have s:Stp w σ l σ:=q.stp y g i.1
 have e:z.cells.toList.set 0 v=[v]:=by
  match hzl:z.cells.toList,j with
  | [x],_=>rfl
 rw[e] at c
 obtain ⟨f,B,o,_⟩:=c.keep s g
 exact h _ _ _ B o
theorem L3 {α:Type} {xs:List α} {p:α→Bool} {n:Nat} (h:n<xs.length):(xs.take (n+1)).any p=((xs.take n).any p||p xs[n]):=by
 rw[List.take_add_one,List.getElem?_eq_getElem h,List.any_append];simp
theorem S6 {α:Type} {xs:List α} {p:α→Bool} {n:Nat} (h:n<xs.length) (a:p xs[n]=true):xs.any p=true:=List.any_eq_true.2 ⟨_,List.getElem_mem h,a⟩
theorem E0 {α:Type} {xs:List α} {p:α→Bool} {n:Nat} (h: ¬n<xs.length):(xs.take n).any p=xs.any p:=by rw[List.take_of_length_le (by omega)]
end Go.Emb

namespace Go.Hm
open Go.Kd
structure Fld where
  name : X0
  kind : X0
  tr : Bool
deriving DecidableEq
structure Ins where
  op : X0
  n : Int
  s : X0
deriving DecidableEq
structure Cat where
  frm : Int
  to : Int
  at_ : Int
  cls : X0
deriving DecidableEq
structure Met where
  name : X0
  params : List X0
  result : X0
  abs : Bool
  locals : Int
  code : List Ins
  catches : List Cat
deriving DecidableEq
structure Cla where
  name : X0
  super : X0
  like : List X0
  iface : Bool
  abs : Bool
  fin : Bool
  fields : List Fld
  methods : List Hm.Met
deriving DecidableEq
def Fld.zero:Fld:=⟨[],[],false⟩
def Met.zero:Hm.Met:=⟨[],[],[],false,0,[],[]⟩
def Cla.zero:Cla:=⟨[],[],[],false,false,false,[],[]⟩
end Go.Hm

namespace Go.Emb
open Go.RowKit Go.Hm
abbrev Yy (n:Int):Prop:= -9223372036854775808≤n∧n≤9223372036854775807
def R7 (_:Q6) (f:Fld) (cs:List Value):Prop:=cs=[S f.name,S f.kind, .bool f.tr]∧f.name.length≤U1∧f.kind.length≤U1
def Qt (_:Q6) (i:Ins) (cs:List Value):Prop:=cs=[S i.op,I i.n,S i.s]∧i.op.length≤U1∧Yy i.n∧i.s.length≤U1
def Jk (_:Q6) (c:Cat) (cs:List Value):Prop:=cs=[I c.frm,I c.to,I c.at_,S c.cls]∧Yy c.frm∧Yy c.to∧Yy c.at_∧c.cls.length≤U1
def E8 (σ:Q6) (m:Hm.Met) (cs:List Value):Prop:= ∃pv b a,cs=[S m.name,pv,S m.result, .bool m.abs,I m.locals,b,a]∧Sl 1 U8 σ pv m.params∧Sl 3 Qt σ b m.code∧Sl 4 Jk σ a m.catches∧m.name.length≤U1∧m.result.length≤U1∧Yy m.locals
def V0 (σ:Q6) (c:Cla) (cs:List Value):Prop:= ∃b a mv,cs=[S c.name,S c.super,b, .bool c.iface, .bool c.abs, .bool c.fin,a,mv]∧Sl 1 U8 σ b c.like∧Sl 3 R7 σ a c.fields∧Sl 7 E8 σ mv c.methods∧c.name.length≤U1∧c.super.length≤U1
theorem A0 {α:Type} {sz:Nat} {R:Q6→α→List Value→Prop} {σ:Q6} {v:Value} {xs:List α} (h:Sl sz R σ v xs):v.oneCell'=true:=by
 obtain ⟨a,b,rfl,_⟩:=h;rfl
instance:Rep R7:=⟨fun _ h=>h,fun h u hu=>by rw[h.1] at hu;simp at hu;rcases hu with rfl | rfl | rfl<;>rfl⟩
instance:Rep Qt:=⟨fun _ h=>h,fun h u hu=>by rw[h.1] at hu;simp at hu;rcases hu with rfl | rfl | rfl<;>rfl⟩
instance:Rep Jk:=⟨fun _ h=>h,fun h u hu=>by rw[h.1] at hu;simp at hu;rcases hu with rfl | rfl | rfl | rfl<;>rfl⟩
instance:Rep E8:=⟨fun hk ⟨pv,cv,hv,h1,h2,h3,h4,h5⟩=>⟨pv,cv,hv,h1,h2.le hk,h3.le hk,h4.le hk,h5⟩,fun ⟨pv,cv,hv,h1,h2,h3,h4,h5⟩ u hu=>by
 rw[h1] at hu;simp at hu;rcases hu with rfl | rfl | rfl | rfl | rfl | rfl | rfl
 ·rfl
 ·exact A0 h2
 ·rfl
 ·rfl
 ·rfl
 ·exact A0 h3
 ·exact A0 h4⟩
instance:Rep V0:=⟨fun hk ⟨pv,cv,hv,h1,h2,h3,h4,h5⟩=>⟨pv,cv,hv,h1,h2.le hk,h3.le hk,h4.le hk,h5⟩,fun ⟨pv,cv,hv,h1,h2,h3,h4,h5⟩ u hu=>by
 rw[h1] at hu;simp at hu;rcases hu with rfl | rfl | rfl | rfl | rfl | rfl | rfl | rfl
 ·rfl
 ·rfl
 ·exact A0 h2
 ·rfl
 ·rfl
 ·rfl
 ·exact A0 h3
 ·exact A0 h4⟩
end Go.Emb
