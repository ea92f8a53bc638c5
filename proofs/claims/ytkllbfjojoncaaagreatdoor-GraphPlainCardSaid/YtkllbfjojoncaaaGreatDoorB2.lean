/- Parts of a proof about the given program: its functions as texts of their own, what each computes, plain laws of that. The conditions of each stand in its statement. -/
import Derived.Test.YtkllbfjojoncaaaGreatDoorB1
import Derived.Below
import Derived.Maps.AppendAt
import Derived.ChangeArms
import Derived.DataReads
import Derived.SizedLaws
set_option linter.unnecessarySimpa false
set_option linter.defProp false
set_option linter.unusedSectionVars false
set_option linter.unusedVariables false
set_option linter.unusedSimpArgs false
namespace Go.Proofs.Y
open Go.Emb
set_option maxRecDepth 100000
variable {w : World} {K : Value -> World -> Prop} {a0 a1 a2 a3 a5 a6 a7 : Value}
def Q0e:M0:=[none,none,none,none,some ([8],[6,8,12,13,14,15,16,17,18,19,20,21,22,23,24,25])]++Y3 6
def Ej:Yg:=fun i j k w K=>Q0 P F.p [i,j] w fun b w=>lp (α:=Value) (.int .i64 0) w fun a c l w=>Y2 T.k b w fun d w=>X5 .lss T.f 12 14 c d w fun e w=>X1 e (indexAddr P T.k b c w fun f w=>Y1 T.n T.c f 0 w fun g w=>X5 .eql T.c 22 23 g k w fun h w=>X1 h (K c w) (V6 16 c w a)) (K (.int .i64 (-1)) w)
theorem Q0M (h:Ej a0 a1 a2 w K):Q0 P F.bt [a0,a1,a2] w K:=zr Q0e Tryz.func124 h
def Rc:D3:=fun a w K=>Y2 T.c a w fun c w=>Q0 P F.a3 [a] w fun d w=>Z2 P .mul T.f (.const (.int .i64 2)) (.tmp 7) (.int .i64 2) d w fun e w=>X5 .sub T.f 5 8 c e w fun f w=>G5 P T.c a none (some f) none w fun b w=>K b w
theorem Q1L (h:Rc a0 w K):Q0 P F.aS [a0] w K:=zr (Y3 2) Tryz.func129 h
def Rb:L4:=fun p d w K=>V2 .eql T.c 5 d #[110,117,108,108] w fun c w=>X6 c false d w fun q w=>Q1 c false w (Q0 P F.e [q]) fun r w=>X6 c false r w fun a w=>X6 a true d w fun e w=>Q1 a true w (Q0 P F.aS [e]) fun f w=>Q1 a true w (Q0 P F.z [f]) fun g w=>X6 a true g w fun b w=>X6 b false p w fun h w=>X6 b false d w fun i w=>Q1 b false w (Q0 P F.aS [i]) fun j w=>Q1 b false w (Q0 P F.b [h,j]) fun k w=>Q1 b false w (X4 .geq T.f 18 k 0) fun l w=>Q1 a true w (pick P b (.bool true) l) fun m w=>Q1 c false w (pick P a m (.bool false)) fun n w=>pick P c (.bool true) n w fun o w=>K o w
theorem Q1K (h:Rb a0 a1 w K):Q0 P F.a4 [a0,a1] w K:=zr (Y3 2) Tryz.func86 h
def El:L4:=fun e d w K=>V2 .neq T.c 5 d #[110,117,108,108] w fun a w=>X6 a true e w fun f w=>X6 a true d w fun g w=>Q1 a true w (Q0 P F.a4 [f,g]) fun b w=>pick P a b (.bool false) w fun c w=>K c w
theorem Q0O (h:El a0 a1 w K):Q0 P F.bu [a0,a1] w K:=zr (Y3 2) Tryz.func125 h
def Q1p:M0:=[none,none,none,none,some ([3,4],[3,4,5,6,7,8,9,10,11,12,13,14,15,16,17,18,19,20,21,22]),none,none,none,some ([3],[3,12,13,14,15]),none,none]
def Hy:D3:=fun n w K=>box P T.d n w fun a w=>lp (α:=Value×Value) ((.string ⟨#[40]⟩),(.int .i64 0)) w fun b c o w=>Y1 T.d T.h a 1 w fun p w=>Y2 T.h p w fun q w=>X5 .lss T.f 5 8 c.2 q w fun r w=>X1 r (jn (α:=Value) w (fun m w=>X4 .gtr T.f 12 c.2 0 w fun e w=>X1 e (V2 .add T.c 14 c.1 #[44] w fun f w=>m f w) (m c.1 w)) fun s o w=>Y1 T.d T.h a 1 w fun g w=>V0 T.h T.c g c.2 w fun h w=>X5 .add T.c 16 21 s h w fun i w=>X4 .add T.f 10 c.2 1 w fun d w=>b (i,d) w) (V2 .add T.c 23 c.1 #[41] w fun j w=>Y1 T.d T.c a 2 w fun k w=>X5 .add T.c 24 26 j k w fun l w=>K l w)
theorem Q1H (h:Hy a0 w K):Q0 P F.aR [a0] w K:=zr Q1p Tryz.func126 h
def Q2A:M0:=[none,none,none,some ([5],[4,5,6,7,8,9,10,11,12,13,14,15,16,17,18,19,20,21])]++Y3 6
def Ca:L4:=fun i j w K=>box P T.b i w fun a w=>lp (α:=Value) (.int .i64 0) w fun b c m w=>Y1 T.b T.j a 7 w fun k w=>Y2 T.j k w fun l w=>X5 .lss T.f 6 9 c l w fun d w=>X1 d (Y1 T.b T.j a 7 w fun e w=>indexAddr P T.j e c w fun f w=>Y1 T.d T.c f 0 w fun g w=>X5 .eql T.c 18 19 g j w fun h w=>X1 h (K c w) (V6 11 c w b)) (K (.int .i64 (-1)) w)
theorem Q2R (h:Ca a0 a1 w K):Q0 P F.aZ [a0,a1] w K:=zr Q2A Tryz.func168 h
def Q0f:M0:=[none,none,none,some ([9],[6,8,9,10,11,12,13,14,15,16,17,18,19,20,21,22,23,24,25,26,27,28,29,30,31,32,33,34,35,36,37,38,39,40,41,42,43,44,45,46,47,48,49,50,51,52,53,54])]++Y3 12
def Ek:Yg:=fun v Y X w K=>box P T.b Y w fun b w=>T1 P T.d w fun k w=>lp (α:=Value) (.int .i64 0) w fun d R Z w=>Y1 T.b T.h b 2 w fun y w=>Y2 T.h y w fun z w=>X5 .lss T.f 15 18 R z w fun A w=>X1 A (Y1 T.b T.h b 2 w fun B w=>V0 T.h T.c B R w fun C w=>Q0 P F.b [v,C] w fun D w=>V0 T.i T.b v D w fun E w=>M9 T.b E w fun a w=>Q6 P T.b a w fun H w=>Q0 P F.aZ [H,X] w fun m w=>X4 .geq T.f 35 m 0 w fun J w=>X1 J (dr w fun f c=>Y5 f c (fieldAddr P T.b a 0) fun r=>Y5 f c (fieldAddr P T.b a 7) fun s=>X3 f c r (fun g=>Q6 P T.c g) fun U=>X3 f c s (fun h=>Q6 P T.j h) fun t=>X3 f c t (fun i=>indexAddr P T.j i m) fun u=>X3 f c u (fun j=>Q6 P T.d j) fun V=> ∀g h n i j o w,c w->r g w->s h w->U n w->t i w->u j w->V o w->J9 P T.d k o w fun _u w=>Z8 P T.d k w fun l=>K (.tuple #[n,l,(.bool true)]) w) (Q6 P T.b a w fun L w=>Q0 P F.aJ [v,L,X] w fun p w=>D2 p w fun M N w=>ext P p 2 w fun O w=>M9 T.d N w fun e w=>X1 O (dr w fun f c=>Y5 f c (Q6 P T.d e) fun W=> ∀q w,c w->W q w->J9 P T.d k q w fun _u w=>Z8 P T.d k w fun l=>K (.tuple #[M,l,(.bool true)]) w) (V6 20 R w d))) (B2 P T.d [] w fun Q w=>J9 P T.d k Q w fun _u w=>Z8 P T.d k w fun l=>K (.tuple #[(.string ⟨#[]⟩),l,(.bool false)]) w)
theorem Q0N (h:Ek a0 a1 a2 w K):Q0 P F.aJ [a0,a1,a2] w K:=zr Q0f Tryz.func169 h
def Te:M0:=[none,none,none,some ([9],[6,8,9,10,18,19,20,21,22,23,24,25,26,27,28,29,30,31,32,33,34,35,36,37,38,39,40,41,42,43,44,45,46,47])]++Y3 8++[some ([11],[6,8,11,12,13,14,51,52,53,54,55,56,57,58,59,60,61,62,63,64,65,66,67,68,69,70,71,72,73])]++Y3 7
def On:Yg:=fun b a1 a2 w K=>T1 P T.d w fun m w=>Q0 P F.b [b,a1] w fun D w=>lp (α:=Value) D w fun e t d_ w=>X4 .geq T.f 18 t 0 w fun E w=>X1 E (V0 T.i T.b b t w fun M w=>Q0 P F.aZ [M,a2] w fun o w=>X4 .geq T.f 33 o 0 w fun N w=>X1 N (dr w fun d a=>Y5 d a (indexAddr P T.i b t) fun u=>X3 d a u (fun f=>fieldAddr P T.b f 0) fun v=>Y5 d a (indexAddr P T.i b t) fun y=>X3 d a y (fun h=>fieldAddr P T.b h 7) fun z=>X3 d a v (fun g=>Q6 P T.c g) fun ab=>X3 d a z (fun i=>Q6 P T.j i) fun A=>X3 d a A (fun j=>indexAddr P T.j j o) fun B=>X3 d a B (fun k=>Q6 P T.d k) fun ac=> ∀f g h i p j k q w,a w->u f w->v g w->y h w->z i w->ab p w->A j w->B k w->ac q w->J9 P T.d m q w fun _u w=>Z8 P T.d m w fun n=>K (.tuple #[p,n,(.bool true)]) w) (indexAddr P T.i b t w fun H w=>Y1 T.b T.c H 1 w fun J w=>Q0 P F.b [b,J] w fun L w=>e L w)) (Q0 P F.b [b,a1] w fun O w=>lp (α:=Value) O w fun c l d_ w=>X4 .geq T.f 51 l 0 w fun Q w=>X1 Q (V0 T.i T.b b l w fun W w=>Q0 P F.aJ [b,W,a2] w fun r w=>D2 r w fun X Y w=>ext P r 2 w fun Z w=>M9 T.d Y w fun C w=>X1 Z (dr w fun d a=>Y5 d a (Q6 P T.d C) fun ad=> ∀s w,a w->ad s w->J9 P T.d m s w fun _u w=>Z8 P T.d m w fun n=>K (.tuple #[X,n,(.bool true)]) w) (indexAddr P T.i b l w fun R w=>Y1 T.b T.c R 1 w fun U w=>Q0 P F.b [b,U] w fun V w=>c V w)) (B2 P T.d [] w fun aa w=>J9 P T.d m aa w fun _u w=>Z8 P T.d m w fun n=>K (.tuple #[(.string ⟨#[]⟩),n,(.bool false)]) w))
theorem Tp (h:On a0 a1 a2 w K):Q0 P F.be [a0,a1,a2] w K:=zr Te Tryz.func127 h
def Kz:M0:=[none,none,none,none,some ([6],[4,6,24,25,26,27,28,29,30,31,32,33,34,35,36,37,38,39,40,41])]++Y3 8++[some ([7,8],[7,8,43,44,45,46,47,48,49,50,51,52,53,54,55,56,57,58])]++Y3 5++[some ([7,9],[7,9,59,60,61,62,63,64,65,66,67,68,69,70,71,72,73,74,75,76,77,78,79,80,81,82,83,84,85,86,87,88,89]),none,none,some ([7],[7,66,67,68,69,70,71,72,73,74,75,76,77,78,79,80,81,82,83,84,85,86,87,88,89]),none,none,none,none,some ([10],[4,10,90,91,92,93,94,95,96,97,98,99,100,101,102])]++Y3 9++[some ([12,13],[12,13,106,107,108,109,110,111,112,113,114,115,116,117,118,119,120,121,122,123,124,125,126,127,128,129,130]),none,none,some ([12],[12,112,113,114,115,116,117,118,119,120,121,122,123,124,125,126,127,128,129,130]),none,none,none,some ([14],[4,14,15,131,132,133,134,135,136,137,138,139,140,141,142,143,144,145,146,147,148,149,150,151,152,153,154,155,156,157,158,159,160,161,162,163,164,165]),none,none,none,none,some ([15],[4,15,137,138,139,140,141,142,143,144,145,146,147,148,149,150,151,152,153,154,155,156,157,158,159,160,161,162,163,164,165])]++Y3 7++[some ([16],[4,16,17,18,19,166,167,168,169,170,171,172,173,174,175,176,177,178,179,180,181,182,183,184,185,186,187,188,189,190,191,192,193,194,195])]++Y3 7
def Mx:L4:=fun a0 a1 w K=>V0 T.i T.b a0 a1 w fun co w=>M9 T.b co w fun V w=>lp (α:=Value) (.int .i64 0) w fun Z x4 d_ w=>Y1 T.b T.k V 6 w fun cp w=>Y2 T.k cp w fun cq w=>X5 .lss T.f 24 27 x4 cq w fun cr w=>X1 cr (dr w fun c b=>Y5 c b (fieldAddr P T.b V 1) fun ci=>Y5 c b (fieldAddr P T.b V 6) fun cj=>X3 c b ci (fun a5=>Q6 P T.c a5) fun dt=>X3 c b cj (fun a6=>Q6 P T.k a6) fun ck=>X3 c b ck (fun a7=>indexAddr P T.k a7 x4) fun cl=>X3 c b cl (fun a8=>fieldAddr P T.n a8 0) fun cm=>X3 c b cm (fun a9=>Q6 P T.c a9) fun du=> ∀a5 a6 ca a7 a8 a9 cb w,b w->ci a5 w->cj a6 w->dt ca w->ck a7 w->cl a8 w->cm a9 w->du cb w->Q0 P F.bt [a0,ca,cb] w fun cs w=>X4 .geq T.f 40 cs 0 w fun ct w=>X1 ct (K (.int .i64 64) w) (V6 29 x4 w Z)) (buildSlice P T.h 0 [] w fun cu w=>lp (α:=Value×Value) (cu,(.int .i64 0)) w fun l W d_ w=>Y1 T.b T.k V 6 w fun cv w=>Y2 T.k cv w fun cw w=>X5 .lss T.f 43 46 W.2 cw w fun cx w=>X1 cx (Y1 T.b T.k V 6 w fun cz w=>indexAddr P T.k cz W.2 w fun c0 w=>Y1 T.n T.c c0 1 w fun c1 w=>buildSlice P T.h 1 [(0,c1)] w fun c2 w=>U7 P .append [T.h,T.h] T.h [false,false] [W.1,c2] w fun c3 w=>X4 .add T.f 48 W.2 1 w fun cy w=>l (c3,cy) w) (lp (α:=Value×Value) (W.1,(.int .i64 0)) w fun m i d_ w=>Y1 T.b T.j V 7 w fun c4 w=>Y2 T.j c4 w fun c5 w=>X5 .lss T.f 59 62 i.2 c5 w fun c6 w=>X1 c6 (jn (α:=Value) w (fun bc w=>Y1 T.b T.j V 7 w fun c8 w=>indexAddr P T.j c8 i.2 w fun c9 w=>Y1 T.d T.h c9 1 w fun da w=>U7 P .append [T.h,T.h] T.h [false,false] [i.1,da] w fun cc w=>Y1 T.b T.j V 7 w fun db w=>indexAddr P T.j db i.2 w fun dc w=>Y1 T.d T.c dc 2 w fun dd w=>V2 .neq T.c 79 dd #[] w fun de w=>X1 de (Y1 T.b T.j V 7 w fun df w=>indexAddr P T.j df i.2 w fun dg w=>Y1 T.d T.c dg 2 w fun dh w=>buildSlice P T.h 1 [(0,dh)] w fun di w=>U7 P .append [T.h,T.h] T.h [false,false] [cc,di] w fun dj w=>bc dj w) (bc cc w)) fun dq d_ w=>X4 .add T.f 64 i.2 1 w fun c7 w=>m (dq,c7) w) (lp (α:=Value) (.int .i64 0) w fun n ba d_ w=>Y2 T.h i.1 w fun dl w=>X5 .lss T.f 90 92 ba dl w fun dm w=>X1 dm (V0 T.h T.c i.1 ba w fun be w=>Q0 P F.bu [a0,be] w fun bf w=>V4 P .not bf w fun bg w=>X1 bg (K (.int .i64 65) w) (V6 94 ba w n)) (Q0 P F.al [a0] w fun bh w=>buildSlice P T.j 0 [] w fun bi w=>lp (α:=Value×Value) (bi,(.int .i64 0)) w fun o e d_ w=>Y2 T.i a0 w fun bj w=>X5 .lss T.f 106 108 e.2 bj w fun bk w=>X1 bk (jn (α:=Value) w (fun bd w=>X5 .eql T.f 112 113 e.2 a1 w fun g w=>X6 g false bh w fun bm w=>X6 g false a1 w fun bn w=>zhi g false w T.ac T.aa bm bn fun bo w=>X6 g false e.2 w fun bp w=>zhi g false w T.aa T.q bo bp fun bq w=>pick P g (.bool true) bq w fun br w=>X1 br (indexAddr P T.i a0 e.2 w fun bs w=>Y1 T.b T.j bs 7 w fun bu w=>U7 P .append [T.j,T.j] T.j [false,false] [e.1,bu] w fun bv w=>bd bv w) (bd e.1 w)) fun ds d_ w=>X4 .add T.f 110 e.2 1 w fun bl w=>o (ds,bl) w) (lp (α:=Value) (.int .i64 0) w fun p X d_ w=>Y2 T.j e.1 w fun bw w=>X5 .lss T.f 131 133 X bw w fun bx w=>X1 bx (lp (α:=Value) (.int .i64 0) w fun q ab d_ w=>X5 .lss T.f 137 138 ab X w fun bz w=>X1 bz (dr w fun c b=>Y5 c b (indexAddr P T.j e.1 X) fun ag=>X3 c b ag (fun s=>fieldAddr P T.d s 0) fun ah=>Y5 c b (indexAddr P T.j e.1 ab) fun aj=>X3 c b aj (fun v=>fieldAddr P T.d v 0) fun ak=>X3 c b ah (fun t=>Q6 P T.c t) fun ai=>X3 c b ak (fun y=>Q6 P T.c y) fun al=>L1 c b ai al (fun u z=>X5 .eql T.c 146 151 u z) fun d=>X3 c b d (fun a=>U6 a (fun w J=>J e.1 w)) fun am=>X3 c b d (fun a=>U6 a (fun w J=>J X w)) fun an=>Qi c b d am an (fun a A B=>U6 a (indexAddr P T.j A B)) fun ao=>X3 c b d (fun a=>U6 a (fun w J=>J e.1 w)) fun aq=>X3 c b d (fun a=>U6 a (fun w J=>J ab w)) fun ar=>Qi c b d aq ar (fun a E H=>U6 a (indexAddr P T.j E H)) fun av=>L1 c b d ao (fun a C=>U6 a (Q6 P T.d C)) fun ap=>L1 c b d ap (fun a D=>U6 a (Q0 P F.aR [D])) fun cd=>L1 c b d av (fun a L=>U6 a (Q6 P T.d L)) fun ce=> ∀s t v y u z a A B C E H L D ac ad w,b w->ag s w->ah t w->aj v w->ak y w->ai u w->al z w->d a w->am A w->an B w->ao C w->aq E w->ar H w->av L w->ap D w->cd ac w->ce ad w->Q1 a true w (Q0 P F.aR [ad]) fun b0 w=>Q1 a true w (X5 .neq T.c 158 163 ac b0) fun b1 w=>pick P a b1 (.bool false) w fun b2 w=>X1 b2 (K (.int .i64 66) w) (V6 140 ab w q)) (V6 135 X w p)) (lp (α:=Value) (.int .i64 0) w fun r bb d_ w=>Y2 T.j e.1 w fun b3 w=>X5 .lss T.f 166 168 bb b3 w fun M w=>Z3 M true w T.b T.q V 4 fun b4 w=>Q1 M true w (V4 P .not b4) fun b5 w=>pick P M b5 (.bool false) w fun b6 w=>X1 b6 (dr w fun c b=>Y5 c b (fieldAddr P T.b V 0) fun aw=>Y5 c b (indexAddr P T.j e.1 bb) fun ay=>X3 c b ay (fun Q=>fieldAddr P T.d Q 0) fun az=>X3 c b aw (fun N=>Q6 P T.c N) fun ax=>X3 c b az (fun R=>Q6 P T.c R) fun a2=>L1 c b ax a2 (fun O U=>Q0 P F.be [a0,O,U]) fun k=>X3 c b k (fun f=>ext P f 0) fun cg=>X3 c b k (fun f=>ext P f 1) fun a3=>X3 c b k (fun f=>ext P f 2) fun ch=>Y5 c b (T1 P T.d) fun cf=>Fh c (fun Y=> ∀j h w,b w->cf j w->a3 h w->J9 P T.d j h w (dk c (Y [j,h]) w)) fun Y=> ∀N Q R O U f b7 h ae j dn w,b w->aw N w->ay Q w->az R w->ax O w->a2 U w->k f w->cg b7 w->a3 h w->ch ae w->cf j w->Y [j,h] dn w->V4 P .not ae w fun af w=>Z3 af false w T.d T.q j 3 fun b8 w=>pick P af (.bool true) b8 w fun b9 w=>X1 b9 (K (.int .i64 67) w) (V6 175 bb w r)) (K (.int .i64 0) w)))))))
theorem Ph (h:Mx a0 a1 w K):Q0 P F.b9 [a0,a1] w K:=zr Kz Tryz.func82 h
def Q2z:M0:=Y3 5++[some ([5,7],[2,3,4,5,7,8,21,22,23,24,25,26,27,28,29,30,31,32,33,34,35,36,37,38,39,40,41,42])]++Y3 9++[some ([9],[2,3,4,9,43,44,45,46,47,48,49,50,51,52,53,54,55,56,57,58,59,60])]++Y3 7++[some ([10],[2,3,4,10,11,61,62,63,64,65,66,67,68,69,70,71,72,73,74,75,76])]++Y3 9++[some ([13],[2,3,4,13,79,80,81,82,83,84,85,86,87,88,89,90,91,92,93,94,95,96])]++Y3 8++[some ([14,15],[14,15,98,99,100,101,102,103,104,105,106,107,108,109,110])]++Y3 5++[some ([16],[2,3,4,16,17,111,112,113,114,115,116,117,118,119,120,121,122,123,124,125,126,127,128,129,130,131])]++Y3 7
def Sy:D3:=fun k w K=>Q0 P F.bs [] w fun E w=>Y2 T.i E w fun b w=>lp (α:=Value×Value) (E,(.int .i64 0)) w fun l c q w=>Y2 T.i k w fun M w=>X5 .lss T.f 21 23 c.2 M w fun N w=>X1 N (V0 T.i T.b k c.2 w fun Q w=>Q0 P F.bq [Q] w fun H w=>X4 .neq T.u 32 H 0 w fun R w=>X1 R (K (.tuple #[(.slice none 0 0),c.2,H]) w) (V0 T.i T.b k c.2 w fun U w=>buildSlice P T.i 1 [(0,U)] w fun V w=>U7 P .append [T.i,T.i] T.i [false,false] [c.1,V] w fun W w=>X4 .add T.f 25 c.2 1 w fun O w=>l (W,O) w)) (lp (α:=Value) (.int .i64 0) w fun d i q w=>Y2 T.i k w fun X w=>X5 .lss T.f 43 45 i X w fun Y w=>X1 Y (indexAddr P T.i k i w fun Z w=>Y1 T.b T.c Z 0 w fun aa w=>Q0 P F.b [c.1,aa] w fun ab w=>X5 .add T.f 56 57 b i w fun ac w=>X5 .neq T.f 55 58 ab ac w fun ad w=>X1 ad (K (.tuple #[(.slice none 0 0),i,(.int .i64 60)]) w) (V6 47 i w d)) (lp (α:=Value) (.int .i64 0) w fun e m q w=>Y2 T.i k w fun ae w=>X5 .lss T.f 61 63 m ae w fun af w=>X1 af (V0 T.i T.b k m w fun ag w=>Q0 P F.bf [c.1,ag] w fun J w=>X4 .neq T.u 73 J 0 w fun ah w=>X1 ah (K (.tuple #[(.slice none 0 0),m,J]) w) (V6 65 m w e)) (Q0 P F.al [c.1] w fun ai w=>lp (α:=Value) (.int .i64 0) w fun f j q w=>Y2 T.i k w fun aj w=>X5 .lss T.f 79 81 j aj w fun ak w=>X1 ak (X5 .add T.f 86 87 b j w fun al w=>V0 T.ac T.aa ai al w fun am w=>X5 .add T.f 91 92 b j w fun an w=>V0 T.aa T.q am an w fun ao w=>X1 ao (K (.tuple #[(.slice none 0 0),j,(.int .i64 63)]) w) (V6 83 j w f)) (buildSlice P T.a0 0 [] w fun ap w=>lp (α:=Value×Value) (ap,(.int .i64 0)) w fun g a q w=>Y2 T.i k w fun r w=>X5 .lss T.f 98 100 a.2 r w fun s w=>X1 s (X5 .add T.f 107 108 b a.2 w fun u w=>Q0 P F.b0 [c.1,a.1,b,u] w fun v w=>X4 .add T.f 102 a.2 1 w fun t w=>g (v,t) w) (lp (α:=Value) (.int .i64 0) w fun h n q w=>Y2 T.a0 a.1 w fun y w=>X5 .lss T.f 111 113 n y w fun z w=>X1 z (V0 T.a0 T.f a.1 n w fun A w=>Q0 P F.b9 [c.1,A] w fun o w=>X4 .neq T.u 123 o 0 w fun B w=>X1 B (dr w fun Tr Br=>Y5 Tr Br (indexAddr P T.a0 a.1 n) fun L=> ∀p w,Br w->L p w->Q6 P T.f p w fun C w=>X5 .sub T.f 128 129 C b w fun D w=>K (.tuple #[(.slice none 0 0),D,o]) w) (V6 115 n w h)) (K (.tuple #[c.1,(.int .i64 0),(.int .i64 0)]) w))))))
theorem Q2P (h:Sy a0 w K):Q0 P F.bS [a0] w K:=zr Q2z Tryz.func38 h
def Q4Z:L4:=fun g a w K=>X4 .lss T.f 6 a 0 w fun f w=>X6 f false a w fun h w=>Q1 f false w (X4 .gtr T.f 9 h 1048576) fun b w=>pick P f (.bool true) b w fun c w=>X1 c (K (.tuple #[(.pointer none),(.int .i64 90)]) w) (B2 P T.s [(0,g),(1,a)] w fun d w=>box P T.s d w fun e w=>K (.tuple #[e,(.int .i64 0)]) w)
theorem X1s (h:Q4Z a0 a1 w K):Q0 P F.cV [a0,a1] w K:=zr (Y3 5) Tryz.func39 h
def Du:D3:=fun C w K=>T1 P T.a w fun c w=>Q0 P F.aD [] w fun i w=>Q0 P F.cW [i] w fun e w=>D2 e w fun f D w=>ext P e 2 w fun j w=>Q0 P F.aD [] w fun k w=>Q0 P F.bS [k] w fun g w=>D2 g w fun l E w=>ext P g 2 w fun m w=>Z2 P .rem T.ay (.tmp 25) (.const (.int .u16 301)) C (.int .u16 301) w fun n w=>conv P T.ay T.f n w fun h w=>X4 .neq T.u 28 j 0 w fun a w=>X6 a false m w fun o w=>Q1 a false w (X4 .neq T.u 31 o 0) fun p w=>pick P a (.bool true) p w fun b w=>X6 b false f w fun q w=>Q1 b false w (Z2 P .eql T.y (.tmp 35) (.const (.pointer none)) q (.pointer none)) fun r w=>pick P b (.bool true) r w fun s w=>X1 s (B2 P T.a [] w fun t w=>J9 P T.a c t w fun _u w=>Z8 P T.a c w fun d=>K (.tuple #[(.pointer none),d]) w) (Q0 P F.cV [f,h] w fun u w=>D2 u w fun v y w=>X4 .neq T.u 45 y 0 w fun z w=>X1 z (B2 P T.a [] w fun A w=>J9 P T.a c A w fun _u w=>Z8 P T.a c w fun d=>K (.tuple #[(.pointer none),d]) w) (B2 P T.a [(0,l),(1,h)] w fun B w=>J9 P T.a c B w fun _u w=>Z8 P T.a c w fun d=>K (.tuple #[v,d]) w))
theorem Q0x (h:Du a0 w K):Q0 P F.ak [a0] w K:=zr (Y3 12) Tryz.func18 h
def Cd:D3:=fun g w K=>box P T.m g w fun a w=>Y1 T.m T.c a 1 w fun h w=>Y2 T.c h w fun i w=>X4 .leq T.f 5 i 100 w fun b w=>Q1 b true w (fieldAddr P T.m a 4) fun j w=>Z3 b true w T.e T.c j 2 fun c w=>Q1 b true w (Y2 T.c c) fun d w=>Q1 b true w (X4 .leq T.f 11 d 5000) fun e w=>pick P b e (.bool false) w fun f w=>K f w
theorem Q2U (h:Cd a0 w K):Q0 P F.bV [a0] w K:=zr (Y3 2) Tryz.func19 h
def Mo:L4:=fun g h w K=>Q0 P F.k [g,h] w fun a w=>X6 a true g w fun i w=>X6 a true h w fun b w=>Q1 a true w (Q0 P F.h [i,b]) fun c w=>Q1 a true w (Qs P T.b c 4) fun d w=>Q1 a true w (V4 P .not d) fun e w=>pick P a e (.bool false) w fun f w=>K f w
theorem Pa (h:Mo a0 a1 w K):Q0 P F.b4 [a0,a1] w K:=zr (Y3 2) Tryz.func48 h
def Sr:D3:=fun j w K=>dr w fun b a=>Y5 b a (nilCheck P j) fun l=>X3 b a l (fun e=>fieldAddr P T.s e 1) fun m=>Y5 b a (nilCheck P j) fun n=>X3 b a n (fun g=>fieldAddr P T.s g 2) fun o=>X3 b a m (fun f=>Q6 P T.f f) fun p=>X3 b a o (fun h=>Q6 P T.f h) fun i=> ∀e f g h k c w,a w->l e w->m f w->n g w->o h w->p k w->i c w->X5 .sub T.f 6 10 k c w fun d w=>K d w
theorem Q2I (h:Sr a0 w K):Q0 P F.aB [a0] w K:=zr (Y3 2) Tryz.func50 h
def Q44:D3:=fun c w K=>T1 P T.e w fun a w=>V2 .eql T.c 3 c #[105,110,116] w fun g w=>X1 g (B2 P T.e [(0,(.int .i64 1))] w fun h w=>J9 P T.e a h w fun _u w=>Z8 P T.e a w fun b=>K b w) (V2 .eql T.c 3 c #[98,111,111,108] w fun i w=>X1 i (B2 P T.e [(0,(.int .i64 2))] w fun j w=>J9 P T.e a j w fun _u w=>Z8 P T.e a w fun b=>K b w) (V2 .eql T.c 3 c #[116,101,120,116] w fun d w=>X1 d (B2 P T.e [(0,(.int .i64 3))] w fun e w=>J9 P T.e a e w fun _u w=>Z8 P T.e a w fun b=>K b w) (B2 P T.e [] w fun f w=>J9 P T.e a f w fun _u w=>Z8 P T.e a w fun b=>K b w)))
theorem Q9H (h:Q44 a0 w K):Q0 P F.cB [a0] w K:=zr (Y3 10) Tryz.func51 h
def Cz:Yg:=fun a t s w K=>nilCheck P a w fun u w=>Y1 T.s T.f u 2 w fun b w=>Y2 T.l s w fun c w=>Z2 P .add T.f (.const (.int .i64 1)) (.tmp 13) (.int .i64 1) c w fun d w=>X5 .add T.f 11 14 b d w fun e w=>nilCheck P a w fun f w=>fieldAddr P T.s f 2 w fun g w=>J9 P T.f g e w fun _u w=>nilCheck P a w fun h w=>Y1 T.s T.g h 3 w fun i w=>B2 P T.p [(0,t),(1,s)] w fun j w=>buildSlice P T.g 1 [(0,j)] w fun k w=>U7 P .append [T.g,T.g] T.g [false,false] [i,k] w fun l w=>nilCheck P a w fun m w=>fieldAddr P T.s m 3 w fun n w=>J9 P T.g n l w fun _u w=>nilCheck P a w fun o w=>Y1 T.s T.g o 3 w fun p w=>Y2 T.g p w fun q w=>X4 .sub T.f 34 q 1 w fun r w=>K (.tuple #[r,(.int .i64 0)]) w
theorem Q3M (h:Cz a0 a1 a2 w K):Q0 P F.b3 [a0,a1,a2] w K:=zr (Y3 4) Tryz.func52 h
def Q02:M0:=Y3 11++[some ([7,31],[7,9,31,32,33,34,35,36,37,38,39,40,41])]++Y3 5
def Dl:L4:=fun e f w K=>nilCheck P e w fun g w=>Y1 T.s T.y g 0 w fun h w=>Q0 P F.b4 [h,f] w fun i w=>V4 P .not i w fun j w=>X1 j (K (.tuple #[(.int .i64 0),(.int .i64 91)]) w) (nilCheck P e w fun k w=>Y1 T.s T.y k 0 w fun l w=>Q0 P F.a5 [l,f] w fun c w=>Y2 T.k c w fun m w=>Z2 P .add T.f (.const (.int .i64 1)) (.tmp 24) (.int .i64 1) m w fun n w=>Q0 P F.aB [e] w fun o w=>X5 .gtr T.f 25 27 n o w fun p w=>X1 p (K (.tuple #[(.int .i64 0),(.int .i64 90)]) w) (Y2 T.k c w fun q w=>lp (α:=Value×Value) ((.slice none 0 0),(.int .i64 0)) w fun a b D w=>X5 .lss T.f 31 30 b.2 q w fun r w=>X1 r (V0 T.k T.n c b.2 w fun s w=>M9 T.n s w fun d w=>Y1 T.n T.c d 1 w fun t w=>Q0 P F.cB [t] w fun u w=>buildSlice P T.l 1 [(0,u)] w fun v w=>U7 P .append [T.l,T.l] T.l [false,false] [b.1,v] w fun y w=>X4 .add T.f 31 b.2 1 w fun z w=>a (y,z) w) (Q0 P F.b3 [e,f,b.1] w fun A w=>D2 A w fun B C w=>K (.tuple #[B,C]) w)))
theorem Q0p (h:Dl a0 a1 w K):Q0 P F.q [a0,a1] w K:=zr Q02 Tryz.func21 h
def Cy:L4:=fun h g w K=>X4 .geq T.f 5 g 0 w fun a w=>X6 a true g w fun i w=>X6 a true h w fun j w=>Q1 a true w (nilCheck P j) fun b w=>Z3 a true w T.s T.g b 3 fun c w=>Q1 a true w (Y2 T.g c) fun d w=>Q1 a true w (X5 .lss T.f 8 13 i d) fun e w=>pick P a e (.bool false) w fun f w=>K f w
theorem Q3L (h:Cy a0 a1 w K):Q0 P F.aE [a0,a1] w K:=zr (Y3 2) Tryz.func97 h
def Hp:Yg:=fun n o p w K=>Q0 P F.aE [n,o] w fun b w=>V4 P .not b w fun c w=>X1 c (K (.int .i64 92) w) (X4 .lss T.a5 13 p 0 w fun a w=>X6 a false p w fun d w=>X6 a false n w fun e w=>Q1 a false w (nilCheck P e) fun f w=>Z3 a false w T.s T.g f 3 fun g w=>X6 a false o w fun h w=>Q1 a false w (indexAddr P T.g g h) fun i w=>Z3 a false w T.p T.l i 1 fun j w=>Q1 a false w (Y2 T.l j) fun k w=>Q1 a false w (X5 .geq T.a5 16 25 d k) fun l w=>pick P a (.bool true) l w fun m w=>X1 m (K (.int .i64 93) w) (K (.int .i64 0) w))
theorem Q1y (h:Hp a0 a1 a2 w K):Q0 P F.aM [a0,a1,a2] w K:=zr (Y3 7) Tryz.func53 h
def Sq:L4:=fun e f w K=>Q0 P F.aE [e,f] w fun g w=>V4 P .not g w fun h w=>X1 h (K (.string ⟨#[]⟩) w) (nilCheck P e w fun a w=>Y1 T.s T.g a 3 w fun b w=>indexAddr P T.g b f w fun c w=>Y1 T.p T.c c 0 w fun d w=>K d w)
theorem Q2H (h:Sq a0 a1 w K):Q0 P F.w [a0,a1] w K:=zr (Y3 5) Tryz.func56 h
def Fp:L4:=fun D E w K=>box P T.e E w fun a w=>Q6 P T.e a w fun H w=>B2 P T.e [] w fun J w=>X5 .eql T.e 6 7 H J w fun L w=>X1 L (K (.string ⟨#[110,117,108,108]⟩) w) (Q6 P T.e a w fun d w=>Y1 T.e T.a5 a 1 w fun e w=>B2 P T.e [(0,(.int .i64 1)),(1,e)] w fun f w=>X5 .eql T.e 10 13 d f w fun g w=>X1 g (K (.string ⟨#[105,110,116]⟩) w) (Q6 P T.e a w fun h w=>Y1 T.e T.a5 a 1 w fun i w=>X4 .and T.a5 18 i 1 w fun j w=>B2 P T.e [(0,(.int .i64 2)),(1,j)] w fun k w=>X5 .eql T.e 16 20 h k w fun l w=>X1 l (K (.string ⟨#[98,111,111,108]⟩) w) (Q6 P T.e a w fun m w=>Y1 T.e T.c a 2 w fun n w=>B2 P T.e [(0,(.int .i64 3)),(2,n)] w fun o w=>X5 .eql T.e 23 26 m o w fun b w=>Z3 b true w T.e T.c a 2 fun p w=>Q1 b true w (Y2 T.c p) fun q w=>Q1 b true w (X4 .leq T.f 31 q 4096) fun r w=>pick P b r (.bool false) w fun c w=>Z3 c true w T.e T.c a 2 fun s w=>Q1 c true w (Q0 P F.b1 [s]) fun t w=>pick P c t (.bool false) w fun u w=>X1 u (K (.string ⟨#[116,101,120,116]⟩) w) (Q6 P T.e a w fun v w=>Y1 T.e T.f a 3 w fun y w=>B2 P T.e [(0,(.int .i64 4)),(3,y)] w fun z w=>X5 .eql T.e 40 43 v z w fun A w=>X1 A (Y1 T.e T.f a 3 w fun B w=>Q0 P F.w [D,B] w fun C w=>K C w) (K (.string ⟨#[]⟩) w)))))
theorem Q4x (h:Fp a0 a1 w K):Q0 P F.cg [a0,a1] w K:=zr (Y3 13) Tryz.func98 h
def Lw:L4:=fun a f w K=>Q0 P F.ad [a,f] w fun g w=>V4 P .not g w fun h w=>X1 h (K (.tuple #[a,(.bool false)]) w) (Y2 T.c a w fun b w=>Y2 T.c f w fun c w=>X5 .sub T.f 13 15 b c w fun d w=>G5 P T.c a none (some d) none w fun e w=>K (.tuple #[e,(.bool true)]) w)
theorem Ii (h:Lw a0 a1 w K):Q0 P F.ch [a0,a1] w K:=zr (Y3 5) Tryz.func138 h
def Ri:L4:=fun b c w K=>Q0 P F.ch [b,c] w fun d w=>D2 d w fun e a w=>K (.tuple #[e,a]) w
theorem Q1Q (h:Ri a0 a1 w K):Q0 P F.bH [a0,a1] w K:=zr (Y3 2) Tryz.func100 h
def Q46:D3:=fun f w K=>Q0 P F.bH [f,(.string ⟨#[91,93]⟩)] w fun g w=>D2 g w fun h i w=>V4 P .not i w fun a w=>X6 a false f w fun b w=>Q1 a false w (Q0 P F.a2 [b]) fun c w=>Q1 a false w (V4 P .not c) fun d w=>pick P a (.bool true) d w fun e w=>X1 e (K (.string ⟨#[]⟩) w) (K h w)
theorem Q9J (h:Q46 a0 w K):Q0 P F.c5 [a0] w K:=zr (Y3 6) Tryz.func59 h
def Dn:L4:=fun b c w K=>box P T.b b w fun a w=>Y1 T.b T.c a 0 w fun d w=>Q6 P T.c c w fun e w=>X5 .eql T.c 5 6 d e w fun f w=>K f w
theorem Q0r (h:Dn a0 a1 w K):Q0 P F.bk [a0,a1] w K:=zr (Y3 2) Tryz.func137 h
def Su:Yg:=fun e d z w K=>box P T.c z w fun a w=>Q0 P F.ae [e,d] w fun f w=>V4 P .not f w fun b w=>X6 b false e w fun g w=>Q1 b false w (Q6 P T.c a) fun h w=>Q1 b false w (Q0 P F.ae [g,h]) fun i w=>Q1 b false w (V4 P .not i) fun j w=>pick P b (.bool true) j w fun k w=>X1 k (K (.bool false) w) (Q6 P T.c a w fun l w=>X5 .eql T.c 19 20 d l w fun m w=>X1 m (K (.bool true) w) (Q0 P F.aL [d] w fun c w=>Q1 c false w (Q6 P T.c a) fun n w=>Q1 c false w (Q0 P F.aL [n]) fun o w=>pick P c (.bool true) o w fun p w=>X1 p (K (.bool false) w) (V2 .eql T.c 30 d #[110,117,108,108] w fun q w=>X1 q (K (.bool true) w) (Q0 P F.c5 [d] w fun r w=>V2 .neq T.c 34 r #[] w fun s w=>X1 s (Q6 P T.c a w fun t w=>V2 .eql T.c 36 t #[79,98,106,101,99,116] w fun u w=>K u w) (C1 P (.func F.bk) [] [a] w fun v w=>Q0 P F.y [e,d,v] w fun y w=>K y w)))))
theorem Q2L (h:Su a0 a1 a2 w K):Q0 P F.bO [a0,a1,a2] w K:=zr (Y3 13) Tryz.func99 h
def Sp:Yg:=fun k l m w K=>box P T.e l w fun b w=>Q6 P T.e b w fun n w=>Q0 P F.cg [k,n] w fun c w=>V2 .neq T.c 11 c #[] w fun a w=>X6 a true k w fun d w=>Q1 a true w (nilCheck P d) fun e w=>Z3 a true w T.s T.y e 0 fun f w=>X6 a true c w fun g w=>X6 a true m w fun h w=>Q1 a true w (Q0 P F.bO [f,g,h]) fun i w=>pick P a i (.bool false) w fun j w=>K j w
theorem Q2G (h:Sp a0 a1 a2 w K):Q0 P F.bL [a0,a1,a2] w K:=zr (Y3 3) Tryz.func54 h
def St:Yg:=fun s t u w K=>box P T.p t w fun a w=>Y1 T.p T.c a 0 w fun v w=>Q0 P F.c5 [v] w fun g w=>V2 .neq T.c 11 g #[] w fun m w=>X1 m (K g w) (dr w fun f e=>Y5 f e (nilCheck P s) fun j=>X3 f e j (fun b=>fieldAddr P T.s b 0) fun k=>Y5 f e (fieldAddr P T.p a 0) fun l=>X3 f e k (fun c=>Q6 P T.y c) fun q=>X3 f e l (fun d=>Q6 P T.c d) fun r=> ∀b c d h i w,e w->j b w->k c w->l d w->q h w->r i w->Q0 P F.a5 [h,i] w fun n w=>indexAddr P T.k n u w fun o w=>Y1 T.n T.c o 1 w fun p w=>K p w)
theorem Q2K (h:St a0 a1 a2 w K):Q0 P F.bN [a0,a1,a2] w K:=zr (Y3 6) Tryz.func55 h
def Cx:zV4:=fun n H J W w K=>box P T.e W w fun c w=>Q0 P F.aM [n,H,J] w fun o w=>X4 .neq T.u 14 o 0 w fun L w=>X1 L (K o w) (dr w fun b a=>Y5 b a (nilCheck P n) fun t=>X3 b a t (fun d=>fieldAddr P T.s d 3) fun u=>Y5 b a (Q6 P T.e c) fun Q=>X3 b a u (fun e=>Q6 P T.g e) fun v=>X3 b a v (fun f=>indexAddr P T.g f H) fun y=>X3 b a y (fun g=>Q6 P T.p g) fun z=>X3 b a z (fun h=>Q0 P F.bN [n,h,J]) fun R=> ∀d e p f g h q w,a w->t d w->u e w->Q p w->v f w->y g w->z h w->R q w->Q0 P F.bL [n,p,q] w fun M w=>V4 P .not M w fun N w=>X1 N (K (.int .i64 91) w) (dr w fun b a=>Y5 b a (nilCheck P n) fun A=>X3 b a A (fun i=>fieldAddr P T.s i 3) fun B=>X3 b a B (fun j=>Q6 P T.g j) fun C=>X3 b a C (fun k=>indexAddr P T.g k H) fun D=>X3 b a D (fun l=>fieldAddr P T.p l 1) fun E=>X3 b a E (fun m=>Q6 P T.l m) fun U=>Y5 b a (Q6 P T.e c) fun V=> ∀i j k l m r s w,a w->A i w->B j w->C k w->D l w->E m w->U r w->V s w->indexAddr P T.l r J w fun O w=>J9 P T.e O s w fun _u w=>K (.int .i64 0) w))
theorem Q3K (h:Cx a0 a1 a2 a3 w K):Q0 P F.u [a0,a1,a2,a3] w K:=zr (Y3 10) Tryz.func22 h
def My:L4:=fun h j w K=>Q0 P F.b [h,j] w fun i w=>X4 .geq T.f 9 i 0 w fun a w=>X6 a true h w fun b w=>X6 a true i w fun c w=>Q1 a true w (indexAddr P T.i b c) fun d w=>Z3 a true w T.b T.q d 4 fun e w=>Q1 a true w (V4 P .not e) fun f w=>pick P a f (.bool false) w fun g w=>K g w
theorem Pi (h:My a0 a1 w K):Q0 P F.ba [a0,a1] w K:=zr (Y3 3) Tryz.func83 h
def Q1s:M0:=[none,none,none,none,some ([3,4],[3,4,7,8,9,10,11,12,13,14,15,16,17,18,19,20,21,22,23]),none,none,none,none]
def Re:D3:=fun m w K=>box P T.a m w fun a w=>Y1 T.a T.f a 1 w fun n w=>lp (α:=Value×Value) (n,(.int .i64 0)) w fun b c p w=>Y1 T.a T.g a 2 w fun o w=>Y2 T.g o w fun d w=>X5 .lss T.f 7 10 c.2 d w fun e w=>X1 e (Y1 T.a T.g a 2 w fun g w=>indexAddr P T.g g c.2 w fun h w=>Y1 T.p T.l h 1 w fun i w=>Y2 T.l i w fun j w=>Z2 P .add T.f (.const (.int .i64 1)) (.tmp 21) (.int .i64 1) j w fun k w=>X5 .sub T.f 14 22 c.1 k w fun l w=>X4 .add T.f 12 c.2 1 w fun f w=>b (l,f) w) (K c.1 w)
theorem Q1N (h:Re a0 w K):Q0 P F.aT [a0] w K:=zr Q1s Tryz.func84 h
def Q1t:M0:=[none,none,some ([],[5,6,7]),none,some ([],[8,9,10]),none,some ([],[11,12,13]),none,none]
def Rf:D3:=fun b w K=>T1 P T.e w fun k w=>B2 P T.e [] w fun m w=>M9 T.e m w fun a w=>jn (α:=Unit) w (fun g w=>V2 .eql T.c 5 b #[105,110,116] w fun n w=>X1 n (fieldAddr P T.e a 0 w fun o w=>J9 P T.f o (.int .i64 1) w fun _u w=>g () w) (g () w)) fun q j w=>jn (α:=Unit) w (fun h w=>V2 .eql T.c 8 b #[98,111,111,108] w fun p w=>X1 p (fieldAddr P T.e a 0 w fun c w=>J9 P T.f c (.int .i64 2) w fun _u w=>h () w) (h () w)) fun r j w=>jn (α:=Unit) w (fun i w=>V2 .eql T.c 11 b #[116,101,120,116] w fun d w=>X1 d (fieldAddr P T.e a 0 w fun e w=>J9 P T.f e (.int .i64 3) w fun _u w=>i () w) (i () w)) fun s j w=>Q6 P T.e a w fun f w=>J9 P T.e k f w fun _u w=>Z8 P T.e k w fun l=>K l w
theorem Q1O (h:Rf a0 w K):Q0 P F.aU [a0] w K:=zr Q1t Tryz.func85 h
variable {a4 : Value}
def Tg:M0:=Y3 11++[some ([8],[8,28,29,30,31,32,33,34,35,36,37,38,39,40,41,42,43,44])]++Y3 5
def Oq:L4:=fun a0 L w K=>box P T.a a0 w fun a w=>T1 P T.a w fun q w=>Y1 T.a T.i a 0 w fun M w=>Q0 P F.ba [M,L] w fun N w=>V4 P .not N w fun O w=>X1 O (Q6 P T.a a w fun Q w=>J9 P T.a q Q w fun _u w=>Z8 P T.a q w fun r=>K (.tuple #[r,(.int .i64 91)]) w) (Y1 T.a T.i a 0 w fun R w=>Q0 P F.p [R,L] w fun f w=>Y2 T.k f w fun U w=>Z2 P .add T.f (.const (.int .i64 1)) (.tmp 20) (.int .i64 1) U w fun V w=>Q6 P T.a a w fun W w=>Q0 P F.aT [W] w fun X w=>X5 .gtr T.f 21 23 V X w fun Y w=>X1 Y (Q6 P T.a a w fun Z w=>J9 P T.a q Z w fun _u w=>Z8 P T.a q w fun r=>K (.tuple #[r,(.int .i64 90)]) w) (B2 P T.p [(0,L)] w fun aa w=>M9 T.p aa w fun c w=>lp (α:=Value) (.int .i64 0) w fun e p d_ w=>Y2 T.k f w fun ab w=>X5 .lss T.f 28 30 p ab w fun ac w=>X1 ac (dr w fun d b=>Y5 d b (fieldAddr P T.p c 1) fun y=>Y5 d b (indexAddr P T.k f p) fun z=>X3 d b z (fun h=>fieldAddr P T.n h 1) fun A=>X3 d b y (fun g=>Q6 P T.l g) fun ai=>X3 d b A (fun i=>Q6 P T.c i) fun B=>X3 d b B (fun j=>Q0 P F.aU [j]) fun C=>X3 d b C (fun k=>buildSlice P T.l 1 [(0,k)]) fun aj=> ∀g h i s j k t w,b w->y g w->z h w->A i w->ai s w->B j w->C k w->aj t w->U7 P .append [T.l,T.l] T.l [false,false] [s,t] w fun ad w=>fieldAddr P T.p c 1 w fun ae w=>J9 P T.l ae ad w fun _u w=>V6 32 p w e) (dr w fun d b=>Y5 d b (fieldAddr P T.a a 2) fun E=>Y5 d b (buildSlice P T.g 0 []) fun D=>X3 d b E (fun m=>Q6 P T.g m) fun H=>L1 d b D H (fun l n=>U7 P .append [T.g,T.g] T.g [false,false] [l,n]) fun ak=>Y5 d b (Q6 P T.p c) fun J=>X3 d b J (fun o=>buildSlice P T.g 1 [(0,o)]) fun al=> ∀m l n u o v w,b w->E m w->D l w->H n w->ak u w->J o w->al v w->U7 P .append [T.g,T.g] T.g [false,false] [u,v] w fun af w=>fieldAddr P T.a a 2 w fun ag w=>J9 P T.g ag af w fun _u w=>Q6 P T.a a w fun ah w=>J9 P T.a q ah w fun _u w=>Z8 P T.a q w fun r=>K (.tuple #[r,(.int .i64 0)]) w)))
theorem Ts (h:Oq a0 a1 w K):Q0 P F.bg [a0,a1] w K:=zr Tg Tryz.func40 h
def Q0g:M0:=Y3 13++[some ([9],[9,41,42,43,44,45,46,47,48,49,50,51,52])]++Y3 5
def Em:Yg:=fun a0 q E w K=>box P T.a a0 w fun a w=>T1 P T.a w fun i w=>V2 .eql T.c 10 q #[110,117,108,108] w fun g w=>Z3 g false w T.a T.i a 0 fun H w=>X6 g false q w fun J w=>Q1 g false w (Q0 P F.a4 [H,J]) fun L w=>Q1 g false w (V4 P .not L) fun M w=>pick P g (.bool true) M w fun h w=>X6 h false q w fun N w=>Q1 h false w (Q0 P F.a3 [N]) fun O w=>Q1 h false w (X4 .gtr T.f 21 O 2) fun Q w=>pick P h (.bool true) Q w fun R w=>X1 R (Q6 P T.a a w fun U w=>J9 P T.a i U w fun _u w=>Z8 P T.a i w fun j=>K (.tuple #[j,(.int .i64 91)]) w) (X4 .lss T.a5 25 E 0 w fun V w=>X1 V (Q6 P T.a a w fun W w=>J9 P T.a i W w fun _u w=>Z8 P T.a i w fun j=>K (.tuple #[j,(.int .i64 93)]) w) (X4 .gtr T.a5 28 E 1048576 w fun d w=>X6 d false E w fun X w=>Q1 d false w (Z2 P .add T.f (.const (.int .i64 1)) (.tmp 31) (.int .i64 1) X) fun Y w=>Q1 d false w (Q6 P T.a a) fun Z w=>Q1 d false w (Q0 P F.aT [Z]) fun aa w=>Q1 d false w (X5 .gtr T.f 32 34 Y aa) fun ab w=>pick P d (.bool true) ab w fun ac w=>X1 ac (Q6 P T.a a w fun ad w=>J9 P T.a i ad w fun _u w=>Z8 P T.a i w fun j=>K (.tuple #[j,(.int .i64 90)]) w) (V2 .add T.c 38 q #[91,93] w fun ae w=>B2 P T.p [(0,ae)] w fun af w=>M9 T.p af w fun b w=>lp (α:=Value) (.int .i64 0) w fun f v d_ w=>X5 .lss T.a5 41 42 v E w fun ag w=>X1 ag (dr w fun e c=>Y5 e c (fieldAddr P T.p b 1) fun y=>X3 e c y (fun k=>Q6 P T.l k) fun an=>Y5 e c (Q0 P F.aU [q]) fun z=>X3 e c z (fun l=>buildSlice P T.l 1 [(0,l)]) fun ao=> ∀k r l s w,c w->y k w->an r w->z l w->ao s w->U7 P .append [T.l,T.l] T.l [false,false] [r,s] w fun ai w=>fieldAddr P T.p b 1 w fun aj w=>J9 P T.l aj ai w fun _u w=>X4 .add T.a5 44 v 1 w fun ah w=>f ah w) (dr w fun e c=>Y5 e c (fieldAddr P T.a a 2) fun B=>Y5 e c (buildSlice P T.g 0 []) fun A=>X3 e c B (fun n=>Q6 P T.g n) fun C=>L1 e c A C (fun m o=>U7 P .append [T.g,T.g] T.g [false,false] [m,o]) fun ap=>Y5 e c (Q6 P T.p b) fun D=>X3 e c D (fun p=>buildSlice P T.g 1 [(0,p)]) fun aq=> ∀n m o t p u w,c w->B n w->A m w->C o w->ap t w->D p w->aq u w->U7 P .append [T.g,T.g] T.g [false,false] [t,u] w fun ak w=>fieldAddr P T.a a 2 w fun al w=>J9 P T.g al ak w fun _u w=>Q6 P T.a a w fun am w=>J9 P T.a i am w fun _u w=>Z8 P T.a i w fun j=>K (.tuple #[j,(.int .i64 0)]) w))))
theorem Q0P (h:Em a0 a1 a2 w K):Q0 P F.bv [a0,a1,a2] w K:=zr Q0g Tryz.func41 h
def Q6z:D3:=fun b w K=>Q0 P F.a2 [b] w fun f w=>V4 P .not f w fun a w=>X6 a false b w fun g w=>Q1 a false w (Q0 P F.cC [g]) fun h w=>Q1 a false w (X4 .eql T.f 9 h 3) fun c w=>pick P a (.bool true) c w fun d w=>X1 d (K (.tuple #[(.string ⟨#[]⟩),(.int .i64 30)]) w) (V2 .add T.c 12 b #[91,93] w fun e w=>K (.tuple #[e,(.int .i64 0)]) w)
theorem X30 (h:Q6z a0 w K):Q0 P F.d0 [a0] w K:=zr (Y3 5) Tryz.func88 h
def Q1i:M0:=Y3 12++[some ([45],[11,45,46,47,48,49,50,51,52,53])]++Y3 5
def Hl:Yg:=fun h f g w K=>Q0 P F.d0 [f] w fun i w=>D2 i w fun j k w=>X4 .neq T.u 18 k 0 w fun a w=>X6 a false h w fun l w=>Q1 a false w (nilCheck P l) fun m w=>Z3 a false w T.s T.y m 0 fun n w=>X6 a false f w fun o w=>Q1 a false w (Q0 P F.ae [n,o]) fun p w=>Q1 a false w (V4 P .not p) fun q w=>pick P a (.bool true) q w fun c w=>X6 c false f w fun r w=>Q1 c false w (V2 .eql T.c 30 r #[110,117,108,108]) fun s w=>pick P c (.bool true) s w fun t w=>X1 t (K (.tuple #[(.int .i64 0),(.int .i64 91)]) w) (X4 .lss T.a5 34 g 0 w fun u w=>X1 u (K (.tuple #[(.int .i64 0),(.int .i64 93)]) w) (Q0 P F.aB [h] w fun v w=>X5 .geq T.a5 37 39 g v w fun y w=>X1 y (K (.tuple #[(.int .i64 0),(.int .i64 90)]) w) (Rv P T.l g g w fun d w=>Y2 T.l d w fun z w=>lp (α:=Value) (.int .i64 0) w fun b e J w=>X5 .lss T.f 45 44 e z w fun A w=>X1 A (Q0 P F.cB [f] w fun B w=>indexAddr P T.l d e w fun C w=>J9 P T.e C B w fun _u w=>V6 45 e w b) (Q0 P F.b3 [h,j,d] w fun D w=>D2 D w fun E H w=>K (.tuple #[E,H]) w))))
theorem Q1v (h:Hl a0 a1 a2 w K):Q0 P F.bz [a0,a1,a2] w K:=zr Q1i Tryz.func42 h
def En:Yg:=fun s d r w K=>box P T.a s w fun b w=>X4 .lss T.f 7 d 0 w fun c w=>X6 c false d w fun e w=>Z3 c false w T.a T.g b 2 fun f w=>Q1 c false w (Y2 T.g f) fun g w=>Q1 c false w (X5 .geq T.f 10 13 e g) fun h w=>pick P c (.bool true) h w fun i w=>X1 i (K (.int .i64 92) w) (X4 .lss T.a5 16 r 0 w fun a w=>X6 a false r w fun j w=>Z3 a false w T.a T.g b 2 fun k w=>X6 a false d w fun l w=>Q1 a false w (indexAddr P T.g k l) fun m w=>Z3 a false w T.p T.l m 1 fun n w=>Q1 a false w (Y2 T.l n) fun o w=>Q1 a false w (X5 .geq T.a5 19 26 j o) fun p w=>pick P a (.bool true) p w fun q w=>X1 q (K (.int .i64 93) w) (K (.int .i64 0) w))
theorem Q0Q (h:En a0 a1 a2 w K):Q0 P F.aK [a0,a1,a2] w K:=zr (Y3 8) Tryz.func90 h
def Q3H:M0:=[none,none,some ([],[4,14,15,16,17,18,19,20,21,22,23,24,25,26,27,28,29,30,31,32,33,34,35,36,37,38,39,40,41,42,43,44,45,46,47,48,49,50,51,52,53,54,55,56,57,58,59,60,61,62,63,64,65,66,67,68,69,70,71,72,73,74,75,76,77,78,79,80,81,82,83,84,85,86,87,88,89,90])]++Y3 17
def Bb:L4:=fun a0 a1 w K=>box P T.a a0 w fun t2 w=>box P T.e a1 w fun b w=>Y1 T.e T.f b 3 w fun t7 w=>X4 .eql T.f 7 t7 0 w fun Z w=>Z3 Z true w T.e T.c b 2 fun l w=>Q1 Z true w (V2 .eql T.c 11 l #[]) fun m w=>pick P Z m (.bool false) w fun a w=>jn (α:=Unit) w (fun k w=>Y1 T.e T.f b 0 w fun c w=>X4 .eql T.f 15 c 0 w fun n w=>X1 n (Z3 a true w T.e T.a5 b 1 fun o w=>Q1 a true w (X4 .eql T.a5 21 o 0) fun p w=>pick P a p (.bool false) w fun q w=>X1 q (K (.string ⟨#[110,117,108,108]⟩) w) (k () w)) (X4 .eql T.f 15 c 1 w fun r w=>X1 r (X1 a (K (.string ⟨#[105,110,116]⟩) w) (k () w)) (X4 .eql T.f 15 c 2 w fun s w=>X1 s (Z3 a true w T.e T.a5 b 1 fun t w=>Q1 a true w (X4 .eql T.a5 32 t 0) fun u w=>X6 a true u w fun f w=>Z3 f false w T.e T.a5 b 1 fun v w=>Q1 f false w (X4 .eql T.a5 36 v 1) fun y w=>Q1 a true w (pick P f (.bool true) y) fun z w=>pick P a z (.bool false) w fun A w=>X1 A (K (.string ⟨#[98,111,111,108]⟩) w) (k () w)) (X4 .eql T.f 15 c 3 w fun B w=>X1 B (Y1 T.e T.a5 b 1 w fun C w=>X4 .eql T.a5 43 C 0 w fun g w=>Z3 g true w T.e T.f b 3 fun D w=>Q1 g true w (X4 .eql T.f 47 D 0) fun E w=>pick P g E (.bool false) w fun e w=>Z3 e true w T.e T.c b 2 fun H w=>Q1 e true w (Y2 T.c H) fun J w=>Q1 e true w (X4 .leq T.f 53 J 4096) fun L w=>pick P e L (.bool false) w fun h w=>Z3 h true w T.e T.c b 2 fun M w=>Q1 h true w (Q0 P F.aI [M]) fun N w=>pick P h N (.bool false) w fun O w=>X1 O (K (.string ⟨#[116,101,120,116]⟩) w) (k () w)) (X4 .eql T.f 15 c 4 w fun Q w=>X1 Q (Y1 T.e T.a5 b 1 w fun R w=>X4 .eql T.a5 64 R 0 w fun i w=>Z3 i true w T.e T.c b 2 fun U w=>Q1 i true w (V2 .eql T.c 68 U #[]) fun V w=>pick P i V (.bool false) w fun j w=>Z3 j true w T.e T.f b 3 fun W w=>Q1 j true w (X4 .geq T.f 73 W 0) fun X w=>pick P j X (.bool false) w fun d w=>Z3 d true w T.e T.f b 3 fun Y w=>Z3 d true w T.a T.g t2 2 fun aa w=>Q1 d true w (Y2 T.g aa) fun ab w=>Q1 d true w (X5 .lss T.f 78 81 Y ab) fun ac w=>pick P d ac (.bool false) w fun ad w=>X1 ad (Y1 T.a T.g t2 2 w fun ae w=>Y1 T.e T.f b 3 w fun af w=>indexAddr P T.g ae af w fun ag w=>Y1 T.p T.c ag 0 w fun ah w=>K ah w) (k () w)) (k () w)))))) fun z2 d_ w=>K (.string ⟨#[]⟩) w
theorem Q3O (h:Bb a0 a1 w K):Q0 P F.c7 [a0,a1] w K:=zr Q3H Tryz.func10 h
def Sz:Yg:=fun k e f w K=>Q0 P F.a4 [k,e] w fun n w=>V4 P .not n w fun b w=>X6 b false k w fun o w=>X6 b false f w fun p w=>Q1 b false w (Q0 P F.a4 [o,p]) fun q w=>Q1 b false w (V4 P .not q) fun r w=>pick P b (.bool true) r w fun c w=>X6 c false e w fun s w=>X6 c false f w fun t w=>Q1 c false w (X5 .eql T.c 20 21 s t) fun u w=>pick P c (.bool true) u w fun v w=>X1 v (X5 .eql T.c 24 25 e f w fun d w=>X6 d true k w fun y w=>X6 d true e w fun z w=>Q1 d true w (Q0 P F.a4 [y,z]) fun A w=>pick P d A (.bool false) w fun B w=>K B w) (Q0 P F.z [e] w fun g w=>X6 g false f w fun C w=>Q1 g false w (Q0 P F.z [C]) fun D w=>pick P g (.bool true) D w fun h w=>X6 h false f w fun E w=>Q1 h false w (V2 .eql T.c 39 E #[110,117,108,108]) fun H w=>pick P h (.bool true) H w fun J w=>X1 J (K (.bool false) w) (V2 .eql T.c 42 e #[110,117,108,108] w fun i w=>X6 i false f w fun L w=>Q1 i false w (V2 .eql T.c 45 L #[79,98,106,101,99,116]) fun M w=>pick P i (.bool true) M w fun N w=>X1 N (K (.bool true) w) (Q0 P F.b [k,e] w fun l w=>Q0 P F.b [k,f] w fun m w=>X4 .geq T.f 54 l 0 w fun j w=>X6 j true m w fun O w=>Q1 j true w (X4 .geq T.f 57 O 0) fun Q w=>pick P j Q (.bool false) w fun a w=>X6 a true k w fun R w=>Q1 a true w (Q0 P F.al [R]) fun U w=>X6 a true l w fun V w=>zhi a true w T.ac T.aa U V fun W w=>X6 a true m w fun X w=>zhi a true w T.aa T.q W X fun Y w=>pick P a Y (.bool false) w fun Z w=>K Z w)))
theorem Q2Q (h:Sz a0 a1 a2 w K):Q0 P F.bT [a0,a1,a2] w K:=zr (Y3 12) Tryz.func133 h
def Rd:Yg:=fun j k l w K=>box P T.a j w fun b w=>box P T.e k w fun c w=>Q6 P T.a b w fun m w=>Q6 P T.e c w fun n w=>Q0 P F.c7 [m,n] w fun d w=>V2 .neq T.c 11 d #[] w fun a w=>Z3 a true w T.a T.i b 0 fun e w=>X6 a true d w fun f w=>X6 a true l w fun g w=>Q1 a true w (Q0 P F.bT [e,f,g]) fun h w=>pick P a h (.bool false) w fun i w=>K i w
theorem Q1M (h:Rd a0 a1 a2 w K):Q0 P F.bF [a0,a1,a2] w K:=zr (Y3 3) Tryz.func91 h
def Hw:D3:=fun d w K=>Y2 T.c d w fun r w=>X4 .lss T.f 6 r 3 w fun c w=>X6 c false d w fun s w=>X6 c false r w fun e w=>Q1 c false w (X4 .sub T.f 10 e 2) fun f w=>Q1 c false w (G5 P T.c s (some f) none none) fun g w=>Q1 c false w (V2 .neq T.c 12 g #[91,93]) fun h w=>pick P c (.bool true) h w fun a w=>X6 a false d w fun i w=>Q1 a false w (Q0 P F.a3 [i]) fun j w=>Q1 a false w (X4 .gtr T.f 17 j 3) fun k w=>pick P a (.bool true) k w fun b w=>X6 b false d w fun l w=>Q1 b false w (Q0 P F.e [l]) fun m w=>Q1 b false w (V4 P .not m) fun n w=>pick P b (.bool true) n w fun o w=>X1 o (K (.string ⟨#[]⟩) w) (X4 .sub T.f 26 r 2 w fun p w=>G5 P T.c d none (some p) none w fun q w=>K q w)
theorem Q1F (h:Hw a0 w K):Q0 P F.bD [a0] w K:=zr (Y3 6) Tryz.func65 h
def Rh:Yg:=fun j k l w K=>box P T.a j w fun b w=>box P T.p k w fun a w=>Y1 T.p T.c a 0 w fun m w=>Q0 P F.bD [m] w fun c w=>V2 .neq T.c 11 c #[] w fun d w=>X1 d (K c w) (Y1 T.a T.i b 0 w fun e w=>Y1 T.p T.c a 0 w fun f w=>Q0 P F.p [e,f] w fun g w=>indexAddr P T.k g l w fun h w=>Y1 T.n T.c h 1 w fun i w=>K i w)
theorem Q1P (h:Rh a0 a1 a2 w K):Q0 P F.bG [a0,a1,a2] w K:=zr (Y3 6) Tryz.func92 h
def Cf:zV4:=fun a0 y z a3 w K=>box P T.a a0 w fun a w=>box P T.e a3 w fun b w=>T1 P T.a w fun k w=>Q6 P T.a a w fun A w=>Q0 P F.aK [A,y,z] w fun m w=>X4 .neq T.u 17 m 0 w fun B w=>X1 B (Q6 P T.a a w fun C w=>J9 P T.a k C w fun _u w=>Z8 P T.a k w fun l=>K (.tuple #[l,m]) w) (dr w fun d c=>Y5 d c (fieldAddr P T.a a 2) fun s=>Y5 d c (Q6 P T.a a) fun Y=>Y5 d c (Q6 P T.e b) fun Z=>Y5 d c (Q6 P T.a a) fun r=>X3 d c s (fun f=>Q6 P T.g f) fun t=>X3 d c t (fun g=>indexAddr P T.g g y) fun u=>X3 d c u (fun h=>Q6 P T.p h) fun v=>L1 d c r v (fun e i=>Q0 P F.bG [e,i,z]) fun aa=> ∀f n o e g h i p w,c w->s f w->Y n w->Z o w->r e w->t g w->u h w->v i w->aa p w->Q0 P F.bF [n,o,p] w fun D w=>V4 P .not D w fun E w=>X1 E (Q6 P T.a a w fun H w=>J9 P T.a k H w fun _u w=>Z8 P T.a k w fun l=>K (.tuple #[l,(.int .i64 91)]) w) (buildSlice P T.g 0 [] w fun J w=>Y1 T.a T.g a 2 w fun L w=>U7 P .append [T.g,T.g] T.g [false,false] [J,L] w fun j w=>buildSlice P T.l 0 [] w fun M w=>indexAddr P T.g j y w fun N w=>Y1 T.p T.l N 1 w fun O w=>U7 P .append [T.l,T.l] T.l [false,false] [M,O] w fun q w=>Q6 P T.e b w fun Q w=>indexAddr P T.l q z w fun R w=>J9 P T.e R Q w fun _u w=>indexAddr P T.g j y w fun U w=>fieldAddr P T.p U 1 w fun V w=>J9 P T.l V q w fun _u w=>fieldAddr P T.a a 2 w fun W w=>J9 P T.g W j w fun _u w=>Q6 P T.a a w fun X w=>J9 P T.a k X w fun _u w=>Z8 P T.a k w fun l=>K (.tuple #[l,(.int .i64 0)]) w))
theorem Q2W (h:Cf a0 a1 a2 a3 w K):Q0 P F.bX [a0,a1,a2,a3] w K:=zr (Y3 14) Tryz.func43 h
def Ce:Yg:=fun m k l w K=>box P T.a m w fun a w=>T1 P T.e w fun c w=>Q6 P T.a a w fun n w=>Q0 P F.aK [n,k,l] w fun b w=>X4 .neq T.u 13 b 0 w fun e w=>X1 e (B2 P T.e [] w fun f w=>J9 P T.e c f w fun _u w=>Z8 P T.e c w fun d=>K (.tuple #[d,b]) w) (Y1 T.a T.g a 2 w fun g w=>indexAddr P T.g g k w fun h w=>Y1 T.p T.l h 1 w fun i w=>V0 T.l T.e i l w fun j w=>J9 P T.e c j w fun _u w=>Z8 P T.e c w fun d=>K (.tuple #[d,(.int .i64 0)]) w)
theorem Q2V (h:Ce a0 a1 a2 w K):Q0 P F.bW [a0,a1,a2] w K:=zr (Y3 6) Tryz.func44 h
def Cw:Yg:=fun k l m w K=>T1 P T.e w fun b w=>Q0 P F.aM [k,l,m] w fun a w=>X4 .neq T.u 13 a 0 w fun d w=>X1 d (B2 P T.e [] w fun e w=>J9 P T.e b e w fun _u w=>Z8 P T.e b w fun c=>K (.tuple #[c,a]) w) (nilCheck P k w fun f w=>Y1 T.s T.g f 3 w fun g w=>indexAddr P T.g g l w fun h w=>Y1 T.p T.l h 1 w fun i w=>V0 T.l T.e i m w fun j w=>J9 P T.e b j w fun _u w=>Z8 P T.e b w fun c=>K (.tuple #[c,(.int .i64 0)]) w)
theorem Q3J (h:Cw a0 a1 a2 w K):Q0 P F.b2 [a0,a1,a2] w K:=zr (Y3 6) Tryz.func45 h
def Jz:M0:=[none,none,none,some ([8],[4,5,8,9,10,11,12,13,14,15,16,17,18])]++Y3 7
def A4:L4:=fun e f w K=>Y2 T.l e w fun g w=>lp (α:=Value) (.int .i64 0) w fun a b i w=>X5 .lss T.f 8 7 b g w fun h w=>X1 h (V0 T.l T.e e b w fun c w=>U2 P f [c] w fun d w=>X1 d (K b w) (V6 8 b w a)) (K (.int .i64 (-1)) w)
theorem Uh (h:A4 a0 a1 w K):Q0 P F.a8 [a0,a1] w K:=zr Jz Tryz.func134 h
def P0:L4:=fun a b w K=>Q0 P F.a8 [a,b] w fun c w=>X4 .geq T.f 7 c 0 w fun d w=>K d w
theorem Zn (h:P0 a0 a1 w K):Q0 P F.n [a0,a1] w K:=zr (Y3 2) Tryz.func93 h
def Hn:L4:=fun f g w K=>box P T.e f w fun a w=>Y1 T.e T.f a 0 w fun h w=>X4 .eql T.f 5 h 4 w fun b w=>Z3 b true w T.e T.f a 3 fun i w=>Q1 b true w (Q6 P T.f g) fun c w=>Q1 b true w (X5 .geq T.f 9 10 i c) fun d w=>pick P b d (.bool false) w fun e w=>K e w
theorem Q1w (h:Hn a0 a1 w K):Q0 P F.bA [a0,a1] w K:=zr (Y3 2) Tryz.func94 h
def Q3G:M0:=[none,none,none,none,some ([22],[5,22,23,24,25,26,27,28,29,30])]++Y3 5++[some ([],[6,31,32,33,34,35,36,37,38,39,40,41,42,43,44,45,46,47,48,49,50,51,52,53,54,55,56,57,58,59,60,61,62,63,64,65,66,67,68,69]),none,none,none,none]
def Cv:L4:=fun d a1 w K=>box P T.f a1 w fun D w=>Q6 P T.f D w fun t7 w=>U7 P .max [T.f,T.f] T.f [false,true] [t7,(.int .i64 0)] w fun t8 w=>J9 P T.f D t8 w fun _u w=>dr w fun b a=>Y5 b a (nilCheck P d) fun N=>X3 b a N (fun f=>fieldAddr P T.s f 3) fun O=>Y5 b a (nilCheck P d) fun R=>X3 b a R (fun i=>fieldAddr P T.s i 3) fun U=>X3 b a O (fun g=>Q6 P T.g g) fun a7=>Y5 b a (Q6 P T.f D) fun Q=>X3 b a U (fun j=>Q6 P T.g j) fun V=>X3 b a V (fun k=>Y2 T.g k) fun W=>L1 b a Q W (fun h l=>U7 P .min [T.f,T.f] T.f [false,false] [h,l]) fun a8=> ∀f g i j A h k l B w,a w->N f w->O g w->R i w->U j w->a7 A w->Q h w->V k w->W l w->a8 B w->G5 P T.g A none (some B) none w fun C w=>Y2 T.g C w fun aj w=>lp (α:=Value) (.int .i64 0) w fun e x4 d_ w=>X5 .lss T.f 22 21 x4 aj w fun ak w=>X1 ak (V0 T.g T.p C x4 w fun al w=>M9 T.p al w fun t5 w=>Y1 T.p T.l t5 1 w fun am w=>C1 P (.func F.bA) [] [D] w fun an w=>Q0 P F.n [am,an] w fun ao w=>X1 ao (K (.tuple #[]) w) (V6 22 x4 w e)) (lp (α:=Unit) () w fun c bi d_ w=>dr w fun b a=>Y5 b a (nilCheck P d) fun X=>X3 b a X (fun m=>fieldAddr P T.s m 3) fun Y=>X3 b a Y (fun n=>Q6 P T.g n) fun Z=>X3 b a Z (fun o=>Y2 T.g o) fun a9=>Y5 b a (Q6 P T.f D) fun ba=> ∀m n o E H w,a w->X m w->Y n w->Z o w->a9 E w->ba H w->X5 .gtr T.f 35 36 E H w fun ap w=>X1 ap (nilCheck P d w fun aq w=>Y1 T.s T.g aq 3 w fun ar w=>Y2 T.g ar w fun av w=>X4 .sub T.f 42 av 1 w fun J w=>dr w fun b a=>Y5 b a (nilCheck P d) fun aa=>X3 b a aa (fun p=>fieldAddr P T.s p 2) fun ab=>Y5 b a (nilCheck P d) fun ac=>X3 b a ac (fun r=>fieldAddr P T.s r 3) fun ad=>X3 b a ab (fun q=>Q6 P T.f q) fun bb=>X3 b a ad (fun s=>Q6 P T.g s) fun ae=>X3 b a ae (fun t=>indexAddr P T.g t J) fun af=>X3 b a af (fun u=>fieldAddr P T.p u 1) fun ag=>X3 b a ag (fun v=>Q6 P T.l v) fun ah=>X3 b a ah (fun y=>Y2 T.l y) fun ai=>X3 b a ai (fun z=>Z2 P .add T.f (.const (.int .i64 1)) (.tmp 56) (.int .i64 1) z) fun bc=> ∀p q r s L t u v y z M w,a w->aa p w->ab q w->ac r w->ad s w->bb L w->ae t w->af u w->ag v w->ah y w->ai z w->bc M w->X5 .sub T.f 47 57 L M w fun aw w=>nilCheck P d w fun ax w=>fieldAddr P T.s ax 2 w fun ay w=>J9 P T.f ay aw w fun _u w=>nilCheck P d w fun az w=>Y1 T.s T.g az 3 w fun a2 w=>G5 P T.g a2 none (some J) none w fun a3 w=>nilCheck P d w fun a4 w=>fieldAddr P T.s a4 3 w fun a5 w=>J9 P T.g a5 a3 w fun _u w=>c () w) (K (.tuple #[]) w))
theorem Q3I (h:Cv a0 a1 w K):Q0 P F.c4 [a0,a1] w K:=zr Q3G Tryz.func46 h
def Q2C:M0:=[none,some ([1],[1,8,9]),none,none,none,some ([5],[5,6,7,10,11,12,13,14,15,16,17,18,19,20,21,22,23,24,25,26,27,28,29,30,31,32,33,34,35,36,37,38,39,40,41,42,43,44,45,46,47,48,49,50,51]),none,none,none,none,some ([6],[6,7,22,23,24,25,26,27,28,29,30,31,32,33,34,35,36,37,38,39,40,41,42,43,44,45,46,47,48,49,50,51])]++Y3 6++[some ([],[52,53,54,55,56,57,58,59,60,61,62,63]),none,none]
def Cc:L4:=fun a0 Z w K=>box P T.a a0 w fun e w=>T1 P T.a w fun i w=>jn (α:=Value) w (fun Y w=>X4 .lss T.f 8 Z 0 w fun t9 w=>X1 t9 (Y (.int .i64 0) w) (Y Z w)) fun j k w=>lp (α:=Value) (.int .i64 0) w fun c h k w=>X5 .lss T.f 10 11 h j w fun b w=>X6 b true h w fun m w=>Z3 b true w T.a T.g e 2 fun n w=>Q1 b true w (Y2 T.g n) fun o w=>Q1 b true w (X5 .lss T.f 14 17 m o) fun p w=>pick P b p (.bool false) w fun q w=>X1 q (lp (α:=Value) (.int .i64 0) w fun a f k w=>Y1 T.a T.g e 2 w fun r w=>indexAddr P T.g r h w fun s w=>Y1 T.p T.l s 1 w fun t w=>Y2 T.l t w fun u w=>X5 .lss T.f 22 29 f u w fun v w=>X1 v (Y1 T.a T.g e 2 w fun y w=>indexAddr P T.g y h w fun z w=>Y1 T.p T.l z 1 w fun A w=>V0 T.l T.e A f w fun B w=>M9 T.e B w fun t7 w=>Y1 T.e T.f t7 0 w fun C w=>X4 .eql T.f 43 C 4 w fun d w=>Z3 d true w T.e T.f t7 3 fun D w=>X6 d true j w fun E w=>Q1 d true w (X5 .geq T.f 47 48 D E) fun H w=>pick P d H (.bool false) w fun J w=>X1 J (Q6 P T.a e w fun L w=>J9 P T.a i L w fun _u w=>Z8 P T.a i w fun l=>K l w) (V6 31 f w a)) (V6 20 h w c)) (jn (α:=Unit) w (fun g w=>Y1 T.a T.g e 2 w fun M w=>Y2 T.g M w fun N w=>X5 .lss T.f 52 55 j N w fun O w=>X1 O (buildSlice P T.g 0 [] w fun Q w=>Y1 T.a T.g e 2 w fun R w=>G5 P T.g R none (some j) none w fun U w=>U7 P .append [T.g,T.g] T.g [false,false] [Q,U] w fun V w=>fieldAddr P T.a e 2 w fun W w=>J9 P T.g W V w fun _u w=>g () w) (g () w)) fun ad k w=>Q6 P T.a e w fun X w=>J9 P T.a i X w fun _u w=>Z8 P T.a i w fun l=>K l w)
theorem Q2T (h:Cc a0 a1 w K):Q0 P F.bU [a0,a1] w K:=zr Q2C Tryz.func47 h
def Ba:Yg:=fun a0 a1 a2 w K=>box P T.a a1 w fun t4 w=>box P T.m a2 w fun m w=>T1 P T.a w fun A w=>Y1 T.m T.f m 0 w fun ab w=>X4 .eql T.f 23 ab 0 w fun du w=>X1 du (Q6 P T.a t4 w fun dv w=>Y1 T.m T.c m 1 w fun dw w=>Q0 P F.bg [dv,dw] w fun dx w=>D2 dx w fun dy a8 w=>M9 T.a dy w fun t8 w=>Y1 T.m T.c m 1 w fun dz w=>Q0 P F.q [a0,dz] w fun d0 w=>D2 d0 w fun cs d1 w=>dr w fun b a=>Y5 b a (X5 .eql T.u 41 42 a8 d1) fun o=>X3 b a o (fun c=>U6 c (fun w J=>J a8 w)) fun cz=>L1 b a o cz (fun c a9=>U6 c (X4 .neq T.u 45 a9 0)) fun c0=>L1 b a o c0 (fun c ba=>U6 c (fun w J=>J ba w)) fun ae=>X3 b a ae (fun q=>U6 q (fun w J=>J cs w)) fun c1=>L1 b a ae c1 (fun q bb=>U6 q (X4 .eql T.f 48 bb 0)) fun c2=>Qi b a o ae c2 (fun c q bc=>U6 c (pick P q bc (.bool false))) fun c3=>L1 b a o c3 (fun c bd=>U6 c (fun w J=>J bd w)) fun y=>X3 b a y (fun h=>Vt h (fun w J=>J a8 w)) fun c4=>L1 b a y c4 (fun h be=>Vt h (X4 .eql T.u 52 be 0)) fun c5=>L1 b a y c5 (fun h bf=>Vt h (fun w J=>J bf w)) fun s=>X3 b a s (fun f=>U6 f (fun w J=>J cs w)) fun c6=>X3 b a s (fun f=>U6 f (fieldAddr P T.a t4 2)) fun c7=>Y5 b a (Q6 P T.a t8) fun cy=>L1 b a s c7 (fun f bh=>U6 f (Q6 P T.g bh)) fun c8=>L1 b a s c8 (fun f bi=>U6 f (Y2 T.g bi)) fun c9=>Qi b a s c6 c9 (fun f bg bj=>U6 f (X5 .eql T.f 55 58 bg bj)) fun da=>Qi b a y s da (fun h f bk=>Vt h (pick P f bk (.bool false))) fun db=>Qi b a o y db (fun c h bl=>U6 c (pick P h (.bool true) bl)) fun dc=>L1 b a o dc (fun c bm=>pick P c bm (.bool false)) fun ed=>Fh b (fun j=> ∀u w,a w->cy u w->J9 P T.a A u w (dk b (j [u]) w)) fun j=> ∀c a9 ba q bb bc bd h be bf f bg bh u bi bj bk bl bm ct bz w,a w->o c w->cz a9 w->c0 ba w->ae q w->c1 bb w->c2 bc w->c3 bd w->y h w->c4 be w->c5 bf w->s f w->c6 bg w->c7 bh w->cy u w->c8 bi w->c9 bj w->da bk w->db bl w->dc bm w->ed ct w->j [u] bz w->Z8 P T.a A w fun B=>K (.tuple #[B,ct]) w) (X4 .eql T.f 23 ab 1 w fun d2 w=>X1 d2 (Q6 P T.a t4 w fun d3 w=>Y1 T.m T.c m 1 w fun d4 w=>Y1 T.m T.a5 m 2 w fun d5 w=>Q0 P F.bv [d3,d4,d5] w fun d6 w=>D2 d6 w fun d7 bn w=>M9 T.a d7 w fun dp w=>Y1 T.m T.c m 1 w fun d8 w=>Y1 T.m T.a5 m 2 w fun d9 w=>Q0 P F.bz [a0,d8,d9] w fun ea w=>D2 ea w fun cu eb w=>dr w fun b a=>Y5 b a (X5 .eql T.u 84 85 bn eb) fun p=>X3 b a p (fun d=>U6 d (fun w J=>J bn w)) fun de=>L1 b a p de (fun d bo=>U6 d (X4 .neq T.u 88 bo 0)) fun df=>L1 b a p df (fun d bp=>U6 d (fun w J=>J bp w)) fun af=>X3 b a af (fun r=>U6 r (fun w J=>J cu w)) fun dg=>L1 b a af dg (fun r bq=>U6 r (X4 .eql T.f 91 bq 0)) fun dh=>Qi b a p af dh (fun d r br=>U6 d (pick P r br (.bool false))) fun di=>L1 b a p di (fun d bs=>U6 d (fun w J=>J bs w)) fun z=>X3 b a z (fun i=>Vt i (fun w J=>J bn w)) fun dj=>L1 b a z dj (fun i bu=>Vt i (X4 .eql T.u 95 bu 0)) fun dl=>L1 b a z dl (fun i bv=>Vt i (fun w J=>J bv w)) fun t=>X3 b a t (fun g=>U6 g (fun w J=>J cu w)) fun dm=>X3 b a t (fun g=>U6 g (fieldAddr P T.a t4 2)) fun dn=>Y5 b a (Q6 P T.a dp) fun dd=>L1 b a t dn (fun g bx=>U6 g (Q6 P T.g bx)) fun aj=>L1 b a t aj (fun g C=>U6 g (Y2 T.g C)) fun ak=>Qi b a t dm ak (fun g bw D=>U6 g (X5 .eql T.f 98 101 bw D)) fun al=>Qi b a z t al (fun i g E=>Vt i (pick P g E (.bool false))) fun am=>Qi b a p z am (fun d i H=>U6 d (pick P i (.bool true) H)) fun an=>L1 b a p an (fun d L=>pick P d L (.bool false)) fun cv=>Fh b (fun j=> ∀v w,a w->dd v w->J9 P T.a A v w (dk b (j [v]) w)) fun j=> ∀d bo bp r bq br bs i bu bv g bw bx v C D E H L ag bz w,a w->p d w->de bo w->df bp w->af r w->dg bq w->dh br w->di bs w->z i w->dj bu w->dl bv w->t g w->dm bw w->dn bx w->dd v w->aj C w->ak D w->al E w->am H w->an L w->cv ag w->j [v] bz w->Z8 P T.a A w fun B=>K (.tuple #[B,ag]) w) (X4 .eql T.f 23 ab 2 w fun b2 w=>X1 b2 (Q6 P T.a t4 w fun b3 w=>Y1 T.m T.f m 3 w fun b4 w=>Y1 T.m T.a5 m 2 w fun b5 w=>Y1 T.m T.e m 4 w fun b6 w=>Q0 P F.bX [b3,b4,b5,b6] w fun b7 w=>D2 b7 w fun b8 b9 w=>M9 T.a b8 w fun dq w=>dr w fun b a=>Y5 b a (fieldAddr P T.m m 3) fun ap=>Y5 b a (fieldAddr P T.m m 2) fun ar=>Y5 b a (fieldAddr P T.m m 4) fun aw=>Y5 b a (Q6 P T.a dq) fun ao=>X3 b a ap (fun M=>Q6 P T.f M) fun aq=>X3 b a ar (fun O=>Q6 P T.a5 O) fun av=>X3 b a aw (fun R=>Q6 P T.e R) fun ax=>Qi b a aq av ax (fun N Q U=>Q0 P F.u [a0,N,Q,U]) fun ay=>X3 b a ay (fun V=>X5 .eql T.u 127 128 V b9) fun cw=>Fh b (fun ac=> ∀k w,a w->ao k w->J9 P T.a A k w (dk b (ac [k]) w)) fun ac=> ∀M O R k N Q U V ah ec w,a w->ap M w->ar O w->aw R w->ao k w->aq N w->av Q w->ax U w->ay V w->cw ah w->ac [k] ec w->Z8 P T.a A w fun B=>K (.tuple #[B,ah]) w) (X4 .eql T.f 23 ab 3 w fun ca w=>X1 ca (Q6 P T.a t4 w fun cb w=>Y1 T.m T.f m 3 w fun cc w=>Y1 T.m T.a5 m 2 w fun cd w=>Q0 P F.bW [cb,cc,cd] w fun ce w=>D2 ce w fun cf cg w=>M9 T.e cf w fun ds w=>Y1 T.m T.f m 3 w fun ch w=>Y1 T.m T.a5 m 2 w fun ci w=>Q0 P F.b2 [a0,ch,ci] w fun cj w=>D2 cj w fun ck cl w=>M9 T.e ck w fun dt w=>dr w fun b a=>Y5 b a (Q6 P T.a t4) fun az=>Y5 b a (Q6 P T.e ds) fun a3=>Y5 b a (Q6 P T.e dt) fun a4=>L1 b a a3 a4 (fun W X=>X5 .eql T.e 151 152 W X) fun n=>X3 b a n (fun e=>U6 e (fun w J=>J cg w)) fun a5=>X3 b a n (fun e=>U6 e (fun w J=>J cl w)) fun a6=>Qi b a n a5 a6 (fun e Y Z=>U6 e (X5 .eql T.u 155 156 Y Z)) fun a7=>L1 b a n a7 (fun e aa=>pick P e aa (.bool false)) fun cx=>Fh b (fun b0=> ∀l w,a w->az l w->J9 P T.a A l w (dk b (b0 [l]) w)) fun b0=> ∀l W X e Y Z aa ai u9 w,a w->az l w->a3 W w->a4 X w->n e w->a5 Y w->a6 Z w->a7 aa w->cx ai w->b0 [l] u9 w->Z8 P T.a A w fun B=>K (.tuple #[B,ai]) w) (X4 .eql T.f 23 ab 4 w fun cm w=>X1 cm (Y1 T.m T.f m 3 w fun cn w=>Q0 P F.c4 [a0,cn] w fun ee w=>Q6 P T.a t4 w fun co w=>Y1 T.m T.f m 3 w fun cp w=>Q0 P F.bU [co,cp] w fun cq w=>J9 P T.a A cq w fun _u w=>Z8 P T.a A w fun B=>K (.tuple #[B,(.bool true)]) w) (Q6 P T.a t4 w fun cr w=>J9 P T.a A cr w fun _u w=>Z8 P T.a A w fun B=>K (.tuple #[B,(.bool true)]) w)))))
theorem Q3N (h:Ba a0 a1 a2 w K):Q0 P F.b8 [a0,a1,a2] w K:=zr (Y3 22) Tryz.func20 h
def Q05:M0:=[none,none,none,none,some ([6],[6,11,12,13,14,15,16,17,18,19,20,21,22,23,24,25,26,27,28,29,30,31,32,33,34,35,36,37,38,39]),none,none,some ([],[25,26,27,28,29,30,31,32,33,34,35,36,37,38,39]),none,none]
def Dv:D3:=fun g w K=>T1 P T.a w fun C w=>Q0 P F.ak [(.int .u16 300)] w fun L w=>D2 L w fun y h w=>M9 T.a h w fun a w=>lp (α:=Value) (.int .i64 0) w fun c f E w=>Z2 P .neq T.a2 (.tmp 11) (.const (.pointer none)) y (.pointer none) w fun b w=>X6 b true f w fun i w=>X6 b true g w fun j w=>Q1 b true w (Y2 T.a8 j) fun k w=>Q1 b true w (X5 .lss T.f 14 16 i k) fun l w=>pick P b l (.bool false) w fun d w=>X6 d true f w fun m w=>Q1 d true w (X4 .lss T.f 20 m 40) fun n w=>pick P d n (.bool false) w fun o w=>X1 o (jn (α:=Unit) w (fun B w=>V0 T.a8 T.m g f w fun p w=>Q0 P F.bV [p] w fun q w=>X1 q (sq w fun w=>indexAddr P T.a8 g f w fun s w=>Q6 P T.a a w fun r w=>Q6 P T.m s w fun t w=>Q0 P F.b8 [y,r,t] w fun u w=>D2 u w fun v J w=>J9 P T.a a v w fun _u w=>B () w) (B () w)) fun M E w=>V6 23 f w c) (dr w fun D A=>Y5 D A (Q6 P T.a a) fun z=> ∀e w,A w->z e w->J9 P T.a C e w fun _u w=>Z8 P T.a C w fun H=>K (.tuple #[y,H]) w)
theorem Q0y (h:Dv a0 w K):Q0 P F.aH [a0] w K:=zr Q05 Tryz.func8 h
def Ho:D3:=fun a w K=>nilCheck P a w fun b w=>Y1 T.s T.y b 0 w fun c w=>K c w
theorem Q1x (h:Ho a0 w K):Q0 P F.bB [a0] w K:=zr (Y3 2) Tryz.func57 h
def Ss:L4:=fun f g w K=>Q0 P F.aE [f,g] w fun h w=>V4 P .not h w fun i w=>X1 i (K (.int .i64 0) w) (nilCheck P f w fun a w=>Y1 T.s T.g a 3 w fun b w=>indexAddr P T.g b g w fun c w=>Y1 T.p T.l c 1 w fun d w=>Y2 T.l d w fun e w=>K e w)
theorem Q2J (h:Ss a0 a1 w K):Q0 P F.bM [a0,a1] w K:=zr (Y3 5) Tryz.func58 h
def Q8l:M0:=Y3 6++[some ([7,19],[7,8,19,20,21,22,23,24,25,26,27,28,29,30,31,32,33,34,35,36,37]),none,none,some ([7],[7,8,21,22,23,24,25,26,27,28,29,30,31,32,33,34,35,36]),none,none,none]
def Q2h:L4:=fun e u w K=>Q0 P F.w [e,u] w fun d w=>Q0 P F.bB [e] w fun f w=>Q0 P F.a5 [f,d] w fun g w=>Q0 P F.bM [e,u] w fun h w=>lp (α:=Value×Value) ((.slice none 0 0),(.int .i64 0)) w fun b c v w=>X5 .lss T.f 19 18 c.2 h w fun i w=>X1 i (jn (α:=Value) w (fun t w=>Q0 P F.c5 [d] w fun j w=>V2 .neq T.c 23 j #[] w fun a w=>X6 a false g w fun k w=>X6 a false c.2 w fun l w=>Q1 a false w (indexAddr P T.k k l) fun m w=>Z3 a false w T.n T.q m 2 fun n w=>Q1 a false w (V4 P .not n) fun o w=>pick P a (.bool true) o w fun p w=>X1 p (buildSlice P T.a0 1 [(0,c.2)] w fun q w=>U7 P .append [T.a0,T.a0] T.a0 [false,false] [c.1,q] w fun r w=>t r w) (t c.1 w)) fun y v w=>X4 .add T.f 19 c.2 1 w fun s w=>b (y,s) w) (K c.1 w)
theorem Q8z (h:Q2h a0 a1 w K):Q0 P F.cm [a0,a1] w K:=zr Q8l Tryz.func23 h
def Q61:M0:=[none,some ([14],[7,8,9,14,15,16,17,18,19,20,21,22,23,24,25,26,27,28])]++Y3 5
def Pw:Yg:=fun k l m w K=>Q0 P F.cm [k,l] w fun c w=>Y2 T.a0 c w fun d w=>lp (α:=Value) (.int .i64 0) w fun a j p w=>X5 .lss T.f 14 13 j d w fun e w=>X1 e (V0 T.a0 T.f c j w fun f w=>Q0 P F.b2 [k,l,f] w fun g w=>D2 g w fun h n w=>M9 T.e h w fun b w=>Q6 P T.e b w fun i w=>U2 P m [i] w fun o w=>V6 14 j w a) (K (.tuple #[]) w)
theorem Q6a (h:Pw a0 a1 a2 w K):Q0 P F.aG [a0,a1,a2] w K:=zr Q61 Tryz.func31 h
def Q4Y:L4:=fun g h w K=>box P T.e h w fun a w=>Y1 T.e T.f a 0 w fun i w=>X4 .eql T.f 6 i 4 w fun b w=>X6 b true g w fun j w=>Z3 b true w T.e T.f a 3 fun c w=>Q1 b true w (Q0 P F.w [j,c]) fun d w=>Q1 b true w (V2 .neq T.c 12 d #[]) fun e w=>pick P b e (.bool false) w fun f w=>K f w
theorem X1r (h:Q4Y a0 a1 w K):Q0 P F.cn [a0,a1] w K:=zr (Y3 2) Tryz.func30 h
def Lr:Yg:=fun e a1 a2 w K=>box P T.e a1 w fun U w=>box P T.e a2 w fun t5 w=>dr w fun b a=>Y5 b a (nilCheck P e) fun b5=>X3 b a b5 (fun ar=>fieldAddr P T.o ar 0) fun b7=>Y5 b a (nilCheck P e) fun ca=>X3 b a ca (fun az=>fieldAddr P T.o az 1) fun cb=>X3 b a b7 (fun av=>Q6 P T.a2 av) fun b8=>Y5 b a (Q6 P T.e U) fun b9=>L1 b a b8 b9 (fun aw ax=>Q0 P F.cn [aw,ax]) fun de=>X3 b a cb (fun a3=>Q6 P T.a2 a3) fun df=>Y5 b a (Q6 P T.e t5) fun dg=> ∀ar av az a3 aw ax ay bu bv w,a w->b5 ar w->b7 av w->ca az w->cb a3 w->b8 aw w->b9 ax w->de ay w->df bu w->dg bv w->Q0 P F.cn [bu,bv] w fun bw w=>V4 P .not ay w fun a4 w=>X6 a4 false bw w fun cn w=>Q1 a4 false w (V4 P .not cn) fun co w=>pick P a4 (.bool true) co w fun cp w=>X1 cp (nilCheck P e w fun cq w=>Y1 T.o T.q cq 5 w fun a5 w=>X6 a5 true ay w fun cr w=>Q1 a5 true w (V4 P .not cr) fun cs w=>pick P a5 cs (.bool false) w fun a6 w=>X6 a6 true bw w fun ct w=>Q1 a6 true w (V4 P .not ct) fun cu w=>pick P a6 cu (.bool false) w fun a7 w=>Z3 a7 true w T.e T.f U 0 fun cv w=>Q1 a7 true w (X4 .neq T.f 45 cv 4) fun cw w=>pick P a7 cw (.bool false) w fun H w=>Q1 H true w (Q6 P T.e U) fun cx w=>Q1 H true w (Q6 P T.e t5) fun cy w=>Q1 H true w (X5 .eql T.e 49 50 cx cy) fun cz w=>pick P H cz (.bool false) w fun c0 w=>nilCheck P e w fun c1 w=>fieldAddr P T.o c1 5 w fun c2 w=>J9 P T.q c2 c0 w fun _u w=>K (.tuple #[]) w) (dr w fun b a=>Y5 b a (nilCheck P e) fun cc=>X3 b a cc (fun a9=>fieldAddr P T.o a9 2) fun cd=>Y5 b a (fieldAddr P T.e U 3) fun cf=>X3 b a cd (fun ba=>Q6 P T.a1 ba) fun ce=>X3 b a cf (fun bc=>Q6 P T.f bc) fun cg=>L1 b a ce cg (fun bb bd=>lookup P T.a1 bb bd true) fun bk=>X3 b a bk (fun C=>ext P C 0) fun dh=>X3 b a bk (fun C=>ext P C 1) fun di=> ∀a9 ba bc bb bd C bx J w,a w->cc a9 w->cd ba w->cf bc w->ce bb w->cg bd w->bk C w->dh bx w->di J w->dr w fun b a=>Y5 b a (nilCheck P e) fun ch=>X3 b a ch (fun be=>fieldAddr P T.o be 3) fun ci=>Y5 b a (fieldAddr P T.e t5 3) fun ck=>X3 b a ci (fun bf=>Q6 P T.a1 bf) fun cj=>X3 b a ck (fun bh=>Q6 P T.f bh) fun cl=>L1 b a cj cl (fun bg bi=>lookup P T.a1 bg bi true) fun bl=>X3 b a bl (fun D=>ext P D 0) fun dj=>X3 b a bl (fun D=>ext P D 1) fun dl=> ∀be bf bh bg bi D bz bj w,a w->ch be w->ci bf w->ck bh w->cj bg w->cl bi w->bl D w->dj bz w->dl bj w->X6 J false bj w fun c3 w=>pick P J (.bool true) c3 w fun c4 w=>X1 c4 (nilCheck P e w fun c5 w=>Y1 T.o T.q c5 5 w fun b0 w=>X6 b0 true J w fun c6 w=>pick P b0 c6 (.bool false) w fun b1 w=>X6 b1 true bj w fun c7 w=>pick P b1 c7 (.bool false) w fun L w=>X6 L true bx w fun c8 w=>Z3 L true w T.e T.f t5 3 fun c9 w=>Q1 L true w (X5 .eql T.f 91 93 c8 c9) fun da w=>pick P L da (.bool false) w fun M w=>X6 M true bz w fun db w=>Z3 M true w T.e T.f U 3 fun dc w=>Q1 M true w (X5 .eql T.f 97 99 db dc) fun bm w=>pick P M bm (.bool false) w fun bn w=>nilCheck P e w fun bo w=>fieldAddr P T.o bo 5 w fun bp w=>J9 P T.q bp bn w fun _u w=>K (.tuple #[]) w) (dr w fun b a=>Y5 b a (nilCheck P e) fun V=>X3 b a V (fun f=>fieldAddr P T.o f 2) fun W=>Y5 b a (fieldAddr P T.e U 3) fun X=>Y5 b a (nilCheck P e) fun Z=>X3 b a Z (fun j=>fieldAddr P T.o j 3) fun aa=>Y5 b a (fieldAddr P T.e t5 3) fun ac=>Y5 b a (fieldAddr P T.e t5 3) fun ae=>Y5 b a (fieldAddr P T.e U 3) fun ag=>X3 b a W (fun g=>Q6 P T.a1 g) fun E=>X3 b a X (fun h=>Q6 P T.f h) fun Y=>X3 b a aa (fun k=>Q6 P T.a1 k) fun ab=>X3 b a ac (fun l=>Q6 P T.f l) fun ad=>X3 b a ae (fun n=>Q6 P T.f n) fun af=>X3 b a ag (fun p=>Q6 P T.f p) fun b2=>L1 b a E Y (fun c i=>mapEntry P T.a1 c i) fun ah=>X3 b a ah (fun q=>ext P q 1) fun ai=>Qi b a E ai af (fun c r o=>entryStore P T.a1 c r o) fun cm=>L1 b a ab ad (fun d m=>mapEntry P T.a1 d m) fun aj=>X3 b a aj (fun s=>ext P s 1) fun b3=> ∀f g h j k l n p c i d m o N q r dd s O w,a w->V f w->W g w->X h w->Z j w->aa k w->ac l w->ae n w->ag p w->E c w->Y i w->ab d w->ad m w->af o w->b2 N w->ah q w->ai r w->cm dd w->aj s w->b3 O w->entryStore P T.a1 d O N w fun _u w=>dr w fun b a=>Y5 b a (nilCheck P e) fun ak=>X3 b a ak (fun t=>fieldAddr P T.o t 4) fun al=>Y5 b a (fieldAddr P T.e U 3) fun am=>Y5 b a (fieldAddr P T.e t5 3) fun ao=>X3 b a al (fun u=>Q6 P T.a3 u) fun b4=>X3 b a am (fun v=>Q6 P T.f v) fun an=>X3 b a ao (fun z=>Q6 P T.f z) fun ap=>L1 b a an ap (fun y A=>B2 P T.au [(0,y),(1,A)]) fun aq=>X3 b a aq (fun B=>buildSlice P T.a3 1 [(0,B)]) fun b6=> ∀t u v z Q y A B R w,a w->ak t w->al u w->am v w->ao z w->b4 Q w->an y w->ap A w->aq B w->b6 R w->U7 P .append [T.a3,T.a3] T.a3 [false,false] [Q,R] w fun bq w=>nilCheck P e w fun br w=>fieldAddr P T.o br 4 w fun bs w=>J9 P T.a3 bs bq w fun _u w=>K (.tuple #[]) w))
theorem Ib (h:Lr a0 a1 a2 w K):Q0 P F.aq [a0,a1,a2] w K:=zr (Y3 11) Tryz.func61 h
def Q1a:L4:=fun c b w K=>box P T.e c w fun a w=>Q6 P T.l b w fun d w=>Q6 P T.e a w fun e w=>buildSlice P T.l 1 [(0,e)] w fun f w=>U7 P .append [T.l,T.l] T.l [false,false] [d,f] w fun g w=>J9 P T.l b g w fun _u w=>K (.tuple #[]) w
theorem Q7d (h:Q1a a0 a1 w K):Q0 P F.cG [a0,a1] w K:=zr (Y3 1) Tryz.func62 h
def Q74:M0:=[none,some ([],[5,6,7,8,9,10,11,12,13,14,15]),none]
def Q1b:zV4:=fun t l r u w K=>box P T.e t w fun e w=>jn (α:=Unit) w (fun q w=>Q6 P T.f l w fun y w=>Q6 P T.l r w fun z w=>Y2 T.l z w fun A w=>X5 .lss T.f 5 7 y A w fun B w=>X1 B (dr w fun f a=>Y5 f a (Q6 P T.a6 u) fun C=>Y5 f a (Q6 P T.l r) fun i=>Y5 f a (Q6 P T.f l) fun j=>L1 f a i j (fun b c=>indexAddr P T.l b c) fun k=>X3 f a k (fun d=>Q6 P T.e d) fun o=>Y5 f a (Q6 P T.e e) fun p=> ∀s b c d g h w,a w->C s w->i b w->j c w->k d w->o g w->p h w->Q0 P F.aq [s,g,h] w fun v w=>q () w) (q () w)) fun E D w=>Q6 P T.f l w fun m w=>X4 .add T.f 16 m 1 w fun n w=>J9 P T.f l n w fun _u w=>K (.tuple #[]) w
theorem Q7e (h:Q1b a0 a1 a2 a3 w K):Q0 P F.cH [a0,a1,a2,a3] w K:=zr Q74 Tryz.func63 h
def Q9x:M0:=Y3 5++[some ([10],[10,11,12,13,14,25,26,27,28,29,30,31,32,33,34,35,36,37,38,39,40,41,42,43,44,45,46,47,48,49,50,51,52,53,54,55,56,57,58,59,60,61,62,63,64,65,66,67,68,69,70,71,72,73,74,75,76,77,78,79,80,81,82,83,84,85])]++Y3 9
def Q43:zV4:=fun a0 a1 a2 a3 w K=>box P T.e a1 w fun t5 w=>box P T.e a3 w fun t7 w=>Nn P T.a1 none w fun a9 w=>Nn P T.a1 none w fun ba w=>B2 P T.o [(0,a0),(1,a2),(2,a9),(3,ba),(5,(.bool true))] w fun bb w=>box P T.o bb w fun bc w=>M9 T.a6 bc w fun i w=>Q6 P T.a6 i w fun bd w=>Q6 P T.e t5 w fun be w=>Q6 P T.e t7 w fun bf w=>Q0 P F.aq [bd,be,bf] w fun b1 w=>lp (α:=Value) (.int .i64 0) w fun g x5 d_ w=>Q6 P T.a6 i w fun bg w=>nilCheck P bg w fun bh w=>Y1 T.o T.a3 bh 4 w fun bi w=>Y2 T.a3 bi w fun bj w=>X5 .lss T.f 25 30 x5 bj w fun h w=>Q1 h true w (Q6 P T.a6 i) fun bk w=>Q1 h true w (nilCheck P bk) fun bl w=>Z3 h true w T.o T.q bl 5 fun bm w=>pick P h bm (.bool false) w fun bn w=>X1 bn (dr w fun c a=>Y5 c a (Q6 P T.a6 i) fun Z=>X3 c a Z (fun k=>nilCheck P k) fun aa=>X3 c a aa (fun l=>fieldAddr P T.o l 4) fun ab=>X3 c a ab (fun m=>Q6 P T.a3 m) fun ac=>X3 c a ac (fun n=>indexAddr P T.a3 n x5) fun ad=>X3 c a ad (fun o=>indexAddr P T.au o (.int .i64 0)) fun ae=>X3 c a ae (fun p=>Q6 P T.f p) fun bu=>Y5 c a (Q6 P T.a6 i) fun af=>X3 c a af (fun r=>nilCheck P r) fun ag=>X3 c a ag (fun s=>fieldAddr P T.o s 4) fun ah=>X3 c a ah (fun t=>Q6 P T.a3 t) fun ai=>X3 c a ai (fun u=>indexAddr P T.a3 u x5) fun aj=>X3 c a aj (fun v=>indexAddr P T.au v (.int .i64 1)) fun ak=>X3 c a ak (fun y=>Q6 P T.f y) fun bv=> ∀k l m n o p q r s t u v y z w,a w->Z k w->aa l w->ab m w->ac n w->ad o w->ae p w->bu q w->af r w->ag s w->ah t w->ai u w->aj v w->ak y w->bv z w->T1 P T.l w fun j w=>C1 P (.func F.cG) [] [j] w fun bo w=>Q0 P F.aG [a0,q,bo] w fun b3 w=>M9 T.f (.int .i64 0) w fun W w=>C1 P (.func F.cH) [] [W,j,i] w fun bp w=>Q0 P F.aG [a2,z,bp] w fun b4 w=>dr w fun c a=>Y5 c a (Q6 P T.a6 i) fun bw=>Y5 c a (Q6 P T.a6 i) fun al=>X3 c a al (fun A=>nilCheck P A) fun am=>X3 c a am (fun B=>fieldAddr P T.o B 5) fun an=>X3 c a an (fun C=>Q6 P T.q C) fun f=>X3 c a f (fun d=>U6 d (Q6 P T.f W)) fun ao=>X3 c a f (fun d=>U6 d (Q6 P T.l j)) fun ap=>L1 c a f ap (fun d E=>U6 d (Y2 T.l E)) fun aq=>Qi c a f ao aq (fun d D H=>U6 d (X5 .eql T.f 70 72 D H)) fun ar=>L1 c a f ar (fun d L=>pick P d L (.bool false)) fun e=>X3 c a e (fun b=>U6 b (fun w J=>J a0 w)) fun av=>X3 c a e (fun b=>U6 b (fun w J=>J q w)) fun aw=>X3 c a e (fun b=>U6 b (fun w J=>J a2 w)) fun ay=>X3 c a e (fun b=>U6 b (fun w J=>J z w)) fun az=>Qi c a e av aw (fun b M N=>U6 b (Q0 P F.w [M,N])) fun ax=>Qi c a e ay az (fun b Q R=>U6 b (Q0 P F.w [Q,R])) fun a4=>Qi c a e ax a4 (fun b O U=>U6 b (X5 .eql T.c 78 81 O U)) fun a5=>L1 c a e a5 (fun b V=>pick P b V (.bool false)) fun bx=> ∀X A B C d D E H L b M N Q R O U V Y w,a w->bw X w->al A w->am B w->an C w->f d w->ao D w->ap E w->aq H w->ar L w->e b w->av M w->aw N w->ay Q w->az R w->ax O w->a4 U w->a5 V w->bx Y w->nilCheck P X w fun bq w=>fieldAddr P T.o bq 5 w fun br w=>J9 P T.q br Y w fun _u w=>V6 38 x5 w g) (Q6 P T.a6 i w fun bs w=>K bs w)
theorem Q9G (h:Q43 a0 a1 a2 a3 w K):Q0 P F.cA [a0,a1,a2,a3] w K:=zr Q9x Tryz.func25 h
def Q16:zV4:=fun h i j k w K=>box P T.e i w fun a w=>box P T.e k w fun b w=>Q6 P T.e a w fun c w=>Q6 P T.e b w fun d w=>Q0 P F.cA [h,c,j,d] w fun e w=>nilCheck P e w fun f w=>Y1 T.o T.q f 5 w fun g w=>K g w
theorem Q79 (h:Q16 a0 a1 a2 a3 w K):Q0 P F.aW [a0,a1,a2,a3] w K:=zr (Y3 2) Tryz.func11 h
def Sv:D3:=fun b w K=>T1 P T.e w fun a w=>B2 P T.e [(0,(.int .i64 4)),(3,b)] w fun d w=>J9 P T.e a d w fun _u w=>Z8 P T.e a w fun c=>K c w
theorem Q2M (h:Sv a0 w K):Q0 P F.i [a0] w K:=zr (Y3 2) Tryz.func12 h
def Ki:zV4:=fun s q t r w K=>box P T.e s w fun a w=>Q6 P T.a1 q w fun v w=>Y1 T.e T.f a 3 w fun c w=>lookup P T.a1 v c true w fun d w=>D2 d w fun u e w=>Q6 P T.a2 t w fun f w=>Q6 P T.e a w fun g w=>Q0 P F.cn [f,g] w fun b w=>X6 b true e w fun h w=>Q1 b true w (V4 P .not h) fun i w=>pick P b i (.bool false) w fun j w=>X1 j (Q6 P T.a1 q w fun k w=>Y1 T.e T.f a 3 w fun l w=>mapUpdate P T.a1 k l (.int .i64 1) w fun _u w=>Q6 P T.a0 r w fun m w=>Y1 T.e T.f a 3 w fun n w=>buildSlice P T.a0 1 [(0,n)] w fun o w=>U7 P .append [T.a0,T.a0] T.a0 [false,false] [m,o] w fun p w=>J9 P T.a0 r p w fun _u w=>K (.tuple #[]) w) (K (.tuple #[]) w)
theorem Q5n (h:Ki a0 a1 a2 a3 w K):Q0 P F.cx [a0,a1,a2,a3] w K:=zr (Y3 4) Tryz.func29 h
def Q73:M0:=Y3 7++[some ([8],[8,14,15,16,17,18,19,20,21,22,23,24,25,26]),none,none,none,none]
def Q19:L4:=fun y z w K=>box P T.a2 y w fun c w=>box P T.e z w fun g w=>T1 P T.a0 w fun a w=>Nn P T.a1 none w fun C w=>M9 T.a1 C w fun b w=>C1 P (.func F.cx) [] [b,c,a] w fun i w=>Q6 P T.e g w fun o w=>U2 P i [o] w fun A w=>lp (α:=Value) (.int .i64 0) w fun d t D w=>Q6 P T.a0 a w fun p w=>Y2 T.a0 p w fun q w=>X5 .lss T.f 14 16 t q w fun r w=>X1 r (dr w fun n h=>Y5 n h (Q6 P T.a2 c) fun u=>Y5 n h (Q6 P T.a0 a) fun l=>X3 n h l (fun e=>indexAddr P T.a0 e t) fun m=>X3 n h m (fun f=>Q6 P T.f f) fun v=> ∀j e f k w,h w->u j w->l e w->m f w->v k w->Q0 P F.aG [j,k,i] w fun B w=>V6 18 t w d) (Q6 P T.a0 a w fun s w=>K s w)
theorem Q7c (h:Q19 a0 a1 w K):Q0 P F.aX [a0,a1] w K:=zr Q73 Tryz.func14 h
def Kh:zV4:=fun p l q r w K=>box P T.e p w fun b w=>dr w fun d c=>Y5 d c (Q6 P T.q l) fun f=>X3 d c f (fun a=>Vt a (Q6 P T.a2 q)) fun n=>X3 d c f (fun a=>Vt a (Q6 P T.e b)) fun o=>Qi d c f n o (fun a i j=>Vt a (Q0 P F.aX [i,j])) fun s=>X3 d c f (fun a=>Vt a (Q6 P T.f r)) fun k=> ∀a i j m e w,c w->f a w->n i w->o j w->s m w->k e w->Q1 a false w (Q0 P F.a0 [m,e]) fun g w=>pick P a (.bool true) g w fun h w=>J9 P T.q l h w fun _u w=>K (.tuple #[]) w
theorem Q5m (h:Kh a0 a1 a2 a3 w K):Q0 P F.cw [a0,a1,a2,a3] w K:=zr (Y3 1) Tryz.func34 h
def Q72:M0:=[none,none,none,some ([12],[4,6,7,12,13,14,15,16,17,18,19,20,21])]++Y3 9
def Q17:L4:=fun o p w K=>box P T.a2 o w fun c w=>box P T.e p w fun e w=>Q6 P T.a2 c w fun r w=>Q6 P T.e e w fun s w=>Q0 P F.aX [r,s] w fun f w=>Y2 T.a0 f w fun g w=>lp (α:=Value) (.int .i64 0) w fun d n t w=>X5 .lss T.f 12 11 n g w fun h w=>X1 h (V0 T.a0 T.f f n w fun i w=>M9 T.f i w fun b w=>M9 T.q (.bool false) w fun a w=>Q6 P T.a2 c w fun j w=>Q6 P T.f b w fun k w=>C1 P (.func F.cw) [] [a,c,b] w fun l w=>Q0 P F.aG [j,k,l] w fun q w=>Q6 P T.q a w fun m w=>X1 m (K (.bool true) w) (V6 12 n w d)) (K (.bool false) w)
theorem Q7a (h:Q17 a0 a1 w K):Q0 P F.ca [a0,a1] w K:=zr Q72 Tryz.func17 h
def Dw:zV0:=fun w K=>Q0 P F.ak [(.int .u16 50)] w fun Z w=>D2 Z w fun l aa w=>M9 T.a aa w fun t2 w=>Q0 P F.ak [(.int .u16 50)] w fun ab w=>D2 ab w fun a ac w=>M9 T.a ac w fun t4 w=>Z2 P .eql T.a2 (.tmp 21) (.const (.pointer none)) l (.pointer none) w fun n w=>X6 n false a w fun ad w=>Q1 n false w (Z2 P .eql T.a2 (.tmp 24) (.const (.pointer none)) ad (.pointer none)) fun ae w=>pick P n (.bool true) ae w fun af w=>X1 af (K (.bool false) w) (Q0 P F.q [l,(.string ⟨#[65]⟩)] w fun ag w=>D2 ag w fun m ah w=>Q0 P F.q [a,(.string ⟨#[65]⟩)] w fun ai w=>D2 ai w fun k aj w=>Q0 P F.q [a,(.string ⟨#[65]⟩)] w fun ak w=>D2 ak w fun Y al w=>X4 .neq T.u 42 ah 0 w fun o w=>X6 o false aj w fun am w=>Q1 o false w (X4 .neq T.u 45 am 0) fun an w=>pick P o (.bool true) an w fun p w=>X6 p false al w fun ao w=>Q1 p false w (X4 .neq T.u 49 ao 0) fun ap w=>pick P p (.bool true) ap w fun g w=>X6 g false l w fun aq w=>X6 g false m w fun ar w=>X6 g false m w fun av w=>Q1 g false w (Q0 P F.i [av]) fun aw w=>Q1 g false w (Q0 P F.u [aq,ar,(.int .i64 1),aw]) fun ax w=>Q1 g false w (X4 .neq T.u 57 ax 0) fun ay w=>pick P g (.bool true) ay w fun h w=>X6 h false a w fun az w=>X6 h false k w fun a0 w=>X6 h false Y w fun a1 w=>Q1 h false w (Q0 P F.i [a1]) fun a2 w=>Q1 h false w (Q0 P F.u [az,a0,(.int .i64 1),a2]) fun a3 w=>Q1 h false w (X4 .neq T.u 65 a3 0) fun a4 w=>pick P h (.bool true) a4 w fun i w=>X6 i false a w fun a5 w=>X6 i false Y w fun a6 w=>X6 i false k w fun a7 w=>Q1 i false w (Q0 P F.i [a7]) fun a8 w=>Q1 i false w (Q0 P F.u [a5,a6,(.int .i64 1),a8]) fun a9 w=>Q1 i false w (X4 .neq T.u 73 a9 0) fun ba w=>pick P i (.bool true) ba w fun bb w=>X1 bb (K (.bool false) w) (Q0 P F.q [a,(.string ⟨#[65]⟩)] w fun bc w=>D2 bc w fun q bd w=>X4 .eql T.u 81 bd 0 w fun j w=>X6 j true a w fun be w=>X6 j true q w fun bf w=>X6 j true q w fun bg w=>Q1 j true w (Q0 P F.i [bg]) fun bh w=>Q1 j true w (Q0 P F.u [be,bf,(.int .i64 1),bh]) fun bi w=>Q1 j true w (X4 .eql T.u 88 bi 0) fun bj w=>pick P j bj (.bool false) w fun f w=>X6 f true l w fun bk w=>X6 f true m w fun bl w=>Q1 f true w (Q0 P F.i [bl]) fun bm w=>X6 f true a w fun bn w=>X6 f true q w fun bo w=>Q1 f true w (Q0 P F.i [bo]) fun bp w=>Q1 f true w (Q0 P F.aW [bk,bm,bn,bp]) fun bq w=>pick P f bq (.bool false) w fun d w=>X6 d true l w fun r w=>X6 d true m w fun s w=>Q1 d true w (Q0 P F.i [s]) fun t w=>X6 d true a w fun u w=>X6 d true k w fun v w=>Q1 d true w (Q0 P F.i [v]) fun y w=>Q1 d true w (Q0 P F.aW [r,t,u,y]) fun z w=>Q1 d true w (V4 P .not z) fun A w=>pick P d A (.bool false) w fun e w=>X6 e true a w fun B w=>X6 e true k w fun C w=>Q1 e true w (Q0 P F.i [C]) fun D w=>Q1 e true w (Q0 P F.ca [B,D]) fun E w=>pick P e E (.bool false) w fun b w=>X6 b true a w fun H w=>X6 b true k w fun J w=>Q1 b true w (Q0 P F.i [J]) fun L w=>Q1 b true w (Q0 P F.aX [H,L]) fun M w=>Q1 b true w (Y2 T.a0 M) fun N w=>Q1 b true w (X4 .eql T.f 121 N 2) fun O w=>pick P b O (.bool false) w fun c w=>X6 c true a w fun Q w=>X6 c true k w fun R w=>Q1 c true w (Q0 P F.cm [Q,R]) fun U w=>Q1 c true w (Y2 T.a0 U) fun V w=>Q1 c true w (X4 .eql T.f 128 V 2) fun W w=>pick P c W (.bool false) w fun X w=>K X w))
theorem Q0z (h:Dw w K):Q0 P F.ac [] w K:=zr (Y3 14) Tryz.func9 h
def Zj:D3:=fun a w K=>Z2 P .eql T.a3 (.tmp 3) (.const (.slice none 0 0)) a (.slice none 0 0) w fun b w=>X1 b (K (.slice none 0 0) w) (buildSlice P T.a3 0 [] w fun c w=>U7 P .append [T.a3,T.a3] T.a3 [false,false] [c,a] w fun d w=>K d w)
theorem Hj (h:Zj a0 w K):Q0 P F.aA [a0] w K:=zr (Y3 5) Tryz.func32 h
def Q18:zV4:=fun l m n o w K=>box P T.e m w fun a w=>box P T.e o w fun b w=>Q6 P T.e a w fun d w=>Q6 P T.e b w fun e w=>Q0 P F.cA [l,d,n,e] w fun c w=>nilCheck P c w fun f w=>Y1 T.o T.q f 5 w fun g w=>V4 P .not g w fun h w=>X1 h (K (.slice none 0 0) w) (nilCheck P c w fun i w=>Y1 T.o T.a3 i 4 w fun j w=>Q0 P F.aA [j] w fun k w=>K k w)
theorem Q7b (h:Q18 a0 a1 a2 a3 w K):Q0 P F.cb [a0,a1,a2,a3] w K:=zr (Y3 6) Tryz.func15 h
def Vk:Yg:=fun a0 a1 a2 w K=>box P T.e a1 w fun b w=>box P T.e a2 w fun i w=>Q0 P F.aH [a0] w fun ak w=>D2 ak w fun h al w=>M9 T.a al w fun t8 w=>Q0 P F.ac [] w fun am w=>V4 P .not am w fun p w=>X6 p false h w fun an w=>Q1 p false w (Z2 P .eql T.a2 (.tmp 17) (.const (.pointer none)) an (.pointer none)) fun ao w=>pick P p (.bool true) ao w fun q w=>Z3 q false w T.e T.f b 0 fun ap w=>Q1 q false w (X4 .eql T.f 22 ap 4) fun aq w=>pick P q (.bool true) aq w fun r w=>Z3 r false w T.e T.f i 0 fun ar w=>Q1 r false w (X4 .eql T.f 27 ar 4) fun av w=>pick P r (.bool true) av w fun aw w=>X1 aw (Q0 P F.ac [] w fun ax w=>K ax w) (dr w fun e d=>Y5 e d (Q6 P T.e b) fun R=>Y5 e d (Q6 P T.e i) fun U=>L1 e d R U (fun s t=>Q0 P F.aW [h,s,h,t]) fun V=>Y5 e d (Q6 P T.e b) fun W=>Y5 e d (Q6 P T.e i) fun X=>L1 e d W X (fun v y=>X5 .eql T.e 36 37 v y) fun Y=>L1 e d V Y (fun u z=>X5 .eql T.q 35 38 u z) fun j=>X3 e d j (fun c=>U6 c (fun w J=>J h w)) fun Z=>X3 e d j (fun c=>U6 c (Q6 P T.e b)) fun aa=>Qi e d j Z aa (fun c A B=>U6 c (Q0 P F.aX [A,B])) fun ab=>L1 e d j ab (fun c C=>U6 c (Y2 T.a0 C)) fun ac=>L1 e d j ac (fun c D=>U6 c (X4 .eql T.f 44 D 0)) fun ad=>L1 e d j ad (fun c E=>pick P c E (.bool false)) fun f=>X3 e d f (fun a=>U6 a (fun w J=>J h w)) fun ae=>X3 e d f (fun a=>U6 a (fun w J=>J h w)) fun ag=>X3 e d f (fun a=>U6 a (Q6 P T.e b)) fun af=>X3 e d f (fun a=>U6 a (Q6 P T.e b)) fun ah=>Z7 e (fun o=> ∀a k l m n w,d w->f a w->ae k w->af l w->ag m w->ah n w->Q1 a true w (Q0 P F.cb [k,l,m,n]) (dk e o w)) fun o=>L1 e d f o (fun a H=>U6 a (Y2 T.a3 H)) fun ai=>L1 e d f ai (fun a L=>U6 a (X4 .eql T.f 53 L 0)) fun aj=>L1 e d f aj (fun a M=>pick P a M (.bool false)) fun N=>X3 e d N (fun g=>U6 g (fun w J=>J h w)) fun a4=>X3 e d N (fun g=>U6 g (Q6 P T.e b)) fun a5=> ∀s t u v y z c A B C D E a k m l n H L M g O Q w,d w->R s w->U t w->V u w->W v w->X y w->Y z w->j c w->Z A w->aa B w->ab C w->ac D w->ad E w->f a w->ae k w->ag m w->af l w->ah n w->o H w->ai L w->aj M w->N g w->a4 O w->a5 Q w->Q1 g true w (Q0 P F.ca [O,Q]) fun ay w=>Q1 g true w (V4 P .not ay) fun az w=>pick P g az (.bool false) w fun a3 w=>K a3 w)
theorem Bq (h:Vk a0 a1 a2 w K):Q0 P F.c3 [a0,a1,a2] w K:=zr (Y3 6) Tryz.func7 h
end Go.Proofs.Y
namespace Go.Emb
open Go.RowKit (Below)
variable {P : Program} {w w' : World} {K : Value -> World -> Prop}
theorem Y8 {s:Sem Value} {v:Value} (h:s.run P w= .ok v w'):op P (sv s) w K=K v w':=by
 rw[Ye];unfold Xk sv;simp[h]
theorem Jf {s:Sem Unit} (h:s.run P w= .ok () w'):op P (su s) w K=K undef w':=by
 rw[Ye];unfold Xk su;simp[h]
abbrev S (l:List UInt8):Value:= .string ⟨l.toArray⟩
abbrev I (n:Int):Value:= .int .i64 n
theorem Ci {b:Bool} {x y:Value}:pick P (.bool b) x y w K=K (if b then x else y) w:=by
 unfold pick;rw[Ye];unfold Xk;cases b<;>simp[asBool]
theorem H0 {x y:Value}:pick P (.bool true) x y w K=K x w:=by rw[Ci];rfl
theorem D0 {x y:Value}:pick P (.bool false) x y w K=K y w:=by rw[Ci];rfl
theorem X4c {a b:Bool} {u:Value}:pick P (.bool a) (if a=true then .bool b else u) (.bool false) w K=K (.bool (a&&b)) w:=by
 rw[Ci];cases a<;>rfl
theorem X5T {a b:Bool} {u:Value}:pick P (.bool a) (.bool true) (if a=false then .bool b else u) w K=K (.bool (a||b)) w:=by
 rw[Ci];cases a<;>rfl
theorem V5 {c:World->(Value->World->Prop)->Prop}:Q1 (.bool true) true w c K=c w K:=by rw[Cg];simp[Ep]
theorem O6 {c:World->(Value->World->Prop)->Prop}:Q1 (.bool false) false w c K=c w K:=by rw[Cg];simp[Ep]
theorem F7 {c:World->(Value->World->Prop)->Prop}:Q1 (.bool true) false w c K=K undef w:=by rw[Cg];simp[Ep]
theorem M7 {c:World->(Value->World->Prop)->Prop}:Q1 (.bool false) true w c K=K undef w:=by rw[Cg];simp[Ep]
theorem B6 {b:Bool} {c:World->(Value->World->Prop)->Prop}:Q1 undef b w c K=K undef w:=by rw[Cg];rfl
theorem X3S {a b:Bool} {v:Value}:Q1 (.bool a) b w (fun w J=>J v w) K=K (if a=b then v else undef) w:=by
 rw[Cg];unfold Ep;by_cases h:a=b<;>simp[h]
theorem Q7N {b:Bool} {t e:Prop}:X1 (.bool b) t e=if b=true then t else e:=by rw[Q7O];cases b<;>rfl
theorem G4 {t e:Prop}:X1 (.bool true) t e=t:=by rw[Q7N];simp
theorem B5 {t e:Prop}:X1 (.bool false) t e=e:=by rw[Q7N];simp
variable {k : IntKind} {t : TypeId} {ox oy : Operand} {a b : Int}
theorem Pl:Z2 P .add t ox oy (.int k a) (.int k b) w K=K (.int k (k.wrap (a+b))) w:=Y8 (by simp[eqGuard,Go.binOp,Op.intArith])
theorem Q5H:Z2 P .sub t ox oy (.int k a) (.int k b) w K=K (.int k (k.wrap (a-b))) w:=Y8 (by simp[eqGuard,Go.binOp,Op.intArith])
theorem Q9Y:Z2 P .mul t ox oy (.int k a) (.int k b) w K=K (.int k (k.wrap (a*b))) w:=Y8 (by simp[eqGuard,Go.binOp,Op.intArith])
theorem Q5F:Z2 P .lss t ox oy (.int k a) (.int k b) w K=K (.bool (decide (a<b))) w:=Y8 (by simp[eqGuard,Go.binOp,Op.intCmp])
theorem Q5E:Z2 P .leq t ox oy (.int k a) (.int k b) w K=K (.bool (decide (a<=b))) w:=Y8 (by simp[eqGuard,Go.binOp,Op.intCmp])
theorem Bw:Z2 P .gtr t ox oy (.int k a) (.int k b) w K=K (.bool (decide (b<a))) w:=Y8 (by simp[eqGuard,Go.binOp,Op.intCmp])
theorem Q3c:Z2 P .geq t ox oy (.int k a) (.int k b) w K=K (.bool (decide (b<=a))) w:=Y8 (by simp[eqGuard,Go.binOp,Op.intCmp])
theorem Q3b:Z2 P .eql t ox oy (.int k a) (.int k b) w K=K (.bool (decide (a=b))) w:=Y8 (by
 simp[eqGuard,Go.binOp,Op.intCmp];rfl)
theorem Q5G:Z2 P .neq t ox oy (.int k a) (.int k b) w K=K (.bool (!decide (a=b))) w:=Y8 (by
 simp[eqGuard,Go.binOp,Op.intCmp];rfl)
theorem Q6d {b:Bool}:V4 P .not (.bool b) w K=K (.bool (!b)) w:=Y8 (by simp[Op.unary])
variable {a b : Bool}
theorem Q4B (d:Nat) (h:P.underlying t=some .bool):(Op.equalIn (d+1) t (.bool a) (.bool b)).run P w= .ok (a==b) w:=by
 simp[Op.equalIn,run_underlying h]
theorem Tu (h:P.underlying t=some .bool):(Op.equal t (.bool a) (.bool b)).run P w= .ok (a==b) w:=Q4B 9999 h
theorem Q7C (h:P.underlying t=some .bool):Z2 P .eql t ox oy (.bool a) (.bool b) w K=K (.bool (a==b)) w:=Y8 (by
 simp[eqGuard,Go.binOp,Tu h])
theorem Q7D (h:P.underlying t=some .bool):Z2 P .neq t ox oy (.bool a) (.bool b) w K=K (.bool (!(a==b))) w:=Y8 (by
 simp[eqGuard,Go.binOp,Tu h])
theorem Wc {vs:List Value} {i:Nat} {v:Value} (h:vs[i]? =some v):ext P (.tuple vs.toArray) i w K=K v w:=Y8 (by
 simp[Instr.extract,h])
theorem X6I {a b:Value}:ext P (.tuple #[a,b]) 0 w K=K a w:=Wc (vs:=[a,b]) rfl
theorem X6J {a b:Value}:ext P (.tuple #[a,b]) 1 w K=K b w:=Wc (vs:=[a,b]) rfl
theorem X4I {a b c:Value}:ext P (.tuple #[a,b,c]) 0 w K=K a w:=Wc (vs:=[a,b,c]) rfl
theorem X4K {a b c:Value}:ext P (.tuple #[a,b,c]) 1 w K=K b w:=Wc (vs:=[a,b,c]) rfl
theorem X4L {a b c:Value}:ext P (.tuple #[a,b,c]) 2 w K=K c w:=Wc (vs:=[a,b,c]) rfl
theorem A8 {n:Int} (c: -9223372036854775808<=n) (d:n<=9223372036854775807):IntKind.i64.wrap n=n:=by
 have e:n % 18446744073709551616=n\/n % 18446744073709551616=n+18446744073709551616:=by omega
 show (if (true&&decide (n % 18446744073709551616>=9223372036854775808))=true then n % 18446744073709551616-18446744073709551616 else n % 18446744073709551616)=n
 simp only[Bool.true_and,decide_eq_true_eq]
 split<;>omega
theorem w32 {n:Int} (c: -2147483648<=n) (d:n<=2147483647):IntKind.i32.wrap n=n:=by
 show (if (true&&decide (n % 4294967296>=2147483648))=true then n % 4294967296-4294967296 else n % 4294967296)=n
 simp only[Bool.true_and,decide_eq_true_eq]
 split<;>omega
variable {a b : List UInt8}
theorem Q5D (a b:List UInt8):(a==b)=decide (a=b):=by rw[Bool.eq_iff_iff];simp
theorem Kr:Z2 P .eql t ox oy (S a) (S b) w K=K (.bool (decide (a=b))) w:=Y8 (by
 simp[eqGuard,Go.binOp,Op.stringOp,Q5D])
theorem Ks:Z2 P .neq t ox oy (S a) (S b) w K=K (.bool (!decide (a=b))) w:=Y8 (by
 simp[eqGuard,Go.binOp,Op.stringOp,Q5D])
theorem Qm (l:List UInt8):(ByteArray.mk l.toArray).size=l.length:=by simp[ByteArray.size]
theorem X1U (a b:List UInt8):ByteArray.mk a.toArray++ByteArray.mk b.toArray=ByteArray.mk (a++b).toArray:=by
 apply ByteArray.ext;simp
theorem X7y:IntKind.i64.max=9223372036854775807:=by decide
theorem Q3T (h:a.length+b.length<=9223372036854775807):Z2 P .add t ox oy (S a) (S b) w K=K (S (a++b)) w:=Y8 (by
 have c: ¬(((a.length+b.length:Nat):Int)>IntKind.i64.max):=by rw[X7y];omega
 simp only[eqGuard,Go.binOp,Op.stringOp,Qm,X1U];simp only[if_neg c]
 simp)
theorem G3 {cs:List Bool} {r:TypeId} (c:P.underlying t=some .string):U7 P .len [t] r cs [S a] w K=K (I a.length) w:=by
 have h:(Builtin.len_ #[t] r #[S a]).run P w= .ok (I a.length) w:=by
  simp[Builtin.len_,run_underlying c,Qm,goInt]
 exact Y8 h
theorem Jb {i:Int} (d:P.underlying t=some .string) (c:0<=i) (h:i.toNat<a.length):K0 P t (S a) (I i) w K=K (.int .u8 (a[i.toNat]'h).toNat) w:=Y8 (by
 simp only[Instr.index,asIntOf,Sem.run_bind,Sem.run_pure,Result.andThen_ok,run_underlying d,c,if_true]
 have:(ByteArray.mk a.toArray)[i.toNat]? =some (a[i.toNat]'h):=by
  rw[getElem?_pos _ _ (by rw[Qm];exact h)]
  rfl
 rw[this];simp)
theorem Q5b (l:List UInt8) (i j:Nat):(ByteArray.mk l.toArray).extract i j=ByteArray.mk ((l.take j).drop i).toArray:=by
 apply ByteArray.ext;apply Array.ext'
 simp[List.drop_take]
theorem Lk {i:Int} (d:P.underlying t=some .string) (c:0<=i) (h:i<=a.length):G5 P t (S a) (some (I i)) none none w K=K (S (a.drop i.toNat)) w:=Y8 (by
 simp[Instr.sliceAt,Instr.slice,Instr.sliceBounds,Instr.sliceBound,asIntOf,run_underlying d,c,h,Qm,Q5b])
theorem Xl {i:Int} (d:P.underlying t=some .string) (c:0<=i) (h:i<=a.length):G5 P t (S a) none (some (I i)) none w K=K (S (a.take i.toNat)) w:=Y8 (by
 simp[Instr.sliceAt,Instr.slice,Instr.sliceBounds,Instr.sliceBound,asIntOf,run_underlying d,c,h,Qm,Q5b])
theorem Ak {s d:TypeId} {k j:IntKind} {n:Int} {ds:TypeDesc} (e:P.underlying s=some ds) (c:P.underlying d=some (.int k)):conv P s d (.int j n) w K=K (.int k (k.wrap n)) w:=Y8 (by
 simp[Go.convert,run_underlying e,run_underlying c,Conv.intToInt])
def Q2F (w:World) (r:Nat) (o:Obj):World:={w with heap:=w.heap.setIfInBounds r o}
theorem Q6j {B r:Nat} {a w:World} {o:Obj} (h:Below B a w) (d:B<=r):Below B a (Q2F w r o):=
 h.trans ⟨rfl,rfl,rfl,by simp[Q2F],fun k c=>by simp only[Q2F];rw[Array.getElem?_setIfInBounds_ne Q4]⟩
theorem X0k {w:World} {r:Nat} {o:Obj} (h:r<w.heap.size):(Q2F w r o).heap[r]? =some o:=by
 simp only[Q2F];rw[Array.getElem?_setIfInBounds_self_of_lt h]
theorem X62 {t:TypeId} {a:List UInt8} (c:P.underlying t=some .string):rng P t (S a) w K=K (.pointer (some ⟨w.heap.size,0,none⟩)) (w.alloc (.stringIter ⟨a.toArray⟩ 0)):=Y8 (by
 simp[Instr.range,run_underlying c])
theorem X5P {t:TypeId} {r pos:Nat} {s:ByteArray} (h:w.heap[r]? =some (.stringIter s pos)) (e:pos<s.size):
 W3 P (.pointer (some ⟨r,0,none⟩)) true t w K=K (.tuple #[.bool true,I pos, .int .i32 (Utf8.decode s pos).1]) (Q2F w r (.stringIter s (pos+(Utf8.decode s pos).2))):=Y8 (by
 have c: ∀(k:Obj->Sem Value),(getObj r>>=k).run P w=(k (.stringIter s pos)).run P w:=by
  intro k;rw[Sem.run_bind];simp[getObj,Sem.run,h]
 have d: ∀o,(setObj r o).run P w= .ok () (Q2F w r o):=by intro o;simp[setObj,Sem.run,h,Q2F]
 unfold Instr.next
 simp only[c,e,if_true]
 simp[d,goInt])
theorem Q9z {t:TypeId} {r pos:Nat} {s:ByteArray} (h:w.heap[r]? =some (.stringIter s pos)) (d: ¬pos<s.size):
 W3 P (.pointer (some ⟨r,0,none⟩)) true t w K=K (.tuple #[.bool false]) w:=Y8 (by
 have c: ∀(k:Obj->Sem Value),(getObj r>>=k).run P w=(k (.stringIter s pos)).run P w:=by
  intro k;rw[Sem.run_bind];simp[getObj,Sem.run,h]
 unfold Instr.next
 simp only[c,d,if_false]
 simp)
theorem X4J {a:Value}:ext P (.tuple #[a]) 0 w K=K a w:=Wc (vs:=[a]) rfl
theorem X0W {s:ByteArray} {i:Nat} (h:(s.get! i).toNat<128):Utf8.decode s i=((s.get! i).toNat,1):=by
 unfold Utf8.decode;simp only[Nat.add_zero];rw[if_pos h]
theorem Q9h {s:ByteArray} {i:Nat} (h: ¬(s.get! i).toNat<128):128<=(Utf8.decode s i).1:=by
 unfold Utf8.decode;simp only[Nat.add_zero];rw[if_neg h]
 repeat' split
 all_goals (simp only[Utf8.runeError] at*;try omega)
 all_goals (simp only[Bool.and_eq_true,decide_eq_true_eq,ge_iff_le] at*;omega)
theorem Q7P {s:ByteArray} {i:Nat}:1<=(Utf8.decode s i).2:=by
 unfold Utf8.decode;simp only
 repeat' split
 all_goals simp
def Ad (p:Int->Bool) (s:ByteArray):Nat->Nat->Bool
 | 0,_=>true
 | n+1,i=>if i<s.size then p (Utf8.decode s i).1&&Ad p s n (i+(Utf8.decode s i).2) else true
theorem Q5Y {a:List UInt8} {i:Nat} (h:i<a.length):(ByteArray.mk a.toArray).get! i=a[i]:=by
 show (ByteArray.mk a.toArray).data[i]! =a[i]
 simp[h]
theorem X0G (p:Int->Bool) (f: ∀c:Int,128<=c->p c=false) (a:List UInt8): ∀(n i:Nat),a.length-i<=n->Ad p ⟨a.toArray⟩ n i=(a.drop i).all (fun b=>p b.toNat):=by
 intro n
 induction n with
 | zero=>intro i h;rw[List.drop_eq_nil_of_le Q4];rfl
 | succ n g=>
  intro i h;simp only[Ad,Qm]
  split
  .rename_i d
   rw[List.drop_eq_getElem_cons d,List.all_cons]
   by_cases e:a[i].toNat<128
   .rw[X0W (by rw[Q5Y d];exact e),Q5Y d]
    simp only;rw[g (i+1) Q4]
   .have j:=Q9h (s:=⟨a.toArray⟩) (i:=i) (by rw[Q5Y d];exact e)
    rw[f _ Q4,f _ Q4];rfl
  .rename_i d;rw[List.drop_eq_nil_of_le Q4];rfl
theorem L9 {α:Type} {A:(α->World->Prop)->World->Prop} {B:α->(Nat->Value)->World->Prop} (h:A (fun x w=> ∀d,B x d w) w):jn w A B:=Zq _ h (fun _ d _ c=>c d)
theorem X9 {d:World->World->Prop} {A c:(Value->World->Prop)->Prop} (V:Value) (h:A (fun v _=>v=V)) (e:c (fun v _=>v=V)):Z7 d A c:=
 H7 _ (fun _ _ _ h _=>h) h e
theorem Rp {w w0:World} {A:(World->World->Prop)->(World->Prop)->Prop} (e:Below w0.heap.size w0 w)
 (h:A (fun w w'=>Below w.heap.size w w') (fun w'=>Below w0.heap.size w0 w')):dr w A:=
 Is _ _ e.drew (fun _ _ c d=>c.trans (d.mono c.size)) h
theorem Q4P {w w':World} {v V:Value} (c:Below w.heap.size w w') (h:v=V):dk (fun w w'=>Below w.heap.size w w') (fun v _=>v=V) w v w':=⟨c,h⟩
theorem Y4 {w:World} {v V:Value} (h:v=V):dk (fun w w'=>Below w.heap.size w w') (fun v _=>v=V) w v w:=⟨Below.refl _ _,h⟩
theorem Q9m {n:Nat} {fn:Func} {e:Array Value->Sem Value} {xs:List Value} {v:Value} (g:P.funcs[n]? =some fn) (i:(fn.name== "runtime.NumGoroutine")=false) (j:fn.body.isNone=true)
 (l:(Extern.findNext fn).isNone=true) (m:Extern.find fn=some e) (o:(e xs.toArray).run P w= .ok v w) (h:K v w):Q0 P n xs w K:=by
 have f:Extern.findNext fn=none:=by simpa using l
 have c: ¬fn.name= "runtime.NumGoroutine":=by simpa using i
 have d:fn.body=none:=by simpa using j
 unfold Q0;rw[Ye];unfold Xk callFunc
 simp[g,c,d,f,m,o,h]
theorem Q4T {α:Type} (p:α->Bool) (c:Nat->Bool): ∀(l:List α),(∀i (h:i<l.length),c i=p l[i])->(List.range l.length).find? c=l.findIdx? p
 | [],_=>rfl
 | x::l,h=>by
  rw[List.length_cons,List.range_succ_eq_map,List.find?_cons,List.findIdx?_cons];have d:c 0=p x:=h 0 U5;rw[d];cases p x
  .simp only[Bool.false_eq_true,if_false]
   rw[List.find?_map];have:=Q4T p (c ∘ Nat.succ) l (fun i e=>h (i+1) (by simpa using e))
   rw[this]
  .rfl
def Mr:=And.intro @H0 <| And.intro @D0 <| And.intro @B6 <| And.intro @Pl <| And.intro @Q5H <| And.intro @Q9Y <| And.intro @Q5F <| And.intro @Q5E <| And.intro @Bw <| And.intro @Q3c <| And.intro @Q3b <| And.intro @Q5G <| And.intro @Q6d <| And.intro @Kr <| And.intro @Ks <| And.intro @X6I <| And.intro @X6J <| And.intro @X4I <| And.intro @X4K <| And.intro @X4L <| And.intro @X4J <| And.intro @X4c <| And.intro @X5T <| And.intro @V5 <| And.intro @O6 <| And.intro @F7 <| And.intro @M7 <| And.intro @X3S <| And.intro @G4 <| @B5
def Mp:=And.intro @H0 <| And.intro @D0 <| And.intro @B6 <| And.intro @Pl <| And.intro @Q5H <| And.intro @Q9Y <| And.intro @Q5F <| And.intro @Q5E <| And.intro @Bw <| And.intro @Q3c <| And.intro @Q3b <| And.intro @Q5G <| And.intro @Q6d <| And.intro @Kr <| And.intro @Ks <| And.intro @X6I <| And.intro @X6J <| And.intro @X4I <| And.intro @X4K <| And.intro @X4L <| And.intro @X4J <| And.intro @V5 <| And.intro @O6 <| And.intro @F7 <| And.intro @M7 <| And.intro @G4 <| @B5
def Mb:=And.intro @Bool.true_eq_false <| And.intro @Bool.false_eq_true <| And.intro @Bool.not_true <| And.intro @Bool.not_false <| And.intro @Bool.and_true <| And.intro @Bool.true_and <| And.intro @Bool.and_false <| And.intro @Bool.false_and <| And.intro @Bool.or_true <| And.intro @Bool.true_or <| And.intro @Bool.or_false <| @Bool.false_or
end Go.Emb
namespace Go.Kd
abbrev X0:=List UInt8
def Zp (c:Int):Bool:=decide (65<=c)&&decide (c<=90)
def Yf (c:Int):Bool:=decide (97<=c)&&decide (c<=122)
def T4 (c:Int):Bool:=decide (48<=c)&&decide (c<=57)
def I3 (c:Int):Bool:=Zp c||Yf c||T4 c
def name (s:X0):Bool:=match s with
 | []=>false
 | c::_=>decide (s.length<=32)&& !T4 c.toNat&&s.all (fun b=>I3 b.toNat)
def S1 (s:X0):Bool:=match s with
 | []=>false
 | c::_=>name s&&Zp c.toNat
def C9 (s:X0):Bool:=match s with
 | []=>false
 | c::_=>name s&&Yf c.toNat
def plain (s:X0):Bool:=decide (s=[105,110,116])||decide (s=[98,111,111,108])||decide (s=[116,101,120,116])
def arr (s:X0):Bool:=decide (2<=s.length)&&decide (s.drop (s.length-2)=[91,93])
def cutA (s:X0):X0:=s.take (s.length-2)
def Jq:Nat->X0->X0×Nat
 | 0,s=>(s,0)
 | n+1,s=>if arr s then ((Jq n (cutA s)).1,(Jq n (cutA s)).2+1) else (s,0)
def base (s:X0):X0×Nat:=Jq s.length s
def right (s:X0):Bool:=decide ((base s).2<=3)&&(plain (base s).1||S1 (base s).1)
def elem (s:X0):X0:=if arr s&&right s then cutA s else []
def Zv (s:X0):Nat:=if right s then (base s).2 else 0
def Zh (s:X0):X0×X0×Bool:=match s with
 | []=>([],[],false)
 | c::r=>if c=46 then ([],r,true) else ((c::(Zh r).1),(Zh r).2.1,(Zh r).2.2)
def Us (s:X0):Bool:=(Zh s).2.2&&S1 (Zh s).1&&C9 (Zh s).2.1
def Q3j (c:UInt8) (s:X0):Int:=match s.findIdx? (fun b=>decide (b=c)) with
 | some i=>i
 | none=> -1
def Q4R (s:X0) (o:Option Nat):X0×X0×Bool:=match o with
 | some i=>(s.take i,s.drop (i+1),true)
 | none=>(s,[],false)
theorem Am (s:X0):Zh s=Q4R s (s.findIdx? (fun b=>decide (b=46))):=by
 induction s with
 | nil=>rfl
 | cons c r a=>
  rw[List.findIdx?_cons];simp only[Zh]
  by_cases h:c=46
  .simp[h,Q4R]
  .simp only[h,if_false,decide_false,Bool.false_eq_true]
   rw[a];cases r.findIdx? (fun b=>decide (b=46)) with
   | none=>simp[Q4R]
   | some i=>simp[Q4R]
end Go.Kd
namespace Go.Proofs.Y
open Go.Emb Go.RowKit Go.Kd
variable {w : World} {K : Value -> World -> Prop}
theorem Y9:P.underlying T.c=some .string:=by kernel_rfl
theorem He:P.underlying T.f=some (.int .i64):=by kernel_rfl
theorem Q5z:P.underlying T.q=some .bool:=by kernel_rfl
theorem Q6c:P.underlying T.a9=some (.int .u8):=by kernel_rfl
theorem X0v:P.underlying T.aq=some (.int .i32):=by kernel_rfl
theorem X0c (c:Int) (h:K (.bool (Zp c)) w):Q0 P F.co [.int .i32 c] w K:=Q8G (by
 unfold Q2o X6
 (try simp only[↓Mr,Mr,Mb,reduceIte])
 cases a:decide (65<=c)<;>simp only[a,↓Mr,Mr,Mb,reduceIte]<;>simpa [Zp,a] using h)
theorem X0d (c:Int) (h:K (.bool (Yf c)) w):Q0 P F.cp [.int .i32 c] w K:=Q8H (by
 unfold Q2p X6
 (try simp only[↓Mr,Mr,Mb,reduceIte])
 cases a:decide (97<=c)<;>simp only[a,↓Mr,Mr,Mb,reduceIte]<;>simpa [Yf,a] using h)
theorem X5J (c:Int) (h:K (.bool (I3 c)) w):Q0 P F.cd [.int .i32 c] w K:=Q7h (by
 unfold Q1e X6;refine X0c c ?_;cases a:Zp c
 ·(try simp only[↓Mr,Mr,Mb,reduceIte])
  refine X0d c ?_;cases b:Yf c
  ·(try simp only[↓Mr,Mr,Mb,reduceIte])
   cases d:decide (48<=c)
   ·(try simp only[↓Mr,Mr,Mb,reduceIte])
    simpa [I3,T4,a,b,d] using h
   ·(try simp only[↓Mr,Mr,Mb,reduceIte])
    simpa [I3,T4,a,b,d] using h
  ·(try simp only[↓Mr,Mr,Mb,reduceIte])
   simpa [I3,a,b] using h
 ·(try simp only[↓Mr,Mr,Mb,reduceIte])
  simpa [I3,a] using h)
theorem X7t (a:List UInt8) (f:Value) (p:Int->Bool) (l: ∀(c:Int) (w:World) (K:Value->World->Prop),K (.bool (p c)) w->U2 P f [.int .i32 c] w K)
 (h: ∀w',Below w.heap.size w w'->K (.bool (Ad p ⟨a.toArray⟩ a.length 0)) w'):Q0 P F.cL [S a,f] w K:=X1v (by
 unfold Q52;rw[X62 Y9]
 refine Nk (fun _ w'=> ∃pos n:Nat,a.length-pos<=n/\Ad p ⟨a.toArray⟩ a.length 0=Ad p ⟨a.toArray⟩ n pos/\Below w.heap.size w w'/\w'.heap[w.heap.size]? =some (.stringIter ⟨a.toArray⟩ pos))
  (fun _ w'=>match w'.heap[w.heap.size]? with | some (.stringIter _ pos)=>a.length-pos | _=>0) ⟨0,a.length,by omega,rfl,(Below.refl _ _).alloc (Nat.le_refl _) _,heap_alloc_new w _⟩ ?_
 rintro _ _ w1 ⟨pos,n,q,b,j,e⟩
 by_cases g:pos<a.length
 .rw[X5P e (by rw[Qm];exact g)]
  (try simp only[↓Mr,Mr,Mb,reduceIte])
  refine l _ _ _ ?_;obtain ⟨n,rfl⟩: ∃m,n=m+1:=⟨n-1,by omega⟩
  simp only[Ad,Qm,g,if_true] at b;have r:=Q7P (s:=⟨a.toArray⟩) (i:=pos);have d:w.heap.size<w1.heap.size:=(Array.getElem?_eq_some_iff.1 e).1;cases k:p (Utf8.decode ⟨a.toArray⟩ pos).1
  ·(try simp only[↓Mr,Mr,Mb,reduceIte])
   rw[k] at b;have:=h _ (Q6j (o:= .stringIter ⟨a.toArray⟩ (pos+(Utf8.decode ⟨a.toArray⟩ pos).2)) j (Nat.le_refl _));rw[b] at this;exact this
  ·(try simp only[↓Mr,Mr,Mb,reduceIte])
   rw[k] at b;refine ⟨⟨_,n,?_,b,Q6j j (Nat.le_refl _),X0k d⟩,?_⟩
   .omega
   .simp only[X0k d,e];omega
 .rw[Q9z e (by rw[Qm];exact g)]
  (try simp only[↓Mr,Mr,Mb,reduceIte])
  have:Ad p ⟨a.toArray⟩ n pos=true:=by
   cases n with
   | zero=>rfl
   | succ n=>simp only[Ad,Qm,g,if_false]
  rw[<-this,<-b];exact h _ j)
theorem X0H (c:Int) (h:128<=c):I3 c=false:=by
 simp[I3,Zp,Yf,T4];omega
theorem Q8c (a:List UInt8) (n:a.length<=140737488355328) (h: ∀w',Below w.heap.size w w'->K (.bool (name a)) w'):Q0 P F.c6 [S a] w K:=Q9K (by
 unfold Q47 X6 Y2 X4 V2
 have d: ∀c r,a=c::r->(decide (a.length<=32)&& !T4 c.toNat)=true->Q0 P F.cL [S a,(.func (.func F.cd) #[] #[])] w K:=by
  intro c r m b;refine X7t a _ I3 (fun c w K h=>U0 (first:=[]) (caps:=[]) (X5J c h)) fun w' l=>?_
  rw[X0G _ X0H a _ _ Q4];have:=h w' l;rw[m] at this b⊢;simp only[name] at this;rw[b,Bool.true_and] at this
  simpa using this
 cases a with
 | nil=>
  simp only[↓Mr,Mr,Mb,reduceIte,decide_true];exact h w (Below.refl _ _)
 | cons c r=>
  have g:decide (c::r=[])=false:=by simp
  simp only[↓Mr,Mr,Mb,reduceIte,g,G3 Y9]
  by_cases k:(c::r).length<=32
  .have e:r.length<=31:=by simpa using k
   have b:decide ((32:Int)<((c::r).length:Int))=false:=by simp only[decide_eq_false_iff_not];omega
   simp only[↓Mr,Mr,Mb,reduceIte,b];rw[Jb Y9 Q4 U5]
   (try simp only[↓Mr,Mr,Mb,reduceIte])
   have j:(c::r)[(0:Int).toNat]'(by simp)=c:=rfl
   simp only[j];cases f:decide ((48:Int)<=(c.toNat:Int))
   ·(try simp only[↓Mr,Mr,Mb,reduceIte])
    exact d c r rfl (by simp[T4,e,f])
   ·(try simp only[↓Mr,Mr,Mb,reduceIte])
    rw[Jb Y9 Q4 U5];simp only[↓Mr,Mr,Mb,reduceIte,j];cases i:decide ((c.toNat:Int)<=57)
    ·(try simp only[↓Mr,Mr,Mb,reduceIte])
     exact d c r rfl (by simp only[T4,f,i];simp[e])
    ·(try simp only[↓Mr,Mr,Mb,reduceIte])
     have:name (c::r)=false:=by simp only[name,T4,f,i];simp
     rw[<-this];exact h w (Below.refl _ _)
  .have b:decide ((32:Int)<((c::r).length:Int))=true:=by simp only[decide_eq_true_eq];omega
   simp only[↓Mr,Mr,Mb,reduceIte,b];have:name (c::r)=false:=by simp only[name];rw[decide_eq_false k];rfl
   rw[<-this];exact h w (Below.refl _ _))
theorem Bx (a:List UInt8) (e:a.length<=140737488355328) (h: ∀w',Below w.heap.size w w'->K (.bool (S1 a)) w'):Q0 P F.aj [S a] w K:=Q8C (by
 unfold Q2k X6;refine Q8c a e fun w1 b=>?_;cases a with
 | nil=>
  simp only[name,↓Mr,Mr,Mb,reduceIte];exact h w1 b
 | cons c r=>
  cases d:name (c::r)
  ·(try simp only[↓Mr,Mr,Mb,reduceIte])
   have:=h w1 b;simp only[S1,d] at this
   simpa using this
  ·(try simp only[↓Mr,Mr,Mb,reduceIte])
   rw[Jb Y9 Q4 U5];have f:(c::r)[(0:Int).toNat]'(by simp)=c:=rfl
   simp only[f];rw[Ak Q6c X0v,w32 Q4 (by have:=c.toNat_lt;omega)]
   refine X0c _ ?_
   (try simp only[↓Mr,Mr,Mb,reduceIte])
   have:=h w1 b;simp only[S1,d] at this
   simpa using this)
theorem By (a:List UInt8) (h:K (.bool (plain a)) w):Q0 P F.aL [S a] w K:=Q8E (by
 unfold Q2m X6 V2
 (try simp only[↓Mr,Mr,Mb,reduceIte])
 cases b:decide (a=[105,110,116])<;>(try simp only[↓Mr,Mr,Mb,reduceIte])
 .cases c:decide (a=[98,111,111,108])<;>(try simp only[↓Mr,Mr,Mb,reduceIte])<;>simpa [plain,b,c] using h
 .simpa [plain,b] using h)
def Wp (a b:List UInt8):Bool:=decide (b.length<=a.length)&&decide (a.drop (a.length-b.length)=b)
theorem Rt (a b:List UInt8) (e:a.length<=140737488355328) (f:b.length<=140737488355328) (h:K (.bool (Wp a b)) w):Q0 P F.ad [S a,S b] w K:=Ij (by
 unfold Lx X6 Y2 X5;rw[G3 Y9,G3 Y9]
 (try simp only[↓Mr,Mr,Mb,reduceIte])
 by_cases d:b.length<=a.length
 .have c:decide ((b.length:Int)<=a.length)=true:=by simp only[decide_eq_true_eq];omega
  simp only[↓Mr,Mr,Mb,reduceIte,c,G3 Y9];rw[A8 Q4 Q4,Lk Y9 Q4 Q4]
  (try simp only[↓Mr,Mr,Mb,reduceIte])
  rw[show ((a.length:Int)-b.length).toNat=a.length-b.length from by omega]
  simpa [Wp,d] using h
 .have c:decide ((b.length:Int)<=a.length)=false:=by simp only[decide_eq_false_iff_not];omega
  simp only[↓Mr,Mr,Mb,reduceIte,c]
  simpa [Wp,d] using h)
theorem Q9s (a b:List UInt8) (c:a.length<=140737488355328) (d:b.length<=140737488355328) (h:K (.bool (Wp a b)) w):Q0 P F.bI [S a,S b] w K:=Q1R (by
 unfold Rj;exact Rt a b c d h)
def Sb (a b:List UInt8):List UInt8:=if Wp a b then a.take (a.length-b.length) else a
theorem Q6D {a b:List UInt8} (h:Wp a b=true):b.length<=a.length:=by
 simp only[Wp,Bool.and_eq_true,decide_eq_true_eq] at h;exact h.1
theorem Q8d (a b:List UInt8) (d:a.length<=140737488355328) (e:b.length<=140737488355328) (h:K (S (Sb a b)) w):Q0 P F.bw [S a,S b] w K:=Q0R (by
 unfold Eo;refine Gl ?_;unfold Wn Y2 X5;refine Rt a b d e ?_;cases c:Wp a b
 ·(try simp only[↓Mr,Mr,Mb,reduceIte])
  simpa [Sb,c] using h
 .have f:=Q6D c
  simp only[↓Mr,Mr,Mb,reduceIte,G3 Y9];rw[A8 Q4 Q4,Xl Y9 Q4 Q4];rw[show ((a.length:Int)-b.length).toNat=a.length-b.length from by omega]
  simpa [Sb,c] using h)
theorem Q9r (a b:List UInt8) (d:a.length<=140737488355328) (e:b.length<=140737488355328) (h:K (.tuple #[S (Sb a b), .bool (Wp a b)]) w):Q0 P F.bH [S a,S b] w K:=Q1Q (by
 unfold Ri;simp only[D2];refine Ii ?_;unfold Lw Y2 X5;refine Rt a b d e ?_;cases c:Wp a b
 ·(try simp only[↓Mr,Mr,Mb,reduceIte])
  simpa [Sb,c] using h
 .have f:=Q6D c
  simp only[↓Mr,Mr,Mb,reduceIte,G3 Y9];rw[A8 Q4 Q4,Xl Y9 Q4 Q4];rw[show ((a.length:Int)-b.length).toNat=a.length-b.length from by omega]
  (try simp only[↓Mr,Mr,Mb,reduceIte])
  simpa [Sb,c] using h)
theorem Q55 (a:List UInt8):Wp a [91,93]=arr a:=rfl
theorem Q4h (a:List UInt8):Sb a [91,93]=if arr a then Kd.cutA a else a:=rfl
theorem Qo {a:List UInt8} (h:arr a=true):(Kd.cutA a).length+2=a.length:=by
 simp only[arr,Bool.and_eq_true,decide_eq_true_eq] at h;simp only[Kd.cutA,List.length_take];omega
theorem Q4I: ∀(n m:Nat) (a:List UInt8),a.length<=n->a.length<=m->Jq n a=Jq m a
 | 0,0,a,_,_=>rfl
 | 0,m+1,a,h,_=>by
  have:a=[]:=List.eq_nil_of_length_eq_zero Q4;subst this;rfl
 | n+1,0,a,_,h=>by
  have:a=[]:=List.eq_nil_of_length_eq_zero Q4;subst this;rfl
 | n+1,m+1,a,b,c=>by
  simp only[Jq]
  split
  .rename_i h
   have:=Qo h;rw[Q4I n m (Kd.cutA a) Q4 Q4]
  .rfl
theorem Zt (a:List UInt8):base a=if arr a then ((base (Kd.cutA a)).1,(base (Kd.cutA a)).2+1) else (a,0):=by
 unfold base;cases b:a.length with
 | zero=>
  have:a=[]:=List.eq_nil_of_length_eq_zero b;subst this;rfl
 | succ n=>
  simp only[Jq]
  split
  .rename_i h
   have:=Qo h;rw[Q4I n (Kd.cutA a).length (Kd.cutA a) Q4 (Nat.le_refl _)]
  .rfl
theorem Q39 (a:List UInt8):(base a).1.length+2*(base a).2=a.length:=by
 have key: ∀n (a:List UInt8),(Jq n a).1.length+2*(Jq n a).2=a.length:=by
  intro n
  induction n with
  | zero=>intro a;simp[Jq]
  | succ n b=>
   intro a;simp only[Jq]
   split
   .rename_i h
    have:=Qo h;have:=b (Kd.cutA a);simp only;omega
   .simp
 exact key _ a
theorem X2B (a:List UInt8) (e:a.length<=140737488355328) (h:K (.tuple #[S (base a).1,I (base a).2]) w):Q0 P F.cD [S a] w K:=Q9L (by
 unfold Q48 X4
 refine Nk (fun x w'=>w'=w/\ ∃(b:List UInt8) (n:Nat),x=(S b,I n)/\b.length+2*n=a.length/\base a=((base b).1,(base b).2+n)) (fun x _=>match x.1 with | .string s=>s.size | _=>0)
  ⟨rfl,a,0,rfl,by omega,rfl⟩ ?_
 rintro _ _ _ ⟨rfl,b,n,rfl,g,d⟩;refine Q9s b _ Q4 U5 ?_;rw[Q55];cases c:arr b
 ·(try simp only[↓Mr,Mr,Mb,reduceIte])
  rw[Zt b,c] at d;simp only[Bool.false_eq_true,if_false,Nat.zero_add] at d;rw[d] at h;exact h
 ·(try simp only[↓Mr,Mr,Mb,reduceIte])
  refine Q8d b _ Q4 U5 ?_;rw[Q4h,c];simp only[↓Mr,Mr,Mb,reduceIte,if_true];have f:=Qo c;rw[A8 Q4 Q4];refine ⟨⟨by first | rfl | trivial,Kd.cutA b,n+1,by simp,by omega,?_⟩,?_⟩
  .rw[d,Zt b,c];simp;omega
  .simp only[Qm];omega)
theorem Ut (a:List UInt8) (e:a.length<=140737488355328) (h: ∀w',Below w.heap.size w w'->K (.bool (right a)) w'):Q0 P F.a2 [S a] w K:=Q8F (by
 unfold Q2n;simp only[D2];unfold X6 X4;have g:=Q39 a;refine X2B a e ?_
 (try simp only[↓Mr,Mr,Mb,reduceIte])
 by_cases c:(base a).2<=3
 .have b:decide (((base a).2:Int)<=3)=true:=by simp only[decide_eq_true_eq];omega
  simp only[↓Mr,Mr,Mb,reduceIte,b];refine By _ ?_;cases d:plain (base a).1
  ·(try simp only[↓Mr,Mr,Mb,reduceIte])
   refine Bx _ Q4 fun w1 f=>?_
   (try simp only[↓Mr,Mr,Mb,reduceIte])
   have:=h w1 f;simp only[right,c,d] at this
   simpa using this
  ·(try simp only[↓Mr,Mr,Mb,reduceIte])
   have:=h w (Below.refl _ _);simp only[right,c,d] at this
   simpa using this
 .have b:decide (((base a).2:Int)<=3)=false:=by simp only[decide_eq_false_iff_not];omega
  simp only[↓Mr,Mr,Mb,reduceIte,b];have:=h w (Below.refl _ _);simp only[right,c] at this
  simpa using this)
theorem Q8b (a:List UInt8) (c:a.length<=140737488355328) (h: ∀w',Below w.heap.size w w'->K (S (elem a)) w'):Q0 P F.c5 [S a] w K:=Q9J (by
 unfold Q46;simp only[D2];unfold X6;refine Q9r a _ c U5 ?_;rw[Q55,Q4h]
 (try simp only[↓Mr,Mr,Mb,reduceIte])
 cases b:arr a
 ·(try simp only[↓Mr,Mr,Mb,reduceIte])
  have:=h w (Below.refl _ _);simp only[elem,b] at this;exact this
 ·(try simp only[↓Mr,Mr,Mb,reduceIte])
  refine Ut a c fun w1 e=>?_;have:=h w1 e;cases d:right a
  ·(try simp only[↓Mr,Mr,Mb,reduceIte])
   simp only[elem,b,d] at this;exact this
  .simp only[↓Mr,Mr,Mb,reduceIte,if_true]
   simp only[elem,b,d] at this;exact this)
theorem X2A (a:List UInt8) (b:a.length<=140737488355328) (h: ∀w',Below w.heap.size w w'->K (I (Zv a)) w'):Q0 P F.cC [S a] w K:=Q9I (by
 unfold Q45;simp only[D2];refine X2B a b ?_
 (try simp only[↓Mr,Mr,Mb,reduceIte])
 refine Ut a b fun w1 d=>?_;have:=h w1 d;cases c:right a<;>(try simp only[↓Mr,Mr,Mb,reduceIte])<;>simpa [Zv,c] using this)
theorem X8g (a:List UInt8) (i:a.length<=140737488355320) (h: ∀w',Below w.heap.size w w'->K (if right a&&decide (Zv a≠3) then .tuple #[S (a++[91,93]),I 0] else .tuple #[S [],I 30]) w'):Q0 P F.d0 [S a] w K:=X30 (by
 unfold Q6z X6 X4 V2;refine Ut a Q4 fun w1 d=>?_;cases c:right a
 ·(try simp only[↓Mr,Mr,Mb,reduceIte])
  have:=h w1 d;simp only[c] at this
  simpa using this
 ·(try simp only[↓Mr,Mr,Mb,reduceIte])
  refine X2A a Q4 fun g e=>?_;have:=h g (d.trans (e.mono d.size))
  by_cases f:Zv a=3
  .have b:decide ((Zv a:Int)=3)=true:=by simp only[decide_eq_true_eq];omega
   simp only[↓Mr,Mr,Mb,reduceIte,b];simp only[c,f] at this
   simpa using this
  .have b:decide ((Zv a:Int)=3)=false:=by simp only[decide_eq_false_iff_not];omega
   simp only[↓Mr,Mr,Mb,reduceIte,b];rw[Q3T (by simp;omega)]
   simp only[c] at this
   simpa [f] using this)
theorem Q3F (a:List UInt8) (c:UInt8) (h:K (I (Q3j c a)) w):Q0 P F.bY [S a, .int .u8 c.toNat] w K:=by
 refine Q9m (e:=Extern.BytealgIndexByte.indexByte) Tryz.func241 L2 rfl X8 X8 ?_ h
 have d:((List.range (ByteArray.mk a.toArray).size).find? fun i=>(ByteArray.mk a.toArray)[i]! ==c)=a.findIdx? (fun b=>decide (b=c)):=by
  rw[Qm];refine Q4T _ _ a fun i g=>?_
  have:(ByteArray.mk a.toArray)[i]! =a[i]:=by
   rw[getElem!_pos _ _ (by rw[Qm];exact g)];rfl
  rw[this,Bool.eq_iff_iff];simp
 have f:((c.toNat:Int).toNat.toUInt8)=c:=by simp
 have:=run_indexByte_string (P:=P) ⟨a.toArray⟩ c.toNat w;rw[f] at this;refine this.trans ?_;unfold firstIdx Q3j;rw[d];cases a.findIdx? (fun b=>decide (b=c))<;>rfl
theorem X3X (a:List UInt8) (c:UInt8) (h:K (I (Q3j c a)) w):Q0 P F.bK [S a,S [c]] w K:=Q1T (by
 unfold Rl X6 Y2 X4 X5;simp only[G3 Y9];have f:decide ((([c]:List UInt8).length:Int)=0)=false:=rfl;have g:decide ((([c]:List UInt8).length:Int)=1)=true:=rfl;simp only[Q3b,f,g];simp only[↓Mr,Mr,Mb,reduceIte]
 have b:K0 P T.c (S [c]) (I 0) w fun d w=>Q0 P F.ay [S a,d] w fun e w=>K e w:=by
  rw[Jb Y9 Q4 U5];refine Ik ?_;unfold Ly;exact Q3F a c h
 cases i:decide ([c]=a)
 ·(try simp only[↓Mr,Mr,Mb,reduceIte])
  exact b
 ·(try simp only[↓Mr,Mr,Mb,reduceIte])
  have j:[c]=a:=by simpa using i
  have:Q3j c a=0:=by rw[<-j];simp[Q3j,List.findIdx?_cons]
  rw[this] at h;exact h)
theorem X3Q {c:UInt8} {a:List UInt8} {i:Nat} (h:a.findIdx? (fun b=>decide (b=c))=some i):i<a.length:=by
 have:=List.findIdx?_eq_some_iff_getElem.1 h;exact this.1
theorem X7s (a:List UInt8) (f:a.length<=140737488355328) (h: ∀w',Below w.heap.size w w'->K (.tuple #[S (Zh a).1,S (Zh a).2.1, .bool (Zh a).2.2]) w'):Q0 P F.cJ [S a,S [46]] w K:=Q7i (by
 unfold Q1f;simp only[D2];refine Q3P ?_;unfold Bc;simp only[Y5,X3];unfold Y2 X4 X5;refine X3X a 46 ?_;rw[Am] at h;unfold Q3j;cases c:a.findIdx? (fun b=>decide (b=46)) with
 | none=>
  simp only[↓Mr,Mr,Mb,reduceIte,show decide ((0:Int)<= -1)=false from rfl]
  have:=h w (Below.refl _ _);rw[c] at this;exact this
 | some i=>
  have g:=X3Q c;have d:decide ((0:Int)<=(i:Int))=true:=by simp
  simp only[Q3c,d];simp only[↓Mr,Mr,Mb,reduceIte];refine Rp (Below.refl _ w) ?_;refine X9 (S (a.take i)) (fun w1 _=>?_) ?_
  .rw[Xl Y9 Q4 Q4];exact Y4 U5
  refine X9 (I 1) (fun w1 _=>?_) ?_
  .rw[G3 Y9];exact Y4 rfl
  refine X9 (I (i+1)) ?_ ?_
  .rintro _ w1 _ rfl
   rw[Pl,A8 Q4 Q4];exact Y4 rfl
  refine X9 (S (a.drop (i+1))) ?_ ?_
  .rintro _ w1 _ rfl
   rw[Lk Y9 Q4 Q4];exact Y4 U5
  rintro _ _ _ _ w1 e rfl rfl rfl rfl
  (try simp only[↓Mr,Mr,Mb,reduceIte])
  have:=h w1 e;rw[c] at this;exact this)
theorem X5I (a:List UInt8) (t:a.length<=140737488355328) (h: ∀w',Below w.heap.size w w'->K (if Us a then .tuple #[S (Zh a).1,S (Zh a).2.1,I 0] else .tuple #[S [],S [],I 30]) w'):Q0 P F.cQ [S a] w K:=Q8D (by
 unfold Q2l;simp only[D2];unfold X6;refine X7s a t fun w1 e=>?_
 have s:(Zh a).1.length<=a.length/\(Zh a).2.1.length<=a.length:=by
  rw[Am];cases a.findIdx? (fun b=>decide (b=46))<;>simp[Q4R]
  omega
 generalize u:(Zh a).1=p at h s;generalize v:(Zh a).2.1=q at h s;have k:Us a=((Zh a).2.2&&S1 p&&C9 q):=by rw[Us,u,v]
 cases j:(Zh a).2.2
 .simp only[↓Mr,Mr,Mb,reduceIte]
  have:=h w1 e;rw[k,j] at this;simpa using this
 .simp only[↓Mr,Mr,Mb,reduceIte]
  refine Bx p Q4 fun z g=>?_;have d:=e.trans (g.mono e.size);cases o:S1 p
  ·(try simp only[↓Mr,Mr,Mb,reduceIte])
   have:=h z d;rw[k,j,o] at this;simpa using this
  ·(try simp only[↓Mr,Mr,Mb,reduceIte])
   refine Q8c q Q4 fun A i=>?_;have f:=d.trans (i.mono d.size);have:=h A f;rw[k,j,o] at this;cases n:name q
   ·(try simp only[↓Mr,Mr,Mb,reduceIte])
    have m:C9 q=false:=by cases q with | nil=>rfl | cons c r=>simp[C9,n]
    rw[m] at this;simpa using this
   ·(try simp only[↓Mr,Mr,Mb,reduceIte])
    cases q with
    | nil=>simp[name] at n
    | cons c r=>
     rw[Jb Y9 Q4 U5];have l:(c::r)[(0:Int).toNat]'(by simp)=c:=rfl
     (try simp only[↓Mr,Mr,Mb,reduceIte])
     rw[l,Ak Q6c X0v,w32 Q4 (by have:=c.toNat_lt;omega)]
     refine X0d _ ?_;have m:C9 (c::r)=Yf c.toNat:=by simp[C9,n]
     rw[m] at this;cases y:Yf c.toNat<;>(try simp only[↓Mr,Mr,Mb,reduceIte])<;>rw[y] at this<;>simpa using this)
theorem Ck (a:List UInt8) (h:K (.bool (plain a)) w):Q0 P F.z [S a] w K:=Q0E (by
 unfold Eb V2;refine L9 ?_
 (try simp only[↓Mr,Mr,Mb,reduceIte])
 cases b:decide (a=[105,110,116])
 .cases c:decide (a=[98,111,111,108])
  .cases d:decide (a=[116,101,120,116])<;>(try simp only[↓Mr,Mr,Mb,reduceIte])<;>intro _<;>(try simp only[↓Mr,Mr,Mb,reduceIte])<;>simpa [plain,b,c,d] using h
  ·(try simp only[↓Mr,Mr,Mb,reduceIte])
   intro _
   (try simp only[↓Mr,Mr,Mb,reduceIte])
   simpa [plain,b,c] using h
 ·(try simp only[↓Mr,Mr,Mb,reduceIte])
  intro _
  (try simp only[↓Mr,Mr,Mb,reduceIte])
  simpa [plain,b] using h)
def X4w (a:List UInt8) (w:World) (x:Value) (w':World):Prop:=
 w=w'/\ ∃i:Nat,x=I i/\i<=a.length/\(0<i->(a.head?.map fun c=>T4 c.toNat)=some false)/\(a.take i).all (fun b=>I3 b.toNat)=true
def Q7l (a:List UInt8) (x:Value):Nat:=match x with | .int _ i=>a.length-i.toNat | _=>0
theorem Q8J (a:List UInt8) (O:a.length<=140737488355328) (h:K (.bool (name a)) w):Q0 P F.aQ [S a] w K:=Q1G (by
 unfold Hx V6 X6 Y2 X4 X5;refine Nk (X4w a w) (fun x _=>Q7l a x) ⟨rfl,0,rfl,by omega,by omega,by simp⟩ ?_
 rintro _ _ _ ⟨rfl,i,rfl,Q,M,k⟩;rw[G3 Y9]
 (try simp only[↓Mr,Mr,Mb,reduceIte])
 by_cases l:i<a.length
 .have B:decide ((i:Int)<a.length)=true:=by simp only[decide_eq_true_eq];omega
  simp only[B,↓Mr,Mr,Mb,reduceIte]
  have d: ∀z:Value->World->Prop,K0 P T.c (S a) (I i) w z=z (.int .u8 (a[i]'l).toNat) w:=fun z=>by
   rw[Jb Y9 Q4 (by simpa using l)];simp
  generalize q:a[i]=c at d
  have e:I3 c.toNat=false\/(i=0/\T4 c.toNat=true)->name a=false:=by
   intro y;cases a with
   | nil=>rfl
   | cons L r=>
    simp only[name]
    rcases y with y | ⟨rfl,y⟩
    .have:(L::r).all (fun b=>I3 b.toNat)=false:=by
      rw[List.all_eq_false];exact ⟨c,by rw[<-q];exact List.getElem_mem _,by simp[y]⟩
     rw[this];simp
    .simp only[List.getElem_cons_zero] at q
     rw[q,y];simp
  have f:I3 c.toNat=true->(i=0->T4 c.toNat=false)->X4w a w (I (IntKind.i64.wrap ((i:Int)+1))) w/\Q7l a (I (IntKind.i64.wrap ((i:Int)+1)))<Q7l a (I i):=by
   intro D H;rw[A8 Q4 Q4];refine ⟨⟨rfl,i+1,by simp,by omega,fun _=>?_,?_⟩,by simp only[Q7l];omega⟩
   .by_cases p:0<i
    .exact M p
    .obtain rfl:i=0:=by omega
     cases a with
     | nil=>simp at l
     | cons L r=>simp only[List.getElem_cons_zero] at q;subst q;simp[H rfl]
   .rw[List.take_add_one,List.getElem?_eq_getElem l,q]
    simp[k,D]
  have E:=c.toNat_lt;have t:decide ((i:Int)=0)=decide (i=0):=by rw[Bool.eq_iff_iff];simp
  by_cases n:97<=(c.toNat:Int)
  .by_cases A:(c.toNat:Int)<=122
   .simp only[d,decide_eq_true n,decide_eq_true A,↓Mr,Mr,Mb,reduceIte]
    exact f (by simp[I3,Yf,n,A]) (fun _=>by simp[T4];omega)
   .have o:(65:Int)<=c.toNat:=by omega
    have s: ¬(c.toNat:Int)<=90:=by omega
    have g: ¬(c.toNat:Int)<48:=by omega
    have j:(57:Int)<c.toNat:=by omega
    simp only[d,decide_eq_true n,decide_eq_false A,decide_eq_true o,decide_eq_false s,decide_eq_false g,decide_eq_true j,t,↓Mr,Mr,Mb,reduceIte];have m:=e (.inl (by simp[I3,Zp,Yf,T4];omega))
    rw[m] at h;cases decide (i=0)<;>(try simp only[d,decide_eq_false g,decide_eq_true j,↓Mr,Mr,Mb,reduceIte])<;>exact h
  .by_cases o:(65:Int)<=c.toNat
   .by_cases s:(c.toNat:Int)<=90
    .simp only[d,decide_eq_false n,decide_eq_true o,decide_eq_true s,↓Mr,Mr,Mb,reduceIte]
     exact f (by simp[I3,Zp,o,s]) (fun _=>by simp[T4];omega)
    .have g: ¬(c.toNat:Int)<48:=by omega
     have j:(57:Int)<c.toNat:=by omega
     simp only[d,decide_eq_false n,decide_eq_true o,decide_eq_false s,decide_eq_false g,decide_eq_true j,t,↓Mr,Mr,Mb,reduceIte];have m:=e (.inl (by simp[I3,Zp,Yf,T4];omega))
     rw[m] at h;cases decide (i=0)<;>(try simp only[d,decide_eq_false g,decide_eq_true j,↓Mr,Mr,Mb,reduceIte])<;>exact h
   .by_cases g:(c.toNat:Int)<48
    .simp only[d,decide_eq_false n,decide_eq_false o,decide_eq_true g,t,↓Mr,Mr,Mb,reduceIte]
     have m:=e (.inl (by simp[I3,Zp,Yf,T4];omega))
     rw[m] at h;cases decide (i=0)<;>(try simp only[d,decide_eq_true g,↓Mr,Mr,Mb,reduceIte])<;>exact h
    .by_cases j:(57:Int)<c.toNat
     .simp only[d,decide_eq_false n,decide_eq_false o,decide_eq_false g,decide_eq_true j,t,↓Mr,Mr,Mb,reduceIte]
      have m:=e (.inl (by simp[I3,Zp,Yf,T4];omega))
      rw[m] at h;cases decide (i=0)<;>(try simp only[d,decide_eq_false g,decide_eq_true j,↓Mr,Mr,Mb,reduceIte])<;>exact h
     .have v:T4 c.toNat=true:=by simp[T4];omega
      simp only[d,decide_eq_false n,decide_eq_false o,decide_eq_false g,decide_eq_false j,t,↓Mr,Mr,Mb,reduceIte]
      by_cases p:i=0
      .have m:=e (.inr ⟨p,v⟩)
       rw[m] at h;simp only[decide_eq_true p,d,decide_eq_false g,decide_eq_false j,↓Mr,Mr,Mb,reduceIte];exact h
      .simp only[decide_eq_false p,d,decide_eq_false g,decide_eq_false j,↓Mr,Mr,Mb,reduceIte]
       exact f (by simp[I3,v]) (fun h=>absurd h p)
 .have B:decide ((i:Int)<a.length)=false:=by simp only[decide_eq_false_iff_not];omega
  obtain rfl:i=a.length:=by omega
  simp only[B,↓Mr,Mr,Mb,reduceIte];rw[G3 Y9];cases a with
  | nil=>
   have C:decide ((1:Int)<=(([]:List UInt8).length:Int))=false:=rfl;simp only[C,↓Mr,Mr,Mb,reduceIte];exact h
  | cons c r=>
   have C:decide ((1:Int)<=((c::r).length:Int))=true:=by simp only[decide_eq_true_eq,List.length_cons];omega
   have u:=M U5;simp only[List.head?_cons,Option.map_some,Option.some.injEq] at u;simp only[List.take_length] at k;have J:name (c::r)=decide ((c::r).length<=32):=by simp only[name,u,k];simp
   have N:decide (((c::r).length:Int)<=32)=decide ((c::r).length<=32):=by rw[Bool.eq_iff_iff];simp only[decide_eq_true_eq];omega
   simp only[C,G3 Y9,N,↓Mr,Mr,Mb,reduceIte];rw[<-J];exact h)
theorem Av {c:UInt8} {r:List UInt8} (h:name (c::r)=true):I3 c.toNat=true/\T4 c.toNat=false:=by
 simp only[name,Bool.and_eq_true,List.all_cons,Bool.not_eq_true'] at h;exact ⟨h.2.1,h.1.2⟩
theorem Jo (a:List UInt8) (g:a.length<=140737488355328) (h:K (.bool (S1 a)) w):Q0 P F.d [S a] w K:=Q0C (by
 unfold Dz X6;refine Q8J a g ?_;cases a with
 | nil=>simp only[name,↓Mr,Mr,Mb,reduceIte];exact h
 | cons c r=>
  cases d:name (c::r)
  ·(try simp only[↓Mr,Mr,Mb,reduceIte])
   simpa [S1,d] using h
  ·(try simp only[↓Mr,Mr,Mb,reduceIte])
   rw[Jb Y9 Q4 U5];have b:(c::r)[(0:Int).toNat]'(by simp)=c:=rfl
   (try simp only[↓Mr,Mr,Mb,reduceIte])
   rw[b];obtain ⟨e,f⟩:=Av d
   have:decide ((c.toNat:Int)<=90)=Zp c.toNat:=by
    simp only[I3,Zp,Yf,T4,Bool.or_eq_true,Bool.and_eq_true,Bool.and_eq_false_iff,decide_eq_true_eq,decide_eq_false_iff_not] at e f⊢;rw[Bool.eq_iff_iff];simp only[Bool.and_eq_true,decide_eq_true_eq];omega
   rw[this]
   simpa [S1,d] using h)
theorem Q0U (a:List UInt8) (g:a.length<=140737488355328) (h:K (.bool (C9 a)) w):Q0 P F.v [S a] w K:=Tm (by
 unfold Oj X6;refine Q8J a g ?_;cases a with
 | nil=>simp only[name,↓Mr,Mr,Mb,reduceIte];exact h
 | cons c r=>
  cases d:name (c::r)
  ·(try simp only[↓Mr,Mr,Mb,reduceIte])
   simpa [C9,d] using h
  ·(try simp only[↓Mr,Mr,Mb,reduceIte])
   rw[Jb Y9 Q4 U5];have b:(c::r)[(0:Int).toNat]'(by simp)=c:=rfl
   (try simp only[↓Mr,Mr,Mb,reduceIte])
   rw[b];obtain ⟨e,f⟩:=Av d
   have:decide ((97:Int)<=c.toNat)=Yf c.toNat:=by
    simp only[I3,Zp,Yf,T4,Bool.or_eq_true,Bool.and_eq_true,Bool.and_eq_false_iff,decide_eq_true_eq,decide_eq_false_iff_not] at e f⊢;rw[Bool.eq_iff_iff];simp only[Bool.and_eq_true,decide_eq_true_eq];omega
   rw[this]
   simpa [C9,d] using h)
def X7k (a:List UInt8) (w:World) (x:Value×Value) (w':World):Prop:=
 w=w'/\ ∃(b:List UInt8) (n:Nat),x=(S b,I n)/\b.length+2*n=a.length/\(base a).2=(base b).2+n
def X4v (x:Value×Value):Nat:=match x.1 with | .string s=>s.size | _=>0
theorem Gm (a:List UInt8) (j:a.length<=140737488355328) (h:K (I (base a).2) w):Q0 P F.a3 [S a] w K:=Q1E (by
 unfold Hv X6 Y2 X4 V2;refine Nk (X7k a w) (fun x _=>X4v x) ⟨rfl,a,0,rfl,by omega,rfl⟩ ?_
 rintro _ _ _ ⟨rfl,b,n,rfl,k,c⟩;rw[G3 Y9]
 (try simp only[↓Mr,Mr,Mb,reduceIte])
 by_cases f:2<=b.length
 .have e:decide ((2:Int)<=b.length)=true:=by simp only[decide_eq_true_eq];omega
  simp only[e,G3 Y9,↓Mr,Mr,Mb,reduceIte];rw[A8 Q4 Q4,Lk Y9 Q4 Q4];rw[show ((b.length:Int)-2).toNat=b.length-2 from by omega]
  have g:decide (b.drop (b.length-2)=[91,93])=arr b:=by simp[arr,f]
  simp only[g,↓Mr,Mr,Mb,reduceIte];cases d:arr b
  ·(try simp only[↓Mr,Mr,Mb,reduceIte])
   rw[Zt b,d] at c;simp only[Bool.false_eq_true,if_false,Nat.zero_add] at c;rw[c] at h;exact h
  ·(try simp only[G3 Y9,↓Mr,Mr,Mb,reduceIte])
   rw[Xl Y9 Q4 Q4];rw[show ((b.length:Int)-2).toNat=b.length-2 from by omega]
   have i:=Qo d;refine ⟨⟨rfl,Kd.cutA b,n+1,?_,by omega,?_⟩,?_⟩
   .simp only[Kd.cutA,Prod.mk.injEq,true_and]
    first | rfl | (rw[A8 Q4 Q4];rfl)
   .rw[c,Zt b,d];simp;omega
   .simp only[X4v,Qm,List.length_take];omega
 .have e:decide ((2:Int)<=b.length)=false:=by simp only[decide_eq_false_iff_not];omega
  simp only[e,↓Mr,Mr,Mb,reduceIte];have d:arr b=false:=by simp[arr,f]
  rw[Zt b,d] at c;simp only[Bool.false_eq_true,if_false,Nat.zero_add] at c;rw[c] at h;exact h)
theorem Q6i (a:List UInt8):a.take (a.length-2*(base a).2)=(base a).1:=by
 have key: ∀n (a:List UInt8),a.take (a.length-2*(Jq n a).2)=(Jq n a).1:=by
  intro n
  induction n with
  | zero=>intro a;simp[Jq]
  | succ n b=>
   intro a;simp only[Jq]
   split
   .rename_i h
    have c:=Qo h;simp only;rw[<-b (Kd.cutA a)];rw[Kd.cutA,List.take_take,List.length_take]
    congr 1
    omega
   .simp
 exact key _ a
theorem La (a:List UInt8) (e:a.length<=140737488355328) (h:K (.bool (right a)) w):Q0 P F.e [S a] w K:=Q0F (by
 unfold Ec X6 Y2 X4 X5;have f:=Q39 a;refine Gm a e ?_;rw[G3 Y9]
 (try simp only[↓Mr,Mr,Mb,reduceIte])
 rw[A8 (n:=2*((base a).2:Int)) Q4 Q4,A8 Q4 Q4,Xl Y9 Q4 Q4];rw[show ((a.length:Int)-2*((base a).2:Int)).toNat=a.length-2*(base a).2 from by omega,Q6i]
 (try simp only[↓Mr,Mr,Mb,reduceIte])
 by_cases c:(base a).2<=3
 .have b:decide (((base a).2:Int)<=3)=true:=by simp only[decide_eq_true_eq];omega
  simp only[b,↓Mr,Mr,Mb,reduceIte];refine Ck _ ?_;cases d:plain (base a).1
  ·(try simp only[↓Mr,Mr,Mb,reduceIte])
   refine Jo _ Q4 ?_
   (try simp only[↓Mr,Mr,Mb,reduceIte])
   simpa [right,c,d] using h
  ·(try simp only[↓Mr,Mr,Mb,reduceIte])
   simpa [right,c,d] using h
 .have b:decide (((base a).2:Int)<=3)=false:=by simp only[decide_eq_false_iff_not];omega
  simp only[b,↓Mr,Mr,Mb,reduceIte]
  simpa [right,c] using h)
theorem X53 {a:List UInt8} (h:arr a=true):2<=a.length:=by simp only[arr,Bool.and_eq_true,decide_eq_true_eq] at h;exact h.1
theorem Q6S {a:List UInt8} (h:arr a=true) (c:right a=true):3<=a.length:=by
 have d:=X53 h;refine Nat.lt_of_le_of_ne d fun e=>?_;have f:=Qo h;have b:Kd.cutA a=[]:=List.eq_nil_of_length_eq_zero Q4;simp only[right,Zt a,h,if_true,b] at c
 revert c;decide
theorem X4f (a:List UInt8) (e:a.length<=140737488355328) (h:K (S (elem a)) w):Q0 P F.bD [S a] w K:=Q1F (by
 unfold Hw X6 Y2 X4 V2;rw[G3 Y9]
 (try simp only[↓Mr,Mr,Mb,reduceIte])
 by_cases j:a.length<3
 .have b:decide ((a.length:Int)<3)=true:=by simp only[decide_eq_true_eq];omega
  simp only[b,↓Mr,Mr,Mb,reduceIte]
  have g:elem a=[]:=by
   simp only[elem]
   split
   .rename_i hh
    simp only[Bool.and_eq_true] at hh;have:=Q6S hh.1 hh.2;omega
   .rfl
  rw[g] at h;exact h
 .have b:decide ((a.length:Int)<3)=false:=by simp only[decide_eq_false_iff_not];omega
  simp only[b,↓Mr,Mr,Mb,reduceIte];rw[A8 Q4 Q4,Lk Y9 Q4 Q4];rw[show ((a.length:Int)-2).toNat=a.length-2 from by omega]
  have f:decide (a.drop (a.length-2)=[91,93])=arr a:=by simp[arr];omega
  (try simp only[↓Mr,Mr,Mb,reduceIte])
  (try simp only[f,↓Mr,Mr,Mb,reduceIte])
  cases c:arr a
  ·(try simp only[↓Mr,Mr,Mb,reduceIte])
   simpa [elem,c] using h
  ·(try simp only[↓Mr,Mr,Mb,reduceIte])
   refine Gm a e ?_
   (try simp only[↓Mr,Mr,Mb,reduceIte])
   by_cases i:(base a).2<=3
   .have b:decide ((3:Int)<((base a).2:Int))=false:=by simp only[decide_eq_false_iff_not];omega
    simp only[b,↓Mr,Mr,Mb,reduceIte];refine La a e ?_;cases d:right a
    ·(try simp only[↓Mr,Mr,Mb,reduceIte])
     simpa [elem,c,d] using h
    ·(try simp only[↓Mr,Mr,Mb,reduceIte])
     try rw[A8 Q4 Q4]
     rw[Xl Y9 Q4 Q4];rw[show ((a.length:Int)-2).toNat=a.length-2 from by omega]
     simpa [elem,c,d,Kd.cutA] using h
   .have b:decide ((3:Int)<((base a).2:Int))=true:=by simp only[decide_eq_true_eq];omega
    simp only[b,↓Mr,Mr,Mb,reduceIte];have d:right a=false:=by simp[right,i]
    simpa [elem,c,d] using h)
def X6i (a:List UInt8) (w:World) (x:Value) (w':World):Prop:=
 w=w'/\ ∃n:Nat,x=I n/\n<=a.length/\(∀i,(h:i<n)->(b:i<a.length)->a[i]≠46)
def X1N (a:List UInt8) (x:Value):Nat:=match x with | .int _ n=>(a.length-n).toNat | _=>0
theorem Q6Q (a:List UInt8) (L:a.length<=140737488355328) (h: ∀w',Below w.heap.size w w'->K (if (Zh a).2.2 then .tuple #[S (Zh a).1,S (Zh a).2.1, .bool (Us a)] else .tuple #[S [],S [], .bool false]) w'):Q0 P F.bn [S a] w K:=Q0D (by
 unfold Ea;simp only[Y5,X3,L1,Qi];unfold V6 U6 Y2 X4 X5;refine Nk (X6i a w) (fun x _=>X1N a x) ⟨rfl,0,rfl,by omega,by omega⟩ ?_
 rintro _ _ _ ⟨rfl,n,rfl,M,p⟩;rw[G3 Y9]
 (try simp only[↓Mr,Mr,Mb,reduceIte])
 by_cases D:n<a.length
 .have o:decide ((n:Int)<a.length)=true:=by simp only[decide_eq_true_eq];omega
  simp only[o,↓Mr,Mr,Mb,reduceIte];rw[Jb Y9 Q4 Q4]
  (try simp only[↓Mr,Mr,Mb,reduceIte])
  simp only[Int.toNat_natCast]
  have E:decide (((a[n]).toNat:Int)=46)=decide (a[n]=46):=by
   rw[Bool.eq_iff_iff];simp only[decide_eq_true_eq];constructor
   .intro e;exact UInt8.toNat_inj.1 (by have:(46:UInt8).toNat=46:=rfl;omega)
   .intro e;rw[e];rfl
  rw[E]
  by_cases m:a[n]=46
  .simp only[m,decide_true,↓Mr,Mr,Mb,reduceIte]
   have l:Zh a=(a.take n,a.drop (n+1),true):=by
    have:a.findIdx? (fun b=>decide (b=46))=some n:=by
     rw[List.findIdx?_eq_some_iff_getElem];exact ⟨D,by simpa using m,fun j H=>by simpa using p j H Q4⟩
    rw[Am,this];rfl
   have r:Us a=(S1 (a.take n)&&C9 (a.drop (n+1))):=by simp[Us,l]
   rw[l,r] at h;have s:((n:Int)+1).toNat=n+1:=by omega
   have u:(a.take n).length<=140737488355328:=by simp only[List.length_take];omega
   have v:(a.drop (n+1)).length<=140737488355328:=by simp only[List.length_drop];omega
   have z: ∀{w:World} {K:Value->World->Prop},K (S (a.take n)) w->G5 P T.c (S a) none (some (I n)) none w K:=by
    intro w K h;rw[Xl Y9 Q4 Q4,show ((n:Int)).toNat=n from by omega];exact h
   have A: ∀{w:World} {K:Value->World->Prop},K (S (a.drop (n+1))) w->G5 P T.c (S a) (some (I (n+1))) none none w K:=by
    intro w K h;rw[Lk Y9 Q4 Q4,s];exact h
   refine Rp (Below.refl _ _) ?_;refine X9 (S (a.take n)) (fun w c=>z (Y4 rfl)) ?_;refine X9 (I (n+1)) (fun w c=>Y4 (by rw[A8 Q4 Q4])) ?_
   refine X9 (S (a.drop (n+1))) (fun t w c e=>by rw[e];exact A (Y4 rfl)) ?_
   refine X9 (S (a.take n)) (fun w c=>z (Y4 rfl)) ?_;refine X9 (.bool (S1 (a.take n))) (fun t w c e=>by rw[e];exact Jo _ u (Y4 rfl)) ?_
   cases k:S1 (a.take n)
   .refine X9 undef (fun t w c e=>by rw[e,M7];exact Y4 rfl) ?_
    refine X9 undef (fun t w c e=>by rw[e,M7];exact Y4 rfl) ?_
    refine X9 undef (fun t f w c e d=>by rw[e,M7];exact Y4 rfl) ?_
    refine X9 undef (fun t f y w c e d g=>by rw[e,M7];exact Y4 rfl) ?_
    refine X9 undef (fun t f w c e d=>by rw[e,M7];exact Y4 rfl) ?_
    refine X9 (.bool false) (fun t f w c e d=>by rw[e,D0];exact Y4 rfl) ?_
    rintro _ _ _ _ _ _ _ _ _ _ _ w1 c rfl rfl rfl rfl rfl rfl rfl rfl rfl rfl rfl;rw[k] at h;exact h w1 (by simpa using c)
   .refine X9 (S a) (fun t w c e=>by rw[e,V5];exact Y4 rfl) ?_
    refine X9 (I n) (fun t w c e=>by rw[e,V5];exact Y4 rfl) ?_
    refine X9 (I (n+1)) (fun t f w c e d=>by rw[e,d,V5];simp only[↓Mr,Mr,Mb,reduceIte];exact Y4 (by rw[A8 Q4 Q4])) ?_
    refine X9 (S (a.drop (n+1))) (fun t f y w c e d g=>by rw[e,d,g,V5];exact A (Y4 rfl)) ?_
    refine X9 (.bool (C9 (a.drop (n+1)))) (fun t f w c e d=>by rw[e,d,V5];exact Q0U _ v (Y4 rfl)) ?_
    refine X9 (.bool (C9 (a.drop (n+1)))) (fun t f w c e d=>by rw[e,d,H0];exact Y4 rfl) ?_
    rintro _ _ _ _ _ _ _ _ _ _ _ w1 c rfl rfl rfl rfl rfl rfl rfl rfl rfl rfl rfl;rw[k] at h;exact h w1 (by simpa using c)
  .simp only[m,decide_false,↓Mr,Mr,Mb,reduceIte]
   rw[A8 Q4 Q4];refine ⟨⟨rfl,n+1,rfl,by omega,fun i B C=>?_⟩,?_⟩
   .by_cases q:i=n
    .subst q;exact m
    .exact p i Q4 C
   .simp only[X1N];omega
 .have o:decide ((n:Int)<a.length)=false:=by simp only[decide_eq_false_iff_not];omega
  simp only[o,↓Mr,Mr,Mb,reduceIte]
  have l:(Zh a).2.2=false/\(Zh a).1=a/\(Zh a).2.1=[]:=by
   have:a.findIdx? (fun b=>decide (b=46))=none:=by
    rw[List.findIdx?_eq_none_iff];intro x J;obtain ⟨i,B,rfl⟩:=List.getElem_of_mem J
    simpa using p i Q4 B
   rw[Am,this];exact ⟨rfl,rfl,rfl⟩
  rw[l.1] at h;exact h w (Below.refl _ _))
end Go.Proofs.Y
namespace Go.Emb
open Go.RowKit
class TZ (P : Program) (t : TypeId) (sz b : outParam Nat) (z : outParam Value) : Prop where
  h : (P.info? t).map (fun i => (i.size, i.bytes, i.zero)) = some (sz, b, some z)
def X2z:Option TypeDesc->Bool
 | some (.struct _)=>true
 | some (.array _ _)=>true
 | none=>true
 | _=>false
class TG (P : Program) (t : TypeId) (g : outParam Bool) : Prop where
  h : (X2z (P.underlying t), (P.underlying t).isSome) = (g, true)
class TS (P : Program) (t : TypeId) (e : outParam TypeId) : Prop where
  h : P.underlying t = some (.slice e)
class TA (P : Program) (t : TypeId) (n : outParam Nat) (e : outParam TypeId) : Prop where
  h : P.underlying t = some (.array n e)
class TM (P : Program) (t : TypeId) (k e : outParam TypeId) : Prop where
  h : P.underlying t = some (.map k e)
def Q5V (d:Option TypeDesc) (k:Nat):Option (Nat×TypeId):=match d with
 | some (.struct a)=>(a[k]?).map fun f=>(f.offset,f.type)
 | _=>none
class TF (P : Program) (t : TypeId) (k : Nat) (off : outParam Nat) (ft : outParam TypeId) : Prop where
  h : Q5V (P.underlying t) k = some (off, ft)
variable {P : Program} {w w0 w' w'' : World} {K : Value -> World -> Prop}
theorem TZ.info {t:TypeId} {sz b:Nat} {z:Value} (h:TZ P t sz b z): ∃i,P.info? t=some i/\i.size=sz/\i.bytes=b/\i.zero=some z:=by
 obtain ⟨i,a,e⟩:=Option.map_eq_some_iff.1 h.h;simp only[Prod.mk.injEq] at e;exact ⟨i,a,e.1,e.2.1,e.2.2⟩
theorem D9 {t:TypeId} {sz b:Nat} {z:Value} (h:TZ P t sz b z) (w:World):(sizeOf t).run P w= .ok sz w:=by
 obtain ⟨i,a,rfl,_⟩:=h.info
 simp[sizeOf,typeInfo,a]
theorem Xq {t:TypeId} {sz b:Nat} {z:Value} (h:TZ P t sz b z) (w:World):(zeroValue t).run P w= .ok z w:=by
 obtain ⟨i,a,_,_,c⟩:=h.info
 simp[zeroValue,typeInfo,a,c]
theorem Jj {t:TypeId} {g:Bool} (h:TG P t g) (w:World):(isAgg t).run P w= .ok g w:=by
 have hh:=h.h;simp only[Prod.mk.injEq] at hh;obtain ⟨c,b⟩:=hh;cases a:P.underlying t with
 | none=>rw[a] at b;cases b
 | some d=>
  rw[a] at c;have:=run_underlying (P:=P) (w:=w) a;simp only[isAgg,Sem.run_bind,this,Result.andThen_ok];cases d<;>simp_all [X2z]
theorem Q5C (a:Addr) (i j:Nat):(a.add i).add j=a.add (i+j):=by
 unfold Addr.add
 by_cases b:i=0
 .simp[b]
 .by_cases c:j=0
  .simp[c]
  .simp[b,c,Nat.add_assoc]
theorem add_zero (a:Addr):a.add 0=a:=by simp[Addr.add]
theorem I2 (a:Addr) (i:Nat):(a.add i).block=a.block:=by unfold Addr.add;split<;>rfl
theorem Yi (a:Addr) (i:Nat):(a.add i).off=a.off+i:=by unfold Addr.add;split<;>simp_all
theorem Qj {a:Addr} (h:a.spot=none) (i:Nat):(a.add i).spot=none:=by unfold Addr.add;split<;>simp_all
abbrev Q2:=Nat->Option Obj
def X7 (w:World) (σ:Q2):Prop:= ∀b o,σ b=some o->w.heap[b]? =some o
structure Stp (w : World) (σ : Q2) (w' : World) (σ' : Q2) : Prop where
  bel : Below w.heap.size w w'
  sat : X7 w' σ'
  le : ∀ b o, σ b = some o -> σ' b = some o
  old : ∀ b, b < w.heap.size -> σ' b = σ b
theorem X7.lt {σ:Q2} (h:X7 w σ) {b:Nat} {o:Obj} (a:σ b=some o):b<w.heap.size:=(Array.getElem?_eq_some_iff.1 (h b o a)).1
theorem X7.below {σ:Q2} (h:X7 w σ) (a:Below w.heap.size w w'):X7 w' σ:=fun b o e=>(a.block b (h.lt e)).trans (h b o e)
theorem Stp.refl {σ:Q2} (h:X7 w σ):Stp w σ w σ:=⟨Below.refl _ _,h,fun _ _ e=>e,fun _ _=>rfl⟩
theorem Stp.trans {σ0 σ1 c:Q2} (h:Stp w σ0 w' σ1) (k:Stp w' σ1 w'' c):Stp w σ0 w'' c:=
 ⟨h.bel.trans (k.bel.mono h.bel.size),k.sat,fun b o e=>k.le b o (h.le b o e),fun b a=>(k.old b (Nat.lt_of_lt_of_le a h.bel.size)).trans (h.old b a)⟩
theorem Stp.of_below {σ:Q2} (h:X7 w σ) (a:Below w.heap.size w w'):Stp w σ w' σ:=⟨a,h.below a,fun _ _ e=>e,fun _ _=>rfl⟩
def Q2.put (σ:Q2) (b:Nat) (o:Obj):Q2:=fun k=>if k=b then some o else σ k
theorem X7.none {σ:Q2} (h:X7 w σ) {b:Nat} (a:w.heap.size<=b):σ b=none:=by
 cases e:σ b with
 | none=>rfl
 | some o=>have:=h.lt e;omega
theorem Stp.alloc {σ:Q2} (h:X7 w σ) (o:Obj):Stp w σ (w.alloc o) (σ.put w.heap.size o):=by
 refine ⟨(Below.refl _ _).alloc (Nat.le_refl _) o,?_,?_,?_⟩
 .intro b p e
  by_cases a:b=w.heap.size
  .subst a
   simp only[Q2.put,if_true] at e;cases e;exact heap_alloc_new w o
  .simp only[Q2.put,if_neg a] at e
   rw[Below.heap_alloc w o b (h.lt e)];exact h b p e
 .intro b p e
  have:=h.lt e;simp only[Q2.put];rw[if_neg Q4];exact e
 .intro b a
  simp only[Q2.put];rw[if_neg Q4]
theorem Stp.own {σ:Q2} (h:X7 w σ) (o:Obj):Stp w σ (w.alloc o) σ:=Stp.of_below h ((Below.refl _ _).alloc (Nat.le_refl _) o)
def J7 (σ:Q2) (a:Addr) (cs:List Value):Prop:=a.spot=none/\ ∃arr e b,σ a.block=some (.cells arr e b)/\ ∀i v,cs[i]? =some v->arr[a.off+i]? =some v
theorem J7.up {σ σ':Q2} {a:Addr} {cs:List Value} (h:J7 σ a cs) (g:Stp w σ w' σ'):J7 σ' a cs:=by
 obtain ⟨c,arr,e,b,d,f⟩:=h;exact ⟨c,arr,e,b,g.le _ _ d,f⟩
theorem J7.cell {σ:Q2} {a:Addr} {cs:List Value} (h:J7 σ a cs) (f:X7 w σ) {i:Nat} {v:Value} (g:cs[i]? =some v):w.cell? (a.add i)=some v:=by
 obtain ⟨b,arr,e,j,c,d⟩:=h;have:=f _ _ c;unfold World.cell?;rw[I2,this,Yi,Qj b];exact d i v g
def Y7 (σ:Q2) (w:World) (b:Nat) (cs:List Value):Prop:=σ b=none/\ ∃e,w.heap[b]? =some (.cells cs.toArray e (0,0))
theorem Y7.lt {σ:Q2} {b:Nat} {cs:List Value} (h:Y7 σ w b cs):b<w.heap.size:=by
 obtain ⟨_,e,h⟩:=h;exact (Array.getElem?_eq_some_iff.1 h).1
theorem Y7.up {σ σ':Q2} {b:Nat} {cs:List Value} (h:Y7 σ w b cs) (a:Stp w σ w' σ'):Y7 σ' w' b cs:=by
 have c:=h.lt;obtain ⟨d,e,f⟩:=h;exact ⟨(a.old b c).trans d,e,(a.bel.block b c).trans f⟩
theorem Y7.cell {σ:Q2} {b:Nat} {cs:List Value} (h:Y7 σ w b cs) {i:Nat} {v:Value} (c:cs[i]? =some v):w.cell? ((⟨b,0,none⟩:Addr).add i)=some v:=by
 obtain ⟨_,e,a⟩:=h;unfold World.cell?;rw[I2,Yi,Qj rfl];simp only[a]
 simpa using c
theorem Y7.keep {σ σ0:Q2} {b:Nat} {cs:List Value} (h:Y7 σ w b cs) (d:Stp w0 σ0 w σ) (m:w0.heap.size<=b): ∃σ',Stp w0 σ0 w σ'/\J7 σ' ⟨b,0,none⟩ cs/\(∀k o,σ k=some o->σ' k=some o)/\(∀k,k≠b->σ' k=σ k):=by
 obtain ⟨g,e,j⟩:=h;refine ⟨σ.put b (.cells cs.toArray e (0,0)),⟨d.bel,?_,?_,?_⟩,⟨rfl,cs.toArray,e,(0,0),by simp[Q2.put],?_⟩,?_,?_⟩
 .intro k o c
  by_cases a:k=b
  .subst a;simp only[Q2.put,if_true] at c;cases c;exact j
  .simp only[Q2.put,if_neg a] at c;exact d.sat k o c
 .intro k o c
  by_cases a:k=b
  .subst a;have:=d.le _ _ c;rw[g] at this;cases this
  .simp only[Q2.put,if_neg a];exact d.le _ _ c
 .intro k f
  simp only[Q2.put];rw[if_neg Q4];exact d.old k f
 .intro i v l;simpa using l
 .intro k o c
  by_cases a:k=b
  .subst a;rw[g] at c;cases c
  .simp only[Q2.put,if_neg a];exact c
 .intro k a;simp only[Q2.put,if_neg a]
theorem X0o (t:TypeId) (v:Value) (w:World):(Instr.box t v).run P w= .ok (.pointer (some ⟨w.heap.size,0,none⟩)) (w.alloc (.cells v.cells t)):=by
 simp[Instr.box,newVar,newRow]
theorem Q5a {σ:Q2} (a:X7 w σ) (cs:Array Value) (t:TypeId):Y7 σ (w.alloc (.cells cs t)) w.heap.size cs.toList:=
 ⟨a.none (Nat.le_refl _),t,by simpa using heap_alloc_new w (.cells cs t)⟩
theorem X1d {σ:Q2} (cs:Array Value) (t:TypeId):J7 (σ.put w.heap.size (.cells cs t)) ⟨w.heap.size,0,none⟩ cs.toList:=
 ⟨rfl,cs,t,(0,0),by simp[Q2.put],fun i v h=>by simpa using h⟩
theorem B9 {σ:Q2} {t:TypeId} {v:Value} (b:X7 w σ) (h: ∀a w' σ',Stp w σ w' σ'->J7 σ' a v.cells.toList->K (.pointer (some a)) w'):box P t v w K:=by
 unfold box;rw[Y8 (X0o t v w)];exact h _ _ _ (Stp.alloc b _) (X1d _ t)
theorem Q7E {σ:Q2} {t:TypeId} {v:Value} (a:X7 w σ) (h: ∀b w',w.heap.size<=b->Stp w σ w' σ->Y7 σ w' b v.cells.toList->K (.pointer (some ⟨b,0,none⟩)) w'):box P t v w K:=by
 unfold box;rw[Y8 (X0o t v w)];exact h _ _ (Nat.le_refl _) (Stp.own a _) (Q5a a _ t)
theorem Ac {σ:Q2} {t:TypeId} {sz a:Nat} {z:Value} [tz:TZ P t sz a z] (c:X7 w σ) (h: ∀b w',w.heap.size<=b->Stp w σ w' σ->Y7 σ w' b z.cells.toList->K (.pointer (some ⟨b,0,none⟩)) w'):T1 P t w K:=by
 unfold T1
 have:(Instr.alloc t true (.tuple #[])).run P w= .ok (.pointer (some ⟨w.heap.size,0,none⟩)) (w.alloc (.cells z.cells t)):=by
  simp[Instr.alloc,Xq tz,newVar,newRow]
 rw[Y8 this];exact h _ _ (Nat.le_refl _) (Stp.own c _) (Q5a c _ t)
theorem Yj {t:TypeId} [tg:TG P t false] {a:Addr} {v:Value} (b:w.cell? a=some v) (h:K v w):Q6 P t (.pointer (some a)) w K:=by
 unfold Q6;rw[Y8 (v:=v) (w':=w) (by simp[Instr.loadAt,Instr.sureAddr,loadVar,Jj tg,b])]
 exact h
theorem Aw {t:TypeId} {sz b:Nat} {z:Value} [tg:TG P t true] [tz:TZ P t sz b z] {a:Addr} {cs:List Value} (d:cs.length=sz) (c: ∀j v,cs[j]? =some v->w.cell? (a.add j)=some v) (h:K (.agg cs.toArray) w):Q6 P t (.pointer (some a)) w K:=by
 unfold Q6;have:=run_loadCells_list (P:=P) w a cs c;rw[d] at this;rw[Y8 (v:= .agg cs.toArray) (w':=w) (by simp[Instr.loadAt,Instr.sureAddr,loadVar,Jj tg,D9 tz,this])]
 exact h
theorem ld {σ:Q2} {t:TypeId} [TG P t false] {a:Addr} {cs:List Value} {i:Nat} {v:Value} (c:X7 w σ) (b:J7 σ a cs) (d:cs[i]? =some v) (h:K v w):Q6 P t (.pointer (some (a.add i))) w K:=
 Yj (b.cell c d) h
theorem Y6 {σ:Q2} {t:TypeId} [TG P t false] {a:Addr} {cs:List Value} {v:Value} (c:X7 w σ) (b:J7 σ a cs) (d:cs[0]? =some v) (h:K v w):Q6 P t (.pointer (some a)) w K:=by
 have:=ld (P:=P) (t:=t) c b d h
 rwa [add_zero] at this
theorem Z0 {σ:Q2} {t:TypeId} {sz b:Nat} {z:Value} [TG P t true] [TZ P t sz b z] {a:Addr} {cs:List Value} (f:X7 w σ) (c:J7 σ a cs) (d:cs.length=sz) (h:K (.agg cs.toArray) w):Q6 P t (.pointer (some a)) w K:=
 Aw d (fun _ _ g=>c.cell f g) h
theorem F9 {σ:Q2} {t:TypeId} [TG P t false] {b:Nat} {cs:List Value} {i:Nat} {v:Value} (a:Y7 σ w b cs) (c:cs[i]? =some v) (h:K v w):Q6 P t (.pointer (some ((⟨b,0,none⟩:Addr).add i))) w K:=
 Yj (a.cell c) h
theorem Nx {σ:Q2} {t:TypeId} [TG P t false] {b:Nat} {cs:List Value} {v:Value} (a:Y7 σ w b cs) (c:cs[0]? =some v) (h:K v w):Q6 P t (.pointer (some ⟨b,0,none⟩)) w K:=by
 have:=F9 (P:=P) (t:=t) a c h
 rwa [add_zero] at this
theorem Cr {σ:Q2} {t:TypeId} {sz a:Nat} {z:Value} [TG P t true] [TZ P t sz a z] {b:Nat} {cs:List Value} (d:Y7 σ w b cs) (c:cs.length=sz) (h:K (.agg cs.toArray) w):Q6 P t (.pointer (some ⟨b,0,none⟩)) w K:=
 Aw c (fun _ _ f=>d.cell f) h
theorem W9 {t:TypeId} {sz a:Nat} {z:Value} [tg:TG P t true] [tz:TZ P t sz a z] {σ:Q2} {b:Nat} {cs:List Value} {K:Value->Prop} (d:Y7 σ w b cs) (c:cs.length=sz) (h:K (.agg cs.toArray)):Z8 P t (.pointer (some ⟨b,0,none⟩)) w K:=by
 rw[Q5q];refine ⟨_,?_,h⟩;have:=run_loadCells_list (P:=P) w ⟨b,0,none⟩ cs (fun _ _ f=>d.cell f);rw[c] at this
 simp[asAddr,loadVar,Jj tg,D9 tz,this]
structure Upd (w : World) (b : Nat) (w' : World) : Prop where
  os : w'.os = w.os
  tape : w'.tape = w.tape
  output : w'.output = w.output
  size : w'.heap.size = w.heap.size
  block : ∀ k, k ≠ b -> w'.heap[k]? = w.heap[k]?
theorem Upd.stp {σ0 σ:Q2} {b:Nat} (c:Upd w b w') (a:Stp w0 σ0 w σ) (h:w0.heap.size<=b) (g:σ b=none):Stp w0 σ0 w' σ:=by
 refine ⟨⟨c.os.trans a.bel.os,c.tape.trans a.bel.tape,c.output.trans a.bel.output,by rw[c.size];exact a.bel.size,fun k f=>(c.block k Q4).trans (a.bel.block k f)⟩,?_,a.le,a.old⟩
 intro k o d;rw[c.block k (by intro e;subst e;rw[g] at d;cases d)]
 exact a.sat k o d
theorem Y7.upd {σ:Q2} {b k:Nat} {cs:List Value} (h:Y7 σ w k cs) (f:Upd w b w') (a:k≠b):Y7 σ w' k cs:=by
 obtain ⟨c,e,d⟩:=h;exact ⟨c,e,(f.block k a).trans d⟩
theorem Hf {b:Nat} {cs:Array Value} {a:Array Value} {e:TypeId} (h:w.heap[b]? =some (.cells a e (0,0))):Upd w b (w.setRow b cs)/\(w.setRow b cs).heap[b]? =some (.cells cs e (0,0)):=by
 have d:=(Array.getElem?_eq_some_iff.1 h).1;refine ⟨⟨rfl,rfl,rfl,by simp[World.setRow],fun k c=>?_⟩,?_⟩
 .simp only[World.setRow,Array.getElem?_modify]
  rw[if_neg Q4]
 .simp only[World.setRow,Array.getElem?_modify,if_true,h]
  rfl
theorem Ma {t:TypeId} {sz a:Nat} {z:Value} [tz:TZ P t sz a z] {σ:Q2} {b:Nat} {cs ds:List Value} (l:Y7 σ w b cs) (k:cs.length=sz) (f:ds.length=sz) (g:ds.toArray.all (·.oneCell')=true)
 (h: ∀w',Upd w b w'->Y7 σ w' b ds->K undef w'):J9 P t (.pointer (some ⟨b,0,none⟩)) (.agg ds.toArray) w K:=by
 obtain ⟨n,e,d⟩:=l;unfold J9;obtain ⟨i,j,c,_⟩:=tz.info;have:=run_storeVar_row (P:=P) w b e t cs.toArray ds.toArray d (by simp[j,c,f]) (by simp[k,f]) g
 rw[Jf (w':=w.setRow b ds.toArray) (by simpa [Instr.storeAt,Instr.sureAddr] using this)]
 obtain ⟨m,hh⟩:=Hf (cs:=ds.toArray) d;exact h _ m ⟨n,e,hh⟩
theorem X0r {cs:List Value} {i:Nat} {v:Value} (a:i<cs.length):(cs.take i++[v]++cs.drop (i+1))=cs.set i v:=by
 rw[List.set_eq_take_append_cons_drop,if_pos a];simp
theorem Xs {t:TypeId} {c:Nat} {z:Value} [tz:TZ P t 1 c z] {σ:Q2} {b i:Nat} {cs:List Value} {v:Value} (l:Y7 σ w b cs) (k:i<cs.length) (j:v.cells= #[v]) (g:v.oneCell'=true)
 (h: ∀w',Upd w b w'->Y7 σ w' b (cs.set i v)->K undef w'):J9 P t (.pointer (some ((⟨b,0,none⟩:Addr).add i))) v w K:=by
 obtain ⟨n,e,d⟩:=l;unfold J9;have a:(⟨b,0,none⟩:Addr).add i=⟨b,i,none⟩:=by unfold Addr.add;split<;>simp_all
 have:=run_storeCells_at P b i e [v] 0 cs.toArray w d (by simp;omega) (by simpa using g)
 simp only[Nat.add_zero] at this;obtain ⟨m,hh⟩:=Hf (cs:=(cs.set i v).toArray) d
 have f:(List.take i cs.toArray.toList++[v]++List.drop (i+[v].length) cs.toArray.toList).toArray=(cs.set i v).toArray:=by
  rw[<-X0r k];simp
 rw[f] at this;rw[Jf (w':=w.setRow b (cs.set i v).toArray) (by simp[Instr.storeAt,Instr.sureAddr,a,storeVar,D9 tz,j,this])]
 exact h _ m ⟨n,e,hh⟩
theorem st0 {t:TypeId} {a:Nat} {z:Value} [tz:TZ P t 1 a z] {σ:Q2} {b:Nat} {cs:List Value} {v:Value} (g:Y7 σ w b cs) (f:0<cs.length) (d:v.cells= #[v]) (c:v.oneCell'=true)
 (h: ∀w',Upd w b w'->Y7 σ w' b (cs.set 0 v)->K undef w'):J9 P t (.pointer (some ⟨b,0,none⟩)) v w K:=by
 have:=Xs (P:=P) (t:=t) g f d c h
 rwa [add_zero] at this
class NZ (n : Nat) : Prop where
  h : (n == 0) = false
instance (n:Nat):NZ (n+1):=⟨rfl⟩
theorem fa {t:TypeId} {k b:Nat} {d:TypeId} {sz c:Nat} {z:Value} [tf:TF P t k b d] [tz:TZ P d sz c z] [nz:NZ sz] {a:Addr}:fieldAddr P t (.pointer (some a)) k w K=K (.pointer (some (a.add b))) w:=by
 unfold fieldAddr;have hh:=tf.h;unfold Q5V at hh
 split at hh
 .rename_i o n
  obtain ⟨f,m,g⟩:=Option.map_eq_some_iff.1 hh;simp only[Prod.mk.injEq] at g;obtain ⟨j,l⟩:=g;subst l j;have i: ¬sz=0:=by simpa using nz.h
  exact Y8 (by simp[Instr.fieldAt,run_underlying n,m,Instr.sureAddr,fieldPlace,D9 tz,i])
 .cases hh
theorem Ft {t e:TypeId} {sz b:Nat} {z:Value} [ts:TS P t e] [tz:TZ P e sz b z] {a:Addr} {n c:Nat} {k:IntKind} {i:Int} (d:0<=i) (f:i<n):indexAddr P t (.slice (some a) n c) (.int k i) w K=K (.pointer (some (a.add (i.toNat*sz)))) w:=by
 unfold indexAddr;exact Y8 (by simp[Instr.indexAt,run_underlying ts.h,asIntOf,D9 tz,d,f])
theorem Q89 {t e:TypeId} {n sz b:Nat} {z:Value} [ta:TA P t n e] [tz:TZ P e sz b z] {a:Addr} {k:IntKind} {i:Int} (c:0<=i) (d:i<n):indexAddr P t (.pointer (some a)) (.int k i) w K=K (.pointer (some (a.add (i.toNat*sz)))) w:=by
 unfold indexAddr;exact Y8 (by simp[Instr.indexAt,run_underlying ta.h,asIntOf,Instr.sureAddr,D9 tz,c,d])
theorem H3 {a:Addr}:nilCheck P (.pointer (some a)) w K=K (.pointer (some a)) w:=by
 unfold nilCheck;rw[Ye];unfold Xk
 simp[execOp]
class Rep {α : Type} (R : Q2 -> α -> List Value -> Prop) : Prop where
  up : ∀ {σ σ' : Q2} {x : α} {cs : List Value}, (∀ b o, σ b = some o -> σ' b = some o) -> R σ x cs -> R σ' x cs
  one : ∀ {σ : Q2} {x : α} {cs : List Value}, R σ x cs -> ∀ u ∈ cs, u.oneCell' = true
def Sl {α:Type} (sz:Nat) (R:Q2->α->List Value->Prop) (σ:Q2) (v:Value) (xs:List α):Prop:=
 ∃a c,v= .slice a xs.length c/\xs.length<=c/\c<=maxLen/\(a=none->c=0)/\
  ∀b,a=some b->(0<xs.length->b.spot=none)/\ ∀i x,xs[i]? =some x-> ∃cs,J7 σ (b.add (i*sz)) cs/\cs.length=sz/\R σ x cs
theorem J7.le {σ σ':Q2} {a:Addr} {cs:List Value} (h:J7 σ a cs) (i: ∀b o,σ b=some o->σ' b=some o):J7 σ' a cs:=by
 obtain ⟨d,arr,e,c,f,g⟩:=h;exact ⟨d,arr,e,c,i _ _ f,g⟩
variable {α : Type} {R : Q2 -> α -> List Value -> Prop} {sz : Nat} {σ σ' : Q2} {v : Value} {xs : List α}
theorem Sl.le [hr:Rep R] (h:Sl sz R σ v xs) (g: ∀b o,σ b=some o->σ' b=some o):Sl sz R σ' v xs:=by
 obtain ⟨a,c,m,n,p,q,d⟩:=h;refine ⟨a,c,m,n,p,q,fun b f=>⟨(d b f).1,fun i x r=>?_⟩⟩;obtain ⟨cs,j,k,l⟩:=(d b f).2 i x r;exact ⟨cs,j.le g,k,hr.up g l⟩
theorem Sl.up [Rep R] (h:Sl sz R σ v xs) (a:Stp w σ w' σ'):Sl sz R σ' v xs:=h.le a.le
theorem Sl.max (h:Sl sz R σ v xs):xs.length<=9223372036854775807:=by
 obtain ⟨a,b,d,f,c,g⟩:=h;simp only[maxLen] at c;omega
theorem Sl.nil:Sl sz R σ (.slice none 0 0) ([]:List α):=⟨none,0,rfl,by simp,by simp,fun _=>rfl,fun b a=>by cases a⟩
theorem Q3n {c e t:TypeId} {cs:List Bool} [ts:TS P c e] {a:Option Addr} {n b:Nat}:U7 P .len [c] t cs [.slice a n b] w K=K (I n) w:=by
 have h:(Builtin.len_ #[c] t #[.slice a n b]).run P w= .ok (I n) w:=by
  simp[Builtin.len_,run_underlying ts.h,goInt]
 exact Y8 h
theorem X6U {b e t:TypeId} {cs:List Bool} [ts:TS P b e] (h:Sl sz R σ v xs):U7 P .len [b] t cs [v] w K=K (I xs.length) w:=by
 obtain ⟨a,c,rfl,_⟩:=h;exact Q3n
theorem X7r {t e:TypeId} {c:Nat} {z:Value} [TS P t e] [TZ P e sz c z] (h:Sl sz R σ v xs) {k:IntKind} {i:Int} (l:0<=i) (m:i.toNat<xs.length)
 (p: ∀a cs,J7 σ a cs->cs.length=sz->R σ xs[i.toNat] cs->K (.pointer (some a)) w):indexAddr P t v (.int k i) w K:=by
 obtain ⟨a,d,rfl,q,r,n,o⟩:=h;cases a with
 | none=>have:=n rfl;omega
 | some b=>
  rw[Ft l Q4];obtain ⟨cs,f,g,j⟩:=(o b rfl).2 i.toNat xs[i.toNat] (by simp[m])
  exact p _ cs f g j
theorem Stp.turn {σ0 σ:Q2} {row:Option Nat} (b:w.grownBy w' row) (a:Stp w0 σ0 w σ) (f: ∀k,row=some k->w0.heap.size<=k/\σ k=none):Stp w0 σ0 w' σ:=by
 refine ⟨⟨b.os.trans a.bel.os,b.tape.trans a.bel.tape,b.output.trans a.bel.output,Nat.le_trans a.bel.size b.size,fun k d=>?_⟩,?_,a.le,a.old⟩
 .refine (b.block k (Nat.lt_of_lt_of_le d a.bel.size) ?_).trans (a.bel.block k d)
  intro e;have:=(f k e.symm).1;omega
 .intro k o c
  refine (b.block k (a.sat.lt c) ?_).trans (a.sat k o c);intro e;rw[(f k e.symm).2] at c;cases c
theorem Y7.turn {σ:Q2} {row:Option Nat} {k:Nat} {cs:List Value} (h:Y7 σ w k cs) (d:w.grownBy w' row) (a:some k≠row):Y7 σ w' k cs:=by
 have f:=h.lt;obtain ⟨b,e,c⟩:=h;exact ⟨b,e,(d.block k f a).trans c⟩
def W8 {α:Type} (B:Nat) (e:TypeId) (sz:Nat) (R:Q2->α->List Value->Prop) (σ:Q2) (w:World) (v:Value) (xs:List α):Prop:=
 ∃cells,w.ownsRow B e sz v xs.length cells/\(∀k,v.ownBlock=some k->σ k=none)/\ ∀i x,xs[i]? =some x->R σ x ((cells.drop (i*sz)).take sz)
variable {B : Nat} {e : TypeId} {u : Value} {ys : List α}
theorem W8.nil:W8 B e sz R σ w (.slice none 0 0) ([]:List α):=⟨[],World.ownsRow_nil w B e sz,by intro k a;simp[Value.ownBlock] at a,by intro i x h;simp at h⟩
theorem W8.mem (h:W8 B e sz R σ w v xs): ∀k,v.ownBlock=some k->B<=k/\k<w.heap.size/\σ k=none:=by
 obtain ⟨cells,d,f,_⟩:=h;intro k c;obtain ⟨a,b⟩:=d.lt k c;exact ⟨a,b,f k c⟩
theorem W8.up [hr:Rep R] (h:W8 B e sz R σ w v xs) (a:Stp w σ w' σ'):W8 B e sz R σ' w' v xs:=by
 obtain ⟨cells,c,d,f⟩:=h;refine ⟨cells,c.kept ⟨a.bel.os,a.bel.tape,a.bel.output,a.bel.size,fun k g _=>a.bel.block k g⟩ (by cases b:v.ownBlock<;>simp) (row:=none),?_,fun i x j=>hr.up a.le (f i x j)⟩
 intro k b;rw[a.old k (c.lt k b).2];exact d k b
theorem Sl.cells (h:Sl sz R σ v xs) (E:X7 w σ) [hr:Rep R]: ∃(a:Option Addr) (d:Nat) (c:List Value),v= .slice a xs.length d/\(a=none->d=0)/\c.length=xs.length*sz/\(∀b,a=some b-> ∀j u,c[j]? =some u->w.cell? (b.add j)=some u)/\(∀u∈c,u.oneCell'=true)/\
 ∀i x,xs[i]? =some x->R σ x ((c.drop (i*sz)).take sz):=by
 obtain ⟨a,d,rfl,N,O,g,z⟩:=h;cases a with
 | none=>
  have M:=g rfl;have f:xs=[]:=List.eq_nil_of_length_eq_zero Q4;subst f;exact ⟨none,d,[],rfl,g,by simp,fun b D=>(by cases D),by simp,by simp⟩
 | some b=>
  obtain ⟨H,m⟩:=z b rfl;clear z
  have key: ∀(ys:List α) (k:Nat),(∀i x,ys[i]? =some x-> ∃cs,J7 σ (b.add ((k+i)*sz)) cs/\cs.length=sz/\R σ x cs)->
   ∃c:List Value,c.length=ys.length*sz/\(∀j u,c[j]? =some u->w.cell? (b.add (k*sz+j))=some u)/\(∀u∈c,u.oneCell'=true)/\ ∀i x,ys[i]? =some x->R σ x ((c.drop (i*sz)).take sz):=by
   intro ys
   induction ys with
   | nil=>intro k _;exact ⟨[],by simp,by simp,by simp,by simp⟩
   | cons y r J=>
    intro k A;obtain ⟨cs,C,s,t⟩:=A 0 y rfl
    obtain ⟨c,n,o,p,q⟩:=J (k+1) (fun i x f=>by
     have:=A (i+1) x (by simpa using f)
     rwa [show k+1+i=k+(i+1) by omega])
    refine ⟨cs++c,by simp[n,s,Nat.add_mul,Nat.add_comm],?_,?_,?_⟩
    .intro j u hu
     by_cases Q:j<sz
     .rw[List.getElem?_append_left Q4] at hu
      have:=C.cell E hu
      rwa [Q5C,Nat.add_zero] at this
     .rw[List.getElem?_append_right Q4] at hu
      have:=o _ _ hu
      rwa [s,show (k+1)*sz+(j-sz)=k*sz+j by rw[Nat.add_mul];omega] at this
    .intro u hu
     rcases List.mem_append.1 hu with hu | hu
     .exact hr.one t u hu
     .exact p u hu
    .intro i x f
     cases i with
     | zero=>
      simp at f;subst f
      simp only[Nat.zero_mul,List.drop_zero];rw[List.take_append_of_le_length Q4,List.take_of_length_le Q4];exact t
     | succ i=>
      have:=q i x (by simpa using f)
      rw[show (i+1)*sz=cs.length+i*sz by rw[Nat.add_mul];omega,List.drop_append]
      simpa [List.drop_eq_nil_of_le] using this
  obtain ⟨c,n,o,p,q⟩:=key xs 0 (fun i x f=>by rw[Nat.zero_add];exact m i x f)
  refine ⟨some b,d,c,rfl,g,n,?_,p,q⟩;intro L l j u hu;cases l;have:=o j u hu
  rwa [Nat.zero_mul,Nat.zero_add] at this
variable {σ0 : Q2}
theorem Nv (cells a:List Value) (n i:Nat) (c:cells.length=n*sz) (b:i<n):((cells++a).drop (i*sz)).take sz=(cells.drop (i*sz)).take sz:=by
 have h:i*sz+sz<=n*sz:=by rw[<-Nat.succ_mul];exact Nat.mul_le_mul_right _ b
 rw[List.drop_append_of_le_length Q4,List.take_append_of_le_length (by simp only[List.length_drop];omega)]
theorem app {t A:TypeId} {o:Nat} {z:Value} {cs:List Bool} [ts:TS P t e] [tz:TZ P e sz o z] [hr:Rep R] (C:Stp w0 σ0 w σ) (ha:W8 w0.heap.size e sz R σ w v xs) (V:Sl sz R σ u ys) (N:(z.cells.size==sz&&decide (0<sz))=true)
 (hb:(xs.length+ys.length)*o<=140737488355328) (hm:xs.length+ys.length<=9223372036854775807)
 (h: ∀f w',w.grownBy w' v.ownBlock->Stp w0 σ0 w' σ->W8 w0.heap.size e sz R σ w' f (xs++ys)->(f.ownBlock=v.ownBlock\/ ∀k,f.ownBlock=some k->w.heap.size<=k)->K f w'):U7 P .append [t,t] A cs [v,u] w K:=by
 obtain ⟨cells,s,Q,h3⟩:=ha;obtain ⟨a,l,c,rfl,W,X,n3,n4,n5⟩:=V.cells C.sat;obtain ⟨i,J,M,E,r⟩:=tz.info
 have p: ∀f w',(Builtin.append_ #[t,t] A #[v, .slice a ys.length l]).run P w= .ok f w'->w'.ownsRow w0.heap.size e sz f (xs.length+ys.length) (cells++c)->w.grownBy w' v.ownBlock->(f.ownBlock=v.ownBlock\/f.ownBlock=some w.heap.size)->U7 P .append [t,t] A cs [v, .slice a ys.length l] w K:=by
  intro f w' y d m hat
  have q:(builtin .append #[t,t] A cs.toArray #[v, .slice a ys.length l]).run P w= .ok (.value f) w':=by
   simp[builtin,y]
  unfold U7;rw[Ye];unfold Xk;rw[q];refine h f w' m (Stp.turn m C fun k n=>⟨(s.lt k n).1,Q k n⟩) ⟨cells++c,by rw[List.length_append];exact d,?_,?_⟩ ?_
  .intro k n
   rcases hat with hat | hat
   .exact Q k (hat▸n)
   .rw[hat] at n;cases n;exact C.sat.none (Nat.le_refl _)
  .intro j x D
   by_cases U:j<xs.length
   .rw[List.getElem?_append_left U] at D
    rw[Nv cells c xs.length j s.1 U];exact h3 j x D
   .rw[List.getElem?_append_right Q4] at D
    have:=n5 _ _ D;rw[show j*sz=cells.length+(j-xs.length)*sz by rw[s.1,<-Nat.add_mul];congr 1;omega,List.drop_append]
    simpa [List.drop_eq_nil_of_le] using this
  .rcases hat with hat | hat
   .exact .inl hat
   .right;intro k n;rw[hat] at n;cases n;exact Nat.le_refl _
 simp only[Bool.and_eq_true,beq_iff_eq,decide_eq_true_eq] at N;cases a with
 | some b=>
  obtain ⟨f,w',g1,g2,g3,_,g5⟩:=run_append_own_at (P:=P) w w0.heap.size t A e i z sz o ts.h J r M E N.1 N.2 v xs.length cells s b ys.length l c X (n3 b rfl) n4 (by simp only[maxLen];omega) hb C.bel.size
  exact p f w' g1 g2 g3 g5
 | none=>
  have hy:ys=[]:=List.eq_nil_of_length_eq_zero (by obtain ⟨a',O,Z,q1,_,q3,_⟩:=V;injection Z with _ e2 e3;have:=W rfl;subst e3;omega)
  have H:=W rfl;subst hy H;have hn:c=[]:=List.eq_nil_of_length_eq_zero (by simpa using X)
  subst hn;have d:=s
  rcases s.2 with ⟨rfl,h0⟩ | ⟨g,l,Y,rfl,ai,hg,L,_⟩
  .refine p (.slice none 0 0) w ?_ (by simpa using d) (World.grownBy.refl w _) (.inl rfl)
   simp[Builtin.append_,run_underlying ts.h,sizeOf,typeInfo,J,Builtin.lenOf,Builtin.firstCells]
  .refine p _ w ?_ (by simpa using d) (World.grownBy.refl w _) (.inl rfl)
   simp[Builtin.append_,run_underlying ts.h,sizeOf,typeInfo,J,Builtin.lenOf,Builtin.firstCells,L,storeCells]
theorem Q2.put_le {w:World} (d:X7 w σ) {b:Nat} (h:σ b=none) (o:Obj): ∀k p,σ k=some p->(σ.put b o) k=some p:=by
 intro k p c
 by_cases a:k=b
 .subst a;rw[h] at c;cases c
 .simp only[Q2.put,if_neg a];exact c
theorem Stp.put {b:Nat} {o:Obj} (c:Stp w0 σ0 w σ) (g:σ b=none) (h:w0.heap.size<=b) (f:w.heap[b]? =some o):Stp w0 σ0 w (σ.put b o):=by
 refine ⟨c.bel,?_,fun k p a=>Q2.put_le c.sat g o k p (c.le k p a),?_⟩
 .intro k p a
  by_cases d:k=b
  .subst d;simp only[Q2.put,if_true] at a;cases a;exact f
  .simp only[Q2.put,if_neg d] at a;exact c.sat k p a
 .intro k a
  simp only[Q2.put];rw[if_neg Q4];exact c.old k a
theorem W8.keep [hr:Rep R] (h:W8 w0.heap.size e sz R σ w v xs) (m:Stp w0 σ0 w σ): ∃σ',Stp w0 σ0 w σ'/\Sl sz R σ' v xs/\(∀k o,σ k=some o->σ' k=some o)/\(∀k,some k≠v.ownBlock->σ' k=σ k):=by
 obtain ⟨cells,r,z,A⟩:=h
 rcases r.2 with ⟨rfl,y⟩ | ⟨g,l,c,rfl,C,D,p,f,J,q⟩
 .have:xs=[]:=List.eq_nil_of_length_eq_zero y
  subst this;exact ⟨σ,m,Sl.nil,fun _ _ h=>h,fun _ _=>rfl⟩
 .have t:=z g rfl
  have a:=Q2.put_le m.sat t (.cells c e (0,0));refine ⟨σ.put g (.cells c e (0,0)),m.put t C D,⟨_,l,rfl,p,f,by simp,?_⟩,a,?_⟩
  .intro b n
   cases n;refine ⟨fun _=>rfl,fun i x s=>⟨(cells.drop (i*sz)).take sz,⟨Qj rfl _,c,e,(0,0),by rw[I2];simp[Q2.put],?_⟩,?_,hr.up a (A i x s)⟩⟩
   .intro j u d
    rw[Yi];rw[List.getElem?_take] at d
    split at d
    .rw[List.getElem?_drop,<-q,List.getElem?_take] at d
     split at d
     .simpa using d
     .cases d
    .cases d
   .have E:i<xs.length:=(List.getElem?_eq_some_iff.1 s).1
    have h:i*sz+sz<=xs.length*sz:=by rw[<-Nat.succ_mul];exact Nat.mul_le_mul_right _ E
    rw[List.length_take,List.length_drop,r.1];omega
  .intro k H
   have:k≠g:=by intro e;subst e;exact H rfl
   simp only[Q2.put,if_neg this]
theorem Sl.piece {a:Option Addr} {n d:Nat} (h:Sl sz R σ (.slice a n d) xs) (l m:Nat) (O:l+m<=xs.length):Sl sz R σ (.slice (if d=l then a else a.map (·.add (l*sz))) m (d-l)) ((xs.drop l).take m):=by
 obtain ⟨L,j,H,M,N,D,k⟩:=h
 injection H with s t y
 subst s t y;have c:((xs.drop l).take m).length=m:=by simp;omega
 refine ⟨_,d-l,by rw[c],by rw[c];omega,by omega,?_,?_⟩
 .intro o
  split at o
  .omega
  .cases a with
   | none=>have:=D rfl;omega
   | some b=>simp at o
 .intro b f
  split at f
  .rename_i E
   obtain ⟨p,q⟩:=k b f;have J:m=0:=by omega
   subst J;exact ⟨fun h=>by simp at h,by simp⟩
  .cases a with
   | none=>simp at f
   | some r=>
    simp only[Option.map_some,Option.some.injEq] at f;obtain ⟨p,q⟩:=k r rfl;subst f;refine ⟨fun h=>Qj (p (by rw[c] at h;omega)) _,fun i x g=>?_⟩
    rw[List.getElem?_take] at g
    split at g
    .rw[List.getElem?_drop] at g
     obtain ⟨cs,z,A,C⟩:=q _ _ g;refine ⟨cs,?_,A,C⟩;rw[Q5C,<-Nat.add_mul];exact z
    .cases g
theorem Co {t:TypeId} {f:Nat} {z:Value} [ts:TS P t e] [tz:TZ P e sz f z] (h:Sl sz R σ v xs) (d c:Option Value) (l m:Nat) (j:d=none/\l=0\/d=some (I l)) (g:c=none/\m=xs.length\/c=some (I m)) (i:l<=m) (D:m<=xs.length)
 (p: ∀k,Sl sz R σ k ((xs.drop l).take (m-l))->K k w):G5 P t v d c none w K:=by
 have o:=h;obtain ⟨a,b,rfl,s,y,A,C⟩:=h
 have hh: ∀w:World,(Instr.sliceBounds true xs.length b d c none).run P w= .ok (l,m,b) w:=by
  intro w;have q:(m:Int)<=b:=by omega
  have r:(l:Int)<=m:=by omega
  have n:m<=b:=by omega
  rcases j with ⟨rfl,rfl⟩ | rfl<;>rcases g with ⟨rfl,rfl⟩ | rfl<;>
   simp[Instr.sliceBounds,Instr.sliceBound,asIntOf,n,i]<;>intros<;>omega
 unfold G5
 have:(Instr.sliceAt t (.slice a xs.length b) d c none).run P w= .ok (.slice (if b=l then a else a.map (·.add (l*sz))) (m-l) (b-l)) w:=by
  simp[Instr.sliceAt,run_underlying ts.h,Instr.slice,hh,D9 tz]
 rw[Y8 this];exact p _ (o.piece l (m-l) Q4)
def en:Nat->List Value->List (Nat×Value)
 | _,[]=>[]
 | i,v::r=>(i,v)::en (i+1) r
theorem X2u (off:Nat): ∀(vs:List Value) (k:Nat) (cs:Array Value),off+k+vs.length<=cs.size->
 ((vs.zipIdx k).foldl (fun cs (p:Value×Nat)=>cs.setIfInBounds (off+p.2) p.1) cs).toList=cs.toList.take (off+k)++vs++cs.toList.drop (off+k+vs.length):=by
 intro vs
 induction vs with
 | nil=>intro k cs _;simp
 | cons v r ih=>
  intro k cs h;simp only[List.length_cons] at h;rw[List.zipIdx_cons,List.foldl_cons,ih (k+1) _ (by simp;omega)]
  simp only[Array.toList_setIfInBounds,List.length_cons];apply List.ext_getElem?;intro i;simp only[List.getElem?_append,List.length_take,List.length_set,Array.length_toList,List.getElem?_take,List.getElem?_drop,List.length_append,List.getElem?_set,List.length_cons]
  rcases Nat.lt_trichotomy i (off+k) with hi | hi | hi
  .simp[show i<off+(k+1) by omega,hi,show i<min (off+(k+1)) cs.size by omega,show i<min (off+(k+1)) cs.size+r.length by omega,show i<min (off+k) cs.size by omega,show i<min (off+k) cs.size+(r.length+1) by omega,show off+k≠i by omega]
  .subst hi
   simp[show off+k<off+(k+1) by omega,show off+k<min (off+(k+1)) cs.size by omega,show off+k<min (off+(k+1)) cs.size+r.length by omega,show¬off+k<min (off+k) cs.size by omega,show off+k<min (off+k) cs.size+(r.length+1) by omega,show off+k<cs.size by omega,show off+k-min (off+k) cs.size=0 by omega]
  .by_cases h2:i<off+(k+1)+r.length
   .simp[show¬i<min (off+(k+1)) cs.size by omega,show i<min (off+(k+1)) cs.size+r.length by omega,show¬i<min (off+k) cs.size by omega,show i<min (off+k) cs.size+(r.length+1) by omega,show i-min (off+k) cs.size=(i-min (off+(k+1)) cs.size)+1 by omega]
   .simp only[show¬i<min (off+(k+1)) cs.size+r.length by omega,show¬i<min (off+k) cs.size+(r.length+1) by omega,if_false]
    rw[show off+(k+1)+r.length+(i-(min (off+(k+1)) cs.size+r.length))=i by omega,show off+k+(r.length+1)+(i-(min (off+k) cs.size+(r.length+1)))=i by omega,if_neg Q4]
theorem X09 (sz:Nat): ∀(vs:List Value) (i:Nat) (cs:Array Value),(i+vs.length)*sz<=cs.size->(∀v∈vs,v.cells.size=sz)->
 ∃cs',Instr.fill (fun i=>some (i*sz,sz)) cs (en i vs)=some cs'/\cs'.toList=cs.toList.take (i*sz)++vs.flatMap (·.cells.toList)++cs.toList.drop ((i+vs.length)*sz):=by
 intro vs
 induction vs with
 | nil=>intro i cs _ _;exact ⟨cs,rfl,by simp⟩
 | cons v r ih=>
  intro i cs h hv;have hv0:=hv v U5;simp only[List.length_cons] at h
  have h1:i*sz+sz<=cs.size:=by
   have:(i+1)*sz<=(i+(r.length+1))*sz:=Nat.mul_le_mul_right _ Q4;rw[Nat.succ_mul] at this;omega
  have hset:=X2u (i*sz) v.cells.toList 0 cs (by simp;omega)
  simp only[Nat.add_zero] at hset
  have e1:v.cells.zipIdx.foldl (fun cs (p:Value×Nat)=>cs.setIfInBounds (i*sz+p.2) p.1) cs=(v.cells.toList.zipIdx 0).foldl (fun cs (p:Value×Nat)=>cs.setIfInBounds (i*sz+p.2) p.1) cs:=by
   rw[<-Array.foldl_toList,Array.toList_zipIdx]
  have hsz':((v.cells.toList.zipIdx 0).foldl (fun cs (p:Value×Nat)=>cs.setIfInBounds (i*sz+p.2) p.1) cs).size=cs.size:=by
   rw[<-Array.length_toList,hset]
   simp;omega
  obtain ⟨cs',q1,q2⟩:=ih (i+1) _ (by rw[hsz'];rw[show i+1+r.length=i+(r.length+1) by omega];exact h) (fun u hu=>hv u (by simp[hu]))
  refine ⟨cs',?_,?_⟩
  .simp only[en,Instr.fill]
   rw[if_neg (by simp[hv0];omega)]
   rw[e1];exact q1
  .rw[q2,hset]
   simp only[List.flatMap_cons,List.length_cons,Array.length_toList,hv0];have e2:(i+1)*sz=i*sz+sz:=by rw[Nat.succ_mul]
   have e3:(i+(r.length+1))*sz=i*sz+sz+r.length*sz:=by rw[Nat.add_mul,Nat.succ_mul];omega
   have e4:(i+1+r.length)*sz=i*sz+sz+r.length*sz:=by rw[Nat.add_mul,Nat.succ_mul]
   rw[e2,e3,e4];have t1:(cs.toList.take (i*sz)).length=i*sz:=by simp;omega
   have t2:(cs.toList.take (i*sz)++v.cells.toList).length=i*sz+sz:=by rw[List.length_append,t1];simp[hv0]
   have k1: ∀C:List Value,(cs.toList.take (i*sz)++v.cells.toList++C).take (i*sz+sz)=cs.toList.take (i*sz)++v.cells.toList:=by
    intro C;rw[List.take_append_of_le_length Q4,List.take_of_length_le Q4]
   have k2: ∀(C:List Value) (n:Nat),(cs.toList.take (i*sz)++v.cells.toList++C).drop (i*sz+sz+n)=C.drop n:=by
    intro C n;rw[List.drop_append,t2,List.drop_eq_nil_of_le Q4,List.nil_append]
    congr 1;omega
   rw[k1,k2,List.drop_drop];simp only[List.append_assoc]
theorem Bd {t:TypeId} {by_:Nat} {z:Value} [ts:TS P t e] [tz:TZ P e sz by_ z] (vs:List Value) (hv: ∀v∈vs,v.cells.size=sz) (hsm:vs.length*sz<=16777216) (w:World):
 ∃cells:Array Value,(Instr.buildSlice t vs.length (en 0 vs).toArray).run P w= .ok (.slice (some ⟨w.heap.size,0,none⟩) vs.length vs.length) (w.alloc (.cells cells e))/\cells.toList=vs.flatMap (·.cells.toList):=by
 have h2: ¬vs.length*sz>2 ^ 24:=by omega
 by_cases h:vs.length*sz=0
 .obtain ⟨cells,hf,hl⟩:=X09 sz vs 0 ((Array.range (vs.length*sz)).map ((#[]:Array Value)[· % (#[]:Array Value).size]!)) U5 hv
  refine ⟨cells,?_,by rw[hl];simp⟩
  simp only[Instr.buildSlice,Sem.run_bind,run_underlying ts.h,Result.andThen_ok,D9 tz,if_neg h2,if_pos h,Sem.run_pure,hf]
  simp[newRow]
 .obtain ⟨cells,hf,hl⟩:=X09 sz vs 0 ((Array.range (vs.length*sz)).map (z.cells[· % z.cells.size]!)) U5 hv
  refine ⟨cells,?_,by rw[hl];simp⟩
  simp only[Instr.buildSlice,Sem.run_bind,run_underlying ts.h,Result.andThen_ok,D9 tz,if_neg h2,if_neg h,Sem.run_pure,Xq tz,hf]
  simp[newRow]
theorem X14 {vs:List Value} (d: ∀v∈vs,v.cells.size=sz) (i:Nat) (v:Value) (h:vs[i]? =some v):((vs.flatMap (·.cells.toList)).drop (i*sz)).take sz=v.cells.toList:=by
 induction vs generalizing i with
 | nil=>simp at h
 | cons a r f=>
  have b:=d a U5;cases i with
  | zero=>
   simp at h;subst h
   rw[List.flatMap_cons,Nat.zero_mul,List.drop_zero,List.take_append_of_le_length (by simp[b]),List.take_of_length_le (by simp[b])]
  | succ i=>
   rw[List.flatMap_cons,Nat.succ_mul,List.drop_append,List.drop_eq_nil_of_le (by simp[b]),List.nil_append]
   rw[show i*sz+sz-a.cells.toList.length=i*sz by simp[b]]
   exact f (fun v c=>d v (by simp[c])) i (by simpa using h)
theorem Q4s {vs:List Value} (b: ∀v∈vs,v.cells.size=sz):(vs.flatMap (·.cells.toList)).length=vs.length*sz:=by
 induction vs with
 | nil=>simp
 | cons a r c=>
  rw[List.flatMap_cons,List.length_append,c (fun v h=>b v (by simp[h]))]
  simp[b a U5,Nat.succ_mul,Nat.add_comm]
def Q1V (R:Q2->α->List Value->Prop) (σ:Q2):List Value->List α->Prop
 | [],[]=>True
 | v::vs,x::xs=>R σ x v.cells.toList/\Q1V R σ vs xs
 | _,_=>False
theorem Q1V.len {vs:List Value} (h:Q1V R σ vs xs):vs.length=xs.length:=by
 induction vs generalizing xs with
 | nil=>cases xs with
  | nil=>rfl
  | cons=>exact h.elim
 | cons v r a=>cases xs with
  | nil=>exact h.elim
  | cons x y=>simp[a h.2]
theorem Q1V.get {vs:List Value} (h:Q1V R σ vs xs) {i:Nat} {x:α} (a:xs[i]? =some x): ∃v,vs[i]? =some v/\R σ x v.cells.toList:=by
 induction vs generalizing xs i with
 | nil=>cases xs with
  | nil=>simp at a
  | cons=>exact h.elim
 | cons v r b=>cases xs with
  | nil=>exact h.elim
  | cons y ys=>
   cases i with
   | zero=>simp at a;subst a;exact ⟨v,rfl,h.1⟩
   | succ i=>obtain ⟨u,c,d⟩:=b h.2 (i:=i) (by simpa using a);exact ⟨u,by simpa using c,d⟩
theorem Zu {t:TypeId} {g:Nat} {z:Value} {n:Nat} {a:List (Nat×Value)} [ts:TS P t e] [tz:TZ P e sz g z] (j:Stp w0 σ0 w σ) (vs:List Value) (xs:List α) (q:n=vs.length) (r:a=en 0 vs) (c: ∀v∈vs,v.cells.size=sz) (b:(decide (0<sz)&&decide (vs.length*sz<=16777216))=true) (o:Q1V R σ vs xs)
 (h: ∀v w',Stp w σ w' σ->W8 w0.heap.size e sz R σ w' v xs->(∀k,v.ownBlock=some k->w.heap.size<=k)->K v w'):buildSlice P t n a w K:=by
 subst q r;simp only[Bool.and_eq_true,decide_eq_true_eq] at b;obtain ⟨m,b⟩:=b;obtain ⟨cells,p,d⟩:=Bd (P:=P) (t:=t) vs c b w;unfold buildSlice;rw[Y8 p];have f:=o.len;refine h _ _ (Stp.own j.sat _) ⟨cells.toList,⟨by rw[d,Q4s c,f], .inr ⟨_,_,cells,by rw[f],j.bel.size,heap_alloc_new w _,by omega,?_,?_,?_⟩⟩,?_,?_⟩ ?_
 .simp only[maxLen]
  have:vs.length*1<=vs.length*sz:=Nat.mul_le_mul_left _ m;omega
 .rw[<-Array.length_toList,d,Q4s c,f]
 .rw[List.take_of_length_le (by rw[d,Q4s c,f];exact Nat.le_refl _)]
 .intro k l;cases l;exact j.sat.none (Nat.le_refl _)
 .intro i x s
  obtain ⟨v,y,A⟩:=o.get s;rw[d,X14 c i v y];exact A
 .intro k l;cases l;exact Nat.le_refl _
theorem T3 [Rep R] {t:TypeId} {b:Nat} {z:Value} {n:Nat} {a:List (Nat×Value)} [ts:TS P t e] [tz:TZ P e sz b z] (m:X7 w σ) (vs:List Value) (xs:List α) (k:n=vs.length) (l:a=en 0 vs) (o: ∀v∈vs,v.cells.size=sz) (c:(decide (0<sz)&&decide (vs.length*sz<=16777216))=true) (i:Q1V R σ vs xs)
 (h: ∀v w' σ',Stp w σ w' σ'->Sl sz R σ' v xs->K v w'):buildSlice P t n a w K:=by
 refine Zu (Stp.refl m) vs xs k l o c i fun v w' j g _=>?_;obtain ⟨σ',d,f,_⟩:=g.keep j;exact h v w' σ' d f
theorem X5x {t:TypeId} {k a:Nat} {b:TypeId} [tf:TF P t k a b] [tg:TG P b false] {cs:Array Value} {v:Value} (l:cs[a]? =some v):Qs P t (.agg cs) k w K=K v w:=by
 unfold Qs;have hh:=tf.h;unfold Q5V at hh
 split at hh
 .rename_i m j
  obtain ⟨f,i,c⟩:=Option.map_eq_some_iff.1 hh;simp only[Prod.mk.injEq] at c;obtain ⟨d,g⟩:=c;subst g d;exact Y8 (by simp[Instr.field,run_underlying j,i,asAgg,part,Jj tg,l])
 .cases hh
theorem Yk {f:Fn} {first caps:List Value}:C1 P f first caps w K=K (.func f first.toArray caps.toArray) w:=Y8 (by simp[Instr.makeFunc])
theorem M6 {t:TypeId} {a:List (Nat×Value)} {cells:Array Value} (h:P.built t a=some cells) (b:K (.agg cells) w):B2 P t a w K:=by
 unfold B2;rw[Y8 (run_build w t a.toArray cells h)];exact b
def F3 (o:Option Obj) (m:List (List UInt8×Value)):Prop:=
 ∃b a,o=some (.map b a)/\b.toList.map (fun e=>(e.key,e.val))=m.map (fun p=>(S p.1,p.2))/\(b.toList.map (·.born)).Pairwise (· < ·)/\ ∀e∈b.toList,e.born<a
def K5 (m:List (List UInt8×Value)) (k:List UInt8):Option Value:=match m with
 | []=>none
 | p::r=>if p.1=k then some p.2 else K5 r k
def Oa (m:List (List UInt8×Value)) (k:List UInt8) (v:Value):List (List UInt8×Value):=match m with
 | []=>[(k,v)]
 | p::r=>if p.1=k then (k,v)::r else p::Oa r k v
theorem Sj (a b:List UInt8):((⟨a.toArray⟩:ByteArray)==⟨b.toArray⟩)=decide (a=b):=by
 rw[<-Q5D]
 show (a.toArray==b.toArray)=_
 simp
theorem Iw (k:List UInt8): ∀(c:List MapEntry) (m:List (List UInt8×Value)) (i:Nat),c.map (fun e=>(e.key,e.val))=m.map (fun p=>(S p.1,p.2))->
 ∃r,Instr.findNow .string (S k) c i=some r/\r.map (·.2)=K5 m k/\(∀j v,r=some (j,v)->i<=j/\(∃e,c[j-i]? =some e/\e.key=S k)/\ ∀u,(c.modify (j-i) fun e=>{e with key:=S k,val:=u}).map (fun e=>(e.key,e.val))=(Oa m k u).map (fun p=>(S p.1,p.2)))/\
  (r=none-> ∀u,Oa m k u=m++[(k,u)]):=by
 intro c
 induction c with
 | nil=>
  intro m i h;cases m with
  | nil=>exact ⟨none,rfl,rfl,U5,fun _ u=>rfl⟩
  | cons=>simp at h
 | cons e r o=>
  intro m i h;cases m with
  | nil=>simp at h
  | cons p q=>
   simp only[List.map_cons,List.cons.injEq,Prod.mk.injEq] at h;obtain ⟨⟨d,g⟩,l⟩:=h;simp only[Instr.findNow,d,Instr.sameNow,Sj]
   by_cases a:p.1=k
   .have f:decide (k=p.1)=true:=by simp[a]
    simp only[f];refine ⟨_,rfl,by simp[K5,a,g],?_,by simp⟩
    intro j v b;cases b;refine ⟨Nat.le_refl _,⟨e,by simp,by rw[d,a]⟩,fun u=>?_⟩
    simp[Oa,a,l]
   .have f:decide (k=p.1)=false:=by simp;exact fun e=>a e.symm
    simp only[f];obtain ⟨A,s,t,y,z⟩:=o q (i+1) l;refine ⟨A,s,by simp[K5,a,t],?_,?_⟩
    .intro j v b
     obtain ⟨E,C,D⟩:=y j v b;refine ⟨by omega,by rw[show j-i=(j-(i+1))+1 by omega];simpa using C,fun u=>?_⟩
     have:=D u;rw[show j-i=(j-(i+1))+1 by omega]
     simp[Oa,a,d,g,this]
    .intro n u
     simp[Oa,a,z n u]
theorem Ql {t:TypeId} (a:P.underlying t=some .string) (b:Bool) (k:List UInt8) (w:World):(Instr.checkKey b 10000 t (S k)).run P w= .ok () w:=by
 unfold Instr.checkKey
 simp[run_underlying a]
theorem Q4v {t i g:TypeId} {sz d:Nat} {z:Value} [tm:TM P t i g] [tz:TZ P g sz d z] (b:P.underlying i=some .string) {r:Nat} {m:List (List UInt8×Value)} (q:F3 (w.heap[r]?) m) (k:List UInt8):
 lookup P t (.map (some r)) (S k) true w K=K (match K5 m k with | some v=> .tuple #[v, .bool true] | none=> .tuple #[z, .bool false]) w:=by
 obtain ⟨f,a,l,n,y,A⟩:=q;obtain ⟨s,j,c,C,D⟩:=Iw k f.toList m 0 n;unfold lookup;refine Y8 ?_;simp only[Instr.lookup,Sem.run_bind,run_underlying tm.h,Result.andThen_ok,Instr.findKey,run_underlying b,j,Ql b];have o:(getObj r).run P w= .ok (.map f a) w:=by simp[getObj,Sem.run,l]
 simp only[o,Result.andThen_ok,Sem.run_bind,Sem.run_pure,Ql b,run_underlying b,j];cases s with
 | none=>simp at c;rw[<-c];simp[Xq tz]
 | some p=>simp at c;rw[<-c];simp
theorem Q6G {t i f:TypeId} {sz c:Nat} {z:Value} [tm:TM P t i f] [tz:TZ P f sz c z] (g:P.underlying i=some .string) {r:Nat} {m:List (List UInt8×Value)} (o:F3 (w.heap[r]?) m) (k:List UInt8):
 lookup P t (.map (some r)) (S k) false w K=K ((K5 m k).getD z) w:=by
 obtain ⟨d,a,j,l,y,A⟩:=o;obtain ⟨s,q,b,C,D⟩:=Iw k d.toList m 0 l;unfold lookup;refine Y8 ?_;have n:(getObj r).run P w= .ok (.map d a) w:=by simp[getObj,Sem.run,j]
 simp only[Instr.lookup,Sem.run_bind,run_underlying tm.h,Result.andThen_ok,Instr.findKey,run_underlying g,q,Ql g,n,Sem.run_pure];cases s with
 | none=>simp at b;rw[<-b];simp[Xq tz]
 | some p=>simp at b;rw[<-b];simp
def K3 (σ:Q2) (w:World) (r:Nat) (m:List (List UInt8×Value)):Prop:=σ r=none/\F3 (w.heap[r]?) m
def Zo (σ:Q2) (r:Nat) (m:List (List UInt8×Value)):Prop:=F3 (σ r) m
theorem Zo.is {σ:Q2} {r:Nat} {m:List (List UInt8×Value)} (h:Zo σ r m) (f:X7 w σ):F3 (w.heap[r]?) m:=by
 obtain ⟨b,a,c,d⟩:=h;exact ⟨b,a,f _ _ c,d⟩
theorem Zo.le {σ σ':Q2} {r:Nat} {m:List (List UInt8×Value)} (h:Zo σ r m) (g: ∀b o,σ b=some o->σ' b=some o):Zo σ' r m:=by
 obtain ⟨c,a,d,f⟩:=h;exact ⟨c,a,g _ _ d,f⟩
theorem Zo.up {σ σ':Q2} {r:Nat} {m:List (List UInt8×Value)} (h:Zo σ r m) (a:Stp w σ w' σ'):Zo σ' r m:=h.le a.le
theorem K3.lt {σ:Q2} {r:Nat} {m:List (List UInt8×Value)} (h:K3 σ w r m):r<w.heap.size:=by
 obtain ⟨_,c,a,b,_⟩:=h;exact (Array.getElem?_eq_some_iff.1 b).1
theorem K3.up {σ σ':Q2} {r:Nat} {m:List (List UInt8×Value)} (h:K3 σ w r m) (a:Stp w σ w' σ'):K3 σ' w' r m:=by
 have b:=h.lt;exact ⟨(a.old r b).trans h.1,(a.bel.block r b).symm▸h.2⟩
theorem Q5c {t:TypeId} {σ:Q2} (a:X7 w σ) (h: ∀r w',w.heap.size<=r->Stp w σ w' σ->K3 σ w' r []->K (.map (some r)) w'):Nn P t none w K:=by
 unfold Nn;rw[Y8 (v:= .map (some w.heap.size)) (w':=w.alloc (.map #[] 0)) (by simp[Instr.makeMap])]
 exact h _ _ (Nat.le_refl _) (Stp.own a _) ⟨a.none (Nat.le_refl _), #[],0,heap_alloc_new w _,rfl,by simp,by simp⟩
theorem K3.keep {σ σ0:Q2} {r:Nat} {m:List (List UInt8×Value)} (h:K3 σ w r m) (d:Stp w0 σ0 w σ) (i:w0.heap.size<=r): ∃σ',Stp w0 σ0 w σ'/\Zo σ' r m/\(∀k o,σ k=some o->σ' k=some o)/\(∀k,k≠r->σ' k=σ k):=by
 obtain ⟨c,b,a,f,g⟩:=h;exact ⟨σ.put r (.map b a),d.put c i f,⟨b,a,by simp[Q2.put],g⟩,Q2.put_le d.sat c _,fun k j=>by simp only[Q2.put,if_neg j]⟩
theorem Q00 {t U Y:TypeId} [tm:TM P t U Y] (A:P.underlying U=some .string) {σ:Q2} {r:Nat} {m:List (List UInt8×Value)} (hm:K3 σ w r m) (k:List UInt8) (v:Value)
 (h: ∀w',Upd w r w'->K3 σ w' r (Oa m k v)->K undef w'):mapUpdate P t (.map (some r)) (S k) v w K:=by
 obtain ⟨L,l,d,D,M,N,E⟩:=hm;obtain ⟨r',V,q2,q3,q4⟩:=Iw k l.toList m 0 M;have Q:(getObj r).run P w= .ok (.map l d) w:=by simp[getObj,Sem.run,D]
 have hl:=(Array.getElem?_eq_some_iff.1 D).1
 have n: ∀o,o=Obj.map l d\/True->(∀c e f,o≠ .cells c e f)->(setObj r o).run P w= .ok () {w with heap:=w.heap.setIfInBounds r o}:=by
  intro o _ _
  simp[setObj,Sem.run,D]
 have C: ∀o,Upd w r {w with heap:=w.heap.setIfInBounds r o}:=fun o=>⟨rfl,rfl,rfl,by simp,fun k A=>by simp only[Array.getElem?_setIfInBounds];rw[if_neg Q4]⟩
 have z: ∀o,({w with heap:=w.heap.setIfInBounds r o}:World).heap[r]? =some o:=fun o=>by simp[Array.getElem?_setIfInBounds,hl]
 unfold mapUpdate;cases r' with
 | none=>
  rw[Jf (w':={w with heap:=w.heap.setIfInBounds r (.map (l.push {key:=S k,val:=v,born:=d}) (d+1))}) (by
   simp only[Instr.mapUpdate,Sem.run_bind,run_underlying tm.h,Result.andThen_ok,Instr.findKey,run_underlying A,V,Ql A,Q,Sem.run_pure];exact n _ (.inr trivial) (by intros;simp))]
  refine h _ (C _) ⟨L,_,_,z _,?_,?_,?_⟩
  .rw[q4 rfl];simp[M]
  .simp only[Array.toList_push,List.map_append,List.map_cons,List.map_nil]
   rw[List.pairwise_append];refine ⟨N,by simp,?_⟩
   intro a Z b O
   simp at O;subst O
   obtain ⟨e,s,rfl⟩:=List.mem_map.1 Z;exact E e s
  .intro e s
   simp at s
   rcases s with s | rfl
   .have:=E e (by simpa using s);omega
   .simp
 | some p=>
  obtain ⟨j,u⟩:=p;obtain ⟨z1,z2,W⟩:=q3 j u rfl;obtain ⟨e,J,X⟩:=z2;simp only[Nat.sub_zero] at J W
  have g:((l.modify j fun e=>{e with key:=S k,val:=v}).toList.map (·.born))=l.toList.map (·.born):=by
   apply List.ext_getElem?;intro i;simp only[Array.toList_modify,List.getElem?_map,List.getElem?_modify]
   by_cases H:j=i<;>cases l.toList[i]? <;>simp[H]
  have q:(Instr.keyThatStays (S k) (S k)).run P w= .ok (S k) w:=by
   simp[Instr.keyThatStays,Instr.sameBits,Sj]
  rw[Jf (w':={w with heap:=w.heap.setIfInBounds r (.map (l.modify j fun e=>{e with key:=S k,val:=v}) d)}) (by
   simp only[Instr.mapUpdate,Sem.run_bind,run_underlying tm.h,Result.andThen_ok,Instr.findKey,run_underlying A,V,Ql A,Q,Sem.run_pure];rw[show ((l[j]?).map (·.key)).getD (S k)=S k by rw[<-Array.getElem?_toList,J];simp[X]]
   simp only[q,Result.andThen_ok];exact n _ (.inr trivial) (by intros;simp))]
  refine h _ (C _) ⟨L,_,_,z _,?_,?_,?_⟩
  .simp only[Array.toList_modify];exact W v
  .rw[g];exact N
  .intro x hx
   have:x.born∈l.toList.map (·.born):=by rw[<-g];exact List.mem_map.2 ⟨x,hx,rfl⟩
   obtain ⟨y,hy,e⟩:=List.mem_map.1 this;rw[<-e];exact E y hy
variable {w1 : World}
theorem U8 {c b:Bool} {a:World->(Value->World->Prop)->Prop} (d:c=b->a w K) (e:c=(!b)->K undef w):Q1 (.bool c) b w a K:=by
 cases c<;>cases b
 .rw[O6];exact d rfl
 .rw[M7];exact e rfl
 .rw[F7];exact e rfl
 .rw[V5];exact d rfl
theorem Q5 {c:Bool} {t e:Prop} (a:c=true->t) (b:c=false->e):X1 (.bool c) t e:=by
 cases c
 .rw[B5];exact b rfl
 .rw[G4];exact a rfl
theorem Q8 {α:Type} {R:Q2->α->List Value->Prop} {sz:Nat} {σ:Q2} {v:Value} {xs:List α} {a e t:TypeId} {cs:List Bool} [ts:TS P a e] (h:Sl sz R σ v xs) (b:K (I xs.length) w):U7 P .len [a] t cs [v] w K:=by
 rw[X6U h];exact b
structure Kpt (D : Nat -> Prop) (w w' : World) : Prop where
  os : w'.os = w.os
  tape : w'.tape = w.tape
  output : w'.output = w.output
  size : w.heap.size <= w'.heap.size
  block : ∀ k, k < w.heap.size -> ¬ D k -> w'.heap[k]? = w.heap[k]?
theorem Kpt.refl {D:Nat->Prop}:Kpt D w w:=⟨rfl,rfl,rfl,Nat.le_refl _,fun _ _ _=>rfl⟩
theorem Kpt.trans {D:Nat->Prop} (h:Kpt D w w') (k:Kpt D w' w''):Kpt D w w'':=
 ⟨k.os.trans h.os,k.tape.trans h.tape,k.output.trans h.output,Nat.le_trans h.size k.size,fun i b a=>(k.block i (Nat.lt_of_lt_of_le b h.size) a).trans (h.block i b a)⟩
theorem Kpt.of_below {D:Nat->Prop} (h:Below w.heap.size w w'):Kpt D w w':=⟨h.os,h.tape,h.output,h.size,fun k a _=>h.block k a⟩
theorem Kpt.of_grown {D:Nat->Prop} {row:Option Nat} (h:w.grownBy w' row) (c: ∀k,row=some k->D k):Kpt D w w':=⟨h.os,h.tape,h.output,h.size,fun k b a=>h.block k b (fun e=>a (c k e.symm))⟩
theorem Kpt.of_upd {D:Nat->Prop} {b:Nat} (h:Upd w b w') (a:D b):Kpt D w w':=⟨h.os,h.tape,h.output,by rw[h.size];exact Nat.le_refl _,fun k d c=>h.block k (fun e=>c (e▸a))⟩
theorem Kpt.mono {D a:Nat->Prop} (h:Kpt D w w') (c: ∀k,k<w.heap.size->D k->a k):Kpt a w w':=⟨h.os,h.tape,h.output,h.size,fun k b d=>h.block k b (fun e=>d (c k b e))⟩
theorem Kpt.below {D:Nat->Prop} (h:Kpt D w w') (a: ∀k,¬D k):Below w.heap.size w w':=⟨h.os,h.tape,h.output,h.size,fun k b=>h.block k b (a k)⟩
theorem Stp.kp {σ0 σ:Q2} {D:Nat->Prop} (a:Stp w0 σ0 w σ) (b:Kpt D w w') (f: ∀k,D k->w0.heap.size<=k/\σ k=none):Stp w0 σ0 w' σ:=by
 refine ⟨⟨b.os.trans a.bel.os,b.tape.trans a.bel.tape,b.output.trans a.bel.output,Nat.le_trans a.bel.size b.size,fun k c=>?_⟩,?_,a.le,a.old⟩
 .refine (b.block k (Nat.lt_of_lt_of_le c a.bel.size) ?_).trans (a.bel.block k c)
  intro e;have:=(f k e).1;omega
 .intro k o d
  refine (b.block k (a.sat.lt d) ?_).trans (a.sat k o d);intro e;rw[(f k e).2] at d;cases d
theorem Y7.kp {σ:Q2} {D:Nat->Prop} {k:Nat} {cs:List Value} (h:Y7 σ w k cs) (d:Kpt D w w') (a: ¬D k):Y7 σ w' k cs:=by
 have f:=h.lt;obtain ⟨b,e,c⟩:=h;exact ⟨b,e,(d.block k f a).trans c⟩
theorem K3.kp {σ:Q2} {D:Nat->Prop} {r:Nat} {m:List (List UInt8×Value)} (h:K3 σ w r m) (b:Kpt D w w') (a: ¬D r):K3 σ w' r m:=
 ⟨h.1,(b.block r h.lt a).symm▸h.2⟩
theorem W8.kp {α:Type} {R:Q2->α->List Value->Prop} {B sz:Nat} {e:TypeId} {σ:Q2} {v:Value} {xs:List α} {D:Nat->Prop} (h:W8 B e sz R σ w v xs) (n:Kpt D w w') (d: ∀k,v.ownBlock=some k-> ¬D k):W8 B e sz R σ w' v xs:=by
 obtain ⟨cells,f,j,l⟩:=h;refine ⟨cells,⟨f.1,?_⟩,j,l⟩
 rcases f.2 with o | ⟨g,b,c,rfl,m,i,a⟩
 .exact .inl o
 .refine .inr ⟨g,b,c,rfl,m,?_,a⟩
  rw[n.block g (Array.getElem?_eq_some_iff.1 i).1 (d g rfl)];exact i
theorem bt {w w1 b:World} (a:Below w.heap.size w w1) (c:Below w1.heap.size w1 b):Below w.heap.size w b:=a.trans (c.mono a.size)
abbrev V9:Nat:=140737488351232
def L6 (_:Q2) (s:List UInt8) (cs:List Value):Prop:=cs=[S s]/\s.length<=V9
instance:Rep L6:=⟨fun _ h=>h,fun h u hu=>by rw[h.1] at hu;simp at hu;subst hu;rfl⟩
def P8 (_:Q2) (n:Int) (cs:List Value):Prop:=cs=[I n]/\ -9223372036854775808<=n/\n<=9223372036854775807
instance:Rep P8:=⟨fun _ h=>h,fun h u hu=>by rw[h.1] at hu;simp at hu;subst hu;rfl⟩
def Q4G (_:Q2) (b:Bool) (cs:List Value):Prop:=cs=[.bool b]
instance:Rep Q4G:=⟨fun _ h=>h,fun h u hu=>by rw[h] at hu;simp at hu;subst hu;rfl⟩
def UpI (N:Nat) (a:Nat->World->Prop) (x:Value) (w:World):Prop:= ∃n:Nat,x=I n/\n<=N/\a n w
def UpM (N:Nat) (x:Value):Nat:=match x with | .int _ n=>N-n.toNat | _=>0
theorem W0 {A:(Value->World->Prop)->Value->(Nat->Value)->World->Prop} (N:Nat) (a:Nat->World->Prop) (c:a 0 w)
 (b: ∀n w d,n<=N->a n w->A (fun y w'=>UpI N a y w'/\UpM N y<UpM N (I n)) (I n) d w):lp (α:=Value) (.int .i64 0) w A:=by
 refine Nk (UpI N a) (fun x _=>UpM N x) ⟨0,rfl,Nat.zero_le _,c⟩ ?_;rintro _ d w' ⟨n,rfl,f,e⟩;exact b n w' d f e
theorem Z6 {N n:Nat} {a:Nat->World->Prop} (d:N<=9223372036854775807) (c:n<N) (b:a (n+1) w):UpI N a (.int .i64 (IntKind.i64.wrap (n+1))) w/\UpM N (.int .i64 (IntKind.i64.wrap (n+1)))<UpM N (I n):=by
 rw[A8 Q4 Q4];exact ⟨⟨n+1,rfl,c,b⟩,by simp only[UpM];omega⟩
def Kq {α:Type} (N:Nat) (a:Nat->α->World->Prop) (x:α×Value) (w:World):Prop:= ∃n:Nat,x.2=I n/\n<=N/\a n x.1 w
def Dc {α:Type} (N:Nat) (x:α×Value):Nat:=UpM N x.2
theorem B7 {α:Type} {A:(α×Value->World->Prop)->α×Value->(Nat->Value)->World->Prop} {a:α} (N:Nat) (b:Nat->α->World->Prop) (g:b 0 a w)
 (c: ∀n a w d,n<=N->b n a w->A (fun y w'=>Kq N b y w'/\Dc N y<Dc N (a,I n)) (a,I n) d w):lp (α:=α×Value) (a, .int .i64 0) w A:=by
 refine Nk (Kq N b) (fun x _=>Dc N x) ⟨0,rfl,Nat.zero_le _,g⟩ ?_;rintro ⟨a,x⟩ d w' ⟨n,f,h,e⟩;simp only at f e;subst f;exact c n a w' d h e
theorem V1 {α:Type} {a c:α} {N n:Nat} {b:Nat->α->World->Prop} (f:N<=9223372036854775807) (e:n<N) (d:b (n+1) c w):Kq N b (c, .int .i64 (IntKind.i64.wrap (n+1))) w/\Dc N (c, .int .i64 (IntKind.i64.wrap (n+1)))<Dc N (a,I n):=by
 rw[A8 Q4 Q4];exact ⟨⟨n+1,rfl,e,d⟩,by simp only[Dc,UpM];omega⟩
theorem E8 {α:Type} {R:Q2->α->List Value->Prop} {sz:Nat} {σ:Q2} {v:Value} {xs:List α} {t e:TypeId} {b:Nat} {z:Value} [TS P t e] [TZ P e sz b z] (h:Sl sz R σ v xs) {n:Nat} (i:n<xs.length)
 (g: ∀a cs,J7 σ a cs->cs.length=sz->R σ xs[n] cs->K (.pointer (some a)) w):indexAddr P t v (I n) w K:=
 X7r h Q4 (by simpa using i) (fun a cs c d f=>g a cs c d (by simpa using f))
theorem J1 {t:TypeId} {sz c:Nat} {z:Value} {A:Value->Value->World->Prop} [tz:TZ P t sz c z] {σ:Q2} {cs:List Value} (o:X7 w σ) (r:z.cells.size=sz) (n:cs.length=sz) (k: ∀u∈cs,u.oneCell'=true)
 (h: ∀a w' e,Stp w σ w' e->J7 e a cs->A (.pointer (some a)) undef w'):T1 P t w (fun p w=>J9 P t p (.agg cs.toArray) w (fun u w=>A p u w)):=by
 refine Ac o fun b w1 f m g=>?_;refine Ma g (by simpa using r) n (by rw[List.all_toArray];exact List.all_eq_true.2 k) fun s q d=>?_
 have l:Stp w σ s σ:=q.stp m f g.1;obtain ⟨e,i,j,_⟩:=d.keep l f;exact h _ _ _ i j
theorem W2 {t:TypeId} {d:Nat} {z:Value} {A:Value->Value->World->Prop} [tz:TZ P t 1 d z] {σ:Q2} {v:Value} (r:X7 w σ) (y:z.cells.size=1) (n:v.cells= #[v]) (l:v.oneCell'=true)
 (h: ∀a w' f,Stp w σ w' f->J7 f a [v]->A (.pointer (some a)) undef w'):T1 P t w (fun p w=>J9 P t p v w (fun u w=>A p u w)):=by
 refine Ac r fun b w1 g o i=>?_;have q:z.cells.toList.length=1:=by simpa using y
 refine st0 i Q4 n l fun B s c=>?_;have m:Stp w σ B σ:=s.stp o g i.1
 have e:z.cells.toList.set 0 v=[v]:=by
  match hzl:z.cells.toList,q with
  | [x],_=>rfl
 rw[e] at c;obtain ⟨f,j,k,_⟩:=c.keep m g;exact h _ _ _ j k
theorem D6 {α:Type} {xs:List α} {p:α->Bool} {n:Nat} (h:n<xs.length):(xs.take (n+1)).any p=((xs.take n).any p||p xs[n]):=by
 rw[List.take_add_one,List.getElem?_eq_getElem h,List.any_append];simp
theorem I4 {α:Type} {xs:List α} {p:α->Bool} {n:Nat} (h:n<xs.length) (a:p xs[n]=true):xs.any p=true:=List.any_eq_true.2 ⟨_,List.getElem_mem h,a⟩
theorem B0 {α:Type} {xs:List α} {p:α->Bool} {n:Nat} (h: ¬n<xs.length):(xs.take n).any p=xs.any p:=by rw[List.take_of_length_le Q4]
end Go.Emb
namespace Go.Hm
open Go.Kd
structure Fld where
  name : X0
  kind : X0
  tr : Bool
deriving DecidableEq
structure Ins where
  op : X0
  n : Int
  s : X0
deriving DecidableEq
structure Cat where
  frm : Int
  to : Int
  at_ : Int
  cls : X0
deriving DecidableEq
structure Met where
  name : X0
  params : List X0
  result : X0
  abs : Bool
  locals : Int
  code : List Ins
  catches : List Cat
deriving DecidableEq
structure Cla where
  name : X0
  super : X0
  like : List X0
  iface : Bool
  abs : Bool
  fin : Bool
  fields : List Fld
  methods : List Hm.Met
deriving DecidableEq
def Fld.zero:Fld:=⟨[],[],false⟩
def Met.zero:Hm.Met:=⟨[],[],[],false,0,[],[]⟩
def Cla.zero:Cla:=⟨[],[],[],false,false,false,[],[]⟩
end Go.Hm
namespace Go.Emb
open Go.RowKit Go.Hm
abbrev Xc (n:Int):Prop:= -9223372036854775808<=n/\n<=9223372036854775807
def G9 (_:Q2) (f:Fld) (cs:List Value):Prop:=cs=[S f.name,S f.kind, .bool f.tr]/\f.name.length<=V9/\f.kind.length<=V9
def Ym (_:Q2) (i:Ins) (cs:List Value):Prop:=cs=[S i.op,I i.n,S i.s]/\i.op.length<=V9/\Xc i.n/\i.s.length<=V9
def Vv (_:Q2) (c:Cat) (cs:List Value):Prop:=cs=[I c.frm,I c.to,I c.at_,S c.cls]/\Xc c.frm/\Xc c.to/\Xc c.at_/\c.cls.length<=V9
def F2 (σ:Q2) (m:Hm.Met) (cs:List Value):Prop:= ∃pv a b,cs=[S m.name,pv,S m.result, .bool m.abs,I m.locals,a,b]/\Sl 1 L6 σ pv m.params/\Sl 3 Ym σ a m.code/\Sl 4 Vv σ b m.catches/\m.name.length<=V9/\m.result.length<=V9/\Xc m.locals
def L7 (σ:Q2) (c:Cla) (cs:List Value):Prop:= ∃b a mv,cs=[S c.name,S c.super,b, .bool c.iface, .bool c.abs, .bool c.fin,a,mv]/\Sl 1 L6 σ b c.like/\Sl 3 G9 σ a c.fields/\Sl 7 F2 σ mv c.methods/\c.name.length<=V9/\c.super.length<=V9
theorem Xz {α:Type} {sz:Nat} {R:Q2->α->List Value->Prop} {σ:Q2} {v:Value} {xs:List α} (h:Sl sz R σ v xs):v.oneCell'=true:=by
 obtain ⟨a,b,rfl,_⟩:=h;rfl
instance:Rep G9:=⟨fun _ h=>h,fun h u hu=>by rw[h.1] at hu;simp at hu;rcases hu with rfl | rfl | rfl<;>rfl⟩
instance:Rep Ym:=⟨fun _ h=>h,fun h u hu=>by rw[h.1] at hu;simp at hu;rcases hu with rfl | rfl | rfl<;>rfl⟩
instance:Rep Vv:=⟨fun _ h=>h,fun h u hu=>by rw[h.1] at hu;simp at hu;rcases hu with rfl | rfl | rfl | rfl<;>rfl⟩
instance:Rep F2:=⟨fun hk ⟨pv,cv,hv,h1,h2,h3,h4,h5⟩=>⟨pv,cv,hv,h1,h2.le hk,h3.le hk,h4.le hk,h5⟩,fun ⟨pv,cv,hv,h1,h2,h3,h4,h5⟩ u hu=>by
 rw[h1] at hu;simp at hu;rcases hu with rfl | rfl | rfl | rfl | rfl | rfl | rfl
 .rfl
 .exact Xz h2
 .rfl
 .rfl
 .rfl
 .exact Xz h3
 .exact Xz h4⟩
instance:Rep L7:=⟨fun hk ⟨pv,cv,hv,h1,h2,h3,h4,h5⟩=>⟨pv,cv,hv,h1,h2.le hk,h3.le hk,h4.le hk,h5⟩,fun ⟨pv,cv,hv,h1,h2,h3,h4,h5⟩ u hu=>by
 rw[h1] at hu;simp at hu;rcases hu with rfl | rfl | rfl | rfl | rfl | rfl | rfl | rfl
 .rfl
 .rfl
 .exact Xz h2
 .rfl
 .rfl
 .rfl
 .exact Xz h3
 .exact Xz h4⟩
end Go.Emb
namespace Go.Proofs.Y
open Go.Emb
instance z_x:TZ P T.x 1 0 (.tuple #[]):=⟨X8⟩
instance g_x:TG P T.x false:=⟨X8⟩
instance z_int64:TZ P T.a5 1 8 (.int .i64 0):=⟨X8⟩
instance g_int64:TG P T.a5 false:=⟨X8⟩
instance z_int:TZ P T.f 1 8 (.int .i64 0):=⟨X8⟩
instance g_int:TG P T.f false:=⟨X8⟩
instance z_bool:TZ P T.q 1 1 (.bool false):=⟨X8⟩
instance g_bool:TG P T.q false:=⟨X8⟩
instance z_uint8:TZ P T.a9 1 1 (.int .u8 0):=⟨X8⟩
instance g_uint8:TG P T.a9 false:=⟨X8⟩
instance z_string:TZ P T.c 1 16 (.string ⟨#[]⟩):=⟨X8⟩
instance g_string:TG P T.c false:=⟨X8⟩
instance z_uintptr:TZ P T.aC 1 8 (.int .u64 0):=⟨X8⟩
instance g_uintptr:TG P T.aC false:=⟨X8⟩
instance z_int32:TZ P T.aq 1 4 (.int .i32 0):=⟨X8⟩
instance g_int32:TG P T.aq false:=⟨X8⟩
instance z_S_squinchref09_Act:TZ P T.a8 1 24 (.slice none 0 0):=⟨X8⟩
instance g_S_squinchref09_Act:TG P T.a8 false:=⟨X8⟩
instance s_S_squinchref09_Act:TS P T.a8 54:=⟨X8⟩
instance z_api_Value:TZ P T.e 4 40 (.agg #[.int .i64 0, .int .i64 0, .string ⟨#[]⟩, .int .i64 0]):=⟨X8⟩
instance g_api_Value:TG P T.e true:=⟨X8⟩
instance f_api_Value_0:TF P T.e 0 0 3:=⟨X8⟩
instance f_api_Value_1:TF P T.e 1 1 2:=⟨X8⟩
instance f_api_Value_2:TF P T.e 2 2 9:=⟨X8⟩
instance f_api_Value_3:TF P T.e 3 3 3:=⟨X8⟩
instance z_A2_api_Value:TZ P T.ax 8 80 (.agg #[.int .i64 0, .int .i64 0, .string ⟨#[]⟩, .int .i64 0, .int .i64 0, .int .i64 0, .string ⟨#[]⟩, .int .i64 0]):=⟨X8⟩
instance g_A2_api_Value:TG P T.ax true:=⟨X8⟩
instance a_A2_api_Value:TA P T.ax 2 24:=⟨X8⟩
instance z_P_heap_Heap:TZ P T.a2 1 8 (.pointer none):=⟨X8⟩
instance g_P_heap_Heap:TG P T.a2 false:=⟨X8⟩
instance z_S_api_Class:TZ P T.i 1 24 (.slice none 0 0):=⟨X8⟩
instance g_S_api_Class:TG P T.i false:=⟨X8⟩
instance s_S_api_Class:TS P T.i 122:=⟨X8⟩
instance z_S_api_Cell:TZ P T.g 1 24 (.slice none 0 0):=⟨X8⟩
instance g_S_api_Cell:TG P T.g false:=⟨X8⟩
instance s_S_api_Cell:TS P T.g 65:=⟨X8⟩
instance z_squinchref09_Heap:TZ P T.a 3 56 (.agg #[.slice none 0 0, .int .i64 0, .slice none 0 0]):=⟨X8⟩
instance g_squinchref09_Heap:TG P T.a true:=⟨X8⟩
instance f_squinchref09_Heap_0:TF P T.a 0 0 27:=⟨X8⟩
instance f_squinchref09_Heap_1:TF P T.a 1 1 3:=⟨X8⟩
instance f_squinchref09_Heap_2:TF P T.a 2 2 28:=⟨X8⟩
instance z_S_int:TZ P T.a0 1 24 (.slice none 0 0):=⟨X8⟩
instance g_S_int:TG P T.a0 false:=⟨X8⟩
instance s_S_int:TS P T.a0 3:=⟨X8⟩
instance z_M_int_int:TZ P T.a1 1 8 (.map none):=⟨X8⟩
instance g_M_int_int:TG P T.a1 false:=⟨X8⟩
instance m_M_int_int:TM P T.a1 3 3:=⟨X8⟩
instance z_S__2_int:TZ P T.a3 1 24 (.slice none 0 0):=⟨X8⟩
instance g_S__2_int:TG P T.a3 false:=⟨X8⟩
instance s_S__2_int:TS P T.a3 46:=⟨X8⟩
instance z_A2_int:TZ P T.au 2 16 (.agg #[.int .i64 0, .int .i64 0]):=⟨X8⟩
instance g_A2_int:TG P T.au true:=⟨X8⟩
instance a_A2_int:TA P T.au 2 3:=⟨X8⟩
instance z_uint16:TZ P T.ay 1 2 (.int .u16 0):=⟨X8⟩
instance g_uint16:TG P T.ay false:=⟨X8⟩
instance z_squinchref09_Act:TZ P T.m 8 80 (.agg #[.int .i64 0, .string ⟨#[]⟩, .int .i64 0, .int .i64 0, .int .i64 0, .int .i64 0, .string ⟨#[]⟩, .int .i64 0]):=⟨X8⟩
instance g_squinchref09_Act:TG P T.m true:=⟨X8⟩
instance f_squinchref09_Act_0:TF P T.m 0 0 3:=⟨X8⟩
instance f_squinchref09_Act_1:TF P T.m 1 1 9:=⟨X8⟩
instance f_squinchref09_Act_2:TF P T.m 2 2 2:=⟨X8⟩
instance f_squinchref09_Act_3:TF P T.m 3 3 3:=⟨X8⟩
instance f_squinchref09_Act_4:TF P T.m 4 4 24:=⟨X8⟩
instance z_api_Errno:TZ P T.u 1 8 (.int .i64 0):=⟨X8⟩
instance g_api_Errno:TG P T.u false:=⟨X8⟩
instance z_func_string_bool:TZ P T.ab 1 8 .nilFunc:=⟨X8⟩
instance g_func_string_bool:TG P T.ab false:=⟨X8⟩
instance z_S_api_Value:TZ P T.l 1 24 (.slice none 0 0):=⟨X8⟩
instance g_S_api_Value:TG P T.l false:=⟨X8⟩
instance s_S_api_Value:TS P T.l 24:=⟨X8⟩
instance z_api_Cell:TZ P T.p 2 40 (.agg #[.string ⟨#[]⟩, .slice none 0 0]):=⟨X8⟩
instance g_api_Cell:TG P T.p true:=⟨X8⟩
instance f_api_Cell_0:TF P T.p 0 0 9:=⟨X8⟩
instance f_api_Cell_1:TF P T.p 1 1 63:=⟨X8⟩
instance z_graph_matcher:TZ P T.o 6 64 (.agg #[.pointer none, .pointer none, .map none, .map none, .slice none 0 0, .bool false]):=⟨X8⟩
instance g_graph_matcher:TG P T.o true:=⟨X8⟩
instance f_graph_matcher_0:TF P T.o 0 0 26:=⟨X8⟩
instance f_graph_matcher_1:TF P T.o 1 1 26:=⟨X8⟩
instance f_graph_matcher_2:TF P T.o 2 2 42:=⟨X8⟩
instance f_graph_matcher_3:TF P T.o 3 3 42:=⟨X8⟩
instance f_graph_matcher_4:TF P T.o 4 4 43:=⟨X8⟩
instance f_graph_matcher_5:TF P T.o 5 5 4:=⟨X8⟩
instance z_P_graph_matcher:TZ P T.a6 1 8 (.pointer none):=⟨X8⟩
instance g_P_graph_matcher:TG P T.a6 false:=⟨X8⟩
instance z_P_hier_Table:TZ P T.y 1 8 (.pointer none):=⟨X8⟩
instance g_P_hier_Table:TG P T.y false:=⟨X8⟩
instance z_func_int:TZ P T.av 1 8 .nilFunc:=⟨X8⟩
instance g_func_int:TG P T.av false:=⟨X8⟩
instance z_heap_Heap:TZ P T.s 4 48 (.agg #[.pointer none, .int .i64 0, .int .i64 0, .slice none 0 0]):=⟨X8⟩
instance g_heap_Heap:TG P T.s true:=⟨X8⟩
instance f_heap_Heap_0:TF P T.s 0 0 79:=⟨X8⟩
instance f_heap_Heap_1:TF P T.s 1 1 3:=⟨X8⟩
instance f_heap_Heap_2:TF P T.s 2 2 3:=⟨X8⟩
instance f_heap_Heap_3:TF P T.s 3 3 28:=⟨X8⟩
instance z_S_api_Field:TZ P T.k 1 24 (.slice none 0 0):=⟨X8⟩
instance g_S_api_Field:TG P T.k false:=⟨X8⟩
instance s_S_api_Field:TS P T.k 103:=⟨X8⟩
instance z_api_Field:TZ P T.n 3 40 (.agg #[.string ⟨#[]⟩, .string ⟨#[]⟩, .bool false]):=⟨X8⟩
instance g_api_Field:TG P T.n true:=⟨X8⟩
instance f_api_Field_0:TF P T.n 0 0 9:=⟨X8⟩
instance f_api_Field_1:TF P T.n 1 1 9:=⟨X8⟩
instance f_api_Field_2:TF P T.n 2 2 4:=⟨X8⟩
instance z_func_string_string:TZ P T.af 1 8 .nilFunc:=⟨X8⟩
instance g_func_string_string:TG P T.af false:=⟨X8⟩
instance z_M_string_int:TZ P T.a7 1 8 (.map none):=⟨X8⟩
instance g_M_string_int:TG P T.a7 false:=⟨X8⟩
instance m_M_string_int:TM P T.a7 9 3:=⟨X8⟩
instance z_hier_Table:TZ P T.a4 2 32 (.agg #[.slice none 0 0, .map none]):=⟨X8⟩
instance g_hier_Table:TG P T.a4 true:=⟨X8⟩
instance f_hier_Table_0:TF P T.a4 0 0 27:=⟨X8⟩
instance f_hier_Table_1:TF P T.a4 1 1 116:=⟨X8⟩
instance z_S_string:TZ P T.h 1 24 (.slice none 0 0):=⟨X8⟩
instance g_S_string:TG P T.h false:=⟨X8⟩
instance s_S_string:TS P T.h 9:=⟨X8⟩
instance z_S_api_Method:TZ P T.j 1 24 (.slice none 0 0):=⟨X8⟩
instance g_S_api_Method:TG P T.j false:=⟨X8⟩
instance s_S_api_Method:TS P T.j 133:=⟨X8⟩
instance z_api_Class:TZ P T.b 8 112 (.agg #[.string ⟨#[]⟩, .string ⟨#[]⟩, .slice none 0 0, .bool false, .bool false, .bool false, .slice none 0 0, .slice none 0 0]):=⟨X8⟩
instance g_api_Class:TG P T.b true:=⟨X8⟩
instance f_api_Class_0:TF P T.b 0 0 9:=⟨X8⟩
instance f_api_Class_1:TF P T.b 1 1 9:=⟨X8⟩
instance f_api_Class_2:TF P T.b 2 2 119:=⟨X8⟩
instance f_api_Class_3:TF P T.b 3 3 4:=⟨X8⟩
instance f_api_Class_4:TF P T.b 4 4 4:=⟨X8⟩
instance f_api_Class_5:TF P T.b 5 5 4:=⟨X8⟩
instance f_api_Class_6:TF P T.b 6 6 99:=⟨X8⟩
instance f_api_Class_7:TF P T.b 7 7 120:=⟨X8⟩
instance z_api_Instr:TZ P T.w 3 40 (.agg #[.string ⟨#[]⟩, .int .i64 0, .string ⟨#[]⟩]):=⟨X8⟩
instance g_api_Instr:TG P T.w true:=⟨X8⟩
instance f_api_Instr_0:TF P T.w 0 0 9:=⟨X8⟩
instance f_api_Instr_1:TF P T.w 1 1 2:=⟨X8⟩
instance f_api_Instr_2:TF P T.w 2 2 9:=⟨X8⟩
instance z_S_api_Instr:TZ P T.r 1 24 (.slice none 0 0):=⟨X8⟩
instance g_S_api_Instr:TG P T.r false:=⟨X8⟩
instance s_S_api_Instr:TS P T.r 129:=⟨X8⟩
instance z_S_api_Catch:TZ P T.t 1 24 (.slice none 0 0):=⟨X8⟩
instance g_S_api_Catch:TG P T.t false:=⟨X8⟩
instance s_S_api_Catch:TS P T.t 189:=⟨X8⟩
instance z_api_Method:TZ P T.d 7 120 (.agg #[.string ⟨#[]⟩, .slice none 0 0, .string ⟨#[]⟩, .bool false, .int .i64 0, .slice none 0 0, .slice none 0 0]):=⟨X8⟩
instance g_api_Method:TG P T.d true:=⟨X8⟩
instance f_api_Method_0:TF P T.d 0 0 9:=⟨X8⟩
instance f_api_Method_1:TF P T.d 1 1 119:=⟨X8⟩
instance f_api_Method_2:TF P T.d 2 2 9:=⟨X8⟩
instance f_api_Method_3:TF P T.d 3 3 4:=⟨X8⟩
instance f_api_Method_4:TF P T.d 4 4 3:=⟨X8⟩
instance f_api_Method_5:TF P T.d 5 5 130:=⟨X8⟩
instance f_api_Method_6:TF P T.d 6 6 131:=⟨X8⟩
instance z_S_S_bool:TZ P T.ac 1 24 (.slice none 0 0):=⟨X8⟩
instance g_S_S_bool:TG P T.ac false:=⟨X8⟩
instance s_S_S_bool:TS P T.ac 138:=⟨X8⟩
instance z_S_bool:TZ P T.aa 1 24 (.slice none 0 0):=⟨X8⟩
instance g_S_bool:TG P T.aa false:=⟨X8⟩
instance s_S_bool:TS P T.aa 4:=⟨X8⟩
instance z_A6_string:TZ P T.ar 6 96 (.agg #[.string ⟨#[]⟩, .string ⟨#[]⟩, .string ⟨#[]⟩, .string ⟨#[]⟩, .string ⟨#[]⟩, .string ⟨#[]⟩]):=⟨X8⟩
instance g_A6_string:TG P T.ar true:=⟨X8⟩
instance a_A6_string:TA P T.ar 6 9:=⟨X8⟩
instance z_M_string_string:TZ P T.z 1 8 (.map none):=⟨X8⟩
instance g_M_string_string:TG P T.z false:=⟨X8⟩
instance m_M_string_string:TM P T.z 9 9:=⟨X8⟩
instance z_func_api_Method_string:TZ P T.ad 1 8 .nilFunc:=⟨X8⟩
instance g_func_api_Method_string:TG P T.ad false:=⟨X8⟩
instance z_func_api_Method_bool:TZ P T.ah 1 8 .nilFunc:=⟨X8⟩
instance g_func_api_Method_bool:TG P T.ah false:=⟨X8⟩
instance z_func_api_Field_string:TZ P T.ae 1 8 .nilFunc:=⟨X8⟩
instance g_func_api_Field_string:TG P T.ae false:=⟨X8⟩
instance z_func_api_Field_bool:TZ P T.al 1 8 .nilFunc:=⟨X8⟩
instance g_func_api_Field_bool:TG P T.al false:=⟨X8⟩
instance z_api_Catch:TZ P T.v 4 40 (.agg #[.int .i64 0, .int .i64 0, .int .i64 0, .string ⟨#[]⟩]):=⟨X8⟩
instance g_api_Catch:TG P T.v true:=⟨X8⟩
instance f_api_Catch_0:TF P T.v 0 0 3:=⟨X8⟩
instance f_api_Catch_1:TF P T.v 1 1 3:=⟨X8⟩
instance f_api_Catch_2:TF P T.v 2 2 3:=⟨X8⟩
instance f_api_Catch_3:TF P T.v 3 3 9:=⟨X8⟩
instance g_strings_asciiSet:TG P T.ai true:=⟨X8⟩
instance a_strings_asciiSet:TA P T.ai 256 4:=⟨X8⟩
instance g_A256_uint8:TG P T.aA true:=⟨X8⟩
instance a_A256_uint8:TA P T.aA 256 5:=⟨X8⟩
instance z_utf8_acceptRange:TZ P T.an 2 2 (.agg #[.int .u8 0, .int .u8 0]):=⟨X8⟩
instance g_utf8_acceptRange:TG P T.an true:=⟨X8⟩
instance f_utf8_acceptRange_0:TF P T.an 0 0 5:=⟨X8⟩
instance f_utf8_acceptRange_1:TF P T.an 1 1 5:=⟨X8⟩
instance z_A16_utf8_acceptRange:TZ P T.ao 32 32 (.agg #[.int .u8 0, .int .u8 0, .int .u8 0, .int .u8 0, .int .u8 0, .int .u8 0, .int .u8 0, .int .u8 0, .int .u8 0, .int .u8 0, .int .u8 0, .int .u8 0, .int .u8 0, .int .u8 0, .int .u8 0, .int .u8 0, .int .u8 0, .int .u8 0, .int .u8 0, .int .u8 0, .int .u8 0, .int .u8 0, .int .u8 0, .int .u8 0, .int .u8 0, .int .u8 0, .int .u8 0, .int .u8 0, .int .u8 0, .int .u8 0, .int .u8 0, .int .u8 0]):=⟨X8⟩
instance g_A16_utf8_acceptRange:TG P T.ao true:=⟨X8⟩
instance a_A16_utf8_acceptRange:TA P T.ao 16 209:=⟨X8⟩
instance z_func_api_Catch_bool:TZ P T.ak 1 8 .nilFunc:=⟨X8⟩
instance g_func_api_Catch_bool:TG P T.ak false:=⟨X8⟩
instance z_func_api_Instr_bool:TZ P T.am 1 8 .nilFunc:=⟨X8⟩
instance g_func_api_Instr_bool:TG P T.am false:=⟨X8⟩
instance z_S_uint8:TZ P T.az 1 24 (.slice none 0 0):=⟨X8⟩
instance g_S_uint8:TG P T.az false:=⟨X8⟩
instance s_S_uint8:TS P T.az 5:=⟨X8⟩
instance z_strings_Builder:TZ P T.ap 2 32 (.agg #[.pointer none, .slice none 0 0]):=⟨X8⟩
instance g_strings_Builder:TG P T.ap true:=⟨X8⟩
instance f_strings_Builder_0:TF P T.ap 0 0 219:=⟨X8⟩
instance f_strings_Builder_1:TF P T.ap 1 1 220:=⟨X8⟩
instance z_uint64:TZ P T.aE 1 8 (.int .u64 0):=⟨X8⟩
instance g_uint64:TG P T.aE false:=⟨X8⟩
instance z_P_uint8:TZ P T.aB 1 8 (.pointer none):=⟨X8⟩
instance g_P_uint8:TG P T.aB false:=⟨X8⟩
instance z_code_op:TZ P T.ag 3 24 (.agg #[.string ⟨#[]⟩, .bool false, .bool false]):=⟨X8⟩
instance g_code_op:TG P T.ag true:=⟨X8⟩
instance f_code_op_0:TF P T.ag 0 0 9:=⟨X8⟩
instance f_code_op_1:TF P T.ag 1 1 4:=⟨X8⟩
instance f_code_op_2:TF P T.ag 2 2 4:=⟨X8⟩
instance g_A42_code_op:TG P T.aj true:=⟨X8⟩
instance a_A42_code_op:TA P T.aj 42 241:=⟨X8⟩
instance z_S_code_op:TZ P T.aw 1 24 (.slice none 0 0):=⟨X8⟩
instance g_S_code_op:TG P T.aw false:=⟨X8⟩
instance s_S_code_op:TS P T.aw 241:=⟨X8⟩
instance z_uint32:TZ P T.aD 1 4 (.int .u32 0):=⟨X8⟩
instance g_uint32:TG P T.aD false:=⟨X8⟩
end Go.Proofs.Y
namespace Go.Emb
theorem aS {p:Prop} (h:p:=by (first | assumption | exact Stp.sat Q7 | exact Hst.sat Q7)):p:=h
theorem aL {p:Prop} (h:p:=by (first | assumption | exact Sl.lift Q7 (by (repeat (first | exact SLe.refl _ | refine SLe.more ?_ Q7 | refine SLe.more ?_ (Nxt.le Q7) | refine SLe.step ?_ Q7))) | exact J7.lift Q7 (by (repeat (first | exact SLe.refl _ | refine SLe.more ?_ Q7 | refine SLe.more ?_ (Nxt.le Q7) | refine SLe.step ?_ Q7))) | exact Zo.lift Q7 (by (repeat (first | exact SLe.refl _ | refine SLe.more ?_ Q7 | refine SLe.more ?_ (Nxt.le Q7) | refine SLe.step ?_ Q7))) | exact RCl_lift Q7 (by (repeat (first | exact SLe.refl _ | refine SLe.more ?_ Q7 | refine SLe.more ?_ (Nxt.le Q7) | refine SLe.step ?_ Q7))) | exact RMe_lift Q7 (by (repeat (first | exact SLe.refl _ | refine SLe.more ?_ Q7 | refine SLe.more ?_ (Nxt.le Q7) | refine SLe.step ?_ Q7))) | exact Glb.lift Q7 (by (repeat (first | exact SLe.refl _ | refine SLe.more ?_ Q7 | refine SLe.more ?_ (Nxt.le Q7) | refine SLe.step ?_ Q7))) | exact Tab.lift Q7 (by (repeat (first | exact SLe.refl _ | refine SLe.more ?_ Q7 | refine SLe.more ?_ (Nxt.le Q7) | refine SLe.step ?_ Q7))) | exact RIn_any Q7 | exact RFd_any Q7 | exact RCa_any Q7)):p:=h
theorem aR {p:Prop} (h:p:=by with_unfolding_all rfl):p:=h
theorem aF {p:Prop} (a:p:=by (refine Eq.subst (motive:=fun b=>K b _) ?_ (h _ _ (by (repeat (first | exact Stp.refl (by (first | assumption | exact Stp.sat Q7 | exact Hst.sat Q7)) | assumption | refine Stp.trans ?_ (by first | assumption | exact Hst.stp Q7)))));clear h;(try clear hA);(try clear hB);(try clear hC);first | rfl | ((try simp only[Bool.not_eq_true',Bool.not_eq_false',Bool.not_true,Bool.not_false,Bool.not_eq_true] at*);simp only[*,Mb,reduceIte];done) | (simp[*];done) | simp_all)):p:=a
theorem au {p:Prop} (h:p:=by (first | assumption | (first | assumption | exact Stp.sat Q7 | exact Hst.sat Q7) | (first | assumption | exact Sl.lift Q7 (by (repeat (first | exact SLe.refl _ | refine SLe.more ?_ Q7 | refine SLe.more ?_ (Nxt.le Q7) | refine SLe.step ?_ Q7))) | exact J7.lift Q7 (by (repeat (first | exact SLe.refl _ | refine SLe.more ?_ Q7 | refine SLe.more ?_ (Nxt.le Q7) | refine SLe.step ?_ Q7))) | exact Zo.lift Q7 (by (repeat (first | exact SLe.refl _ | refine SLe.more ?_ Q7 | refine SLe.more ?_ (Nxt.le Q7) | refine SLe.step ?_ Q7))) | exact RCl_lift Q7 (by (repeat (first | exact SLe.refl _ | refine SLe.more ?_ Q7 | refine SLe.more ?_ (Nxt.le Q7) | refine SLe.step ?_ Q7))) | exact RMe_lift Q7 (by (repeat (first | exact SLe.refl _ | refine SLe.more ?_ Q7 | refine SLe.more ?_ (Nxt.le Q7) | refine SLe.step ?_ Q7))) | exact Glb.lift Q7 (by (repeat (first | exact SLe.refl _ | refine SLe.more ?_ Q7 | refine SLe.more ?_ (Nxt.le Q7) | refine SLe.step ?_ Q7))) | exact Tab.lift Q7 (by (repeat (first | exact SLe.refl _ | refine SLe.more ?_ Q7 | refine SLe.more ?_ (Nxt.le Q7) | refine SLe.step ?_ Q7))) | exact RIn_any Q7 | exact RFd_any Q7 | exact RCa_any Q7) | exact Nat.le_trans Q7 L2 | omega)):p:=h
end Go.Emb
namespace Go.Proofs.Y
open Go.Emb
theorem X7w {a:List UInt8} {cs:List Bool} {r:TypeId} {w:World} {K:Value->World->Prop}:U7 P .len [T.c] r cs [S a] w K=K (I a.length) w:=G3 Y9
theorem X4U {c d:Operand} {a b:Bool} {w:World} {K:Value->World->Prop}:Z2 P .eql T.q c d (.bool a) (.bool b) w K=K (.bool (a==b)) w:=Q7C Q5z
theorem X7x {c d:Operand} {a b:Bool} {w:World} {K:Value->World->Prop}:Z2 P .neq T.q c d (.bool a) (.bool b) w K=K (.bool (!(a==b))) w:=Q7D Q5z
def Mm:=And.intro @fa <| And.intro @H3 <| And.intro @Yk <| And.intro @X7w <| And.intro @X4U @X7x
def M1:=And.intro Mm Mr
def M2:=And.intro Mm Mp
end Go.Proofs.Y
namespace Go.Proofs.Y
open Go.Emb Go.RowKit Go.Kd Go.Hm
variable {w : World} {K : Value -> World -> Prop} {σ : Q2}
def Nl (m:Hm.Met):Bool:=decide (32<m.params.length)||decide (32<m.catches.length)||decide (200<m.code.length)||decide (64<m.locals)
def Uy (c:Cla):Bool:=c.methods.any Nl||decide (32<c.like.length)||decide (32<c.fields.length)||decide (32<c.methods.length)
theorem X6u {c : Cla} {cs : List Value} (hs : X7 w σ) (hc : L7 σ c cs) (h : ∀ w', Below w.heap.size w w' -> K (.bool (Uy c)) w') : Q0 P F.cN [.agg cs.toArray] w K := Q8w (by
  obtain ⟨lv, fv, mv, rfl, hl, hf, hm, hn, hsu⟩ := hc
  unfold Q2e
  simp only [M9]
  unfold Z3 Y1 V0 V6 Y2 X4 X5
  refine B9 hs fun a w1 σ1 hk ha => ?_
  have hs := hk.sat
  replace hl := hl.up hk
  replace hf := hf.up hk
  replace hm := hm.up hk
  simp only [Value.cells] at ha
  ((try simp only [↓M1, M1, Mb, reduceIte]); repeat ((first | refine ld (by assumption) (by assumption) rfl ?_ | refine Y6 (by assumption) (by assumption) rfl ?_ | refine Q8 (by assumption) ?_); (try simp only [↓M1, M1, Mb, reduceIte])))
  refine W0 c.methods.length (fun n w' => Below w1.heap.size w1 w' /\ ((c.methods.take n).any Nl) = false) ⟨Below.refl _ _, by simp⟩ fun n w2 d hn hi => ?_
  obtain ⟨hb, hp⟩ := hi
  have hs2 := hs.below hb
  ((try simp only [↓M1, M1, Mb, reduceIte]); repeat ((first | refine ld (by assumption) (by assumption) rfl ?_ | refine Y6 (by assumption) (by assumption) rfl ?_ | refine Q8 (by assumption) ?_); (try simp only [↓M1, M1, Mb, reduceIte])))
  refine Q5 (fun hc => ?_) (fun hc => ?_)
  · have hn' : n < c.methods.length := by simpa using hc
    refine E8 hm hn' fun p cs hl1 hlen hr => ?_
    refine Z0 hs2 hl1 hlen ?_
    refine J1 hs2 (by rfl) hlen (Rep.one hr) fun q w3 σ3 hk3 hq => ?_
    obtain ⟨pv, cv, hv, rfl, g1, g2, g3, g4⟩ := hr
    have hs3 := hk3.sat
    replace g1 := g1.up hk3
    replace g2 := g2.up hk3
    replace g3 := g3.up hk3
    ((try simp only [↓M1, M1, Mb, reduceIte]); repeat ((first | refine ld (by assumption) (by assumption) rfl ?_ | refine Y6 (by assumption) (by assumption) rfl ?_ | refine Q8 (by assumption) ?_); (try simp only [↓M1, M1, Mb, reduceIte])))
    (repeat' ((first | refine U8 (fun hh => ?_) (fun hh => ?_) | refine Q5 (fun hh => ?_) (fun hh => ?_)) <;> (try simp only [hh, Bool.not_true, Bool.not_false, ↓M1, M1, Mb, reduceIte]) <;> ((try simp only [↓M1, M1, Mb, reduceIte]); repeat ((first | refine ld (by assumption) (by assumption) rfl ?_ | refine Y6 (by assumption) (by assumption) rfl ?_ | refine Q8 (by assumption) ?_); (try simp only [↓M1, M1, Mb, reduceIte])))))
    all_goals first
      | refine Z6 hm.max hn' ⟨bt hb hk3.bel, ?_⟩
        rw [D6 hn', hp]; simp only [Nl]; (first | (simp only [decide_eq_true_eq, decide_eq_false_iff_not, Bool.not_true, Bool.not_false, Bool.not_eq_true', Bool.not_eq_false', Bool.or_eq_true, Bool.and_eq_true, Bool.or_eq_false_iff, Bool.and_eq_false_iff, Bool.false_or, Bool.true_and, Bool.or_false, Bool.and_true] at *; first | omega | (and_intros <;> omega)) | (rw [Bool.eq_iff_iff]; (simp only [decide_eq_true_eq, decide_eq_false_iff_not, Bool.not_true, Bool.not_false, Bool.not_eq_true', Bool.not_eq_false', Bool.or_eq_true, Bool.and_eq_true, Bool.or_eq_false_iff, Bool.and_eq_false_iff, Bool.false_or, Bool.true_and, Bool.or_false, Bool.and_true] at *; first | omega | (and_intros <;> omega))))
      | have e : Uy c = true := by
          have : Nl c.methods[n] = true := by simp only [Nl]; (first | (simp only [decide_eq_true_eq, decide_eq_false_iff_not, Bool.not_true, Bool.not_false, Bool.not_eq_true', Bool.not_eq_false', Bool.or_eq_true, Bool.and_eq_true, Bool.or_eq_false_iff, Bool.and_eq_false_iff, Bool.false_or, Bool.true_and, Bool.or_false, Bool.and_true] at *; first | omega | (and_intros <;> omega)) | (rw [Bool.eq_iff_iff]; (simp only [decide_eq_true_eq, decide_eq_false_iff_not, Bool.not_true, Bool.not_false, Bool.not_eq_true', Bool.not_eq_false', Bool.or_eq_true, Bool.and_eq_true, Bool.or_eq_false_iff, Bool.and_eq_false_iff, Bool.false_or, Bool.true_and, Bool.or_false, Bool.and_true] at *; first | omega | (and_intros <;> omega))))
          simp [Uy, I4 hn' this]
        rw [<- e]; exact h _ (bt hk.bel (bt hb hk3.bel))
  · have hn' : ¬ n < c.methods.length := by simpa using hc
    rw [B0 hn'] at hp
    have h := h w2 (bt hk.bel hb)
    ((try simp only [↓M1, M1, Mb, reduceIte]); repeat ((first | refine ld (by assumption) (by assumption) rfl ?_ | refine Y6 (by assumption) (by assumption) rfl ?_ | refine Q8 (by assumption) ?_); (try simp only [↓M1, M1, Mb, reduceIte])))
    (repeat' ((first | refine U8 (fun hh => ?_) (fun hh => ?_) | refine Q5 (fun hh => ?_) (fun hh => ?_)) <;> (try simp only [hh, Bool.not_true, Bool.not_false, ↓M1, M1, Mb, reduceIte]) <;> ((try simp only [↓M1, M1, Mb, reduceIte]); repeat ((first | refine ld (by assumption) (by assumption) rfl ?_ | refine Y6 (by assumption) (by assumption) rfl ?_ | refine Q8 (by assumption) ?_); (try simp only [↓M1, M1, Mb, reduceIte])))))
    all_goals
      refine Eq.subst (motive := fun b => K (.bool b) w2) ?_ h
      simp only [Uy, hp]
      (first | (simp only [decide_eq_true_eq, decide_eq_false_iff_not, Bool.not_true, Bool.not_false, Bool.not_eq_true', Bool.not_eq_false', Bool.or_eq_true, Bool.and_eq_true, Bool.or_eq_false_iff, Bool.and_eq_false_iff, Bool.false_or, Bool.true_and, Bool.or_false, Bool.and_true] at *; first | omega | (and_intros <;> omega)) | (rw [Bool.eq_iff_iff]; (simp only [decide_eq_true_eq, decide_eq_false_iff_not, Bool.not_true, Bool.not_false, Bool.not_eq_true', Bool.not_eq_false', Bool.or_eq_true, Bool.and_eq_true, Bool.or_eq_false_iff, Bool.and_eq_false_iff, Bool.false_or, Bool.true_and, Bool.or_false, Bool.and_true] at *; first | omega | (and_intros <;> omega)))))
end Go.Proofs.Y
namespace Go.Emb
open Go.RowKit Go.Hm
variable {H : Type} {enc : TypeId × Value -> H} {P : Program} {W : World} {t : TypeId} {cs : List Value} {fuel : Nat} {x : DataW H × List MemPlace}
def Lm (W:World):Q2:=fun b=>W.heap[b]?
theorem X3a:X7 W (Lm W):=fun b o h=>h
def Wt (P:Program) (t:TypeId) (d:DataW H):Prop:= ∀n∈d.weights P t,n<=reachBytes
theorem X5L {a:Addr} {n:Nat} (h:W.cells? 0 a n=some cs) (C:0<n):cs.length=n/\J7 (Lm W) a cs:=by
 obtain ⟨_,m,u⟩:=World.cells?_some h;refine ⟨m,?_⟩
 have key: ∀i v,cs[i]? =some v-> ∃arr e f,W.heap[a.block]? =some (.cells arr e f)/\(a.add i).spot=none/\arr[a.off+i]? =some v:=by
  intro i v g;have B:i<cs.length:=(List.getElem?_eq_some_iff.1 g).1;have b:=u i Q4;rw[g] at b;unfold World.cell? at b;rw[I2,Yi] at b;cases p:W.heap[a.block]? with
  | none=>rw[p] at b;cases b
  | some o=>
   rw[p] at b;cases o with
   | cells arr e f=>
    simp only at b
    split at b
    .cases b
    .rename_i w
     exact ⟨arr,e,f,rfl,by simpa using w,b⟩
   | _=>cases b
 cases j:cs with
 | nil=>subst j;simp at m;omega
 | cons c r=>
  obtain ⟨arr,e,f,l,s,A⟩:=key 0 c (by rw[j];rfl)
  refine ⟨by simpa [Addr.add] using s,arr,e,f,l,fun i v g=>?_⟩
  obtain ⟨k,z,q,d,D,y⟩:=key i v (by rw[j];exact g)
  rw[l] at d
  injection d with d
  injection d with d
  subst d;exact y
theorem X2O (a:P.underlying t=some .string) (h:DataW.trod enc P W 0 (fun _=>true) true fuel t cs=some x) (b:Wt P t x.1): ∃s:Kd.X0,cs=[S s]/\s.length<=V9:=by
 obtain ⟨⟨⟨s⟩⟩,rfl,rfl,_⟩:=DataW.trod_string a h;refine ⟨s,rfl,?_⟩;have:=b s.length (by simp[DataW.weights])
 exact this
theorem Th (c:P.underlying t=some (.int .i64)) (h:DataW.trod enc P W 0 (fun _=>true) true fuel t cs=some x): ∃n,cs=[I n]/\Xc n:=by
 obtain ⟨n,b,_,a⟩:=DataW.trod_int c h;refine ⟨n,b,?_⟩;simp only[Lit.wf,Bool.and_eq_true,decide_eq_true_eq] at a;exact ⟨a.1,a.2⟩
theorem X5M {α:Type} {Q:Nat->α->Prop}: ∀(n:Nat),(∀i,i<n-> ∃y,Q i y)-> ∃xs:List α,xs.length=n/\ ∀i y,xs[i]? =some y->Q i y:=by
 intro n
 induction n with
 | zero=>intro _;exact ⟨[],rfl,by simp⟩
 | succ n f=>
  intro h;obtain ⟨xs,c,d⟩:=f fun i b=>h i Q4;obtain ⟨y,e⟩:=h n Q4;refine ⟨xs++[y],by simp[c],fun i z a=>?_⟩
  by_cases b:i<xs.length
  .rw[List.getElem?_append_left b] at a;exact d i z a
  .rw[List.getElem?_append_right Q4] at a
   have:i-xs.length=0:=by
    have:=(List.getElem?_eq_some_iff.1 a).1
    simp at this;omega
   rw[this] at a
   simp at a
   subst a;rw[show i=n by omega];exact e
theorem X78 {e:TypeId} {d:DataW H}: ∀{l:List (DataW H)},d∈l-> ∀n∈d.weights P e,n∈DataW.weightsAll P e l:=by
 intro l
 induction l with
 | nil=>intro h;simp at h
 | cons a r c=>
  intro h n b;simp only[DataW.weightsAll,List.mem_append]
  rcases List.mem_cons.1 h with rfl | h
  .exact .inl b
  .exact .inr (c h n b)
theorem X7G {α:Type} {R:Q2->α->List Value->Prop} {e:TypeId} {sz:Nat} (z:P.underlying t=some (.slice e)) (L:P.cellsOf e=sz) (Q:0<sz)
 (r: ∀fuel cs (x:DataW H×List MemPlace),DataW.trod enc P W 0 (fun _=>true) true fuel e cs=some x->Wt P e x.1-> ∃y,R (Lm W) y cs)
 (h:DataW.trod enc P W 0 (fun _=>true) true fuel t cs=some x) (O:Wt P t x.1): ∃v xs,cs=[v]/\Sl sz R (Lm W) v xs:=by
 rcases DataW.trod_slice z h with ⟨rfl,rfl⟩ | ⟨a,o,p,d,A,n,_,rfl,rfl,_,N,s,w,f,_⟩
 .exact ⟨_,[],rfl,Sl.nil⟩
 subst L
 have step: ∀i,i<o-> ∃y,∃c,J7 (Lm W) (a.add (i*P.cellsOf e)) c/\c.length=P.cellsOf e/\R (Lm W) y c:=by
  intro i M;have u:=f i M;have g:i<d.length:=by omega
  rw[List.getElem?_eq_getElem g] at u;obtain ⟨c,C,D⟩:=Option.bind_eq_some_iff.1 u;obtain ⟨E,q⟩:=X5L C Q
  obtain ⟨y,l⟩:=r n c _ D (fun m s=>O m (by
   simp only[DataW.weights,z,List.mem_cons,List.mem_append];exact .inr (.inl (X78 (List.mem_map.2 ⟨_,List.getElem_mem g,rfl⟩) m s))))
  exact ⟨y,c,q,E,l⟩
 obtain ⟨xs,j,k⟩:=X5M o step;refine ⟨_,xs,rfl,some a,p,by rw[j],by rw[j];exact N,s,by simp,fun b J=>?_⟩
 cases J;refine ⟨fun B=>?_,fun i y l=>k i y l⟩;obtain ⟨y,l⟩: ∃y,xs[0]? =some y:=⟨xs[0],List.getElem?_eq_getElem B⟩;obtain ⟨c,q,_,_⟩:=k 0 y l;have:=q.1
 simpa [Addr.add] using this
theorem X0y: ∀{a:List TypeId} {l:List (DataW H)} {i:Nat} {u:TypeId} {d:DataW H},a[i]? =some u->l[i]? =some d-> ∀n∈d.weights P u,n∈DataW.weightsEach P a l:=
 fun b c n e=>DataW.weights_mem_each b c n e
theorem Ov {c:Array Field} (g:P.underlying t=some (.struct c)) (h:DataW.trod enc P W 0 (fun _=>true) true fuel t cs=some x) (s:Wt P t x.1) (i:Nat) {o:Nat} {b:TypeId}
 (q:(c[i]?).map (fun f=>(f.type,f.offset))=some (b,o)) (l:P.cellsOf b=1): ∃n y,DataW.trod enc P W 0 (fun _=>true) true n b ((cs.drop o).take 1)=some y/\Wt P b y.1:=by
 obtain ⟨xs,n,_,rfl,v,j,k⟩:=DataW.trod_struct g h;obtain ⟨f,a,p⟩:=Option.map_eq_some_iff.1 q;cases p;have d:=k i f a;have e:i<xs.length:=by rw[j];exact (Array.getElem?_eq_some_iff.1 a).1
 rw[List.getElem?_eq_getElem e,l] at d;refine ⟨n,_,d,fun m r=>s m ?_⟩;simp only[DataW.weights,g];exact X0y (i:=i) (u:=f.type) (by rw[List.getElem?_map,Array.getElem?_toList,a];rfl) (by rw[List.getElem?_map,List.getElem?_eq_getElem e];rfl) m r
theorem X2N {a:Array Field} {k:Nat} (d:P.underlying t=some (.struct a)) (c:P.cellsOf t=k) (h:DataW.trod enc P W 0 (fun _=>true) true fuel t cs=some x):cs.length=k:=by
 obtain ⟨_,_,_,_,b,_,_⟩:=DataW.trod_struct d h;rw[b,c]
theorem X4Q {α:Type} {l:List α} (h:l.length=3): ∃a b c,l=[a,b,c]:=by
 match l,h with
 | [a,b,c],_=>exact ⟨a,b,c,rfl⟩
theorem X7u {α:Type} {l:List α} (h:l.length=4): ∃a b c d,l=[a,b,c,d]:=by
 match l,h with
 | [a,b,c,d],_=>exact ⟨a,b,c,d,rfl⟩
theorem X7v {α:Type} {l:List α} (h:l.length=8): ∃a b c d e f g i,l=[a,b,c,d,e,f,g,i]:=by
 match l,h with
 | [a,b,c,d,e,f,g,i],_=>exact ⟨a,b,c,d,e,f,g,i,rfl⟩
end Go.Emb
namespace Go.Proofs.Y
open Go.Emb Go.RowKit Go.Kd Go.Hm
theorem Q0h:P.cellsOf T.c=1:=by kernel_rfl
theorem X6Z:P.cellsOf T.q=1:=by kernel_rfl
theorem Q7m:P.cellsOf T.f=1:=by kernel_rfl
end Go.Proofs.Y
namespace Go.Emb
def V8 {α β:Type} (a:β->α->Bool×β):β->List α->Nat->Option Nat×β
 | s,[],_=>(none,s)
 | s,x::xs,i=>if (a s x).1 then (some i,(a s x).2) else V8 a (a s x).2 xs (i+1)
def E7 (o:Option Nat):Int:=match o with | some i=>i | none=> -1
theorem Xr {α:Type} (p:α->Bool): ∀(xs:List α) (i:Nat),(V8 (fun (_:Unit) x=>(p x,())) () xs i).1=(xs.findIdx? p).map (· +i):=by
 intro xs
 induction xs with
 | nil=>intro i;rfl
 | cons x r ih=>
  intro i;rw[List.findIdx?_cons];simp only[V8];cases p x with
  | true=>simp
  | false=>
   simp only[Bool.false_eq_true,if_false];rw[ih (i+1),Option.map_map]
   congr 1;funext n;simp only[Function.comp];omega
theorem Gu {α β:Type} (a:β->α->Bool×β) (s:β) (xs:List α) (i:Nat):decide ((0:Int)<=E7 (V8 a s xs i).1)=(V8 a s xs i).1.isSome:=by
 cases (V8 a s xs i).1<;>simp[E7]
end Go.Emb
namespace Go.Proofs.Y
open Go.Emb Go.RowKit Go.Kd Go.Hm
variable {w : World} {K : Value -> World -> Prop} {σ : Q2}
theorem Nd {β:Type} {xs:List Hm.Met} {v f:Value} (b:β->Hm.Met->Bool×β) (m:β) (a:β->World->Prop) (D:Nat->Prop) (l: ∀s w,a s w->X7 w σ) (y:a m w) (u:Sl 7 F2 σ v xs)
 (z: ∀s x cs (w1:World) (K:Value->World->Prop),x∈xs->Kpt D w w1->a s w1->F2 σ x cs->cs.length=7->(∀w',Kpt D w w'->a (b s x).2 w'->K (.bool (b s x).1) w')->U2 P f [.agg cs.toArray] w1 K)
 (h: ∀w',Kpt D w w'->a (V8 b m xs 0).2 w'->K (I (E7 (V8 b m xs 0).1)) w'):Q0 P F.g [v,f] w K:=Ji (by
 unfold P3 V0 V6 Y2 X5
 ((try simp only[↓M1,M1,Mb,reduceIte]);repeat ((first | refine ld Q7 Q7 rfl ?_ | refine Y6 Q7 Q7 rfl ?_ | refine Q8 Q7 ?_);(try simp only[↓M1,M1,Mb,reduceIte])))
 refine W0 xs.length (fun n w'=>Kpt D w w'/\ ∃s,a s w'/\V8 b m xs 0=V8 b s (xs.drop n) n) ⟨Kpt.refl,m,y,rfl⟩ fun n w1 d E i=>?_;obtain ⟨t,s,i,e⟩:=i;have r:=l s w1 i
 ((try simp only[↓M1,M1,Mb,reduceIte]);repeat ((first | refine ld Q7 Q7 rfl ?_ | refine Y6 Q7 Q7 rfl ?_ | refine Q8 Q7 ?_);(try simp only[↓M1,M1,Mb,reduceIte])))
 refine Q5 (fun q=>?_) (fun q=>?_)
 .have c:n<xs.length:=by simpa using q
  refine E8 u c fun p cs A g B=>?_;refine Z0 r A g ?_;refine z s xs[n] cs w1 _ (List.getElem_mem c) t i B g fun C k j=>?_;rw[List.drop_eq_getElem_cons c] at e;simp only[V8] at e;refine Q5 (fun o=>?_) (fun o=>?_)
  .rw[o] at e
   have:=h C k;rw[e] at this;exact this j
  .rw[o] at e
   ((try simp only[↓M1,M1,Mb,reduceIte]);repeat ((first | refine ld Q7 Q7 rfl ?_ | refine Y6 Q7 Q7 rfl ?_ | refine Q8 Q7 ?_);(try simp only[↓M1,M1,Mb,reduceIte])))
   exact Z6 u.max c ⟨k,_,j,by simpa using e⟩
 .have c: ¬n<xs.length:=by simpa using q
  rw[List.drop_eq_nil_of_le Q4] at e;have:=h w1 t;rw[e] at this;exact this i)
theorem Vn {β:Type} {xs:List Hm.Met} {v f:Value} (b:β->Hm.Met->Bool×β) (d:β) (a:β->World->Prop) (D:Nat->Prop) (c: ∀s w,a s w->X7 w σ) (e:a d w) (k:Sl 7 F2 σ v xs)
 (g: ∀s x cs (w1:World) (K:Value->World->Prop),x∈xs->Kpt D w w1->a s w1->F2 σ x cs->cs.length=7->(∀w',Kpt D w w'->a (b s x).2 w'->K (.bool (b s x).1) w')->U2 P f [.agg cs.toArray] w1 K)
 (h: ∀w',Kpt D w w'->a (V8 b d xs 0).2 w'->K (.bool (V8 b d xs 0).1.isSome) w'):Q0 P F.a [v,f] w K:=Yw (by
 unfold I6 X4;refine Nd b d a D c e k g fun w1 j i=>?_
 (try simp only[↓M1,M1,Mb,reduceIte])
 rw[Gu];exact h w1 j i)
theorem Kt {xs:List Hm.Met} {v f:Value} (p:Hm.Met->Bool) (hs:X7 w σ) (hv:Sl 7 F2 σ v xs)
 (hf: ∀x cs (w1:World) (K:Value->World->Prop),x∈xs->X7 w1 σ->F2 σ x cs->cs.length=7->(∀w',Below w1.heap.size w1 w'->K (.bool (p x)) w')->U2 P f [.agg cs.toArray] w1 K)
 (h: ∀w',Below w.heap.size w w'->K (I (E7 (xs.findIdx? p))) w'):Q0 P F.g [v,f] w K:=by
 refine Nd (fun (_:Unit) x=>(p x,())) () (fun _ w'=>Below w.heap.size w w') (fun _=>False) (fun _ w' hb=>hs.below hb) (Below.refl _ _) hv (fun s x cs w1 K hx hk hi hr hl hK=>hf x cs w1 K hx (hs.below hi) hr hl fun w' hb=>hK w' (.of_below (bt hi hb)) (bt hi hb)) fun w' hk hi=>?_;rw[Xr]
 simpa using h w' hi
theorem P7 {xs:List Hm.Met} {v f:Value} (p:Hm.Met->Bool) (hs:X7 w σ) (hv:Sl 7 F2 σ v xs)
 (hf: ∀x cs (w1:World) (K:Value->World->Prop),x∈xs->X7 w1 σ->F2 σ x cs->cs.length=7->(∀w',Below w1.heap.size w1 w'->K (.bool (p x)) w')->U2 P f [.agg cs.toArray] w1 K)
 (h: ∀w',Below w.heap.size w w'->K (.bool (xs.any p)) w'):Q0 P F.a [v,f] w K:=by
 refine Vn (fun (_:Unit) x=>(p x,())) () (fun _ w'=>Below w.heap.size w w') (fun _=>False) (fun _ w' hb=>hs.below hb) (Below.refl _ _) hv (fun s x cs w1 K hx hk hi hr hl hK=>hf x cs w1 K hx (hs.below hi) hr hl fun w' hb=>hK w' (.of_below (bt hi hb)) (bt hi hb)) fun w' hk hi=>?_;rw[Xr]
 simpa using h w' hi
theorem Oz {β:Type} {xs:List Fld} {v f:Value} (b:β->Fld->Bool×β) (m:β) (a:β->World->Prop) (D:Nat->Prop) (l: ∀s w,a s w->X7 w σ) (y:a m w) (u:Sl 3 G9 σ v xs)
 (z: ∀s x cs (w1:World) (K:Value->World->Prop),x∈xs->Kpt D w w1->a s w1->G9 σ x cs->cs.length=3->(∀w',Kpt D w w'->a (b s x).2 w'->K (.bool (b s x).1) w')->U2 P f [.agg cs.toArray] w1 K)
 (h: ∀w',Kpt D w w'->a (V8 b m xs 0).2 w'->K (I (E7 (V8 b m xs 0).1)) w'):Q0 P F.j [v,f] w K:=Uf (by
 unfold T9 V0 V6 Y2 X5
 ((try simp only[↓M1,M1,Mb,reduceIte]);repeat ((first | refine ld Q7 Q7 rfl ?_ | refine Y6 Q7 Q7 rfl ?_ | refine Q8 Q7 ?_);(try simp only[↓M1,M1,Mb,reduceIte])))
 refine W0 xs.length (fun n w'=>Kpt D w w'/\ ∃s,a s w'/\V8 b m xs 0=V8 b s (xs.drop n) n) ⟨Kpt.refl,m,y,rfl⟩ fun n w1 d E i=>?_;obtain ⟨t,s,i,e⟩:=i;have r:=l s w1 i
 ((try simp only[↓M1,M1,Mb,reduceIte]);repeat ((first | refine ld Q7 Q7 rfl ?_ | refine Y6 Q7 Q7 rfl ?_ | refine Q8 Q7 ?_);(try simp only[↓M1,M1,Mb,reduceIte])))
 refine Q5 (fun q=>?_) (fun q=>?_)
 .have c:n<xs.length:=by simpa using q
  refine E8 u c fun p cs A g B=>?_;refine Z0 r A g ?_;refine z s xs[n] cs w1 _ (List.getElem_mem c) t i B g fun C k j=>?_;rw[List.drop_eq_getElem_cons c] at e;simp only[V8] at e;refine Q5 (fun o=>?_) (fun o=>?_)
  .rw[o] at e
   have:=h C k;rw[e] at this;exact this j
  .rw[o] at e
   ((try simp only[↓M1,M1,Mb,reduceIte]);repeat ((first | refine ld Q7 Q7 rfl ?_ | refine Y6 Q7 Q7 rfl ?_ | refine Q8 Q7 ?_);(try simp only[↓M1,M1,Mb,reduceIte])))
   exact Z6 u.max c ⟨k,_,j,by simpa using e⟩
 .have c: ¬n<xs.length:=by simpa using q
  rw[List.drop_eq_nil_of_le Q4] at e;have:=h w1 t;rw[e] at this;exact this i)
theorem Gq {β:Type} {xs:List Fld} {v f:Value} (b:β->Fld->Bool×β) (d:β) (a:β->World->Prop) (D:Nat->Prop) (c: ∀s w,a s w->X7 w σ) (e:a d w) (k:Sl 3 G9 σ v xs)
 (g: ∀s x cs (w1:World) (K:Value->World->Prop),x∈xs->Kpt D w w1->a s w1->G9 σ x cs->cs.length=3->(∀w',Kpt D w w'->a (b s x).2 w'->K (.bool (b s x).1) w')->U2 P f [.agg cs.toArray] w1 K)
 (h: ∀w',Kpt D w w'->a (V8 b d xs 0).2 w'->K (.bool (V8 b d xs 0).1.isSome) w'):Q0 P F.f [v,f] w K:=Zl (by
 unfold K8 X4;refine Oz b d a D c e k g fun w1 j i=>?_
 (try simp only[↓M1,M1,Mb,reduceIte])
 rw[Gu];exact h w1 j i)
theorem Po {xs:List Fld} {v f:Value} (p:Fld->Bool) (hs:X7 w σ) (hv:Sl 3 G9 σ v xs)
 (hf: ∀x cs (w1:World) (K:Value->World->Prop),x∈xs->X7 w1 σ->G9 σ x cs->cs.length=3->(∀w',Below w1.heap.size w1 w'->K (.bool (p x)) w')->U2 P f [.agg cs.toArray] w1 K)
 (h: ∀w',Below w.heap.size w w'->K (I (E7 (xs.findIdx? p))) w'):Q0 P F.j [v,f] w K:=by
 refine Oz (fun (_:Unit) x=>(p x,())) () (fun _ w'=>Below w.heap.size w w') (fun _=>False) (fun _ w' hb=>hs.below hb) (Below.refl _ _) hv (fun s x cs w1 K hx hk hi hr hl hK=>hf x cs w1 K hx (hs.below hi) hr hl fun w' hb=>hK w' (.of_below (bt hi hb)) (bt hi hb)) fun w' hk hi=>?_;rw[Xr]
 simpa using h w' hi
theorem Vy {xs:List Fld} {v f:Value} (p:Fld->Bool) (hs:X7 w σ) (hv:Sl 3 G9 σ v xs)
 (hf: ∀x cs (w1:World) (K:Value->World->Prop),x∈xs->X7 w1 σ->G9 σ x cs->cs.length=3->(∀w',Below w1.heap.size w1 w'->K (.bool (p x)) w')->U2 P f [.agg cs.toArray] w1 K)
 (h: ∀w',Below w.heap.size w w'->K (.bool (xs.any p)) w'):Q0 P F.f [v,f] w K:=by
 refine Gq (fun (_:Unit) x=>(p x,())) () (fun _ w'=>Below w.heap.size w w') (fun _=>False) (fun _ w' hb=>hs.below hb) (Below.refl _ _) hv (fun s x cs w1 K hx hk hi hr hl hK=>hf x cs w1 K hx (hs.below hi) hr hl fun w' hb=>hK w' (.of_below (bt hi hb)) (bt hi hb)) fun w' hk hi=>?_;rw[Xr]
 simpa using h w' hi
theorem Tx {β:Type} {xs:List Ins} {v f:Value} (b:β->Ins->Bool×β) (m:β) (a:β->World->Prop) (D:Nat->Prop) (l: ∀s w,a s w->X7 w σ) (y:a m w) (u:Sl 3 Ym σ v xs)
 (z: ∀s x cs (w1:World) (K:Value->World->Prop),x∈xs->Kpt D w w1->a s w1->Ym σ x cs->cs.length=3->(∀w',Kpt D w w'->a (b s x).2 w'->K (.bool (b s x).1) w')->U2 P f [.agg cs.toArray] w1 K)
 (h: ∀w',Kpt D w w'->a (V8 b m xs 0).2 w'->K (I (E7 (V8 b m xs 0).1)) w'):Q0 P F.a7 [v,f] w K:=Ug (by
 unfold A0 V0 V6 Y2 X5
 ((try simp only[↓M1,M1,Mb,reduceIte]);repeat ((first | refine ld Q7 Q7 rfl ?_ | refine Y6 Q7 Q7 rfl ?_ | refine Q8 Q7 ?_);(try simp only[↓M1,M1,Mb,reduceIte])))
 refine W0 xs.length (fun n w'=>Kpt D w w'/\ ∃s,a s w'/\V8 b m xs 0=V8 b s (xs.drop n) n) ⟨Kpt.refl,m,y,rfl⟩ fun n w1 d E i=>?_;obtain ⟨t,s,i,e⟩:=i;have r:=l s w1 i
 ((try simp only[↓M1,M1,Mb,reduceIte]);repeat ((first | refine ld Q7 Q7 rfl ?_ | refine Y6 Q7 Q7 rfl ?_ | refine Q8 Q7 ?_);(try simp only[↓M1,M1,Mb,reduceIte])))
 refine Q5 (fun q=>?_) (fun q=>?_)
 .have c:n<xs.length:=by simpa using q
  refine E8 u c fun p cs A g B=>?_;refine Z0 r A g ?_;refine z s xs[n] cs w1 _ (List.getElem_mem c) t i B g fun C k j=>?_;rw[List.drop_eq_getElem_cons c] at e;simp only[V8] at e;refine Q5 (fun o=>?_) (fun o=>?_)
  .rw[o] at e
   have:=h C k;rw[e] at this;exact this j
  .rw[o] at e
   ((try simp only[↓M1,M1,Mb,reduceIte]);repeat ((first | refine ld Q7 Q7 rfl ?_ | refine Y6 Q7 Q7 rfl ?_ | refine Q8 Q7 ?_);(try simp only[↓M1,M1,Mb,reduceIte])))
   exact Z6 u.max c ⟨k,_,j,by simpa using e⟩
 .have c: ¬n<xs.length:=by simpa using q
  rw[List.drop_eq_nil_of_le Q4] at e;have:=h w1 t;rw[e] at this;exact this i)
theorem Gr {β:Type} {xs:List Ins} {v f:Value} (b:β->Ins->Bool×β) (d:β) (a:β->World->Prop) (D:Nat->Prop) (c: ∀s w,a s w->X7 w σ) (e:a d w) (k:Sl 3 Ym σ v xs)
 (g: ∀s x cs (w1:World) (K:Value->World->Prop),x∈xs->Kpt D w w1->a s w1->Ym σ x cs->cs.length=3->(∀w',Kpt D w w'->a (b s x).2 w'->K (.bool (b s x).1) w')->U2 P f [.agg cs.toArray] w1 K)
 (h: ∀w',Kpt D w w'->a (V8 b d xs 0).2 w'->K (.bool (V8 b d xs 0).1.isSome) w'):Q0 P F.m [v,f] w K:=Zm (by
 unfold K9 X4;refine Tx b d a D c e k g fun w1 j i=>?_
 (try simp only[↓M1,M1,Mb,reduceIte])
 rw[Gu];exact h w1 j i)
theorem Fc {xs:List Ins} {v f:Value} (p:Ins->Bool) (hs:X7 w σ) (hv:Sl 3 Ym σ v xs)
 (hf: ∀x cs (w1:World) (K:Value->World->Prop),x∈xs->X7 w1 σ->Ym σ x cs->cs.length=3->(∀w',Below w1.heap.size w1 w'->K (.bool (p x)) w')->U2 P f [.agg cs.toArray] w1 K)
 (h: ∀w',Below w.heap.size w w'->K (.bool (xs.any p)) w'):Q0 P F.m [v,f] w K:=by
 refine Gr (fun (_:Unit) x=>(p x,())) () (fun _ w'=>Below w.heap.size w w') (fun _=>False) (fun _ w' hb=>hs.below hb) (Below.refl _ _) hv (fun s x cs w1 K hx hk hi hr hl hK=>hf x cs w1 K hx (hs.below hi) hr hl fun w' hb=>hK w' (.of_below (bt hi hb)) (bt hi hb)) fun w' hk hi=>?_;rw[Xr]
 simpa using h w' hi
theorem Tv {β:Type} {xs:List Cat} {v f:Value} (b:β->Cat->Bool×β) (m:β) (a:β->World->Prop) (D:Nat->Prop) (l: ∀s w,a s w->X7 w σ) (y:a m w) (u:Sl 4 Vv σ v xs)
 (z: ∀s x cs (w1:World) (K:Value->World->Prop),x∈xs->Kpt D w w1->a s w1->Vv σ x cs->cs.length=4->(∀w',Kpt D w w'->a (b s x).2 w'->K (.bool (b s x).1) w')->U2 P f [.agg cs.toArray] w1 K)
 (h: ∀w',Kpt D w w'->a (V8 b m xs 0).2 w'->K (I (E7 (V8 b m xs 0).1)) w'):Q0 P F.a6 [v,f] w K:=Ud (by
 unfold T7 V0 V6 Y2 X5
 ((try simp only[↓M1,M1,Mb,reduceIte]);repeat ((first | refine ld Q7 Q7 rfl ?_ | refine Y6 Q7 Q7 rfl ?_ | refine Q8 Q7 ?_);(try simp only[↓M1,M1,Mb,reduceIte])))
 refine W0 xs.length (fun n w'=>Kpt D w w'/\ ∃s,a s w'/\V8 b m xs 0=V8 b s (xs.drop n) n) ⟨Kpt.refl,m,y,rfl⟩ fun n w1 d E i=>?_;obtain ⟨t,s,i,e⟩:=i;have r:=l s w1 i
 ((try simp only[↓M1,M1,Mb,reduceIte]);repeat ((first | refine ld Q7 Q7 rfl ?_ | refine Y6 Q7 Q7 rfl ?_ | refine Q8 Q7 ?_);(try simp only[↓M1,M1,Mb,reduceIte])))
 refine Q5 (fun q=>?_) (fun q=>?_)
 .have c:n<xs.length:=by simpa using q
  refine E8 u c fun p cs A g B=>?_;refine Z0 r A g ?_;refine z s xs[n] cs w1 _ (List.getElem_mem c) t i B g fun C k j=>?_;rw[List.drop_eq_getElem_cons c] at e;simp only[V8] at e;refine Q5 (fun o=>?_) (fun o=>?_)
  .rw[o] at e
   have:=h C k;rw[e] at this;exact this j
  .rw[o] at e
   ((try simp only[↓M1,M1,Mb,reduceIte]);repeat ((first | refine ld Q7 Q7 rfl ?_ | refine Y6 Q7 Q7 rfl ?_ | refine Q8 Q7 ?_);(try simp only[↓M1,M1,Mb,reduceIte])))
   exact Z6 u.max c ⟨k,_,j,by simpa using e⟩
 .have c: ¬n<xs.length:=by simpa using q
  rw[List.drop_eq_nil_of_le Q4] at e;have:=h w1 t;rw[e] at this;exact this i)
theorem Gp {β:Type} {xs:List Cat} {v f:Value} (b:β->Cat->Bool×β) (d:β) (a:β->World->Prop) (D:Nat->Prop) (c: ∀s w,a s w->X7 w σ) (e:a d w) (k:Sl 4 Vv σ v xs)
 (g: ∀s x cs (w1:World) (K:Value->World->Prop),x∈xs->Kpt D w w1->a s w1->Vv σ x cs->cs.length=4->(∀w',Kpt D w w'->a (b s x).2 w'->K (.bool (b s x).1) w')->U2 P f [.agg cs.toArray] w1 K)
 (h: ∀w',Kpt D w w'->a (V8 b d xs 0).2 w'->K (.bool (V8 b d xs 0).1.isSome) w'):Q0 P F.l [v,f] w K:=Zk (by
 unfold K7 X4;refine Tv b d a D c e k g fun w1 j i=>?_
 (try simp only[↓M1,M1,Mb,reduceIte])
 rw[Gu];exact h w1 j i)
theorem Fb {xs:List Cat} {v f:Value} (p:Cat->Bool) (hs:X7 w σ) (hv:Sl 4 Vv σ v xs)
 (hf: ∀x cs (w1:World) (K:Value->World->Prop),x∈xs->X7 w1 σ->Vv σ x cs->cs.length=4->(∀w',Below w1.heap.size w1 w'->K (.bool (p x)) w')->U2 P f [.agg cs.toArray] w1 K)
 (h: ∀w',Below w.heap.size w w'->K (.bool (xs.any p)) w'):Q0 P F.l [v,f] w K:=by
 refine Gp (fun (_:Unit) x=>(p x,())) () (fun _ w'=>Below w.heap.size w w') (fun _=>False) (fun _ w' hb=>hs.below hb) (Below.refl _ _) hv (fun s x cs w1 K hx hk hi hr hl hK=>hf x cs w1 K hx (hs.below hi) hr hl fun w' hb=>hK w' (.of_below (bt hi hb)) (bt hi hb)) fun w' hk hi=>?_;rw[Xr]
 simpa using h w' hi
theorem Tw {β:Type} {xs:List Cla} {v f:Value} (b:β->Cla->Bool×β) (m:β) (a:β->World->Prop) (D:Nat->Prop) (l: ∀s w,a s w->X7 w σ) (y:a m w) (u:Sl 8 L7 σ v xs)
 (z: ∀s x cs (w1:World) (K:Value->World->Prop),x∈xs->Kpt D w w1->a s w1->L7 σ x cs->cs.length=8->(∀w',Kpt D w w'->a (b s x).2 w'->K (.bool (b s x).1) w')->U2 P f [.agg cs.toArray] w1 K)
 (h: ∀w',Kpt D w w'->a (V8 b m xs 0).2 w'->K (I (E7 (V8 b m xs 0).1)) w'):Q0 P F.o [v,f] w K:=Ue (by
 unfold T8 V0 V6 Y2 X5
 ((try simp only[↓M1,M1,Mb,reduceIte]);repeat ((first | refine ld Q7 Q7 rfl ?_ | refine Y6 Q7 Q7 rfl ?_ | refine Q8 Q7 ?_);(try simp only[↓M1,M1,Mb,reduceIte])))
 refine W0 xs.length (fun n w'=>Kpt D w w'/\ ∃s,a s w'/\V8 b m xs 0=V8 b s (xs.drop n) n) ⟨Kpt.refl,m,y,rfl⟩ fun n w1 d E i=>?_;obtain ⟨t,s,i,e⟩:=i;have r:=l s w1 i
 ((try simp only[↓M1,M1,Mb,reduceIte]);repeat ((first | refine ld Q7 Q7 rfl ?_ | refine Y6 Q7 Q7 rfl ?_ | refine Q8 Q7 ?_);(try simp only[↓M1,M1,Mb,reduceIte])))
 refine Q5 (fun q=>?_) (fun q=>?_)
 .have c:n<xs.length:=by simpa using q
  refine E8 u c fun p cs A g B=>?_;refine Z0 r A g ?_;refine z s xs[n] cs w1 _ (List.getElem_mem c) t i B g fun C k j=>?_;rw[List.drop_eq_getElem_cons c] at e;simp only[V8] at e;refine Q5 (fun o=>?_) (fun o=>?_)
  .rw[o] at e
   have:=h C k;rw[e] at this;exact this j
  .rw[o] at e
   ((try simp only[↓M1,M1,Mb,reduceIte]);repeat ((first | refine ld Q7 Q7 rfl ?_ | refine Y6 Q7 Q7 rfl ?_ | refine Q8 Q7 ?_);(try simp only[↓M1,M1,Mb,reduceIte])))
   exact Z6 u.max c ⟨k,_,j,by simpa using e⟩
 .have c: ¬n<xs.length:=by simpa using q
  rw[List.drop_eq_nil_of_le Q4] at e;have:=h w1 t;rw[e] at this;exact this i)
theorem Pn {xs:List Cla} {v f:Value} (p:Cla->Bool) (hs:X7 w σ) (hv:Sl 8 L7 σ v xs)
 (hf: ∀x cs (w1:World) (K:Value->World->Prop),x∈xs->X7 w1 σ->L7 σ x cs->cs.length=8->(∀w',Below w1.heap.size w1 w'->K (.bool (p x)) w')->U2 P f [.agg cs.toArray] w1 K)
 (h: ∀w',Below w.heap.size w w'->K (I (E7 (xs.findIdx? p))) w'):Q0 P F.o [v,f] w K:=by
 refine Tw (fun (_:Unit) x=>(p x,())) () (fun _ w'=>Below w.heap.size w w') (fun _=>False) (fun _ w' hb=>hs.below hb) (Below.refl _ _) hv (fun s x cs w1 K hx hk hi hr hl hK=>hf x cs w1 K hx (hs.below hi) hr hl fun w' hb=>hK w' (.of_below (bt hi hb)) (bt hi hb)) fun w' hk hi=>?_;rw[Xr]
 simpa using h w' hi
theorem Q33 {β:Type} {xs:List X0} {v f:Value} (b:β->X0->Bool×β) (m:β) (a:β->World->Prop) (D:Nat->Prop) (l: ∀s w,a s w->X7 w σ) (z:a m w) (y:Sl 1 L6 σ v xs)
 (A: ∀s x (w1:World) (K:Value->World->Prop),x∈xs->Kpt D w w1->a s w1->x.length<=V9->(∀w',Kpt D w w'->a (b s x).2 w'->K (.bool (b s x).1) w')->U2 P f [S x] w1 K)
 (h: ∀w',Kpt D w w'->a (V8 b m xs 0).2 w'->K (I (E7 (V8 b m xs 0).1)) w'):Q0 P F.x [v,f] w K:=Mf (by
 unfold Xg V0 V6 Y2 X5
 ((try simp only[↓M1,M1,Mb,reduceIte]);repeat ((first | refine ld Q7 Q7 rfl ?_ | refine Y6 Q7 Q7 rfl ?_ | refine Q8 Q7 ?_);(try simp only[↓M1,M1,Mb,reduceIte])))
 refine W0 xs.length (fun n w'=>Kpt D w w'/\ ∃s,a s w'/\V8 b m xs 0=V8 b s (xs.drop n) n) ⟨Kpt.refl,m,z,rfl⟩ fun n w1 d H i=>?_;obtain ⟨t,s,i,e⟩:=i;have r:=l s w1 i
 ((try simp only[↓M1,M1,Mb,reduceIte]);repeat ((first | refine ld Q7 Q7 rfl ?_ | refine Y6 Q7 Q7 rfl ?_ | refine Q8 Q7 ?_);(try simp only[↓M1,M1,Mb,reduceIte])))
 refine Q5 (fun q=>?_) (fun q=>?_)
 .have c:n<xs.length:=by simpa using q
  refine E8 y c fun p cs B u C=>?_;obtain ⟨rfl,g⟩:=C;refine Y6 r B rfl ?_;refine A s xs[n] w1 _ (List.getElem_mem c) t i g fun E k j=>?_;rw[List.drop_eq_getElem_cons c] at e;simp only[V8] at e;refine Q5 (fun o=>?_) (fun o=>?_)
  .rw[o] at e
   have:=h E k;rw[e] at this;exact this j
  .rw[o] at e
   ((try simp only[↓M1,M1,Mb,reduceIte]);repeat ((first | refine ld Q7 Q7 rfl ?_ | refine Y6 Q7 Q7 rfl ?_ | refine Q8 Q7 ?_);(try simp only[↓M1,M1,Mb,reduceIte])))
   exact Z6 y.max c ⟨k,_,j,by simpa using e⟩
 .have c: ¬n<xs.length:=by simpa using q
  rw[List.drop_eq_nil_of_le Q4] at e;have:=h w1 t;rw[e] at this;exact this i)
theorem Q22 {xs:List X0} {v f:Value} (p:X0->Bool) (hs:X7 w σ) (hv:Sl 1 L6 σ v xs)
 (hf: ∀x (w1:World) (K:Value->World->Prop),x∈xs->X7 w1 σ->x.length<=V9->(∀w',Below w1.heap.size w1 w'->K (.bool (p x)) w')->U2 P f [S x] w1 K)
 (h: ∀w',Below w.heap.size w w'->K (I (E7 (xs.findIdx? p))) w'):Q0 P F.x [v,f] w K:=by
 refine Q33 (fun (_:Unit) x=>(p x,())) () (fun _ w'=>Below w.heap.size w w') (fun _=>False) (fun _ w' hb=>hs.below hb) (Below.refl _ _) hv (fun s x w1 K hx hk hi hr hK=>hf x w1 K hx (hs.below hi) hr fun w' hb=>hK w' (.of_below (bt hi hb)) (bt hi hb)) fun w' hk hi=>?_;rw[Xr]
 simpa using h w' hi
theorem Q85 {α:Type} (p:α->Bool) (xs:List α):decide ((0:Int)<=E7 (xs.findIdx? p))=xs.any p:=by
 rw[Bool.eq_iff_iff,List.any_eq_true];simp only[decide_eq_true_eq];cases h:xs.findIdx? p with
 | none=>
  simp only[E7];constructor
  .intro h;omega
  .rintro ⟨x,c,a⟩;have:=List.findIdx?_eq_none_iff.1 h x c;rw[a] at this;cases this
 | some i=>
  simp only[E7];obtain ⟨b,a,_⟩:=List.findIdx?_eq_some_iff_getElem.1 h;exact ⟨fun _=>⟨xs[i],List.getElem_mem b,a⟩,fun _=>by omega⟩
theorem Qy {xs:List X0} {v f:Value} (p:X0->Bool) (c:X7 w σ) (d:Sl 1 L6 σ v xs)
 (b: ∀x (w1:World) (K:Value->World->Prop),x∈xs->X7 w1 σ->x.length<=V9->(∀w',Below w1.heap.size w1 w'->K (.bool (p x)) w')->U2 P f [S x] w1 K)
 (h: ∀w',Below w.heap.size w w'->K (.bool (xs.any p)) w'):Q0 P F.c [v,f] w K:=Vu (by
 unfold Qn X4;refine Q22 p c d b fun w1 a=>?_
 (try simp only[↓M1,M1,Mb,reduceIte])
 rw[Q85];exact h w1 a)
theorem Q5J {xs:List X0} {v:Value} {x:X0} (r:X7 w σ) (i:Sl 1 L6 σ v xs)
 (h:K (I (E7 (xs.findIdx? fun y=>decide (x=y)))) w):Q0 P F.ax [v,S x] w K:=Hb (by
 unfold Yt V0 V6 Y2 X5
 ((try simp only[↓M1,M1,Mb,reduceIte]);repeat ((first | refine ld Q7 Q7 rfl ?_ | refine Y6 Q7 Q7 rfl ?_ | refine Q8 Q7 ?_);(try simp only[↓M1,M1,Mb,reduceIte])))
 refine W0 xs.length (fun n w'=>w=w'/\(xs.take n).any (fun y=>decide (x=y))=false) ⟨rfl,rfl⟩ fun n w1 d q b=>?_;obtain ⟨rfl,b⟩:=b
 ((try simp only[↓M1,M1,Mb,reduceIte]);repeat ((first | refine ld Q7 Q7 rfl ?_ | refine Y6 Q7 Q7 rfl ?_ | refine Q8 Q7 ?_);(try simp only[↓M1,M1,Mb,reduceIte])))
 refine Q5 (fun e=>?_) (fun e=>?_)
 .have a:n<xs.length:=by simpa using e
  refine E8 i a fun p cs o g k=>?_;obtain ⟨rfl,f⟩:=k
  ((try simp only[↓M1,M1,Mb,reduceIte]);repeat ((first | refine ld Q7 Q7 rfl ?_ | refine Y6 Q7 Q7 rfl ?_ | refine Q8 Q7 ?_);(try simp only[↓M1,M1,Mb,reduceIte])))
  refine Q5 (fun c=>?_) (fun c=>?_)
  .have:xs.findIdx? (fun y=>decide (x=y))=some n:=by
    rw[List.findIdx?_eq_some_iff_getElem];refine ⟨a,c,fun j m=>?_⟩;have:=List.any_eq_false.1 b (xs[j]) (List.mem_take_iff_getElem.2 ⟨j,by omega,rfl⟩)
    exact this
   rw[this] at h;exact h
  ·((try simp only[↓M1,M1,Mb,reduceIte]);repeat ((first | refine ld Q7 Q7 rfl ?_ | refine Y6 Q7 Q7 rfl ?_ | refine Q8 Q7 ?_);(try simp only[↓M1,M1,Mb,reduceIte])))
   exact Z6 i.max a ⟨rfl,by rw[D6 a,b,c];rfl⟩
 .have a: ¬n<xs.length:=by simpa using e
  rw[B0 a] at b
  have:xs.findIdx? (fun y=>decide (x=y))=none:=by
   rw[List.findIdx?_eq_none_iff];intro y l;simpa using List.any_eq_false.1 b y l
  rw[this] at h;exact h)
theorem Q3A {xs:List X0} {v:Value} {x:X0} (a:X7 w σ) (b:Sl 1 L6 σ v xs)
 (h:K (.bool (xs.any fun y=>decide (x=y))) w):Q0 P F.ai [v,S x] w K:=Nc (by
 unfold Xp X4;refine Q5J a b ?_
 (try simp only[↓M1,M1,Mb,reduceIte])
 rw[Q85];exact h)
end Go.Proofs.Y
namespace Go.Emb
abbrev Q2.Le (σ σ':Q2):Prop:= ∀b o,σ b=some o->σ' b=some o
def A5 {α:Type} (f:α->List UInt8):List α->List α->Bool
 | _,[]=>true
 | seen,x::r=> !(seen.any fun y=>decide (f y=f x))&&A5 f (seen++[x]) r
theorem Mj {α:Type} (p:α->Bool) (xs:List α):(!xs.any fun x=> !p x)=xs.all p:=by
 rw[List.all_eq_not_any_not]
end Go.Emb
namespace Go.Proofs.Y
open Go.Emb Go.RowKit Go.Kd Go.Hm
variable {w : World} {K : Value -> World -> Prop} {σ : Q2}
theorem Q23 {xs:List Hm.Met} {v:Value} {fn:Fn} {k d:Array Value} (p:Hm.Met->Bool) (u:X7 w σ) (y:Sl 7 F2 σ v xs)
 (s: ∀(σ1:Q2) x cs (w1:World) (K:Value->World->Prop),σ.Le σ1->x∈xs->X7 w1 σ1->F2 σ1 x cs->cs.length=7->(∀w',Below w1.heap.size w1 w'->K (.bool (p x)) w')->U2 P (.func fn k d) [.agg cs.toArray] w1 K)
 (h: ∀w',Below w.heap.size w w'->K (.bool (xs.all p)) w'):Q0 P F.ao [v, .func fn k d] w K:=Gi (by
 unfold Wk;refine B9 u fun a w1 σ1 f l=>?_;simp only[Value.cells] at l
 ((try simp only[↓M1,M1,Mb,reduceIte]);repeat ((first | refine ld Q7 Q7 rfl ?_ | refine Y6 Q7 Q7 rfl ?_ | refine Q8 Q7 ?_);(try simp only[↓M1,M1,Mb,reduceIte])))
 refine P7 (fun x=> !p x) f.sat (y.up f) (fun x cs n K z j t m q=>?_) fun n r=>?_
 .refine U0 (Ct ?_)
  unfold Um;refine B9 j fun b A C c g=>?_;refine Y6 c.sat (l.up c) rfl ?_;refine Z0 c.sat g m ?_;refine s C x _ A _ (fun b o e=>c.le b o (f.le b o e)) z c.sat (Rep.up c.le t) m fun B i=>?_
  (try simp only[↓M1,M1,Mb,reduceIte])
  exact q B (bt c.bel i)
 ·(try simp only[↓M1,M1,Mb,reduceIte])
  rw[Mj];exact h n (bt f.bel r))
theorem Q3C {xs:List Fld} {v:Value} {fn:Fn} {k d:Array Value} (p:Fld->Bool) (u:X7 w σ) (y:Sl 3 G9 σ v xs)
 (s: ∀(σ1:Q2) x cs (w1:World) (K:Value->World->Prop),σ.Le σ1->x∈xs->X7 w1 σ1->G9 σ1 x cs->cs.length=3->(∀w',Below w1.heap.size w1 w'->K (.bool (p x)) w')->U2 P (.func fn k d) [.agg cs.toArray] w1 K)
 (h: ∀w',Below w.heap.size w w'->K (.bool (xs.all p)) w'):Q0 P F.au [v, .func fn k d] w K:=Ie (by
 unfold Lt;refine B9 u fun a w1 σ1 f l=>?_;simp only[Value.cells] at l
 ((try simp only[↓M1,M1,Mb,reduceIte]);repeat ((first | refine ld Q7 Q7 rfl ?_ | refine Y6 Q7 Q7 rfl ?_ | refine Q8 Q7 ?_);(try simp only[↓M1,M1,Mb,reduceIte])))
 refine Vy (fun x=> !p x) f.sat (y.up f) (fun x cs n K z j t m q=>?_) fun n r=>?_
 .refine U0 (Bn ?_)
  unfold Vh;refine B9 j fun b A C c g=>?_;refine Y6 c.sat (l.up c) rfl ?_;refine Z0 c.sat g m ?_;refine s C x _ A _ (fun b o e=>c.le b o (f.le b o e)) z c.sat (Rep.up c.le t) m fun B i=>?_
  (try simp only[↓M1,M1,Mb,reduceIte])
  exact q B (bt c.bel i)
 ·(try simp only[↓M1,M1,Mb,reduceIte])
  rw[Mj];exact h n (bt f.bel r))
theorem Q3D {xs:List Ins} {v:Value} {fn:Fn} {k d:Array Value} (p:Ins->Bool) (u:X7 w σ) (y:Sl 3 Ym σ v xs)
 (s: ∀(σ1:Q2) x cs (w1:World) (K:Value->World->Prop),σ.Le σ1->x∈xs->X7 w1 σ1->Ym σ1 x cs->cs.length=3->(∀w',Below w1.heap.size w1 w'->K (.bool (p x)) w')->U2 P (.func fn k d) [.agg cs.toArray] w1 K)
 (h: ∀w',Below w.heap.size w w'->K (.bool (xs.all p)) w'):Q0 P F.av [v, .func fn k d] w K:=Ig (by
 unfold Lu;refine B9 u fun a w1 σ1 f l=>?_;simp only[Value.cells] at l
 ((try simp only[↓M1,M1,Mb,reduceIte]);repeat ((first | refine ld Q7 Q7 rfl ?_ | refine Y6 Q7 Q7 rfl ?_ | refine Q8 Q7 ?_);(try simp only[↓M1,M1,Mb,reduceIte])))
 refine Fc (fun x=> !p x) f.sat (y.up f) (fun x cs n K z j t m q=>?_) fun n r=>?_
 .refine U0 (Bo ?_)
  unfold Vi;refine B9 j fun b A C c g=>?_;refine Y6 c.sat (l.up c) rfl ?_;refine Z0 c.sat g m ?_;refine s C x _ A _ (fun b o e=>c.le b o (f.le b o e)) z c.sat (Rep.up c.le t) m fun B i=>?_
  (try simp only[↓M1,M1,Mb,reduceIte])
  exact q B (bt c.bel i)
 ·(try simp only[↓M1,M1,Mb,reduceIte])
  rw[Mj];exact h n (bt f.bel r))
theorem Q3B {xs:List Cat} {v:Value} {fn:Fn} {k d:Array Value} (p:Cat->Bool) (u:X7 w σ) (y:Sl 4 Vv σ v xs)
 (s: ∀(σ1:Q2) x cs (w1:World) (K:Value->World->Prop),σ.Le σ1->x∈xs->X7 w1 σ1->Vv σ1 x cs->cs.length=4->(∀w',Below w1.heap.size w1 w'->K (.bool (p x)) w')->U2 P (.func fn k d) [.agg cs.toArray] w1 K)
 (h: ∀w',Below w.heap.size w w'->K (.bool (xs.all p)) w'):Q0 P F.ar [v, .func fn k d] w K:=Ic (by
 unfold Ls;refine B9 u fun a w1 σ1 f l=>?_;simp only[Value.cells] at l
 ((try simp only[↓M1,M1,Mb,reduceIte]);repeat ((first | refine ld Q7 Q7 rfl ?_ | refine Y6 Q7 Q7 rfl ?_ | refine Q8 Q7 ?_);(try simp only[↓M1,M1,Mb,reduceIte])))
 refine Fb (fun x=> !p x) f.sat (y.up f) (fun x cs n K z j t m q=>?_) fun n r=>?_
 .refine U0 (Bm ?_)
  unfold Vg;refine B9 j fun b A C c g=>?_;refine Y6 c.sat (l.up c) rfl ?_;refine Z0 c.sat g m ?_;refine s C x _ A _ (fun b o e=>c.le b o (f.le b o e)) z c.sat (Rep.up c.le t) m fun B i=>?_
  (try simp only[↓M1,M1,Mb,reduceIte])
  exact q B (bt c.bel i)
 ·(try simp only[↓M1,M1,Mb,reduceIte])
  rw[Mj];exact h n (bt f.bel r))
theorem Pp {xs:List X0} {v:Value} {fn:Fn} {g b:Array Value} (p:X0->Bool) (n:X7 w σ) (o:Sl 1 L6 σ v xs)
 (l: ∀(σ1:Q2) x (w1:World) (K:Value->World->Prop),σ.Le σ1->x∈xs->X7 w1 σ1->x.length<=V9->(∀w',Below w1.heap.size w1 w'->K (.bool (p x)) w')->U2 P (.func fn g b) [S x] w1 K)
 (h: ∀w',Below w.heap.size w w'->K (.bool (xs.all p)) w'):Q0 P F.ab [v, .func fn g b] w K:=Q0w (by
 unfold Dt;refine B9 n fun a w1 σ1 d i=>?_;simp only[Value.cells] at i
 ((try simp only[↓M1,M1,Mb,reduceIte]);repeat ((first | refine ld Q7 Q7 rfl ?_ | refine Y6 Q7 Q7 rfl ?_ | refine Q8 Q7 ?_);(try simp only[↓M1,M1,Mb,reduceIte])))
 refine Qy (fun x=> !p x) d.sat (o.up d) (fun x f K q c m j=>?_) fun f k=>?_
 .refine U0 (Pe ?_)
  unfold Mu;refine Y6 c i rfl ?_;refine l σ1 x f _ d.le q c m fun r e=>?_
  (try simp only[↓M1,M1,Mb,reduceIte])
  exact j r e
 ·(try simp only[↓M1,M1,Mb,reduceIte])
  rw[Mj];exact h f (bt d.bel k))
theorem Q3E {xs:List Hm.Met} {v:Value} {fn:Fn} {E l:Array Value} (f:Hm.Met->X0) (hs:X7 w σ) (C:Sl 7 F2 σ v xs)
 (Y: ∀(σ1:Q2) x cs (w1:World) (K:Value->World->Prop),σ.Le σ1->X7 w1 σ1->F2 σ1 x cs->cs.length=7->(∀w',Below w1.heap.size w1 w'->K (S (f x)) w')->U2 P (.func fn E l) [.agg cs.toArray] w1 K)
 (h: ∀w',Below w.heap.size w w'->K (.bool (A5 f [] xs)) w'):Q0 P F.aw [v, .func fn E l] w K:=Ih (by
 unfold Lv;simp only[M9];unfold V0 V6 Y2 X5;refine B9 hs fun a w1 σ1 A X=>?_;simp only[Value.cells] at X;have R:=A.sat;replace C:=C.up A
 ((try simp only[↓M1,M1,Mb,reduceIte]);repeat ((first | refine ld Q7 Q7 rfl ?_ | refine Y6 Q7 Q7 rfl ?_ | refine Q8 Q7 ?_);(try simp only[↓M1,M1,Mb,reduceIte])))
 refine W0 xs.length (fun n w'=>Below w1.heap.size w1 w'/\A5 f [] xs=A5 f (xs.take n) (xs.drop n)) ⟨Below.refl _ _,rfl⟩ fun n w2 d hn hi=>?_;obtain ⟨i,r⟩:=hi;have B:=R.below i
 ((try simp only[↓M1,M1,Mb,reduceIte]);repeat ((first | refine ld Q7 Q7 rfl ?_ | refine Y6 Q7 Q7 rfl ?_ | refine Q8 Q7 ?_);(try simp only[↓M1,M1,Mb,reduceIte])))
 refine Q5 (fun N=>?_) (fun N=>?_)
 .have k:n<xs.length:=by simpa using N
  rw[List.drop_eq_getElem_cons k] at r;simp only[A5] at r;refine E8 C k fun p cs hl g Z=>?_;refine Z0 B hl g ?_;refine J1 B (by rfl) g (Rep.one Z) fun q w3 σ3 j hq=>?_
  refine Co (C.up j) none (some (I n)) 0 n (.inl ⟨rfl,rfl⟩) (.inr rfl) Q4 Q4 fun v' V=>?_
  ((try simp only[↓M1,M1,Mb,reduceIte]);repeat ((first | refine ld Q7 Q7 rfl ?_ | refine Y6 Q7 Q7 rfl ?_ | refine Q8 Q7 ?_);(try simp only[↓M1,M1,Mb,reduceIte])))
  refine P7 (fun y=>decide (f y=f xs[n])) j.sat V (fun y ys w4 K hy U Q D hK=>?_) fun w4 J=>?_
  .refine U0 (Bp ?_)
   unfold Vj;simp only[Y5,L1];unfold X5;refine B9 U fun b w5 W c L=>?_;have u:=(X.up j).up c;have O:=hq.up c;have s:σ.Le W:=fun b o e=>c.le b o (j.le b o (A.le b o e));refine Rp (Below.refl _ _) ?_;refine X9 (.func fn E l) (fun w i=>Y6 (c.sat.below i) u rfl (Y4 rfl)) ?_;refine X9 (.agg ys.toArray) (fun w i=>Z0 (c.sat.below i) L D (Y4 rfl)) ?_;refine X9 (S (f y)) (fun t t' w i e e'=>by rw[e,e'];exact Y W y ys w _ s (c.sat.below i) (Rep.up c.le Q) D fun w' H=>Q4P H rfl) ?_
   refine X9 (.func fn E l) (fun w i=>Y6 (c.sat.below i) u rfl (Y4 rfl)) ?_;refine X9 (.agg cs.toArray) (fun w i=>Z0 (c.sat.below i) O g (Y4 rfl)) ?_;rintro _ _ _ _ _ w6 z rfl rfl rfl rfl rfl;refine Y W xs[n] cs w6 _ s (c.sat.below z) (Rep.up (fun b o e=>c.le b o (j.le b o e)) Z) g fun w7 M=>?_
   (try simp only[↓M1,M1,Mb,reduceIte])
   exact hK w7 (bt (bt c.bel z) M)
  .have m:=bt i (bt j.bel J)
   simp only[List.drop_zero,Nat.sub_zero] at*;refine Q5 (fun hh=>?_) (fun hh=>?_)
   .rw[hh] at r
    have:=h w4 (bt A.bel m);rw[r] at this;exact this
   .rw[hh] at r
    ((try simp only[↓M1,M1,Mb,reduceIte]);repeat ((first | refine ld Q7 Q7 rfl ?_ | refine Y6 Q7 Q7 rfl ?_ | refine Q8 Q7 ?_);(try simp only[↓M1,M1,Mb,reduceIte])))
    refine Z6 C.max k ⟨m,?_⟩;rw[r,List.take_add_one,List.getElem?_eq_getElem k];rfl
 .have k: ¬n<xs.length:=by simpa using N
  rw[List.drop_eq_nil_of_le Q4] at r;have:=h w2 (bt A.bel i);rw[r] at this;exact this)
theorem Q4k {xs:List Fld} {v:Value} {fn:Fn} {E l:Array Value} (f:Fld->X0) (hs:X7 w σ) (C:Sl 3 G9 σ v xs)
 (Y: ∀(σ1:Q2) x cs (w1:World) (K:Value->World->Prop),σ.Le σ1->X7 w1 σ1->G9 σ1 x cs->cs.length=3->(∀w',Below w1.heap.size w1 w'->K (S (f x)) w')->U2 P (.func fn E l) [.agg cs.toArray] w1 K)
 (h: ∀w',Below w.heap.size w w'->K (.bool (A5 f [] xs)) w'):Q0 P F.aC [v, .func fn E l] w K:=Pf (by
 unfold Mv;simp only[M9];unfold V0 V6 Y2 X5;refine B9 hs fun a w1 σ1 A X=>?_;simp only[Value.cells] at X;have R:=A.sat;replace C:=C.up A
 ((try simp only[↓M1,M1,Mb,reduceIte]);repeat ((first | refine ld Q7 Q7 rfl ?_ | refine Y6 Q7 Q7 rfl ?_ | refine Q8 Q7 ?_);(try simp only[↓M1,M1,Mb,reduceIte])))
 refine W0 xs.length (fun n w'=>Below w1.heap.size w1 w'/\A5 f [] xs=A5 f (xs.take n) (xs.drop n)) ⟨Below.refl _ _,rfl⟩ fun n w2 d hn hi=>?_;obtain ⟨i,r⟩:=hi;have B:=R.below i
 ((try simp only[↓M1,M1,Mb,reduceIte]);repeat ((first | refine ld Q7 Q7 rfl ?_ | refine Y6 Q7 Q7 rfl ?_ | refine Q8 Q7 ?_);(try simp only[↓M1,M1,Mb,reduceIte])))
 refine Q5 (fun N=>?_) (fun N=>?_)
 .have k:n<xs.length:=by simpa using N
  rw[List.drop_eq_getElem_cons k] at r;simp only[A5] at r;refine E8 C k fun p cs hl g Z=>?_;refine Z0 B hl g ?_;refine J1 B (by rfl) g (Rep.one Z) fun q w3 σ3 j hq=>?_
  refine Co (C.up j) none (some (I n)) 0 n (.inl ⟨rfl,rfl⟩) (.inr rfl) Q4 Q4 fun v' V=>?_
  ((try simp only[↓M1,M1,Mb,reduceIte]);repeat ((first | refine ld Q7 Q7 rfl ?_ | refine Y6 Q7 Q7 rfl ?_ | refine Q8 Q7 ?_);(try simp only[↓M1,M1,Mb,reduceIte])))
  refine Vy (fun y=>decide (f y=f xs[n])) j.sat V (fun y ys w4 K hy U Q D hK=>?_) fun w4 J=>?_
  .refine U0 (Gj ?_)
   unfold Wl;simp only[Y5,L1];unfold X5;refine B9 U fun b w5 W c L=>?_;have u:=(X.up j).up c;have O:=hq.up c;have s:σ.Le W:=fun b o e=>c.le b o (j.le b o (A.le b o e));refine Rp (Below.refl _ _) ?_;refine X9 (.func fn E l) (fun w i=>Y6 (c.sat.below i) u rfl (Y4 rfl)) ?_;refine X9 (.agg ys.toArray) (fun w i=>Z0 (c.sat.below i) L D (Y4 rfl)) ?_;refine X9 (S (f y)) (fun t t' w i e e'=>by rw[e,e'];exact Y W y ys w _ s (c.sat.below i) (Rep.up c.le Q) D fun w' H=>Q4P H rfl) ?_
   refine X9 (.func fn E l) (fun w i=>Y6 (c.sat.below i) u rfl (Y4 rfl)) ?_;refine X9 (.agg cs.toArray) (fun w i=>Z0 (c.sat.below i) O g (Y4 rfl)) ?_;rintro _ _ _ _ _ w6 z rfl rfl rfl rfl rfl;refine Y W xs[n] cs w6 _ s (c.sat.below z) (Rep.up (fun b o e=>c.le b o (j.le b o e)) Z) g fun w7 M=>?_
   (try simp only[↓M1,M1,Mb,reduceIte])
   exact hK w7 (bt (bt c.bel z) M)
  .have m:=bt i (bt j.bel J)
   simp only[List.drop_zero,Nat.sub_zero] at*;refine Q5 (fun hh=>?_) (fun hh=>?_)
   .rw[hh] at r
    have:=h w4 (bt A.bel m);rw[r] at this;exact this
   .rw[hh] at r
    ((try simp only[↓M1,M1,Mb,reduceIte]);repeat ((first | refine ld Q7 Q7 rfl ?_ | refine Y6 Q7 Q7 rfl ?_ | refine Q8 Q7 ?_);(try simp only[↓M1,M1,Mb,reduceIte])))
    refine Z6 C.max k ⟨m,?_⟩;rw[r,List.take_add_one,List.getElem?_eq_getElem k];rfl
 .have k: ¬n<xs.length:=by simpa using N
  rw[List.drop_eq_nil_of_le Q4] at r;have:=h w2 (bt A.bel i);rw[r] at this;exact this)
theorem Q6Z {xs:List X0} {v:Value} {fn:Fn} {D k:Array Value} (f:X0->X0) (hs:X7 w σ) (C:Sl 1 L6 σ v xs)
 (U: ∀(σ1:Q2) x (w1:World) (K:Value->World->Prop),σ.Le σ1->X7 w1 σ1->x.length<=V9->(∀w',Below w1.heap.size w1 w'->K (S (f x)) w')->U2 P (.func fn D k) [S x] w1 K)
 (h: ∀w',Below w.heap.size w w'->K (.bool (A5 f [] xs)) w'):Q0 P F.aP [v, .func fn D k] w K:=Q1C (by
 unfold Ht;simp only[M9];unfold V0 V6 Y2 X5;refine B9 hs fun a w1 σ1 A R=>?_;simp only[Value.cells] at R;have N:=A.sat;replace C:=C.up A
 ((try simp only[↓M1,M1,Mb,reduceIte]);repeat ((first | refine ld Q7 Q7 rfl ?_ | refine Y6 Q7 Q7 rfl ?_ | refine Q8 Q7 ?_);(try simp only[↓M1,M1,Mb,reduceIte])))
 refine W0 xs.length (fun n w'=>Below w1.heap.size w1 w'/\A5 f [] xs=A5 f (xs.take n) (xs.drop n)) ⟨Below.refl _ _,rfl⟩ fun n w2 d hn Y=>?_;obtain ⟨c,m⟩:=Y;have B:=N.below c
 ((try simp only[↓M1,M1,Mb,reduceIte]);repeat ((first | refine ld Q7 Q7 rfl ?_ | refine Y6 Q7 Q7 rfl ?_ | refine Q8 Q7 ?_);(try simp only[↓M1,M1,Mb,reduceIte])))
 refine Q5 (fun L=>?_) (fun L=>?_)
 .have i:n<xs.length:=by simpa using L
  rw[List.drop_eq_getElem_cons i] at m;simp only[A5] at m;refine E8 C i fun p cs Z V hr=>?_;obtain ⟨rfl,z⟩:=hr;refine Y6 B Z rfl ?_;refine W2 B (by rfl) rfl rfl fun q w3 Q g hq=>?_
  refine Co (C.up g) none (some (I n)) 0 n (.inl ⟨rfl,rfl⟩) (.inr rfl) Q4 Q4 fun v' O=>?_
  ((try simp only[↓M1,M1,Mb,reduceIte]);repeat ((first | refine ld Q7 Q7 rfl ?_ | refine Y6 Q7 Q7 rfl ?_ | refine Q8 Q7 ?_);(try simp only[↓M1,M1,Mb,reduceIte])))
  refine Qy (fun y=>decide (f y=f xs[n])) g.sat O (fun y W K hy j M X=>?_) fun W H=>?_
  .refine U0 (Tl ?_)
   unfold Oi;simp only[Y5,X3];unfold X5;have s:=R.up g;have r:σ.Le Q:=fun b o e=>g.le b o (A.le b o e);refine Rp (Below.refl _ _) ?_;refine X9 (.func fn D k) (fun w c=>Y6 (j.below c) s rfl (Y4 rfl)) ?_;refine X9 (S (f y)) (fun t w c e=>by rw[e];exact U Q y w _ r (j.below c) M fun w' E=>Q4P E rfl) ?_
   refine X9 (.func fn D k) (fun w c=>Y6 (j.below c) s rfl (Y4 rfl)) ?_;refine X9 (S xs[n]) (fun w c=>Y6 (j.below c) hq rfl (Y4 rfl)) ?_;rintro _ _ _ _ w6 u rfl rfl rfl rfl;refine U Q xs[n] w6 _ r (j.below u) z fun w7 J=>?_
   (try simp only[↓M1,M1,Mb,reduceIte])
   exact X w7 (bt u J)
  .have l:=bt c (bt g.bel H)
   simp only[List.drop_zero,Nat.sub_zero] at*;refine Q5 (fun hh=>?_) (fun hh=>?_)
   .rw[hh] at m
    have:=h W (bt A.bel l);rw[m] at this;exact this
   .rw[hh] at m
    ((try simp only[↓M1,M1,Mb,reduceIte]);repeat ((first | refine ld Q7 Q7 rfl ?_ | refine Y6 Q7 Q7 rfl ?_ | refine Q8 Q7 ?_);(try simp only[↓M1,M1,Mb,reduceIte])))
    refine Z6 C.max i ⟨l,?_⟩;rw[m,List.take_add_one,List.getElem?_eq_getElem i];rfl
 .have i: ¬n<xs.length:=by simpa using L
  rw[List.drop_eq_nil_of_le Q4] at m;have:=h w2 (bt A.bel c);rw[m] at this;exact this)
theorem Q9l {P:Program} {w:World} (d:Nat) (t e:TypeId) (a:Option Addr) (n c:Nat) (h:P.underlying t=some (.slice e)):
 (Op.equalIn (d+1) t (.slice a n c) (.slice none 0 0)).run P w= .ok a.isNone w:=by
 cases a<;>simp[Op.equalIn,run_underlying h]
theorem Pr {t e:TypeId} {i j:Operand} [ts:TS P t e] {a:Option Addr} {n c:Nat} {b:Bool} (f:a.isNone=b) (g:K (.bool b) w):Z2 P .eql t i j (.slice a n c) (.slice none 0 0) w K:=by
 have d:(Op.equal t (.slice a n c) (.slice none 0 0)).run P w= .ok b w:=by
  have:=Q9l (P:=P) (w:=w) 9999 t e a n c ts.h;rw[f] at this;exact this
 unfold Z2;rw[Y8 (v:= .bool b) (w':=w) (by simp[eqGuard,Go.binOp,d])]
 exact g
theorem Od {xs:List X0} {v:Value} (f:X7 w σ) (g:Sl 1 L6 σ v xs) (A:xs.length<=1000000)
 (h: ∀i w' b,Stp w σ w' b->Sl 1 L6 b i xs->K i w'):Q0 P F.aa [v] w K:=Ha (by
 unfold Ys;have d:=g;obtain ⟨a,j,rfl,t,u,k,y⟩:=g;refine Pr rfl ?_;refine Q5 (fun e=>?_) (fun e=>?_)
 .have:a=none:=by simpa using e
  have s:=k this;have o:xs=[]:=List.eq_nil_of_length_eq_zero Q4;subst o;exact h _ w σ (Stp.refl f) Sl.nil
 .refine Zu (R:=L6) (sz:=1) (Stp.refl f) [] [] rfl rfl U5 (by rfl) trivial fun B w1 n m _=>?_
  refine app n m d (by rfl) (by simp only[List.length_nil];omega) (by simp only[List.length_nil];omega) fun C r z l c _=>?_
  obtain ⟨b,p,q,_⟩:=c.keep l;exact h _ r b p q)
theorem Sm {xs:List Fld} {v:Value} (f:X7 w σ) (g:Sl 3 G9 σ v xs) (A:xs.length<=1000000)
 (h: ∀i w' b,Stp w σ w' b->Sl 3 G9 b i xs->K i w'):Q0 P F.ag [v] w K:=Ww (by
 unfold Qu;have d:=g;obtain ⟨a,j,rfl,t,u,k,y⟩:=g;refine Pr rfl ?_;refine Q5 (fun e=>?_) (fun e=>?_)
 .have:a=none:=by simpa using e
  have s:=k this;have o:xs=[]:=List.eq_nil_of_length_eq_zero Q4;subst o;exact h _ w σ (Stp.refl f) Sl.nil
 .refine Zu (R:=G9) (sz:=3) (Stp.refl f) [] [] rfl rfl U5 (by rfl) trivial fun B w1 n m _=>?_
  refine app n m d (by rfl) (by simp only[List.length_nil];omega) (by simp only[List.length_nil];omega) fun C r z l c _=>?_
  obtain ⟨b,p,q,_⟩:=c.keep l;exact h _ r b p q)
theorem Sn {xs:List Ins} {v:Value} (f:X7 w σ) (g:Sl 3 Ym σ v xs) (A:xs.length<=1000000)
 (h: ∀i w' b,Stp w σ w' b->Sl 3 Ym b i xs->K i w'):Q0 P F.ah [v] w K:=Wx (by
 unfold Qv;have d:=g;obtain ⟨a,j,rfl,t,u,k,y⟩:=g;refine Pr rfl ?_;refine Q5 (fun e=>?_) (fun e=>?_)
 .have:a=none:=by simpa using e
  have s:=k this;have o:xs=[]:=List.eq_nil_of_length_eq_zero Q4;subst o;exact h _ w σ (Stp.refl f) Sl.nil
 .refine Zu (R:=Ym) (sz:=3) (Stp.refl f) [] [] rfl rfl U5 (by rfl) trivial fun B w1 n m _=>?_
  refine app n m d (by rfl) (by simp only[List.length_nil];omega) (by simp only[List.length_nil];omega) fun C r z l c _=>?_
  obtain ⟨b,p,q,_⟩:=c.keep l;exact h _ r b p q)
theorem Sk {xs:List Cat} {v:Value} (f:X7 w σ) (g:Sl 4 Vv σ v xs) (A:xs.length<=1000000)
 (h: ∀i w' b,Stp w σ w' b->Sl 4 Vv b i xs->K i w'):Q0 P F.af [v] w K:=Wv (by
 unfold Qt;have d:=g;obtain ⟨a,j,rfl,t,u,k,y⟩:=g;refine Pr rfl ?_;refine Q5 (fun e=>?_) (fun e=>?_)
 .have:a=none:=by simpa using e
  have s:=k this;have o:xs=[]:=List.eq_nil_of_length_eq_zero Q4;subst o;exact h _ w σ (Stp.refl f) Sl.nil
 .refine Zu (R:=Vv) (sz:=4) (Stp.refl f) [] [] rfl rfl U5 (by rfl) trivial fun B w1 n m _=>?_
  refine app n m d (by rfl) (by simp only[List.length_nil];omega) (by simp only[List.length_nil];omega) fun C r z l c _=>?_
  obtain ⟨b,p,q,_⟩:=c.keep l;exact h _ r b p q)
end Go.Proofs.Y
namespace Go.Hm
open Go.Kd
structure Opr where
  name : X0
  number : Bool
  text : Bool
deriving DecidableEq
def Ws:List Opr:=[
 ⟨[105,110,116],true,false⟩,
 ⟨[116,114,117,101],false,false⟩,
 ⟨[102,97,108,115,101],false,false⟩,
 ⟨[119,111,114,100],false,true⟩,
 ⟨[110,117,108,108],false,false⟩,
 ⟨[108,111,97,100],true,false⟩,
 ⟨[115,116,111,114,101],true,false⟩,
 ⟨[112,111,112],false,false⟩,
 ⟨[100,117,112],false,false⟩,
 ⟨[115,119,97,112],false,false⟩,
 ⟨[97,100,100],false,false⟩,
 ⟨[115,117,98],false,false⟩,
 ⟨[109,117,108],false,false⟩,
 ⟨[100,105,118],false,false⟩,
 ⟨[114,101,109],false,false⟩,
 ⟨[110,101,103],false,false⟩,
 ⟨[108,101,115,115],false,false⟩,
 ⟨[115,97,109,101],false,false⟩,
 ⟨[110,111,116],false,false⟩,
 ⟨[98,111,116,104],false,false⟩,
 ⟨[106,111,105,110],false,false⟩,
 ⟨[115,105,122,101],false,false⟩,
 ⟨[106,117,109,112],true,false⟩,
 ⟨[98,114,97,110,99,104],true,false⟩,
 ⟨[110,101,119],false,true⟩,
 ⟨[103,101,116],false,true⟩,
 ⟨[112,117,116],false,true⟩,
 ⟨[99,97,108,108],false,true⟩,
 ⟨[97,114,114,97,121],false,true⟩,
 ⟨[97,116],false,false⟩,
 ⟨[115,101,116],false,false⟩,
 ⟨[105,115],false,true⟩,
 ⟨[99,97,115,116],false,true⟩,
 ⟨[114,101,116,117,114,110],false,false⟩,
 ⟨[116,104,114,111,119],false,false⟩,
 ⟨[111,117,116],false,false⟩,
 ⟨[101,113,117,97,108],false,false⟩,
 ⟨[97,110,100],false,false⟩,
 ⟨[111,114],false,false⟩,
 ⟨[120,111,114],false,false⟩,
 ⟨[115,104,108],false,false⟩,
 ⟨[115,104,114],false,false⟩]
end Go.Hm
namespace Go.Emb
open Go.Hm
def ROp (_:Q2) (o:Opr) (cs:List Value):Prop:=cs=[S o.name, .bool o.number, .bool o.text]
def cOp (o:Opr):List Value:=[S o.name, .bool o.number, .bool o.text]
instance:Rep ROp:=⟨fun _ h=>h,fun h u hu=>by rw[h] at hu;simp at hu;rcases hu with rfl | rfl | rfl<;>rfl⟩
end Go.Emb
namespace Go.Proofs.Y
open Go.Emb Go.RowKit Go.Kd Go.Hm
variable {w : World} {K : Value -> World -> Prop} {σ : Q2}
theorem Q7I {a:X0} (k:a.length<=V9) (h: ∀w',Below w.heap.size w w'->K (.bool (C9 a)) w'):Q0 P F.bQ [S a] w K:=Q68 (by
 unfold Pu X6;have b:a.length<=140737488355328:=by simp only[V9] at k;omega
 refine Q8c a b fun w1 e=>?_;cases d:name a
 ·(try simp only[↓M1,M1,Mb,reduceIte])
  have:=h w1 e
  rwa [show C9 a=false by cases a with | nil=>rfl | cons c r=>simp[C9,d]] at this
 ·(try simp only[↓M1,M1,Mb,reduceIte])
  refine Bx a b fun m j=>?_
  (try simp only[↓M1,M1,Mb,reduceIte])
  have:=h m (bt e j)
  rwa [show C9 a= !S1 a by
   cases a with
   | nil=>simp[name] at d
   | cons c r=>
    obtain ⟨i,l⟩:=Av d;simp only[S1,C9,d,Bool.true_and];simp only[I3,l,Bool.or_false] at i;cases f:Zp c.toNat<;>cases g:Yf c.toNat
    .simp[f,g] at i
    .rfl
    .rfl
    .exfalso
     simp only[Zp,Yf,Bool.and_eq_true,decide_eq_true_eq] at f g;omega] at this)
theorem X67 {t e:TypeId} {n sz b:Nat} {z:Value} [ta:TA P t n e] [tz:TZ P e sz b z] {a:Addr} (d:K (.slice (some a) n n) w):G5 P t (.pointer (some a)) none none none w K:=by
 unfold G5
 have:(Instr.sliceAt t (.pointer (some a)) none none none).run P w= .ok (.slice (some (if n=0 then a else a.add (0*sz))) (n-0) (n-0)) w:=by
  simp[Instr.sliceAt,run_underlying ta.h,Instr.sureAddr,Instr.sliceBounds,D9 tz]
 rw[Y8 this]
 have c:(if n=0 then a else a.add (0*sz))=a:=by
  by_cases h:n=0
  .rw[if_pos h]
  .rw[if_neg h,Nat.zero_mul,add_zero]
 rw[c];exact d
def Q4i (σ:Q2):Prop:=J7 σ ⟨G.a,0,none⟩ (Ws.flatMap cOp)
theorem X0g (i:Nat) (o:Opr) (h:Ws[i]? =some o):((Ws.flatMap cOp).drop (i*3)).take 3=cOp o:=by
 have c:i<42:=(List.getElem?_eq_some_iff.1 h).1
 have key: ∀l:List Opr,∀i o,l[i]? =some o->((l.flatMap cOp).drop (i*3)).take 3=cOp o:=by
  intro l
  induction l with
  | nil=>intro i o h;simp at h
  | cons a r b=>
   intro i o h;cases i with
   | zero=>simp at h;subst h;rfl
   | succ i=>
    have:=b i o (by simpa using h)
    rw[List.flatMap_cons,show (i+1)*3=(cOp a).length+i*3 by simp[cOp];omega,List.drop_append]
    simpa [List.drop_eq_nil_of_le] using this
 exact key _ i o h
theorem Q58 {σ:Q2} {a:Addr} {cs:List Value} (h:J7 σ a cs) (i n:Nat):J7 σ (a.add i) ((cs.drop i).take n):=by
 obtain ⟨d,arr,e,c,f,g⟩:=h;refine ⟨Qj d _,arr,e,c,by rw[I2];exact f,fun j v b=>?_⟩
 rw[List.getElem?_take] at b
 split at b
 .rw[List.getElem?_drop] at b
  rw[Yi,Nat.add_assoc];exact g _ _ b
 .cases b
theorem X71 (h:Q4i σ):Sl 3 ROp σ (.slice (some ⟨G.a,0,none⟩) 42 42) Ws:=by
 refine ⟨_,42,rfl,by decide,by decide,by simp,?_⟩
 rintro _ ⟨⟩;refine ⟨fun _=>rfl,fun i x a=>⟨cOp x,?_,rfl,rfl⟩⟩;rw[<-X0g i x a];exact Q58 h (i*3) 3
theorem Q1U {β:Type} {xs:List Opr} {v f:Value} (b:β->Opr->Bool×β) (m:β) (a:β->World->Prop) (D:Nat->Prop) (l: ∀s w,a s w->X7 w σ) (y:a m w) (u:Sl 3 ROp σ v xs)
 (z: ∀s x cs (w1:World) (K:Value->World->Prop),x∈xs->Kpt D w w1->a s w1->ROp σ x cs->cs.length=3->(∀w',Kpt D w w'->a (b s x).2 w'->K (.bool (b s x).1) w')->U2 P f [.agg cs.toArray] w1 K)
 (h: ∀w',Kpt D w w'->a (V8 b m xs 0).2 w'->K (I (E7 (V8 b m xs 0).1)) w'):Q0 P F.t [v,f] w K:=Wy (by
 unfold Qx V0 V6 Y2 X5
 ((try simp only[↓M1,M1,Mb,reduceIte]);repeat ((first | refine ld Q7 Q7 rfl ?_ | refine Y6 Q7 Q7 rfl ?_ | refine Q8 Q7 ?_);(try simp only[↓M1,M1,Mb,reduceIte])))
 refine W0 xs.length (fun n w'=>Kpt D w w'/\ ∃s,a s w'/\V8 b m xs 0=V8 b s (xs.drop n) n) ⟨Kpt.refl,m,y,rfl⟩ fun n w1 d E i=>?_;obtain ⟨t,s,i,e⟩:=i;have r:=l s w1 i
 ((try simp only[↓M1,M1,Mb,reduceIte]);repeat ((first | refine ld Q7 Q7 rfl ?_ | refine Y6 Q7 Q7 rfl ?_ | refine Q8 Q7 ?_);(try simp only[↓M1,M1,Mb,reduceIte])))
 refine Q5 (fun q=>?_) (fun q=>?_)
 .have c:n<xs.length:=by simpa using q
  refine E8 u c fun p cs A g B=>?_;refine Z0 r A g ?_;refine z s xs[n] cs w1 _ (List.getElem_mem c) t i B g fun C k j=>?_;rw[List.drop_eq_getElem_cons c] at e;simp only[V8] at e;refine Q5 (fun o=>?_) (fun o=>?_)
  .rw[o] at e
   have:=h C k;rw[e] at this;exact this j
  .rw[o] at e
   ((try simp only[↓M1,M1,Mb,reduceIte]);repeat ((first | refine ld Q7 Q7 rfl ?_ | refine Y6 Q7 Q7 rfl ?_ | refine Q8 Q7 ?_);(try simp only[↓M1,M1,Mb,reduceIte])))
   exact Z6 u.max c ⟨k,_,j,by simpa using e⟩
 .have c: ¬n<xs.length:=by simpa using q
  rw[List.drop_eq_nil_of_le Q4] at e;have:=h w1 t;rw[e] at this;exact this i)
theorem Q1g {xs:List Opr} {v f:Value} (p:Opr->Bool) (hs:X7 w σ) (hv:Sl 3 ROp σ v xs)
 (hf: ∀x cs (w1:World) (K:Value->World->Prop),x∈xs->X7 w1 σ->ROp σ x cs->cs.length=3->(∀w',Below w1.heap.size w1 w'->K (.bool (p x)) w')->U2 P f [.agg cs.toArray] w1 K)
 (h: ∀w',Below w.heap.size w w'->K (I (E7 (xs.findIdx? p))) w'):Q0 P F.t [v,f] w K:=by
 refine Q1U (fun (_:Unit) x=>(p x,())) () (fun _ w'=>Below w.heap.size w w') (fun _=>False) (fun _ w' hb=>hs.below hb) (Below.refl _ _) hv (fun s x cs w1 K hx hk hi hr hl hK=>hf x cs w1 K hx (hs.below hi) hr hl fun w' hb=>hK w' (.of_below (bt hi hb)) (bt hi hb)) fun w' hk hi=>?_;rw[Xr]
 simpa using h w' hi
theorem Q4i.le {σ a:Q2} (h:Q4i σ) (c: ∀b o,σ b=some o->a b=some o):Q4i a:=J7.le h c
def Yq (n:X0):Option Nat:=Ws.findIdx? fun o=>decide (o.name=n)
theorem X6r {a:X0} (r:X7 w σ) (k:Q4i σ) (h: ∀w',Below w.heap.size w w'->K (I (E7 (Yq a))) w'):Q0 P F.cT [S a] w K:=Q9E (by
 unfold Q41;refine B9 r fun p w1 σ1 c f=>?_;simp only[Value.cells] at f;refine X67 ?_
 ((try simp only[↓M1,M1,Mb,reduceIte]);repeat ((first | refine ld Q7 Q7 rfl ?_ | refine Y6 Q7 Q7 rfl ?_ | refine Q8 Q7 ?_);(try simp only[↓M1,M1,Mb,reduceIte])))
 refine Q1g (fun o=>decide (o.name=a)) c.sat (X71 (k.le c.le)) (fun x cs g K v e n u i=>?_) fun g j=>?_
 .refine U0 (Q78 ?_)
  unfold Q15 Y1 X5;refine B9 e fun q t y b m=>?_;have d:cs=[S x.name, .bool x.number, .bool x.text]:=n;subst d;have s:=b.sat;have l:=f.up b;simp only[Value.cells] at m
  ((try simp only[↓M1,M1,Mb,reduceIte]);repeat ((first | refine ld Q7 Q7 rfl ?_ | refine Y6 Q7 Q7 rfl ?_ | refine Q8 Q7 ?_);(try simp only[↓M1,M1,Mb,reduceIte])))
  exact i t b.bel
 ·(try simp only[↓M1,M1,Mb,reduceIte])
  exact h g (bt c.bel j))
def G8 (n:X0):Bool×Bool×Bool:=match Yq n with
 | none=>(false,false,false)
 | some i=>((Ws.getD i ⟨[],false,false⟩).number,(Ws.getD i ⟨[],false,false⟩).text,true)
theorem X5b {a:X0} (l:X7 w σ) (j:Q4i σ) (h: ∀w',Below w.heap.size w w'->K (.tuple #[.bool (G8 a).1, .bool (G8 a).2.1, .bool (G8 a).2.2]) w'):Q0 P F.cl [S a] w K:=Q8y (by
 unfold Q2g;simp only[Y5,X3];unfold X4;refine X6r l j fun w1 b=>?_;have c:=l.below b;unfold G8 at h;cases f:Yq a with
 | none=>
  rw[f] at h;simp only[E7]
  (try simp only[↓M1,M1,Mb,reduceIte])
  simp only[show decide ((-1:Int)<0)=true from rfl,↓M1,M1,Mb,reduceIte]
  exact h w1 b
 | some i=>
  rw[f] at h;simp only at h;have n:i<42:=(List.findIdx?_eq_some_iff_getElem.1 f).1
  have k:Ws[i]? =some (Ws.getD i ⟨[],false,false⟩):=by
   rw[List.getD,List.getElem?_eq_getElem (by exact n)];rfl
  generalize Ws.getD i ⟨[],false,false⟩=o at h k;have g:=Q58 j (i*3) 3;rw[X0g i o k] at g;simp only[E7];have m:decide ((i:Int)<0)=false:=by simp
  simp only[m,↓M1,M1,Mb,reduceIte]
  have A: ∀{w:World} {K:Value->World->Prop},K (.pointer (some ((⟨G.a,0,none⟩:Addr).add (i*3)))) w->indexAddr P T.aj (.pointer (some ⟨G.a,0,none⟩)) (I i) w K:=by
   intro w K h;rw[Q89 Q4 Q4]
   simpa using h
  refine Rp (Below.refl _ _) ?_;refine X9 (.pointer (some ((⟨G.a,0,none⟩:Addr).add (i*3)))) (fun w b=>A (Y4 rfl)) ?_;refine X9 (.pointer (some (((⟨G.a,0,none⟩:Addr).add (i*3)).add 1))) (fun t w b e=>by rw[e,fa];exact Y4 rfl) ?_
  refine X9 (.pointer (some ((⟨G.a,0,none⟩:Addr).add (i*3)))) (fun w b=>A (Y4 rfl)) ?_;refine X9 (.pointer (some (((⟨G.a,0,none⟩:Addr).add (i*3)).add 2))) (fun t w b e=>by rw[e,fa];exact Y4 rfl) ?_
  refine X9 (.bool o.number) (fun t w b e=>by rw[e];exact ld (c.below b) g rfl (Y4 rfl)) ?_
  refine X9 (.bool o.text) (fun t w b e=>by rw[e];exact ld (c.below b) g rfl (Y4 rfl)) ?_
  rintro _ _ _ _ _ _ p d rfl rfl rfl rfl rfl rfl;exact h p (bt b d))
end Go.Proofs.Y
namespace Go.Emb
open Go.RowKit Go.Hm
variable {P : Program} {w w' : World} {K : Value -> World -> Prop} {σ σ0 σ' : Q2}
structure SLe (σ σ' : Q2) : Prop where
  le : ∀ b o, σ b = some o -> σ' b = some o
theorem SLe.refl (σ:Q2):SLe σ σ:=⟨fun _ _ h=>h⟩
theorem SLe.step {w w':World} (h:SLe σ0 σ) (k:Stp w σ w' σ'):SLe σ0 σ':=⟨fun b o e=>k.le b o (h.le b o e)⟩
theorem SLe.more (h:SLe σ0 σ) (k:SLe σ σ'):SLe σ0 σ':=⟨fun b o e=>k.le b o (h.le b o e)⟩
structure Hst (w : World) (σ : Q2) (w' : World) (σ' : Q2) : Prop where
  stp : Stp w σ w' σ'
theorem Hst.sat (h:Hst w σ w' σ'):X7 w' σ':=h.stp.sat
variable {α : Type} {R : Q2 -> α -> List Value -> Prop} {sz : Nat} {v : Value} {xs : List α} {a : Addr} {cs : List Value}
theorem Sl.lift [Rep R] (h:Sl sz R σ0 v xs) (k:SLe σ0 σ):Sl sz R σ v xs:=h.le k.le
theorem J7.lift (h:J7 σ0 a cs) (k:SLe σ0 σ):J7 σ a cs:=h.le k.le
theorem Zo.lift {r:Nat} {m:List (List UInt8×Value)} (h:Zo σ0 r m) (k:SLe σ0 σ):Zo σ r m:=h.le k.le
theorem RMe_lift {x:Hm.Met} (h:F2 σ0 x cs) (k:SLe σ0 σ):F2 σ x cs:=Rep.up k.le h
theorem RCl_lift {x:Cla} (h:L7 σ0 x cs) (k:SLe σ0 σ):L7 σ x cs:=Rep.up k.le h
theorem RFd_any {x:Fld} (h:G9 σ0 x cs):G9 σ x cs:=h
theorem RIn_any {x:Ins} (h:Ym σ0 x cs):Ym σ x cs:=h
theorem RCa_any {x:Cat} (h:Vv σ0 x cs):Vv σ x cs:=h
theorem Y7.step {b:Nat} (h:Y7 σ w b cs) (k:Stp w σ w' σ'):Y7 σ' w' b cs:=h.up k
theorem W8.step [Rep R] {B:Nat} {e:TypeId} (h:W8 B e sz R σ w v xs) (k:Stp w σ w' σ'):W8 B e sz R σ' w' v xs:=h.up k
theorem E5 {Q:World->Prop} (d:X7 w σ) (h: ∀w' σ',Stp w σ w' σ'->Q w'): ∀w',Below w.heap.size w w'->Q w':=fun w' c=>h w' σ (Stp.of_below d c)
variable {k : IntKind} {t : TypeId} {ox oy : Operand} {a b : Int} {x : Bool} {s u : List UInt8}
theorem H8 (h:K (.int k (k.wrap (a+b))) w):Z2 P .add t ox oy (.int k a) (.int k b) w K:=by rw[Pl];exact h
theorem Yl (c: -9223372036854775808<=a+b/\a+b<=9223372036854775807) (h:K (I (a+b)) w):Z2 P .add t ox oy (I a) (I b) w K:=by rw[Pl,A8 c.1 c.2];exact h
theorem Ux (c: -9223372036854775808<=a-b/\a-b<=9223372036854775807) (h:K (I (a-b)) w):Z2 P .sub t ox oy (I a) (I b) w K:=by rw[Q5H,A8 c.1 c.2];exact h
theorem J0 (h:K (.bool (decide (a<b))) w):Z2 P .lss t ox oy (.int k a) (.int k b) w K:=by rw[Q5F];exact h
theorem Q7r (h:K (.bool (decide (a<=b))) w):Z2 P .leq t ox oy (.int k a) (.int k b) w K:=by rw[Q5E];exact h
theorem Q3x (h:K (.bool (decide (b<a))) w):Z2 P .gtr t ox oy (.int k a) (.int k b) w K:=by rw[Bw];exact h
theorem Qd (h:K (.bool (decide (b<=a))) w):Z2 P .geq t ox oy (.int k a) (.int k b) w K:=by rw[Q3c];exact h
theorem C8 (h:K (.bool (decide (a=b))) w):Z2 P .eql t ox oy (.int k a) (.int k b) w K:=by rw[Q3b];exact h
theorem Xn (h:K (.bool (!decide (a=b))) w):Z2 P .neq t ox oy (.int k a) (.int k b) w K:=by rw[Q5G];exact h
theorem Za (h:K (.bool (!x)) w):V4 P .not (.bool x) w K:=by rw[Q6d];exact h
theorem Xb (h:K (.bool (decide (s=u))) w):Z2 P .eql t ox oy (S s) (S u) w K:=by rw[Kr];exact h
theorem Vs (h:K (.bool (!decide (s=u))) w):Z2 P .neq t ox oy (S s) (S u) w K:=by rw[Ks];exact h
theorem Bv (c:s.length+u.length<=9223372036854775807) (h:K (S (s++u)) w):Z2 P .add t ox oy (S s) (S u) w K:=by rw[Q3T c];exact h
theorem Aa {cs:List Bool} {r:TypeId} (c:P.underlying t=some .string) (h:K (I s.length) w):U7 P .len [t] r cs [S s] w K:=by rw[G3 c];exact h
theorem X6f {v u:Value} (h:K v w):pick P (.bool true) v u w K:=by rw[H0];exact h
theorem X6e {v u:Value} (h:K u w):pick P (.bool false) v u w K:=by rw[D0];exact h
theorem B8 {v u:Value} (h:K (if x=true then v else u) w):pick P (.bool x) v u w K:=by rw[Ci];exact h
theorem Q5A {f:Fn} {first caps:List Value} (h:K (.func f first.toArray caps.toArray) w):C1 P f first caps w K:=by rw[Yk];exact h
theorem J4 {vs:List Value} {i:Nat} {v:Value} (c:vs[i]? =some v) (h:K v w):ext P (.tuple vs.toArray) i w K:=by rw[Wc c];exact h
theorem F0 {a:Addr} (h:K (.pointer (some a)) w):nilCheck P (.pointer (some a)) w K:=by rw[H3];exact h
theorem J3 {t e:Prop} (h:t):X1 (.bool true) t e:=by rw[G4];exact h
theorem Z9 {t e:Prop} (h:e):X1 (.bool false) t e:=by rw[B5];exact h
theorem X7d {c:World->(Value->World->Prop)->Prop} (h:c w K):Q1 (.bool true) true w c K:=by rw[V5];exact h
theorem X7c {c:World->(Value->World->Prop)->Prop} (h:c w K):Q1 (.bool false) false w c K:=by rw[O6];exact h
theorem X6d {c:World->(Value->World->Prop)->Prop} (h:K undef w):Q1 (.bool true) false w c K:=by rw[F7];exact h
theorem X6a {c:World->(Value->World->Prop)->Prop} (h:K undef w):Q1 (.bool false) true w c K:=by rw[M7];exact h
variable {a : Addr}
theorem Z1 {t:TypeId} (f:X7 w σ) (h: ∀a w' σ',Stp w σ w' σ'->J7 σ' a cs->K (.pointer (some a)) w'):box P t (.agg cs.toArray) w K:=
 B9 f fun a w' σ' c d=>h a w' σ' c (by simpa [Value.cells] using d)
theorem W5 {t:TypeId} (g:X7 w σ) (d:v.cells= #[v]) (h: ∀a w' σ',Stp w σ w' σ'->J7 σ' a [v]->K (.pointer (some a)) w'):box P t v w K:=
 B9 g fun a w' σ' f c=>h a w' σ' f (by rw[d] at c;exact c)
theorem Nu (h:Sl sz R σ v xs):v.cells= #[v]:=by
 obtain ⟨a,c,rfl,_⟩:=h;rfl
theorem U3 {t:TypeId} {k c:Nat} {d:TypeId} {sz by_:Nat} {z:Value} [tf:TF P t k c d] [tz:TZ P d sz by_ z] [nz:NZ sz] (h:K (.pointer (some (a.add c))) w):fieldAddr P t (.pointer (some a)) k w K:=by
 rw[fa];exact h
theorem V7 {t:TypeId} {k c:Nat} {d:TypeId} [tf:TF P t k c d] [tg:TG P d false] {cs:List Value} {v:Value} (f:cs[c]? =some v) (h:K v w):Qs P t (.agg cs.toArray) k w K:=by
 rw[X5x (v:=v) (by simpa using f)];exact h
theorem U9 {A:(World->World->Prop)->(World->Prop)->Prop} (f:X7 w σ) (h:A (fun w w'=>Below w.heap.size w w') (fun w'=>Hst w σ w' σ)):dr w A:=
 Is _ _ ⟨Stp.of_below f (Below.refl _ _).drew⟩ (fun _ _ c d=>⟨c.stp.trans (Stp.of_below c.sat d)⟩) h
theorem H9 {α:Type} {R:Q2->α->List Value->Prop} {sz:Nat} {v:Value} {xs:List α} {t:TypeId} (c:X7 w σ) (d:Sl sz R σ v xs) (h: ∀a w' σ',Stp w σ w' σ'->J7 σ' a [v]->K (.pointer (some a)) w'):box P t v w K:=
 W5 c (Nu d) h
variable {e : TypeId} {by_ : Nat} {z : Value} {n : Nat}
theorem Q88 {xs:List Kd.X0} [TS P t e] [TZ P e 1 by_ z] (h:Sl 1 L6 σ v xs) (i:n<xs.length) (g: ∀a,J7 σ a [S xs[n]]->xs[n].length<=V9->K (.pointer (some a)) w):indexAddr P t v (I n) w K:=
 E8 h i fun a cs c j d=>by obtain ⟨rfl,f⟩:=d;exact g a c f
theorem Q87 {xs:List Fld} [TS P t e] [TZ P e 3 by_ z] (h:Sl 3 G9 σ v xs) (i:n<xs.length) (g: ∀a,J7 σ a [S xs[n].name,S xs[n].kind, .bool xs[n].tr]->G9 σ xs[n] [S xs[n].name,S xs[n].kind, .bool xs[n].tr]->K (.pointer (some a)) w):indexAddr P t v (I n) w K:=
 E8 h i fun a cs c j d=>by obtain ⟨rfl,f⟩:=d;exact g a c ⟨rfl,f⟩
end Go.Emb
