/- Parts of a proof about the given program: its functions as texts of their own, what each computes, plain laws of that. The conditions of each stand in its statement. -/
import Derived.Test.YtlfdfcejjgidpaaGreatDoorB1
import Derived.Below
import Derived.Maps.AppendAt
import Derived.ChangeArms
import Derived.DataReads
import Derived.SizedLaws
set_option linter.unnecessarySimpa false
set_option linter.defProp false
set_option linter.unusedSectionVars false
set_option linter.unusedVariables false
set_option linter.unusedSimpArgs false
namespace Go.Proofs.Y
open Go.Emb
set_option maxRecDepth 100000
variable {w : World} {K : Value -> World -> Prop} {a0 a1 a2 a3 a5 a6 a7 : Value}
def Q0Q:W6:=[none,none,none,none,some ([8],[6,8,12,13,14,15,16,17,18,19,20,21,22,23,24,25])]++Y1 6
def Hf:Yo:=fun i j k w K=>Q0 P F.q [i,j] w fun b w=>lp (α:=Value) (.int .i64 0) w fun a c l w=>X6 T.l b w fun d w=>X1 .lss T.e 12 14 c d w fun e w=>X0 e (indexAddr P T.l b c w fun f w=>X7 T.n T.b f 0 w fun g w=>X1 .eql T.b 22 23 g k w fun h w=>X0 h (K c w) (U7 16 c w a)) (K (.int .i64 (-1)) w)
theorem Q1r (h:Hf a0 a1 a2 w K):Q0 P F.bF [a0,a1,a2] w K:=zr Q0Q Tryz.func127 h
def Sb:O7:=fun a w K=>X6 T.b a w fun c w=>Q0 P F.a3 [a] w fun d w=>Y6 P .mul T.e (.const (.int .i64 2)) (.tmp 7) (.int .i64 2) d w fun e w=>X1 .sub T.e 5 8 c e w fun f w=>G7 P T.b a none (some f) none w fun b w=>K b w
theorem Q2s (h:Sb a0 w K):Q0 P F.aX [a0] w K:=zr (Y1 2) Tryz.func193 h
def Sa:V9:=fun p d w K=>U6 .eql T.b 5 d #[110,117,108,108] w fun c w=>X8 c false d w fun q w=>Q1 c false w (Q0 P F.f [q]) fun r w=>X8 c false r w fun a w=>X8 a true d w fun e w=>Q1 a true w (Q0 P F.aX [e]) fun f w=>Q1 a true w (Q0 P F.a0 [f]) fun g w=>X8 a true g w fun b w=>X8 b false p w fun h w=>X8 b false d w fun i w=>Q1 b false w (Q0 P F.aX [i]) fun j w=>Q1 b false w (Q0 P F.b [h,j]) fun k w=>Q1 b false w (X2 .geq T.e 18 k 0) fun l w=>Q1 a true w (pick P b (.bool true) l) fun m w=>Q1 c false w (pick P a m (.bool false)) fun n w=>pick P c (.bool true) n w fun o w=>K o w
theorem Q2r (h:Sa a0 a1 w K):Q0 P F.a4 [a0,a1] w K:=zr (Y1 2) Tryz.func139 h
def Hh:V9:=fun e d w K=>U6 .neq T.b 5 d #[110,117,108,108] w fun a w=>X8 a true e w fun f w=>X8 a true d w fun g w=>Q1 a true w (Q0 P F.a4 [f,g]) fun b w=>pick P a b (.bool false) w fun c w=>K c w
theorem Q1t (h:Hh a0 a1 w K):Q0 P F.bG [a0,a1] w K:=zr (Y1 2) Tryz.func128 h
def Q21:W6:=[none,none,none,none,some ([3,4],[3,4,5,6,7,8,9,10,11,12,13,14,15,16,17,18,19,20,21,22]),none,none,none,some ([3],[3,12,13,14,15]),none,none]
def Rx:O7:=fun n w K=>box P T.d n w fun a w=>lp (α:=Value×Value) ((.string ⟨#[40]⟩),(.int .i64 0)) w fun b c o w=>X7 T.d T.h a 1 w fun p w=>X6 T.h p w fun q w=>X1 .lss T.e 5 8 c.2 q w fun r w=>X0 r (jn (α:=Value) w (fun m w=>X2 .gtr T.e 12 c.2 0 w fun e w=>X0 e (U6 .add T.b 14 c.1 #[44] w fun f w=>m f w) (m c.1 w)) fun s o w=>X7 T.d T.h a 1 w fun g w=>J5 T.h T.b g c.2 w fun h w=>X1 .add T.b 16 21 s h w fun i w=>X2 .add T.e 10 c.2 1 w fun d w=>b (i,d) w) (U6 .add T.b 23 c.1 #[41] w fun j w=>X7 T.d T.b a 2 w fun k w=>X1 .add T.b 24 26 j k w fun l w=>K l w)
theorem Q2o (h:Rx a0 w K):Q0 P F.aW [a0] w K:=zr Q21 Tryz.func129 h
def Q3o:W6:=[none,none,none,some ([5],[4,5,6,7,8,9,10,11,12,13,14,15,16,17,18,19,20,21])]++Y1 6
def Be:V9:=fun i j w K=>box P T.c i w fun a w=>lp (α:=Value) (.int .i64 0) w fun b c m w=>X7 T.c T.j a 7 w fun k w=>X6 T.j k w fun l w=>X1 .lss T.e 6 9 c l w fun d w=>X0 d (X7 T.c T.j a 7 w fun e w=>indexAddr P T.j e c w fun f w=>X7 T.d T.b f 0 w fun g w=>X1 .eql T.b 18 19 g j w fun h w=>X0 h (K c w) (U7 11 c w b)) (K (.int .i64 (-1)) w)
theorem Q3E (h:Be a0 a1 w K):Q0 P F.b4 [a0,a1] w K:=zr Q3o Tryz.func191 h
def Q0R:W6:=[none,none,none,some ([9],[6,8,9,10,11,12,13,14,15,16,17,18,19,20,21,22,23,24,25,26,27,28,29,30,31,32,33,34,35,36,37,38,39,40,41,42,43,44,45,46,47,48,49,50,51,52,53,54])]++Y1 12
def Hg:Yo:=fun v Y X w K=>box P T.c Y w fun b w=>T4 P T.d w fun k w=>lp (α:=Value) (.int .i64 0) w fun d R Z w=>X7 T.c T.h b 2 w fun y w=>X6 T.h y w fun z w=>X1 .lss T.e 15 18 R z w fun A w=>X0 A (X7 T.c T.h b 2 w fun B w=>J5 T.h T.b B R w fun C w=>Q0 P F.b [v,C] w fun D w=>J5 T.i T.c v D w fun E w=>L6 T.c E w fun a w=>Q8 P T.c a w fun H w=>Q0 P F.b4 [H,X] w fun m w=>X2 .geq T.e 35 m 0 w fun J w=>X0 J (dr w fun f c=>Y5 f c (fieldAddr P T.c a 0) fun r=>Y5 f c (fieldAddr P T.c a 7) fun s=>X5 f c r (fun g=>Q8 P T.b g) fun U=>X5 f c s (fun h=>Q8 P T.j h) fun t=>X5 f c t (fun i=>indexAddr P T.j i m) fun u=>X5 f c u (fun j=>Q8 P T.d j) fun V=> ∀g h n i j o w,c w->r g w->s h w->U n w->t i w->u j w->V o w->U3 P T.d k o w fun _u w=>Z9 P T.d k w fun l=>K (.tuple #[n,l,(.bool true)]) w) (Q8 P T.c a w fun L w=>Q0 P F.aM [v,L,X] w fun p w=>M9 p w fun M N w=>ext P p 2 w fun O w=>L6 T.d N w fun e w=>X0 O (dr w fun f c=>Y5 f c (Q8 P T.d e) fun W=> ∀q w,c w->W q w->U3 P T.d k q w fun _u w=>Z9 P T.d k w fun l=>K (.tuple #[M,l,(.bool true)]) w) (U7 20 R w d))) (C4 P T.d [] w fun Q w=>U3 P T.d k Q w fun _u w=>Z9 P T.d k w fun l=>K (.tuple #[(.string ⟨#[]⟩),l,(.bool false)]) w)
theorem Q1s (h:Hg a0 a1 a2 w K):Q0 P F.aM [a0,a1,a2] w K:=zr Q0R Tryz.func192 h
def Ak:W6:=[none,none,none,some ([9],[6,8,9,10,18,19,20,21,22,23,24,25,26,27,28,29,30,31,32,33,34,35,36,37,38,39,40,41,42,43,44,45,46,47])]++Y1 8++[some ([11],[6,8,11,12,13,14,51,52,53,54,55,56,57,58,59,60,61,62,63,64,65,66,67,68,69,70,71,72,73])]++Y1 7
def Di:Yo:=fun b a1 a2 w K=>T4 P T.d w fun m w=>Q0 P F.b [b,a1] w fun D w=>lp (α:=Value) D w fun e t d_ w=>X2 .geq T.e 18 t 0 w fun E w=>X0 E (J5 T.i T.c b t w fun M w=>Q0 P F.b4 [M,a2] w fun o w=>X2 .geq T.e 33 o 0 w fun N w=>X0 N (dr w fun d a=>Y5 d a (indexAddr P T.i b t) fun u=>X5 d a u (fun f=>fieldAddr P T.c f 0) fun v=>Y5 d a (indexAddr P T.i b t) fun y=>X5 d a y (fun h=>fieldAddr P T.c h 7) fun z=>X5 d a v (fun g=>Q8 P T.b g) fun ab=>X5 d a z (fun i=>Q8 P T.j i) fun A=>X5 d a A (fun j=>indexAddr P T.j j o) fun B=>X5 d a B (fun k=>Q8 P T.d k) fun ac=> ∀f g h i p j k q w,a w->u f w->v g w->y h w->z i w->ab p w->A j w->B k w->ac q w->U3 P T.d m q w fun _u w=>Z9 P T.d m w fun n=>K (.tuple #[p,n,(.bool true)]) w) (indexAddr P T.i b t w fun H w=>X7 T.c T.b H 1 w fun J w=>Q0 P F.b [b,J] w fun L w=>e L w)) (Q0 P F.b [b,a1] w fun O w=>lp (α:=Value) O w fun c l d_ w=>X2 .geq T.e 51 l 0 w fun Q w=>X0 Q (J5 T.i T.c b l w fun W w=>Q0 P F.aM [b,W,a2] w fun r w=>M9 r w fun X Y w=>ext P r 2 w fun Z w=>L6 T.d Y w fun C w=>X0 Z (dr w fun d a=>Y5 d a (Q8 P T.d C) fun ad=> ∀s w,a w->ad s w->U3 P T.d m s w fun _u w=>Z9 P T.d m w fun n=>K (.tuple #[X,n,(.bool true)]) w) (indexAddr P T.i b l w fun R w=>X7 T.c T.b R 1 w fun U w=>Q0 P F.b [b,U] w fun V w=>c V w)) (C4 P T.d [] w fun aa w=>U3 P T.d m aa w fun _u w=>Z9 P T.d m w fun n=>K (.tuple #[(.string ⟨#[]⟩),n,(.bool false)]) w))
theorem Ay (h:Di a0 a1 a2 w K):Q0 P F.bl [a0,a1,a2] w K:=zr Ak Tryz.func130 h
def Tb:W6:=[none,none,none,none,some ([6],[4,6,24,25,26,27,28,29,30,31,32,33,34,35,36,37,38,39,40,41])]++Y1 8++[some ([7,8],[7,8,43,44,45,46,47,48,49,50,51,52,53,54,55,56,57,58])]++Y1 5++[some ([7,9],[7,9,59,60,61,62,63,64,65,66,67,68,69,70,71,72,73,74,75,76,77,78,79,80,81,82,83,84,85,86,87,88,89]),none,none,some ([7],[7,66,67,68,69,70,71,72,73,74,75,76,77,78,79,80,81,82,83,84,85,86,87,88,89]),none,none,none,none,some ([10],[4,10,90,91,92,93,94,95,96,97,98,99,100,101,102])]++Y1 9++[some ([12,13],[12,13,106,107,108,109,110,111,112,113,114,115,116,117,118,119,120,121,122,123,124,125,126,127,128,129,130]),none,none,some ([12],[12,112,113,114,115,116,117,118,119,120,121,122,123,124,125,126,127,128,129,130]),none,none,none,some ([14],[4,14,15,131,132,133,134,135,136,137,138,139,140,141,142,143,144,145,146,147,148,149,150,151,152,153,154,155,156,157,158,159,160,161,162,163,164,165]),none,none,none,none,some ([15],[4,15,137,138,139,140,141,142,143,144,145,146,147,148,149,150,151,152,153,154,155,156,157,158,159,160,161,162,163,164,165])]++Y1 7++[some ([16],[4,16,17,18,19,166,167,168,169,170,171,172,173,174,175,176,177,178,179,180,181,182,183,184,185,186,187,188,189,190,191,192,193,194,195])]++Y1 7
def Nv:V9:=fun a0 a1 w K=>J5 T.i T.c a0 a1 w fun co w=>L6 T.c co w fun V w=>lp (α:=Value) (.int .i64 0) w fun Z x4 d_ w=>X7 T.c T.l V 6 w fun cp w=>X6 T.l cp w fun cq w=>X1 .lss T.e 24 27 x4 cq w fun cr w=>X0 cr (dr w fun c b=>Y5 c b (fieldAddr P T.c V 1) fun ci=>Y5 c b (fieldAddr P T.c V 6) fun cj=>X5 c b ci (fun a5=>Q8 P T.b a5) fun dt=>X5 c b cj (fun a6=>Q8 P T.l a6) fun ck=>X5 c b ck (fun a7=>indexAddr P T.l a7 x4) fun cl=>X5 c b cl (fun a8=>fieldAddr P T.n a8 0) fun cm=>X5 c b cm (fun a9=>Q8 P T.b a9) fun du=> ∀a5 a6 ca a7 a8 a9 cb w,b w->ci a5 w->cj a6 w->dt ca w->ck a7 w->cl a8 w->cm a9 w->du cb w->Q0 P F.bF [a0,ca,cb] w fun cs w=>X2 .geq T.e 40 cs 0 w fun ct w=>X0 ct (K (.int .i64 64) w) (U7 29 x4 w Z)) (buildSlice P T.h 0 [] w fun cu w=>lp (α:=Value×Value) (cu,(.int .i64 0)) w fun l W d_ w=>X7 T.c T.l V 6 w fun cv w=>X6 T.l cv w fun cw w=>X1 .lss T.e 43 46 W.2 cw w fun cx w=>X0 cx (X7 T.c T.l V 6 w fun cz w=>indexAddr P T.l cz W.2 w fun c0 w=>X7 T.n T.b c0 1 w fun c1 w=>buildSlice P T.h 1 [(0,c1)] w fun c2 w=>J7 P .append [T.h,T.h] T.h [false,false] [W.1,c2] w fun c3 w=>X2 .add T.e 48 W.2 1 w fun cy w=>l (c3,cy) w) (lp (α:=Value×Value) (W.1,(.int .i64 0)) w fun m i d_ w=>X7 T.c T.j V 7 w fun c4 w=>X6 T.j c4 w fun c5 w=>X1 .lss T.e 59 62 i.2 c5 w fun c6 w=>X0 c6 (jn (α:=Value) w (fun bc w=>X7 T.c T.j V 7 w fun c8 w=>indexAddr P T.j c8 i.2 w fun c9 w=>X7 T.d T.h c9 1 w fun da w=>J7 P .append [T.h,T.h] T.h [false,false] [i.1,da] w fun cc w=>X7 T.c T.j V 7 w fun db w=>indexAddr P T.j db i.2 w fun dc w=>X7 T.d T.b dc 2 w fun dd w=>U6 .neq T.b 79 dd #[] w fun de w=>X0 de (X7 T.c T.j V 7 w fun df w=>indexAddr P T.j df i.2 w fun dg w=>X7 T.d T.b dg 2 w fun dh w=>buildSlice P T.h 1 [(0,dh)] w fun di w=>J7 P .append [T.h,T.h] T.h [false,false] [cc,di] w fun dj w=>bc dj w) (bc cc w)) fun dq d_ w=>X2 .add T.e 64 i.2 1 w fun c7 w=>m (dq,c7) w) (lp (α:=Value) (.int .i64 0) w fun n ba d_ w=>X6 T.h i.1 w fun dl w=>X1 .lss T.e 90 92 ba dl w fun dm w=>X0 dm (J5 T.h T.b i.1 ba w fun be w=>Q0 P F.bG [a0,be] w fun bf w=>V8 P .not bf w fun bg w=>X0 bg (K (.int .i64 65) w) (U7 94 ba w n)) (Q0 P F.am [a0] w fun bh w=>buildSlice P T.j 0 [] w fun bi w=>lp (α:=Value×Value) (bi,(.int .i64 0)) w fun o e d_ w=>X6 T.i a0 w fun bj w=>X1 .lss T.e 106 108 e.2 bj w fun bk w=>X0 bk (jn (α:=Value) w (fun bd w=>X1 .eql T.e 112 113 e.2 a1 w fun g w=>X8 g false bh w fun bm w=>X8 g false a1 w fun bn w=>zhi g false w T.ae T.a9 bm bn fun bo w=>X8 g false e.2 w fun bp w=>zhi g false w T.a9 T.r bo bp fun bq w=>pick P g (.bool true) bq w fun br w=>X0 br (indexAddr P T.i a0 e.2 w fun bs w=>X7 T.c T.j bs 7 w fun bu w=>J7 P .append [T.j,T.j] T.j [false,false] [e.1,bu] w fun bv w=>bd bv w) (bd e.1 w)) fun ds d_ w=>X2 .add T.e 110 e.2 1 w fun bl w=>o (ds,bl) w) (lp (α:=Value) (.int .i64 0) w fun p X d_ w=>X6 T.j e.1 w fun bw w=>X1 .lss T.e 131 133 X bw w fun bx w=>X0 bx (lp (α:=Value) (.int .i64 0) w fun q ab d_ w=>X1 .lss T.e 137 138 ab X w fun bz w=>X0 bz (dr w fun c b=>Y5 c b (indexAddr P T.j e.1 X) fun ag=>X5 c b ag (fun s=>fieldAddr P T.d s 0) fun ah=>Y5 c b (indexAddr P T.j e.1 ab) fun aj=>X5 c b aj (fun v=>fieldAddr P T.d v 0) fun ak=>X5 c b ah (fun t=>Q8 P T.b t) fun ai=>X5 c b ak (fun y=>Q8 P T.b y) fun al=>M5 c b ai al (fun u z=>X1 .eql T.b 146 151 u z) fun d=>X5 c b d (fun a=>V6 a (fun w J=>J e.1 w)) fun am=>X5 c b d (fun a=>V6 a (fun w J=>J X w)) fun an=>Ya c b d am an (fun a A B=>V6 a (indexAddr P T.j A B)) fun ao=>X5 c b d (fun a=>V6 a (fun w J=>J e.1 w)) fun aq=>X5 c b d (fun a=>V6 a (fun w J=>J ab w)) fun ar=>Ya c b d aq ar (fun a E H=>V6 a (indexAddr P T.j E H)) fun av=>M5 c b d ao (fun a C=>V6 a (Q8 P T.d C)) fun ap=>M5 c b d ap (fun a D=>V6 a (Q0 P F.aW [D])) fun cd=>M5 c b d av (fun a L=>V6 a (Q8 P T.d L)) fun ce=> ∀s t v y u z a A B C E H L D ac ad w,b w->ag s w->ah t w->aj v w->ak y w->ai u w->al z w->d a w->am A w->an B w->ao C w->aq E w->ar H w->av L w->ap D w->cd ac w->ce ad w->Q1 a true w (Q0 P F.aW [ad]) fun b0 w=>Q1 a true w (X1 .neq T.b 158 163 ac b0) fun b1 w=>pick P a b1 (.bool false) w fun b2 w=>X0 b2 (K (.int .i64 66) w) (U7 140 ab w q)) (U7 135 X w p)) (lp (α:=Value) (.int .i64 0) w fun r bb d_ w=>X6 T.j e.1 w fun b3 w=>X1 .lss T.e 166 168 bb b3 w fun M w=>Z8 M true w T.c T.r V 4 fun b4 w=>Q1 M true w (V8 P .not b4) fun b5 w=>pick P M b5 (.bool false) w fun b6 w=>X0 b6 (dr w fun c b=>Y5 c b (fieldAddr P T.c V 0) fun aw=>Y5 c b (indexAddr P T.j e.1 bb) fun ay=>X5 c b ay (fun Q=>fieldAddr P T.d Q 0) fun az=>X5 c b aw (fun N=>Q8 P T.b N) fun ax=>X5 c b az (fun R=>Q8 P T.b R) fun a2=>M5 c b ax a2 (fun O U=>Q0 P F.bl [a0,O,U]) fun k=>X5 c b k (fun f=>ext P f 0) fun cg=>X5 c b k (fun f=>ext P f 1) fun a3=>X5 c b k (fun f=>ext P f 2) fun ch=>Y5 c b (T4 P T.d) fun cf=>Gr c (fun Y=> ∀j h w,b w->cf j w->a3 h w->U3 P T.d j h w (dk c (Y [j,h]) w)) fun Y=> ∀N Q R O U f b7 h ae j dn w,b w->aw N w->ay Q w->az R w->ax O w->a2 U w->k f w->cg b7 w->a3 h w->ch ae w->cf j w->Y [j,h] dn w->V8 P .not ae w fun af w=>Z8 af false w T.d T.r j 3 fun b8 w=>pick P af (.bool true) b8 w fun b9 w=>X0 b9 (K (.int .i64 67) w) (U7 175 bb w r)) (K (.int .i64 0) w)))))))
theorem Tk (h:Nv a0 a1 w K):Q0 P F.bf [a0,a1] w K:=zr Tb Tryz.func68 h
def Q3n:W6:=Y1 5++[some ([5,7],[2,3,4,5,7,8,21,22,23,24,25,26,27,28,29,30,31,32,33,34,35,36,37,38,39,40,41,42])]++Y1 9++[some ([9],[2,3,4,9,43,44,45,46,47,48,49,50,51,52,53,54,55,56,57,58,59,60])]++Y1 7++[some ([10],[2,3,4,10,11,61,62,63,64,65,66,67,68,69,70,71,72,73,74,75,76])]++Y1 9++[some ([13],[2,3,4,13,79,80,81,82,83,84,85,86,87,88,89,90,91,92,93,94,95,96])]++Y1 8++[some ([14,15],[14,15,98,99,100,101,102,103,104,105,106,107,108,109,110])]++Y1 5++[some ([16],[2,3,4,16,17,111,112,113,114,115,116,117,118,119,120,121,122,123,124,125,126,127,128,129,130,131])]++Y1 7
def Bc:O7:=fun k w K=>Q0 P F.bE [] w fun E w=>X6 T.i E w fun b w=>lp (α:=Value×Value) (E,(.int .i64 0)) w fun l c q w=>X6 T.i k w fun M w=>X1 .lss T.e 21 23 c.2 M w fun N w=>X0 N (J5 T.i T.c k c.2 w fun Q w=>Q0 P F.bC [Q] w fun H w=>X2 .neq T.w 32 H 0 w fun R w=>X0 R (K (.tuple #[(.slice none 0 0),c.2,H]) w) (J5 T.i T.c k c.2 w fun U w=>buildSlice P T.i 1 [(0,U)] w fun V w=>J7 P .append [T.i,T.i] T.i [false,false] [c.1,V] w fun W w=>X2 .add T.e 25 c.2 1 w fun O w=>l (W,O) w)) (lp (α:=Value) (.int .i64 0) w fun d i q w=>X6 T.i k w fun X w=>X1 .lss T.e 43 45 i X w fun Y w=>X0 Y (indexAddr P T.i k i w fun Z w=>X7 T.c T.b Z 0 w fun aa w=>Q0 P F.b [c.1,aa] w fun ab w=>X1 .add T.e 56 57 b i w fun ac w=>X1 .neq T.e 55 58 ab ac w fun ad w=>X0 ad (K (.tuple #[(.slice none 0 0),i,(.int .i64 60)]) w) (U7 47 i w d)) (lp (α:=Value) (.int .i64 0) w fun e m q w=>X6 T.i k w fun ae w=>X1 .lss T.e 61 63 m ae w fun af w=>X0 af (J5 T.i T.c k m w fun ag w=>Q0 P F.bm [c.1,ag] w fun J w=>X2 .neq T.w 73 J 0 w fun ah w=>X0 ah (K (.tuple #[(.slice none 0 0),m,J]) w) (U7 65 m w e)) (Q0 P F.am [c.1] w fun ai w=>lp (α:=Value) (.int .i64 0) w fun f j q w=>X6 T.i k w fun aj w=>X1 .lss T.e 79 81 j aj w fun ak w=>X0 ak (X1 .add T.e 86 87 b j w fun al w=>J5 T.ae T.a9 ai al w fun am w=>X1 .add T.e 91 92 b j w fun an w=>J5 T.a9 T.r am an w fun ao w=>X0 ao (K (.tuple #[(.slice none 0 0),j,(.int .i64 63)]) w) (U7 83 j w f)) (buildSlice P T.u 0 [] w fun ap w=>lp (α:=Value×Value) (ap,(.int .i64 0)) w fun g a q w=>X6 T.i k w fun r w=>X1 .lss T.e 98 100 a.2 r w fun s w=>X0 s (X1 .add T.e 107 108 b a.2 w fun u w=>Q0 P F.b5 [c.1,a.1,b,u] w fun v w=>X2 .add T.e 102 a.2 1 w fun t w=>g (v,t) w) (lp (α:=Value) (.int .i64 0) w fun h n q w=>X6 T.u a.1 w fun y w=>X1 .lss T.e 111 113 n y w fun z w=>X0 z (J5 T.u T.e a.1 n w fun A w=>Q0 P F.bf [c.1,A] w fun o w=>X2 .neq T.w 123 o 0 w fun B w=>X0 B (dr w fun Tr Br=>Y5 Tr Br (indexAddr P T.u a.1 n) fun L=> ∀p w,Br w->L p w->Q8 P T.e p w fun C w=>X1 .sub T.e 128 129 C b w fun D w=>K (.tuple #[(.slice none 0 0),D,o]) w) (U7 115 n w h)) (K (.tuple #[c.1,(.int .i64 0),(.int .i64 0)]) w))))))
theorem Q3C (h:Bc a0 w K):Q0 P F.c5 [a0] w K:=zr Q3n Tryz.func27 h
def Q5U:V9:=fun g a w K=>X2 .lss T.e 6 a 0 w fun f w=>X8 f false a w fun h w=>Q1 f false w (X2 .gtr T.e 9 h 1048576) fun b w=>pick P f (.bool true) b w fun c w=>X0 c (K (.tuple #[(.pointer none),(.int .i64 90)]) w) (C4 P T.q [(0,g),(1,a)] w fun d w=>box P T.q d w fun e w=>K (.tuple #[e,(.int .i64 0)]) w)
theorem X2O (h:Q5U a0 a1 w K):Q0 P F.db [a0,a1] w K:=zr (Y1 5) Tryz.func28 h
def En:O7:=fun C w K=>T4 P T.a w fun c w=>Q0 P F.aC [] w fun i w=>Q0 P F.dc [i] w fun e w=>M9 e w fun f D w=>ext P e 2 w fun j w=>Q0 P F.aC [] w fun k w=>Q0 P F.c5 [k] w fun g w=>M9 g w fun l E w=>ext P g 2 w fun m w=>Y6 P .rem T.aC (.tmp 25) (.const (.int .u16 301)) C (.int .u16 301) w fun n w=>conv P T.aC T.e n w fun h w=>X2 .neq T.w 28 j 0 w fun a w=>X8 a false m w fun o w=>Q1 a false w (X2 .neq T.w 31 o 0) fun p w=>pick P a (.bool true) p w fun b w=>X8 b false f w fun q w=>Q1 b false w (Y6 P .eql T.z (.tmp 35) (.const (.pointer none)) q (.pointer none)) fun r w=>pick P b (.bool true) r w fun s w=>X0 s (C4 P T.a [] w fun t w=>U3 P T.a c t w fun _u w=>Z9 P T.a c w fun d=>K (.tuple #[(.pointer none),d]) w) (Q0 P F.db [f,h] w fun u w=>M9 u w fun v y w=>X2 .neq T.w 45 y 0 w fun z w=>X0 z (C4 P T.a [] w fun A w=>U3 P T.a c A w fun _u w=>Z9 P T.a c w fun d=>K (.tuple #[(.pointer none),d]) w) (C4 P T.a [(0,l),(1,h)] w fun B w=>U3 P T.a c B w fun _u w=>Z9 P T.a c w fun d=>K (.tuple #[v,d]) w))
theorem Q1b (h:En a0 w K):Q0 P F.aJ [a0] w K:=zr (Y1 12) Tryz.func8 h
def Up:W6:=[none,none,none,some ([8],[4,5,8,9,10,11,12,13,14,15,16,17,18])]++Y1 7
def A9:V9:=fun e f w K=>X6 T.k e w fun g w=>lp (α:=Value) (.int .i64 0) w fun a b i w=>X1 .lss T.e 8 7 b g w fun h w=>X0 h (J5 T.k T.f e b w fun c w=>J0 P f [c] w fun d w=>X0 d (K b w) (U7 8 b w a)) (K (.int .i64 (-1)) w)
theorem Uw (h:A9 a0 a1 w K):Q0 P F.a8 [a0,a1] w K:=zr Up Tryz.func85 h
def P1:V9:=fun a b w K=>Q0 P F.a8 [a,b] w fun c w=>X2 .geq T.e 7 c 0 w fun d w=>K d w
theorem Ja (h:P1 a0 a1 w K):Q0 P F.h [a0,a1] w K:=zr (Y1 2) Tryz.func37 h
def Fh:V9:=fun h g w K=>X2 .geq T.e 5 g 0 w fun a w=>X8 a true g w fun i w=>X8 a true h w fun j w=>Q1 a true w (nilCheck P j) fun b w=>Z8 a true w T.q T.g b 3 fun c w=>Q1 a true w (X6 T.g c) fun d w=>Q1 a true w (X1 .lss T.e 8 13 i d) fun e w=>pick P a e (.bool false) w fun f w=>K f w
theorem Q4A (h:Fh a0 a1 w K):Q0 P F.aD [a0,a1] w K:=zr (Y1 2) Tryz.func149 h
def Cu:V9:=fun e f w K=>Q0 P F.aD [e,f] w fun g w=>V8 P .not g w fun h w=>X0 h (K (.string ⟨#[]⟩) w) (nilCheck P e w fun a w=>X7 T.q T.g a 3 w fun b w=>indexAddr P T.g b f w fun c w=>X7 T.o T.b c 0 w fun d w=>K d w)
theorem Q3u (h:Cu a0 a1 w K):Q0 P F.x [a0,a1] w K:=zr (Y1 5) Tryz.func87 h
def Gy:V9:=fun D E w K=>box P T.f E w fun a w=>Q8 P T.f a w fun H w=>C4 P T.f [] w fun J w=>X1 .eql T.f 6 7 H J w fun L w=>X0 L (K (.string ⟨#[110,117,108,108]⟩) w) (Q8 P T.f a w fun d w=>X7 T.f T.a2 a 1 w fun e w=>C4 P T.f [(0,(.int .i64 1)),(1,e)] w fun f w=>X1 .eql T.f 10 13 d f w fun g w=>X0 g (K (.string ⟨#[105,110,116]⟩) w) (Q8 P T.f a w fun h w=>X7 T.f T.a2 a 1 w fun i w=>X2 .and T.a2 18 i 1 w fun j w=>C4 P T.f [(0,(.int .i64 2)),(1,j)] w fun k w=>X1 .eql T.f 16 20 h k w fun l w=>X0 l (K (.string ⟨#[98,111,111,108]⟩) w) (Q8 P T.f a w fun m w=>X7 T.f T.b a 2 w fun n w=>C4 P T.f [(0,(.int .i64 3)),(2,n)] w fun o w=>X1 .eql T.f 23 26 m o w fun b w=>Z8 b true w T.f T.b a 2 fun p w=>Q1 b true w (X6 T.b p) fun q w=>Q1 b true w (X2 .leq T.e 31 q 4096) fun r w=>pick P b r (.bool false) w fun c w=>Z8 c true w T.f T.b a 2 fun s w=>Q1 c true w (Q0 P F.b6 [s]) fun t w=>pick P c t (.bool false) w fun u w=>X0 u (K (.string ⟨#[116,101,120,116]⟩) w) (Q8 P T.f a w fun v w=>X7 T.f T.e a 3 w fun y w=>C4 P T.f [(0,(.int .i64 4)),(3,y)] w fun z w=>X1 .eql T.f 40 43 v z w fun A w=>X0 A (X7 T.f T.e a 3 w fun B w=>Q0 P F.x [D,B] w fun C w=>K C w) (K (.string ⟨#[]⟩) w)))))
theorem Q5p (h:Gy a0 a1 w K):Q0 P F.bo [a0,a1] w K:=zr (Y1 13) Tryz.func39 h
def Q1M:V9:=fun b c w K=>box P T.f b w fun a w=>Q8 P T.a4 c w fun d w=>Q8 P T.f a w fun e w=>Q0 P F.bo [d,e] w fun f w=>U6 .eql T.b 6 f #[] w fun g w=>K g w
theorem Q8n (h:Q1M a0 a1 w K):Q0 P F.cV [a0,a1] w K:=zr (Y1 2) Tryz.func38 h
def Q5T:V9:=fun g h w K=>box P T.f h w fun a w=>X7 T.f T.e a 0 w fun i w=>X2 .eql T.e 6 i 4 w fun b w=>X8 b true g w fun j w=>Z8 b true w T.f T.e a 3 fun c w=>Q1 b true w (Q0 P F.x [j,c]) fun d w=>Q1 b true w (U6 .neq T.b 12 d #[]) fun e w=>pick P b e (.bool false) w fun f w=>K f w
theorem X2N (h:Q5T a0 a1 w K):Q0 P F.da [a0,a1] w K:=zr (Y1 2) Tryz.func51 h
def Pl:zV4:=fun s q t r w K=>box P T.f s w fun a w=>Q8 P T.ab q w fun v w=>X7 T.f T.e a 3 w fun c w=>lookup P T.ab v c true w fun d w=>M9 d w fun u e w=>Q8 P T.a4 t w fun f w=>Q8 P T.f a w fun g w=>Q0 P F.da [f,g] w fun b w=>X8 b true e w fun h w=>Q1 b true w (V8 P .not h) fun i w=>pick P b i (.bool false) w fun j w=>X0 j (Q8 P T.ab q w fun k w=>X7 T.f T.e a 3 w fun l w=>mapUpdate P T.ab k l (.int .i64 1) w fun _u w=>Q8 P T.u r w fun m w=>X7 T.f T.e a 3 w fun n w=>buildSlice P T.u 1 [(0,n)] w fun o w=>J7 P .append [T.u,T.u] T.u [false,false] [m,o] w fun p w=>U3 P T.u r p w fun _u w=>K (.tuple #[]) w) (K (.tuple #[]) w)
theorem Q6m (h:Pl a0 a1 a2 a3 w K):Q0 P F.cG [a0,a1,a2,a3] w K:=zr (Y1 4) Tryz.func50 h
def Rl:Yo:=fun n o p w K=>Q0 P F.aD [n,o] w fun b w=>V8 P .not b w fun c w=>X0 c (K (.int .i64 92) w) (X2 .lss T.a2 13 p 0 w fun a w=>X8 a false p w fun d w=>X8 a false n w fun e w=>Q1 a false w (nilCheck P e) fun f w=>Z8 a false w T.q T.g f 3 fun g w=>X8 a false o w fun h w=>Q1 a false w (indexAddr P T.g g h) fun i w=>Z8 a false w T.o T.k i 1 fun j w=>Q1 a false w (X6 T.k j) fun k w=>Q1 a false w (X1 .geq T.a2 16 25 d k) fun l w=>pick P a (.bool true) l w fun m w=>X0 m (K (.int .i64 93) w) (K (.int .i64 0) w))
theorem Q2c (h:Rl a0 a1 a2 w K):Q0 P F.aR [a0,a1,a2] w K:=zr (Y1 7) Tryz.func144 h
def Ff:Yo:=fun k l m w K=>T4 P T.f w fun b w=>Q0 P F.aR [k,l,m] w fun a w=>X2 .neq T.w 13 a 0 w fun d w=>X0 d (C4 P T.f [] w fun e w=>U3 P T.f b e w fun _u w=>Z9 P T.f b w fun c=>K (.tuple #[c,a]) w) (nilCheck P k w fun f w=>X7 T.q T.g f 3 w fun g w=>indexAddr P T.g g l w fun h w=>X7 T.o T.k h 1 w fun i w=>J5 T.k T.f i m w fun j w=>U3 P T.f b j w fun _u w=>Z9 P T.f b w fun c=>K (.tuple #[c,(.int .i64 0)]) w)
theorem Q4y (h:Ff a0 a1 a2 w K):Q0 P F.ai [a0,a1,a2] w K:=zr (Y1 6) Tryz.func82 h
def Mu:V9:=fun a f w K=>Q0 P F.ac [a,f] w fun g w=>V8 P .not g w fun h w=>X0 h (K (.tuple #[a,(.bool false)]) w) (X6 T.b a w fun b w=>X6 T.b f w fun c w=>X1 .sub T.e 13 15 b c w fun d w=>G7 P T.b a none (some d) none w fun e w=>K (.tuple #[e,(.bool true)]) w)
theorem Ks (h:Mu a0 a1 w K):Q0 P F.cr [a0,a1] w K:=zr (Y1 5) Tryz.func197 h
def Sh:V9:=fun b c w K=>Q0 P F.cr [b,c] w fun d w=>M9 d w fun e a w=>K (.tuple #[e,a]) w
theorem Q2y (h:Sh a0 a1 w K):Q0 P F.bT [a0,a1] w K:=zr (Y1 2) Tryz.func151 h
def Q4W:O7:=fun f w K=>Q0 P F.bT [f,(.string ⟨#[91,93]⟩)] w fun g w=>M9 g w fun h i w=>V8 P .not i w fun a w=>X8 a false f w fun b w=>Q1 a false w (Q0 P F.a2 [b]) fun c w=>Q1 a false w (V8 P .not c) fun d w=>pick P a (.bool true) d w fun e w=>X0 e (K (.string ⟨#[]⟩) w) (K h w)
theorem X12 (h:Q4W a0 w K):Q0 P F.bw [a0] w K:=zr (Y1 6) Tryz.func94 h
def Cw:V9:=fun f g w K=>Q0 P F.aD [f,g] w fun h w=>V8 P .not h w fun i w=>X0 i (K (.int .i64 0) w) (nilCheck P f w fun a w=>X7 T.q T.g a 3 w fun b w=>indexAddr P T.g b g w fun c w=>X7 T.o T.k c 1 w fun d w=>X6 T.k d w fun e w=>K e w)
theorem Q3w (h:Cw a0 a1 w K):Q0 P F.b1 [a0,a1] w K:=zr (Y1 5) Tryz.func95 h
def Rk:O7:=fun a w K=>nilCheck P a w fun b w=>X7 T.q T.z b 0 w fun c w=>K c w
theorem Q2b (h:Rk a0 w K):Q0 P F.aQ [a0] w K:=zr (Y1 2) Tryz.func134 h
def Q9x:W6:=Y1 6++[some ([7,19],[7,8,19,20,21,22,23,24,25,26,27,28,29,30,31,32,33,34,35,36,37]),none,none,some ([7],[7,8,21,22,23,24,25,26,27,28,29,30,31,32,33,34,35,36]),none,none,none]
def Q2Z:V9:=fun e u w K=>Q0 P F.x [e,u] w fun d w=>Q0 P F.aQ [e] w fun f w=>Q0 P F.a5 [f,d] w fun g w=>Q0 P F.b1 [e,u] w fun h w=>lp (α:=Value×Value) ((.slice none 0 0),(.int .i64 0)) w fun b c v w=>X1 .lss T.e 19 18 c.2 h w fun i w=>X0 i (jn (α:=Value) w (fun t w=>Q0 P F.bw [d] w fun j w=>U6 .neq T.b 23 j #[] w fun a w=>X8 a false g w fun k w=>X8 a false c.2 w fun l w=>Q1 a false w (indexAddr P T.l k l) fun m w=>Z8 a false w T.n T.r m 2 fun n w=>Q1 a false w (V8 P .not n) fun o w=>pick P a (.bool true) o w fun p w=>X0 p (buildSlice P T.u 1 [(0,c.2)] w fun q w=>J7 P .append [T.u,T.u] T.u [false,false] [c.1,q] w fun r w=>t r w) (t c.1 w)) fun y v w=>X2 .add T.e 19 c.2 1 w fun s w=>b (y,s) w) (K c.1 w)
theorem Q9O (h:Q2Z a0 a1 w K):Q0 P F.cw [a0,a1] w K:=zr Q9x Tryz.func96 h
def Q76:W6:=[none,some ([14],[7,8,9,14,15,16,17,18,19,20,21,22,23,24,25,26,27,28])]++Y1 5
def Ab:Yo:=fun k l m w K=>Q0 P F.cw [k,l] w fun c w=>X6 T.u c w fun d w=>lp (α:=Value) (.int .i64 0) w fun a j p w=>X1 .lss T.e 14 13 j d w fun e w=>X0 e (J5 T.u T.e c j w fun f w=>Q0 P F.ai [k,l,f] w fun g w=>M9 g w fun h n w=>L6 T.f h w fun b w=>Q8 P T.f b w fun i w=>J0 P m [i] w fun o w=>U7 14 j w a) (K (.tuple #[]) w)
theorem Q7d (h:Ab a0 a1 a2 w K):Q0 P F.cK [a0,a1,a2] w K:=zr Q76 Tryz.func52 h
def Q8c:W6:=Y1 7++[some ([8],[8,14,15,16,17,18,19,20,21,22,23,24,25,26]),none,none,none,none]
def Q1H:V9:=fun y z w K=>box P T.a4 y w fun c w=>box P T.f z w fun g w=>T4 P T.u w fun a w=>Hr P T.ab none w fun C w=>L6 T.ab C w fun b w=>H2 P (.func F.cG) [] [b,c,a] w fun i w=>Q8 P T.f g w fun o w=>J0 P i [o] w fun A w=>lp (α:=Value) (.int .i64 0) w fun d t D w=>Q8 P T.u a w fun p w=>X6 T.u p w fun q w=>X1 .lss T.e 14 16 t q w fun r w=>X0 r (dr w fun n h=>Y5 n h (Q8 P T.a4 c) fun u=>Y5 n h (Q8 P T.u a) fun l=>X5 n h l (fun e=>indexAddr P T.u e t) fun m=>X5 n h m (fun f=>Q8 P T.e f) fun v=> ∀j e f k w,h w->u j w->l e w->m f w->v k w->Q0 P F.cK [j,k,i] w fun B w=>U7 18 t w d) (Q8 P T.u a w fun s w=>K s w)
theorem Q8i (h:Q1H a0 a1 w K):Q0 P F.cS [a0,a1] w K:=zr Q8c Tryz.func22 h
def Q9z:W6:=Y1 5++[some ([6,17],[6,9,11,12,13,17,18,19,20,21,22,23,24,25,26,27,28,29,30,31,32,33,34,35,36,37,38,39,40,41,42,43,44,45,46])]++Y1 5++[some ([6,25],[6,11,12,13,25,26,27,28,29,30,31,32,33,34,35,36,37,38,39,40,41,42,43,44,45]),none,none,some ([6],[6,11,12,13,27,28,29,30,31,32,33,34,35,36,37,38,39,40,41,42,43,44])]++Y1 5
def Q39:V9:=fun C A w K=>Hr P T.ab none w fun d w=>X6 T.k A w fun j w=>lp (α:=Value×Value) ((.slice none 0 0),(.int .i64 0)) w fun c i B w=>X1 .lss T.e 17 16 i.2 j w fun k w=>X0 k (J5 T.k T.f A i.2 w fun l w=>L6 T.f l w fun f w=>Q8 P T.f f w fun m w=>Q0 P F.cS [C,m] w fun h w=>X6 T.u h w fun n w=>lp (α:=Value×Value) (i.1,(.int .i64 0)) w fun b a B w=>X1 .lss T.e 25 24 a.2 n w fun o w=>X0 o (jn (α:=Value) w (fun g w=>J5 T.u T.e h a.2 w fun e w=>lookup P T.ab d e true w fun p w=>M9 p w fun D q w=>V8 P .not q w fun r w=>X0 r (X6 T.u a.1 w fun s w=>mapUpdate P T.ab d e s w fun _u w=>buildSlice P T.u 1 [(0,e)] w fun t w=>J7 P .append [T.u,T.u] T.u [false,false] [a.1,t] w fun u w=>g u w) (g a.1 w)) fun z B w=>X2 .add T.e 25 a.2 1 w fun v w=>b (z,v) w) (X2 .add T.e 17 i.2 1 w fun y w=>c (a.1,y) w)) (K (.tuple #[i.1,d]) w)
theorem Q9Y (h:Q39 a0 a1 w K):Q0 P F.cz [a0,a1] w K:=zr Q9z Tryz.func40 h
def Vf:W6:=[none,none,none,some ([8],[4,5,8,9,10,11,12,13,14,15,16,17,18])]++Y1 7
def Qj:V9:=fun e f w K=>X6 T.aa e w fun g w=>lp (α:=Value) (.int .i64 0) w fun a b i w=>X1 .lss T.e 8 7 b g w fun h w=>X0 h (J5 T.aa T.a8 e b w fun c w=>J0 P f [c] w fun d w=>X0 d (K b w) (U7 8 b w a)) (K (.int .i64 (-1)) w)
theorem Vg (h:Qj a0 a1 w K):Q0 P F.l [a0,a1] w K:=zr Vf Tryz.func92 h
def P5:V9:=fun a b w K=>Q0 P F.l [a,b] w fun c w=>X2 .geq T.e 7 c 0 w fun d w=>K d w
theorem Jt (h:P5 a0 a1 w K):Q0 P F.o [a0,a1] w K:=zr (Y1 2) Tryz.func132 h
def Pm:V9:=fun b c w K=>box P T.a8 b w fun a w=>J5 T.a8 T.b a (.int .i64 0) w fun d w=>Q8 P T.b c w fun e w=>X1 .eql T.b 5 6 d e w fun f w=>K f w
theorem Q6n (h:Pm a0 a1 w K):Q0 P F.cH [a0,a1] w K:=zr (Y1 2) Tryz.func133 h
def Q0B:W6:=Y1 8++[some ([6,31],[6,8,31,32,33,34,35,36,37,38,39,40,41,42,43,44,45,46,47]),none,none,some ([6],[6,8,33,34,35,36,37,38,39,40,41,42,43,44,45,46]),none,none,none]
def Uj:V9:=fun i h w K=>Q0 P F.j [i,h] w fun j w=>V8 P .not j w fun d w=>X8 d false h w fun k w=>Q1 d false w (U6 .eql T.b 14 k #[79,98,106,101,99,116]) fun l w=>pick P d (.bool true) l w fun m w=>X0 m (K (.string ⟨#[]⟩) w) (Q0 P F.e [i,h] w fun n w=>L6 T.c n w fun b w=>U6 .add T.b 20 h #[40] w fun o w=>X7 T.c T.b b 1 w fun p w=>Q0 P F.aj [i,p] w fun q w=>X1 .add T.b 21 25 o q w fun r w=>U6 .add T.b 26 r #[41] w fun s w=>X7 T.c T.l b 6 w fun g w=>X6 T.l g w fun t w=>lp (α:=Value×Value) (s,(.int .i64 0)) w fun c e N w=>X1 .lss T.e 31 30 e.2 t w fun u w=>X0 u (jn (α:=Value) w (fun f w=>J5 T.l T.n g e.2 w fun v w=>L6 T.n v w fun a w=>X7 T.n T.r a 2 w fun y w=>V8 P .not y w fun z w=>X0 z (X7 T.n T.b a 0 w fun A w=>Y6 P .add T.b (.const (.string ⟨#[32]⟩)) (.tmp 40) (.string ⟨#[32]⟩) A w fun B w=>U6 .add T.b 41 B #[58] w fun C w=>X7 T.n T.b a 1 w fun D w=>X1 .add T.b 42 44 C D w fun E w=>X1 .add T.b 38 45 e.1 E w fun H w=>f H w) (f e.1 w)) fun M N w=>X2 .add T.e 31 e.2 1 w fun J w=>c (M,J) w) (U6 .add T.b 48 e.1 #[46] w fun L w=>K L w))
theorem Hy (h:Uj a0 a1 w K):Q0 P F.aj [a0,a1] w K:=zr Q0B Tryz.func135 h
variable {a4 : Value}
def Q8e:W6:=[none,none,none,none,some ([5,11],[5,7,8,11,12,13,14,15,16,17,18,19,20,21,22,23,24,25,26,27,28,29,30,31]),none,none,some ([5],[5,7,8,13,14,15,16,17,18,19,20,21,22,23,24,25,26,27,28,29,30]),none,none,none,none]
def Q1N:V9:=fun D E w K=>X6 T.u E w fun q w=>lp (α:=Value×Value) ((.slice none 0 0),(.int .i64 0)) w fun b i H w=>X1 .lss T.e 11 10 i.2 q w fun r w=>X0 r (jn (α:=Value) w (fun C w=>J5 T.u T.e E i.2 w fun s w=>Q0 P F.x [D,s] w fun t w=>L6 T.b t w fun a w=>H2 P (.func F.cH) [] [a] w fun u w=>Q0 P F.o [i.1,u] w fun v w=>V8 P .not v w fun y w=>X0 y (dr w fun j c=>Y5 j c (Q8 P T.b a) fun l=>Y5 j c (Q0 P F.aQ [D]) fun m=>Y5 j c (Q8 P T.b a) fun n=>M5 j c m n (fun e f=>Q0 P F.aj [e,f]) fun o=>M5 j c l o (fun d g=>C4 P T.a8 [(0,d),(1,g)]) fun p=>X5 j c p (fun h=>buildSlice P T.aa 1 [(0,h)]) fun B=> ∀d e f g h k w,c w->l d w->m e w->n f w->o g w->p h w->B k w->J7 P .append [T.aa,T.aa] T.aa [false,false] [i.1,k] w fun z w=>C z w) (C i.1 w)) fun J H w=>X2 .add T.e 11 i.2 1 w fun A w=>b (J,A) w) (K i.1 w)
theorem Q8o (h:Q1N a0 a1 w K):Q0 P F.cn [a0,a1] w K:=zr Q8e Tryz.func74 h
def Q38:zV0:=fun w K=>C4 P T.a7 [] w fun a w=>box P T.a7 a w fun b w=>K b w
theorem Q9X (h:Q38 w K):Q0 P F.d4 [] w K:=zr (Y1 2) Tryz.func88 h
def X2D:W6:=[none,none,none,some ([0,3],[0,3,4,5,6,7,8,9,10,11,12,13]),none,none,none,none]
def Q5Y:O7:=fun j w K=>lp (α:=Value×Value) (j,(.slice none 0 0)) w fun a b m w=>Y6 P .geq T.ai (.tmp 4) (.const (.int .u64 128)) b.1 (.int .u64 128) w fun k w=>X0 k (conv P T.ai T.a1 b.1 w fun c w=>Y6 P .or T.a1 (.tmp 10) (.const (.int .u8 128)) c (.int .u8 128) w fun d w=>buildSlice P T.s 1 [(0,d)] w fun e w=>J7 P .append [T.s,T.s] T.s [false,false] [b.2,e] w fun f w=>Y6 P .shr T.ai (.tmp 6) (.const (.int .u64 7)) b.1 (.int .u64 7) w fun l w=>a (l,f) w) (conv P T.ai T.a1 b.1 w fun g w=>buildSlice P T.s 1 [(0,g)] w fun h w=>J7 P .append [T.s,T.s] T.s [false,false] [b.2,h] w fun i w=>K i w)
theorem X2S (h:Q5Y a0 w K):Q0 P F.dd [a0] w K:=zr X2D Tryz.func150 h
def Q1W:W6:=[none,some ([8],[5,8,9,10,11,12,13,14,15,16,17,18,19,20,21,22]),none,none,none,none]
def Rq:V9:=fun q r w K=>X6 T.ak r w fun s w=>lp (α:=Value) (.int .i64 0) w fun a n u w=>X1 .lss T.e 8 7 n s w fun t w=>X0 t (J5 T.ak T.ai r n w fun j w=>dr w fun i d=>Y5 i d (nilCheck P q) fun g=>X5 i d g (fun b=>fieldAddr P T.a7 b 0) fun h=>X5 i d h (fun c=>Q8 P T.s c) fun o=>Y5 i d (Q0 P F.dd [j]) fun p=> ∀b c e f w,d w->g b w->h c w->o e w->p f w->J7 P .append [T.s,T.s] T.s [false,false] [e,f] w fun k w=>nilCheck P q w fun l w=>fieldAddr P T.a7 l 0 w fun m w=>U3 P T.s m k w fun _u w=>U7 8 n w a) (K (.tuple #[]) w)
theorem Q2h (h:Rq a0 a1 w K):Q0 P F.t [a0,a1] w K:=zr Q1W Tryz.func90 h
def Ac:V9:=fun a b w K=>Q8 P T.af b w fun c w=>conv P T.e T.ai a w fun d w=>buildSlice P T.ak 1 [(0,d)] w fun e w=>Q0 P F.t [c,e] w fun f w=>K (.tuple #[]) w
theorem Q7e (h:Ac a0 a1 w K):Q0 P F.cO [a0,a1] w K:=zr [] Tryz.func89 h
def Q0F:W6:=[none,some ([8],[5,8,9,10,11,12,13,14,15,16,17,18,19,20,21,22,23,24,25,26,27])]++Y1 5
def El:V9:=fun c m w K=>X6 T.h m w fun o w=>lp (α:=Value) (.int .i64 0) w fun a l q w=>X1 .lss T.e 8 7 l o w fun p w=>X0 p (J5 T.h T.b m l w fun b w=>X6 T.b b w fun d w=>conv P T.e T.ai d w fun e w=>buildSlice P T.ak 1 [(0,e)] w fun f w=>Q0 P F.t [c,f] w fun n w=>nilCheck P c w fun g w=>X7 T.a7 T.s g 0 w fun h w=>J7 P .append [T.s,T.b] T.s [false,false] [h,b] w fun i w=>nilCheck P c w fun j w=>fieldAddr P T.a7 j 0 w fun k w=>U3 P T.s k i w fun _u w=>U7 8 l w a) (K (.tuple #[]) w)
theorem Q19 (h:El a0 a1 w K):Q0 P F.aH [a0,a1] w K:=zr Q0F Tryz.func91 h
def Ad:V9:=fun b c w K=>box P T.a8 b w fun a w=>J5 T.a8 T.b a (.int .i64 0) w fun d w=>Q8 P T.b c w fun e w=>X1 .eql T.b 5 6 d e w fun f w=>K f w
theorem Q7f (h:Ad a0 a1 w K):Q0 P F.cP [a0,a1] w K:=zr (Y1 2) Tryz.func93 h
def Q5Z:O7:=fun a w K=>Y6 P .shl T.a2 (.tmp 3) (.const (.int .u64 1)) a (.int .u64 1) w fun b w=>conv P T.a2 T.ai b w fun c w=>Y6 P .shr T.a2 (.tmp 6) (.const (.int .u64 63)) a (.int .u64 63) w fun d w=>conv P T.a2 T.ai d w fun e w=>X1 .xor T.ai 5 8 c e w fun f w=>K f w
theorem X2T (h:Q5Z a0 w K):Q0 P F.de [a0] w K:=zr (Y1 2) Tryz.func199 h
def Q1V:W6:=[none,some ([8],[5,8,9,10,11,12,13,14,15,16,17]),none,none,none,none]
def Rp:V9:=fun g f w K=>X6 T.aB f w fun i w=>lp (α:=Value) (.int .i64 0) w fun a e k w=>X1 .lss T.e 8 7 e i w fun j w=>X0 j (J5 T.aB T.a2 f e w fun b w=>Q0 P F.de [b] w fun c w=>buildSlice P T.ak 1 [(0,c)] w fun d w=>Q0 P F.t [g,d] w fun h w=>U7 8 e w a) (K (.tuple #[]) w)
theorem Q2g (h:Rp a0 a1 w K):Q0 P F.bM [a0,a1] w K:=zr Q1V Tryz.func153 h
def Q0E:W6:=[none,some ([9],[5,6,9,10,11,12,13,14,15,16,17,18,19,20,21,22,23,24])]++Y1 5++[some ([6],[6,13]),none]
def Ek:V9:=fun l m w K=>X6 T.a9 m w fun o w=>lp (α:=Value) (.int .i64 0) w fun a j n w=>X1 .lss T.e 9 8 j o w fun b w=>X0 b (J5 T.a9 T.r m j w fun c w=>jn (α:=Value) w (fun k w=>X0 c (k (.int .u8 1) w) (k (.int .u8 0) w)) fun p n w=>nilCheck P l w fun d w=>X7 T.a7 T.s d 0 w fun e w=>buildSlice P T.s 1 [(0,p)] w fun f w=>J7 P .append [T.s,T.s] T.s [false,false] [e,f] w fun g w=>nilCheck P l w fun h w=>fieldAddr P T.a7 h 0 w fun i w=>U3 P T.s i g w fun _u w=>U7 9 j w a) (K (.tuple #[]) w)
theorem Q18 (h:Ek a0 a1 w K):Q0 P F.bv [a0,a1] w K:=zr Q0E Tryz.func154 h
def Q3a:Yo:=fun c t u w K=>box P T.f t w fun a w=>X7 T.f T.e a 0 w fun C w=>conv P T.e T.ai C w fun D w=>buildSlice P T.ak 1 [(0,D)] w fun d w=>Q0 P F.t [c,d] w fun v w=>X7 T.f T.e a 0 w fun b w=>X2 .eql T.e 13 b 1 w fun e w=>X0 e (X7 T.f T.a2 a 1 w fun f w=>buildSlice P T.aB 1 [(0,f)] w fun g w=>Q0 P F.bM [c,g] w fun y w=>K (.tuple #[]) w) (X2 .eql T.e 13 b 2 w fun h w=>X0 h (X7 T.f T.a2 a 1 w fun i w=>X2 .eql T.a2 25 i 1 w fun j w=>buildSlice P T.a9 1 [(0,j)] w fun k w=>Q0 P F.bv [c,k] w fun z w=>K (.tuple #[]) w) (X2 .eql T.e 13 b 3 w fun l w=>X0 l (X7 T.f T.b a 2 w fun m w=>buildSlice P T.h 1 [(0,m)] w fun n w=>Q0 P F.aH [c,n] w fun A w=>K (.tuple #[]) w) (X2 .eql T.e 13 b 4 w fun o w=>X0 o (X7 T.f T.e a 3 w fun p w=>lookup P T.ab u p false w fun q w=>conv P T.e T.ai q w fun r w=>buildSlice P T.ak 1 [(0,r)] w fun s w=>Q0 P F.t [c,s] w fun B w=>K (.tuple #[]) w) (K (.tuple #[]) w))))
theorem Q9Z (h:Q3a a0 a1 a2 w K):Q0 P F.bX [a0,a1,a2] w K:=zr (Y1 7) Tryz.func97 h
def Vc:O7:=fun a w K=>Y6 P .eql T.s (.tmp 3) (.const (.slice none 0 0)) a (.slice none 0 0) w fun b w=>X0 b (K (.slice none 0 0) w) (buildSlice P T.s 0 [] w fun c w=>J7 P .append [T.s,T.s] T.s [false,false] [c,a] w fun d w=>K d w)
theorem Fb (h:Vc a0 w K):Q0 P F.aI [a0] w K:=zr (Y1 5) Tryz.func155 h
def Dd:O7:=fun a w K=>nilCheck P a w fun b w=>X7 T.a7 T.s b 0 w fun c w=>Q0 P F.aI [c] w fun d w=>K d w
theorem As (h:Dd a0 w K):Q0 P F.bj [a0] w K:=zr (Y1 2) Tryz.func98 h
def Q9A:W6:=Y1 8++[some ([39],[14,39,40,41,42,43,44,45,46,47,48,49,50])]++Y1 7++[some ([57],[16,17,57,58,59,60,61,62,63,64,65,66,67,68,69,70,71,72,73,74,75,76,77]),none,none,some ([],[16,17,59,60,61,62,63,64,65,66,67,68,69,70,71,72,73,74,75,76])]++Y1 6++[some ([80],[19,21,22,23,80,81,82,83,84,85,86,87,88,89,90,91,92,93,94,95,96,97,98,99,100,101,102,103,104])]++Y1 5++[some ([88],[21,22,23,88,89,90,91,92,93,94,95,96,97,98,99,100,101,102,103])]++Y1 8++[some ([111],[25,111,112,113,114,115,116,117,118,119])]++Y1 5
def Q3b:zV4:=fun n J l a3 w K=>Q0 P F.d4 [] w fun N w=>L6 T.af N w fun H w=>H2 P (.func F.cO) [] [H] w fun e w=>Q8 P T.af H w fun O w=>H2 P (.func F.aH) [O] [] w fun Q w=>Q0 P F.cn [n,l] w fun g w=>X6 T.aa g w fun R w=>J0 P e [R] w fun a4 w=>X6 T.aa g w fun U w=>lp (α:=Value) (.int .i64 0) w fun f x8 o w=>X1 .lss T.e 39 38 x8 U w fun V w=>X0 V (J5 T.aa T.a8 g x8 w fun W w=>L6 T.a8 W w fun A w=>J5 T.a8 T.b A (.int .i64 0) w fun X w=>J5 T.a8 T.b A (.int .i64 1) w fun Y w=>buildSlice P T.h 2 [(0,X),(1,Y)] w fun Z w=>J0 P Q [Z] w fun a5 w=>U7 39 x8 w f) (X6 T.u l w fun aa w=>J0 P e [aa] w fun a6 w=>X6 T.u l w fun ab w=>lp (α:=Value) (.int .i64 0) w fun a h o w=>X1 .lss T.e 57 56 h ab w fun ac w=>X0 ac (jn (α:=Unit) w (fun m w=>J5 T.u T.e l h w fun C w=>Q0 P F.x [n,C] w fun ad w=>L6 T.b ad w fun B w=>H2 P (.func F.cP) [] [B] w fun ae w=>Q0 P F.l [g,ae] w fun af w=>J0 P e [af] w fun a7 w=>Q8 P T.b B w fun ag w=>Q0 P F.bw [ag] w fun ah w=>U6 .neq T.b 70 ah #[] w fun ai w=>X0 ai (Q0 P F.b1 [n,C] w fun aj w=>J0 P e [aj] w fun a8 w=>m () w) (m () w)) fun ba o w=>U7 57 h w a) (X6 T.u l w fun ak w=>lp (α:=Value) (.int .i64 0) w fun b i o w=>X1 .lss T.e 80 79 i ak w fun al w=>X0 al (J5 T.u T.e l i w fun D w=>Q0 P F.cw [n,D] w fun E w=>X6 T.u E w fun am w=>lp (α:=Value) (.int .i64 0) w fun c j o w=>X1 .lss T.e 88 87 j am w fun an w=>X0 an (J5 T.u T.e E j w fun ao w=>Q0 P F.ai [n,D,ao] w fun ap w=>M9 ap w fun aq a9 w=>L6 T.f aq w fun L w=>Q8 P T.af H w fun ar w=>Q8 P T.f L w fun p w=>Q0 P F.bX [ar,p,a3] w fun ax w=>U7 88 j w c) (U7 80 i w b)) (X6 T.k J w fun q w=>J0 P e [q] w fun ay w=>X6 T.k J w fun r w=>lp (α:=Value) (.int .i64 0) w fun d k o w=>X1 .lss T.e 111 110 k r w fun s w=>X0 s (J5 T.k T.f J k w fun t w=>L6 T.f t w fun M w=>Q8 P T.af H w fun u w=>Q8 P T.f M w fun v w=>Q0 P F.bX [u,v,a3] w fun az w=>U7 111 k w d) (Q8 P T.af H w fun y w=>Q0 P F.bj [y] w fun z w=>K z w))))
theorem X00 (h:Q3b a0 a1 a2 a3 w K):Q0 P F.d5 [a0,a1,a2,a3] w K:=zr Q9A Tryz.func41 h
def Q4Z:Yo:=fun v f y w K=>box P T.a4 v w fun b w=>box P T.ac y w fun a w=>X6 T.k f w fun g w=>X2 .gtr T.e 12 g 64 w fun c w=>X8 c false f w fun h w=>Q1 c false w (H2 P (.func F.cV) [] [b]) fun i w=>Q1 c false w (Q0 P F.h [h,i]) fun j w=>pick P c (.bool true) j w fun k w=>X0 k (K (.tuple #[(.slice none 0 0),(.int .i64 120)]) w) (Q8 P T.a4 b w fun l w=>Q0 P F.cz [l,f] w fun m w=>M9 m w fun d n w=>X6 T.u d w fun o w=>X7 T.ac T.e a 0 w fun p w=>X1 .gtr T.e 26 28 o p w fun q w=>X0 q (K (.tuple #[(.slice none 0 0),(.int .i64 121)]) w) (Q8 P T.a4 b w fun r w=>Q0 P F.d5 [r,f,d,n] w fun e w=>X6 T.s e w fun s w=>X7 T.ac T.e a 1 w fun t w=>X1 .gtr T.e 36 38 s t w fun u w=>X0 u (K (.tuple #[(.slice none 0 0),(.int .i64 122)]) w) (K (.tuple #[e,(.int .i64 0)]) w)))
theorem X15 (h:Q4Z a0 a1 a2 w K):Q0 P F.b7 [a0,a1,a2] w K:=zr (Y1 13) Tryz.func18 h
def Q60:Yo:=fun h i j w K=>box P T.f i w fun b w=>box P T.ac j w fun a w=>Q8 P T.f b w fun k w=>buildSlice P T.k 1 [(0,k)] w fun c w=>Q8 P T.ac a w fun d w=>Q0 P F.b7 [h,c,d] w fun e w=>M9 e w fun f g w=>K (.tuple #[f,g]) w
theorem X2U (h:Q60 a0 a1 a2 w K):Q0 P F.c3 [a0,a1,a2] w K:=zr (Y1 2) Tryz.func11 h
def Rs:zV0:=fun w K=>T4 P T.ac w fun a w=>C4 P T.ac [(0,(.int .i64 1000)),(1,(.int .i64 1048576))] w fun c w=>U3 P T.ac a c w fun _u w=>Z9 P T.ac a w fun b=>K b w
theorem Q2j (h:Rs w K):Q0 P F.v [] w K:=zr (Y1 2) Tryz.func12 h
def Nn:V9:=fun g h w K=>Q0 P F.j [g,h] w fun a w=>X8 a true g w fun i w=>X8 a true h w fun b w=>Q1 a true w (Q0 P F.e [i,b]) fun c w=>Q1 a true w (Qr P T.c c 4) fun d w=>Q1 a true w (V8 P .not d) fun e w=>pick P a e (.bool false) w fun f w=>K f w
theorem Td (h:Nn a0 a1 w K):Q0 P F.ba [a0,a1] w K:=zr (Y1 2) Tryz.func69 h
def Cv:O7:=fun j w K=>dr w fun b a=>Y5 b a (nilCheck P j) fun l=>X5 b a l (fun e=>fieldAddr P T.q e 1) fun m=>Y5 b a (nilCheck P j) fun n=>X5 b a n (fun g=>fieldAddr P T.q g 2) fun o=>X5 b a m (fun f=>Q8 P T.e f) fun p=>X5 b a o (fun h=>Q8 P T.e h) fun i=> ∀e f g h k c w,a w->l e w->m f w->n g w->o h w->p k w->i c w->X1 .sub T.e 6 10 k c w fun d w=>K d w
theorem Q3v (h:Cv a0 w K):Q0 P F.aA [a0] w K:=zr (Y1 2) Tryz.func71 h
def Q4U:O7:=fun c w K=>T4 P T.f w fun a w=>U6 .eql T.b 3 c #[105,110,116] w fun g w=>X0 g (C4 P T.f [(0,(.int .i64 1))] w fun h w=>U3 P T.f a h w fun _u w=>Z9 P T.f a w fun b=>K b w) (U6 .eql T.b 3 c #[98,111,111,108] w fun i w=>X0 i (C4 P T.f [(0,(.int .i64 2))] w fun j w=>U3 P T.f a j w fun _u w=>Z9 P T.f a w fun b=>K b w) (U6 .eql T.b 3 c #[116,101,120,116] w fun d w=>X0 d (C4 P T.f [(0,(.int .i64 3))] w fun e w=>U3 P T.f a e w fun _u w=>Z9 P T.f a w fun b=>K b w) (C4 P T.f [] w fun f w=>U3 P T.f a f w fun _u w=>Z9 P T.f a w fun b=>K b w)))
theorem X10 (h:Q4U a0 w K):Q0 P F.cL [a0] w K:=zr (Y1 10) Tryz.func72 h
def Fi:Yo:=fun a t s w K=>nilCheck P a w fun u w=>X7 T.q T.e u 2 w fun b w=>X6 T.k s w fun c w=>Y6 P .add T.e (.const (.int .i64 1)) (.tmp 13) (.int .i64 1) c w fun d w=>X1 .add T.e 11 14 b d w fun e w=>nilCheck P a w fun f w=>fieldAddr P T.q f 2 w fun g w=>U3 P T.e g e w fun _u w=>nilCheck P a w fun h w=>X7 T.q T.g h 3 w fun i w=>C4 P T.o [(0,t),(1,s)] w fun j w=>buildSlice P T.g 1 [(0,j)] w fun k w=>J7 P .append [T.g,T.g] T.g [false,false] [i,k] w fun l w=>nilCheck P a w fun m w=>fieldAddr P T.q m 3 w fun n w=>U3 P T.g n l w fun _u w=>nilCheck P a w fun o w=>X7 T.q T.g o 3 w fun p w=>X6 T.g p w fun q w=>X2 .sub T.e 34 q 1 w fun r w=>K (.tuple #[r,(.int .i64 0)]) w
theorem Q4B (h:Fi a0 a1 a2 w K):Q0 P F.b9 [a0,a1,a2] w K:=zr (Y1 4) Tryz.func73 h
def Q0A:W6:=Y1 11++[some ([7,31],[7,9,31,32,33,34,35,36,37,38,39,40,41])]++Y1 5
def Ed:V9:=fun e f w K=>nilCheck P e w fun g w=>X7 T.q T.z g 0 w fun h w=>Q0 P F.ba [h,f] w fun i w=>V8 P .not i w fun j w=>X0 j (K (.tuple #[(.int .i64 0),(.int .i64 91)]) w) (nilCheck P e w fun k w=>X7 T.q T.z k 0 w fun l w=>Q0 P F.a5 [l,f] w fun c w=>X6 T.l c w fun m w=>Y6 P .add T.e (.const (.int .i64 1)) (.tmp 24) (.int .i64 1) m w fun n w=>Q0 P F.aA [e] w fun o w=>X1 .gtr T.e 25 27 n o w fun p w=>X0 p (K (.tuple #[(.int .i64 0),(.int .i64 90)]) w) (X6 T.l c w fun q w=>lp (α:=Value×Value) ((.slice none 0 0),(.int .i64 0)) w fun a b D w=>X1 .lss T.e 31 30 b.2 q w fun r w=>X0 r (J5 T.l T.n c b.2 w fun s w=>L6 T.n s w fun d w=>X7 T.n T.b d 1 w fun t w=>Q0 P F.cL [t] w fun u w=>buildSlice P T.k 1 [(0,u)] w fun v w=>J7 P .append [T.k,T.k] T.k [false,false] [b.1,v] w fun y w=>X2 .add T.e 31 b.2 1 w fun z w=>a (y,z) w) (Q0 P F.b9 [e,f,b.1] w fun A w=>M9 A w fun B C w=>K (.tuple #[B,C]) w)))
theorem Q11 (h:Ed a0 a1 w K):Q0 P F.aF [a0,a1] w K:=zr Q0A Tryz.func29 h
def Cz:O7:=fun b w K=>T4 P T.f w fun a w=>C4 P T.f [(0,(.int .i64 4)),(3,b)] w fun d w=>U3 P T.f a d w fun _u w=>Z9 P T.f a w fun c=>K c w
theorem Q3z (h:Cz a0 w K):Q0 P F.b2 [a0] w K:=zr (Y1 2) Tryz.func30 h
def Q1L:V9:=fun d e w K=>Q0 P F.cz [d,e] w fun a w=>M9 a w fun b f w=>Q0 P F.cn [d,b] w fun c w=>K c w
theorem Q8m (h:Q1L a0 a1 w K):Q0 P F.cU [a0,a1] w K:=zr (Y1 3) Tryz.func31 h
def Ep:zV0:=fun w K=>Q0 P F.aJ [(.int .u16 50)] w fun j w=>M9 j w fun b k w=>L6 T.a k w fun t2 w=>Y6 P .eql T.a4 (.tmp 15) (.const (.pointer none)) b (.pointer none) w fun l w=>X0 l (K (.bool false) w) (C4 P T.f [(0,(.int .i64 1)),(1,(.int .i64 5))] w fun m w=>Q0 P F.v [] w fun n w=>Q0 P F.c3 [b,m,n] w fun o w=>M9 o w fun p q w=>C4 P T.f [] w fun r w=>Q0 P F.v [] w fun s w=>Q0 P F.c3 [b,r,s] w fun t w=>M9 t w fun u v w=>Q0 P F.aF [b,(.string ⟨#[65]⟩)] w fun y w=>M9 y w fun i z w=>Q0 P F.b2 [i] w fun A w=>Q0 P F.v [] w fun B w=>Q0 P F.c3 [b,A,B] w fun C w=>M9 C w fun D E w=>conv P T.s T.b p w fun H w=>U6 .eql T.b 45 H #[0,0,1,1,10] w fun e w=>X8 e true q w fun J w=>Q1 e true w (X2 .eql T.w 48 J 0) fun L w=>pick P e L (.bool false) w fun c w=>X8 c true u w fun M w=>Q1 c true w (conv P T.s T.b M) fun N w=>Q1 c true w (U6 .eql T.b 53 N #[0,0,1,0]) fun O w=>pick P c O (.bool false) w fun f w=>X8 f true v w fun Q w=>Q1 f true w (X2 .eql T.w 57 Q 0) fun R w=>pick P f R (.bool false) w fun g w=>X8 g true z w fun U w=>Q1 g true w (X2 .eql T.w 61 U 0) fun V w=>pick P g V (.bool false) w fun h w=>X8 h true E w fun W w=>Q1 h true w (X2 .eql T.w 65 W 0) fun X w=>pick P h X (.bool false) w fun d w=>X8 d true D w fun Y w=>Q1 d true w (X6 T.s Y) fun Z w=>Q1 d true w (X2 .gtr T.e 70 Z 10) fun aa w=>pick P d aa (.bool false) w fun a w=>X8 a true b w fun ab w=>X8 a true i w fun ac w=>Q1 a true w (Q0 P F.b2 [ac]) fun ad w=>Q1 a true w (buildSlice P T.k 1 [(0,ad)]) fun ae w=>Q1 a true w (Q0 P F.cU [ab,ae]) fun af w=>Q1 a true w (X6 T.aa af) fun ag w=>Q1 a true w (X2 .eql T.e 79 ag 1) fun ah w=>pick P a ah (.bool false) w fun ai w=>K ai w)
theorem Q1d (h:Ep w K):Q0 P F.al [] w K:=zr (Y1 10) Tryz.func9 h
def Bh:O7:=fun g w K=>box P T.m g w fun a w=>X7 T.m T.b a 1 w fun h w=>X6 T.b h w fun i w=>X2 .leq T.e 5 i 100 w fun b w=>Q1 b true w (fieldAddr P T.m a 4) fun j w=>Z8 b true w T.f T.b j 2 fun c w=>Q1 b true w (X6 T.b c) fun d w=>Q1 b true w (X2 .leq T.e 11 d 5000) fun e w=>pick P b e (.bool false) w fun f w=>K f w
theorem Q3H (h:Bh a0 w K):Q0 P F.c8 [a0] w K:=zr (Y1 2) Tryz.func35 h
def Nw:V9:=fun h j w K=>Q0 P F.b [h,j] w fun i w=>X2 .geq T.e 9 i 0 w fun a w=>X8 a true h w fun b w=>X8 a true i w fun c w=>Q1 a true w (indexAddr P T.i b c) fun d w=>Z8 a true w T.c T.r d 4 fun e w=>Q1 a true w (V8 P .not e) fun f w=>pick P a f (.bool false) w fun g w=>K g w
theorem Tl (h:Nw a0 a1 w K):Q0 P F.bg [a0,a1] w K:=zr (Y1 3) Tryz.func136 h
def Q24:W6:=[none,none,none,none,some ([3,4],[3,4,7,8,9,10,11,12,13,14,15,16,17,18,19,20,21,22,23]),none,none,none,none]
def Sd:O7:=fun m w K=>box P T.a m w fun a w=>X7 T.a T.e a 1 w fun n w=>lp (α:=Value×Value) (n,(.int .i64 0)) w fun b c p w=>X7 T.a T.g a 2 w fun o w=>X6 T.g o w fun d w=>X1 .lss T.e 7 10 c.2 d w fun e w=>X0 e (X7 T.a T.g a 2 w fun g w=>indexAddr P T.g g c.2 w fun h w=>X7 T.o T.k h 1 w fun i w=>X6 T.k i w fun j w=>Y6 P .add T.e (.const (.int .i64 1)) (.tmp 21) (.int .i64 1) j w fun k w=>X1 .sub T.e 14 22 c.1 k w fun l w=>X2 .add T.e 12 c.2 1 w fun f w=>b (l,f) w) (K c.1 w)
theorem Q2u (h:Sd a0 w K):Q0 P F.aY [a0] w K:=zr Q24 Tryz.func137 h
def Q26:W6:=[none,none,some ([],[5,6,7]),none,some ([],[8,9,10]),none,some ([],[11,12,13]),none,none]
def Sf:O7:=fun b w K=>T4 P T.f w fun k w=>C4 P T.f [] w fun m w=>L6 T.f m w fun a w=>jn (α:=Unit) w (fun g w=>U6 .eql T.b 5 b #[105,110,116] w fun n w=>X0 n (fieldAddr P T.f a 0 w fun o w=>U3 P T.e o (.int .i64 1) w fun _u w=>g () w) (g () w)) fun q j w=>jn (α:=Unit) w (fun h w=>U6 .eql T.b 8 b #[98,111,111,108] w fun p w=>X0 p (fieldAddr P T.f a 0 w fun c w=>U3 P T.e c (.int .i64 2) w fun _u w=>h () w) (h () w)) fun r j w=>jn (α:=Unit) w (fun i w=>U6 .eql T.b 11 b #[116,101,120,116] w fun d w=>X0 d (fieldAddr P T.f a 0 w fun e w=>U3 P T.e e (.int .i64 3) w fun _u w=>i () w) (i () w)) fun s j w=>Q8 P T.f a w fun f w=>U3 P T.f k f w fun _u w=>Z9 P T.f k w fun l=>K l w
theorem Q2w (h:Sf a0 w K):Q0 P F.aZ [a0] w K:=zr Q26 Tryz.func138 h
def Am:W6:=Y1 11++[some ([8],[8,28,29,30,31,32,33,34,35,36,37,38,39,40,41,42,43,44])]++Y1 5
def Dk:V9:=fun a0 L w K=>box P T.a a0 w fun a w=>T4 P T.a w fun q w=>X7 T.a T.i a 0 w fun M w=>Q0 P F.bg [M,L] w fun N w=>V8 P .not N w fun O w=>X0 O (Q8 P T.a a w fun Q w=>U3 P T.a q Q w fun _u w=>Z9 P T.a q w fun r=>K (.tuple #[r,(.int .i64 91)]) w) (X7 T.a T.i a 0 w fun R w=>Q0 P F.q [R,L] w fun f w=>X6 T.l f w fun U w=>Y6 P .add T.e (.const (.int .i64 1)) (.tmp 20) (.int .i64 1) U w fun V w=>Q8 P T.a a w fun W w=>Q0 P F.aY [W] w fun X w=>X1 .gtr T.e 21 23 V X w fun Y w=>X0 Y (Q8 P T.a a w fun Z w=>U3 P T.a q Z w fun _u w=>Z9 P T.a q w fun r=>K (.tuple #[r,(.int .i64 90)]) w) (C4 P T.o [(0,L)] w fun aa w=>L6 T.o aa w fun c w=>lp (α:=Value) (.int .i64 0) w fun e p d_ w=>X6 T.l f w fun ab w=>X1 .lss T.e 28 30 p ab w fun ac w=>X0 ac (dr w fun d b=>Y5 d b (fieldAddr P T.o c 1) fun y=>Y5 d b (indexAddr P T.l f p) fun z=>X5 d b z (fun h=>fieldAddr P T.n h 1) fun A=>X5 d b y (fun g=>Q8 P T.k g) fun ai=>X5 d b A (fun i=>Q8 P T.b i) fun B=>X5 d b B (fun j=>Q0 P F.aZ [j]) fun C=>X5 d b C (fun k=>buildSlice P T.k 1 [(0,k)]) fun aj=> ∀g h i s j k t w,b w->y g w->z h w->A i w->ai s w->B j w->C k w->aj t w->J7 P .append [T.k,T.k] T.k [false,false] [s,t] w fun ad w=>fieldAddr P T.o c 1 w fun ae w=>U3 P T.k ae ad w fun _u w=>U7 32 p w e) (dr w fun d b=>Y5 d b (fieldAddr P T.a a 2) fun E=>Y5 d b (buildSlice P T.g 0 []) fun D=>X5 d b E (fun m=>Q8 P T.g m) fun H=>M5 d b D H (fun l n=>J7 P .append [T.g,T.g] T.g [false,false] [l,n]) fun ak=>Y5 d b (Q8 P T.o c) fun J=>X5 d b J (fun o=>buildSlice P T.g 1 [(0,o)]) fun al=> ∀m l n u o v w,b w->E m w->D l w->H n w->ak u w->J o w->al v w->J7 P .append [T.g,T.g] T.g [false,false] [u,v] w fun af w=>fieldAddr P T.a a 2 w fun ag w=>U3 P T.g ag af w fun _u w=>Q8 P T.a a w fun ah w=>U3 P T.a q ah w fun _u w=>Z9 P T.a q w fun r=>K (.tuple #[r,(.int .i64 0)]) w)))
theorem Q00 (h:Dk a0 a1 w K):Q0 P F.bn [a0,a1] w K:=zr Am Tryz.func76 h
def Q0S:W6:=Y1 13++[some ([9],[9,41,42,43,44,45,46,47,48,49,50,51,52])]++Y1 5
def Hi:Yo:=fun a0 q E w K=>box P T.a a0 w fun a w=>T4 P T.a w fun i w=>U6 .eql T.b 10 q #[110,117,108,108] w fun g w=>Z8 g false w T.a T.i a 0 fun H w=>X8 g false q w fun J w=>Q1 g false w (Q0 P F.a4 [H,J]) fun L w=>Q1 g false w (V8 P .not L) fun M w=>pick P g (.bool true) M w fun h w=>X8 h false q w fun N w=>Q1 h false w (Q0 P F.a3 [N]) fun O w=>Q1 h false w (X2 .gtr T.e 21 O 2) fun Q w=>pick P h (.bool true) Q w fun R w=>X0 R (Q8 P T.a a w fun U w=>U3 P T.a i U w fun _u w=>Z9 P T.a i w fun j=>K (.tuple #[j,(.int .i64 91)]) w) (X2 .lss T.a2 25 E 0 w fun V w=>X0 V (Q8 P T.a a w fun W w=>U3 P T.a i W w fun _u w=>Z9 P T.a i w fun j=>K (.tuple #[j,(.int .i64 93)]) w) (X2 .gtr T.a2 28 E 1048576 w fun d w=>X8 d false E w fun X w=>Q1 d false w (Y6 P .add T.e (.const (.int .i64 1)) (.tmp 31) (.int .i64 1) X) fun Y w=>Q1 d false w (Q8 P T.a a) fun Z w=>Q1 d false w (Q0 P F.aY [Z]) fun aa w=>Q1 d false w (X1 .gtr T.e 32 34 Y aa) fun ab w=>pick P d (.bool true) ab w fun ac w=>X0 ac (Q8 P T.a a w fun ad w=>U3 P T.a i ad w fun _u w=>Z9 P T.a i w fun j=>K (.tuple #[j,(.int .i64 90)]) w) (U6 .add T.b 38 q #[91,93] w fun ae w=>C4 P T.o [(0,ae)] w fun af w=>L6 T.o af w fun b w=>lp (α:=Value) (.int .i64 0) w fun f v d_ w=>X1 .lss T.a2 41 42 v E w fun ag w=>X0 ag (dr w fun e c=>Y5 e c (fieldAddr P T.o b 1) fun y=>X5 e c y (fun k=>Q8 P T.k k) fun an=>Y5 e c (Q0 P F.aZ [q]) fun z=>X5 e c z (fun l=>buildSlice P T.k 1 [(0,l)]) fun ao=> ∀k r l s w,c w->y k w->an r w->z l w->ao s w->J7 P .append [T.k,T.k] T.k [false,false] [r,s] w fun ai w=>fieldAddr P T.o b 1 w fun aj w=>U3 P T.k aj ai w fun _u w=>X2 .add T.a2 44 v 1 w fun ah w=>f ah w) (dr w fun e c=>Y5 e c (fieldAddr P T.a a 2) fun B=>Y5 e c (buildSlice P T.g 0 []) fun A=>X5 e c B (fun n=>Q8 P T.g n) fun C=>M5 e c A C (fun m o=>J7 P .append [T.g,T.g] T.g [false,false] [m,o]) fun ap=>Y5 e c (Q8 P T.o b) fun D=>X5 e c D (fun p=>buildSlice P T.g 1 [(0,p)]) fun aq=> ∀n m o t p u w,c w->B n w->A m w->C o w->ap t w->D p w->aq u w->J7 P .append [T.g,T.g] T.g [false,false] [t,u] w fun ak w=>fieldAddr P T.a a 2 w fun al w=>U3 P T.g al ak w fun _u w=>Q8 P T.a a w fun am w=>U3 P T.a i am w fun _u w=>Z9 P T.a i w fun j=>K (.tuple #[j,(.int .i64 0)]) w))))
theorem Q1u (h:Hi a0 a1 a2 w K):Q0 P F.bH [a0,a1,a2] w K:=zr Q0S Tryz.func77 h
def Q7I:O7:=fun b w K=>Q0 P F.a2 [b] w fun f w=>V8 P .not f w fun a w=>X8 a false b w fun g w=>Q1 a false w (Q0 P F.cM [g]) fun h w=>Q1 a false w (X2 .eql T.e 9 h 3) fun c w=>pick P a (.bool true) c w fun d w=>X0 d (K (.tuple #[(.string ⟨#[]⟩),(.int .i64 30)]) w) (U6 .add T.b 12 b #[91,93] w fun e w=>K (.tuple #[e,(.int .i64 0)]) w)
theorem X4q (h:Q7I a0 w K):Q0 P F.di [a0] w K:=zr (Y1 5) Tryz.func140 h
def Q1R:W6:=Y1 12++[some ([45],[11,45,46,47,48,49,50,51,52,53])]++Y1 5
def Rh:Yo:=fun h f g w K=>Q0 P F.di [f] w fun i w=>M9 i w fun j k w=>X2 .neq T.w 18 k 0 w fun a w=>X8 a false h w fun l w=>Q1 a false w (nilCheck P l) fun m w=>Z8 a false w T.q T.z m 0 fun n w=>X8 a false f w fun o w=>Q1 a false w (Q0 P F.ad [n,o]) fun p w=>Q1 a false w (V8 P .not p) fun q w=>pick P a (.bool true) q w fun c w=>X8 c false f w fun r w=>Q1 c false w (U6 .eql T.b 30 r #[110,117,108,108]) fun s w=>pick P c (.bool true) s w fun t w=>X0 t (K (.tuple #[(.int .i64 0),(.int .i64 91)]) w) (X2 .lss T.a2 34 g 0 w fun u w=>X0 u (K (.tuple #[(.int .i64 0),(.int .i64 93)]) w) (Q0 P F.aA [h] w fun v w=>X1 .geq T.a2 37 39 g v w fun y w=>X0 y (K (.tuple #[(.int .i64 0),(.int .i64 90)]) w) (Dn P T.k g g w fun d w=>X6 T.k d w fun z w=>lp (α:=Value) (.int .i64 0) w fun b e J w=>X1 .lss T.e 45 44 e z w fun A w=>X0 A (Q0 P F.cL [f] w fun B w=>indexAddr P T.k d e w fun C w=>U3 P T.f C B w fun _u w=>U7 45 e w b) (Q0 P F.b9 [h,j,d] w fun D w=>M9 D w fun E H w=>K (.tuple #[E,H]) w))))
theorem Q28 (h:Rh a0 a1 a2 w K):Q0 P F.bK [a0,a1,a2] w K:=zr Q1R Tryz.func78 h
def Hj:Yo:=fun s d r w K=>box P T.a s w fun b w=>X2 .lss T.e 7 d 0 w fun c w=>X8 c false d w fun e w=>Z8 c false w T.a T.g b 2 fun f w=>Q1 c false w (X6 T.g f) fun g w=>Q1 c false w (X1 .geq T.e 10 13 e g) fun h w=>pick P c (.bool true) h w fun i w=>X0 i (K (.int .i64 92) w) (X2 .lss T.a2 16 r 0 w fun a w=>X8 a false r w fun j w=>Z8 a false w T.a T.g b 2 fun k w=>X8 a false d w fun l w=>Q1 a false w (indexAddr P T.g k l) fun m w=>Z8 a false w T.o T.k m 1 fun n w=>Q1 a false w (X6 T.k n) fun o w=>Q1 a false w (X1 .geq T.a2 19 26 j o) fun p w=>pick P a (.bool true) p w fun q w=>X0 q (K (.int .i64 93) w) (K (.int .i64 0) w))
theorem Q1v (h:Hj a0 a1 a2 w K):Q0 P F.aN [a0,a1,a2] w K:=zr (Y1 8) Tryz.func141 h
def Q4w:W6:=[none,none,some ([],[4,14,15,16,17,18,19,20,21,22,23,24,25,26,27,28,29,30,31,32,33,34,35,36,37,38,39,40,41,42,43,44,45,46,47,48,49,50,51,52,53,54,55,56,57,58,59,60,61,62,63,64,65,66,67,68,69,70,71,72,73,74,75,76,77,78,79,80,81,82,83,84,85,86,87,88,89,90])]++Y1 17
def Fk:V9:=fun a0 a1 w K=>box P T.a a0 w fun t2 w=>box P T.f a1 w fun b w=>X7 T.f T.e b 3 w fun t7 w=>X2 .eql T.e 7 t7 0 w fun Z w=>Z8 Z true w T.f T.b b 2 fun l w=>Q1 Z true w (U6 .eql T.b 11 l #[]) fun m w=>pick P Z m (.bool false) w fun a w=>jn (α:=Unit) w (fun k w=>X7 T.f T.e b 0 w fun c w=>X2 .eql T.e 15 c 0 w fun n w=>X0 n (Z8 a true w T.f T.a2 b 1 fun o w=>Q1 a true w (X2 .eql T.a2 21 o 0) fun p w=>pick P a p (.bool false) w fun q w=>X0 q (K (.string ⟨#[110,117,108,108]⟩) w) (k () w)) (X2 .eql T.e 15 c 1 w fun r w=>X0 r (X0 a (K (.string ⟨#[105,110,116]⟩) w) (k () w)) (X2 .eql T.e 15 c 2 w fun s w=>X0 s (Z8 a true w T.f T.a2 b 1 fun t w=>Q1 a true w (X2 .eql T.a2 32 t 0) fun u w=>X8 a true u w fun f w=>Z8 f false w T.f T.a2 b 1 fun v w=>Q1 f false w (X2 .eql T.a2 36 v 1) fun y w=>Q1 a true w (pick P f (.bool true) y) fun z w=>pick P a z (.bool false) w fun A w=>X0 A (K (.string ⟨#[98,111,111,108]⟩) w) (k () w)) (X2 .eql T.e 15 c 3 w fun B w=>X0 B (X7 T.f T.a2 b 1 w fun C w=>X2 .eql T.a2 43 C 0 w fun g w=>Z8 g true w T.f T.e b 3 fun D w=>Q1 g true w (X2 .eql T.e 47 D 0) fun E w=>pick P g E (.bool false) w fun e w=>Z8 e true w T.f T.b b 2 fun H w=>Q1 e true w (X6 T.b H) fun J w=>Q1 e true w (X2 .leq T.e 53 J 4096) fun L w=>pick P e L (.bool false) w fun h w=>Z8 h true w T.f T.b b 2 fun M w=>Q1 h true w (Q0 P F.aL [M]) fun N w=>pick P h N (.bool false) w fun O w=>X0 O (K (.string ⟨#[116,101,120,116]⟩) w) (k () w)) (X2 .eql T.e 15 c 4 w fun Q w=>X0 Q (X7 T.f T.a2 b 1 w fun R w=>X2 .eql T.a2 64 R 0 w fun i w=>Z8 i true w T.f T.b b 2 fun U w=>Q1 i true w (U6 .eql T.b 68 U #[]) fun V w=>pick P i V (.bool false) w fun j w=>Z8 j true w T.f T.e b 3 fun W w=>Q1 j true w (X2 .geq T.e 73 W 0) fun X w=>pick P j X (.bool false) w fun d w=>Z8 d true w T.f T.e b 3 fun Y w=>Z8 d true w T.a T.g t2 2 fun aa w=>Q1 d true w (X6 T.g aa) fun ab w=>Q1 d true w (X1 .lss T.e 78 81 Y ab) fun ac w=>pick P d ac (.bool false) w fun ad w=>X0 ad (X7 T.a T.g t2 2 w fun ae w=>X7 T.f T.e b 3 w fun af w=>indexAddr P T.g ae af w fun ag w=>X7 T.o T.b ag 0 w fun ah w=>K ah w) (k () w)) (k () w)))))) fun z2 d_ w=>K (.string ⟨#[]⟩) w
theorem Q4D (h:Fk a0 a1 w K):Q0 P F.ci [a0,a1] w K:=zr Q4w Tryz.func21 h
def Bd:Yo:=fun k e f w K=>Q0 P F.a4 [k,e] w fun n w=>V8 P .not n w fun b w=>X8 b false k w fun o w=>X8 b false f w fun p w=>Q1 b false w (Q0 P F.a4 [o,p]) fun q w=>Q1 b false w (V8 P .not q) fun r w=>pick P b (.bool true) r w fun c w=>X8 c false e w fun s w=>X8 c false f w fun t w=>Q1 c false w (X1 .eql T.b 20 21 s t) fun u w=>pick P c (.bool true) u w fun v w=>X0 v (X1 .eql T.b 24 25 e f w fun d w=>X8 d true k w fun y w=>X8 d true e w fun z w=>Q1 d true w (Q0 P F.a4 [y,z]) fun A w=>pick P d A (.bool false) w fun B w=>K B w) (Q0 P F.a0 [e] w fun g w=>X8 g false f w fun C w=>Q1 g false w (Q0 P F.a0 [C]) fun D w=>pick P g (.bool true) D w fun h w=>X8 h false f w fun E w=>Q1 h false w (U6 .eql T.b 39 E #[110,117,108,108]) fun H w=>pick P h (.bool true) H w fun J w=>X0 J (K (.bool false) w) (U6 .eql T.b 42 e #[110,117,108,108] w fun i w=>X8 i false f w fun L w=>Q1 i false w (U6 .eql T.b 45 L #[79,98,106,101,99,116]) fun M w=>pick P i (.bool true) M w fun N w=>X0 N (K (.bool true) w) (Q0 P F.b [k,e] w fun l w=>Q0 P F.b [k,f] w fun m w=>X2 .geq T.e 54 l 0 w fun j w=>X8 j true m w fun O w=>Q1 j true w (X2 .geq T.e 57 O 0) fun Q w=>pick P j Q (.bool false) w fun a w=>X8 a true k w fun R w=>Q1 a true w (Q0 P F.am [R]) fun U w=>X8 a true l w fun V w=>zhi a true w T.ae T.a9 U V fun W w=>X8 a true m w fun X w=>zhi a true w T.a9 T.r W X fun Y w=>pick P a Y (.bool false) w fun Z w=>K Z w)))
theorem Q3D (h:Bd a0 a1 a2 w K):Q0 P F.c6 [a0,a1,a2] w K:=zr (Y1 12) Tryz.func195 h
def Sc:Yo:=fun j k l w K=>box P T.a j w fun b w=>box P T.f k w fun c w=>Q8 P T.a b w fun m w=>Q8 P T.f c w fun n w=>Q0 P F.ci [m,n] w fun d w=>U6 .neq T.b 11 d #[] w fun a w=>Z8 a true w T.a T.i b 0 fun e w=>X8 a true d w fun f w=>X8 a true l w fun g w=>Q1 a true w (Q0 P F.c6 [e,f,g]) fun h w=>pick P a h (.bool false) w fun i w=>K i w
theorem Q2t (h:Sc a0 a1 a2 w K):Q0 P F.bQ [a0,a1,a2] w K:=zr (Y1 3) Tryz.func142 h
def Rv:O7:=fun d w K=>X6 T.b d w fun r w=>X2 .lss T.e 6 r 3 w fun c w=>X8 c false d w fun s w=>X8 c false r w fun e w=>Q1 c false w (X2 .sub T.e 10 e 2) fun f w=>Q1 c false w (G7 P T.b s (some f) none none) fun g w=>Q1 c false w (U6 .neq T.b 12 g #[91,93]) fun h w=>pick P c (.bool true) h w fun a w=>X8 a false d w fun i w=>Q1 a false w (Q0 P F.a3 [i]) fun j w=>Q1 a false w (X2 .gtr T.e 17 j 3) fun k w=>pick P a (.bool true) k w fun b w=>X8 b false d w fun l w=>Q1 b false w (Q0 P F.f [l]) fun m w=>Q1 b false w (V8 P .not m) fun n w=>pick P b (.bool true) n w fun o w=>X0 o (K (.string ⟨#[]⟩) w) (X2 .sub T.e 26 r 2 w fun p w=>G7 P T.b d none (some p) none w fun q w=>K q w)
theorem Q2m (h:Rv a0 w K):Q0 P F.bO [a0] w K:=zr (Y1 6) Tryz.func47 h
def Sg:Yo:=fun j k l w K=>box P T.a j w fun b w=>box P T.o k w fun a w=>X7 T.o T.b a 0 w fun m w=>Q0 P F.bO [m] w fun c w=>U6 .neq T.b 11 c #[] w fun d w=>X0 d (K c w) (X7 T.a T.i b 0 w fun e w=>X7 T.o T.b a 0 w fun f w=>Q0 P F.q [e,f] w fun g w=>indexAddr P T.l g l w fun h w=>X7 T.n T.b h 1 w fun i w=>K i w)
theorem Q2x (h:Sg a0 a1 a2 w K):Q0 P F.bS [a0,a1,a2] w K:=zr (Y1 6) Tryz.func143 h
def Bj:zV4:=fun a0 y z a3 w K=>box P T.a a0 w fun a w=>box P T.f a3 w fun b w=>T4 P T.a w fun k w=>Q8 P T.a a w fun A w=>Q0 P F.aN [A,y,z] w fun m w=>X2 .neq T.w 17 m 0 w fun B w=>X0 B (Q8 P T.a a w fun C w=>U3 P T.a k C w fun _u w=>Z9 P T.a k w fun l=>K (.tuple #[l,m]) w) (dr w fun d c=>Y5 d c (fieldAddr P T.a a 2) fun s=>Y5 d c (Q8 P T.a a) fun Y=>Y5 d c (Q8 P T.f b) fun Z=>Y5 d c (Q8 P T.a a) fun r=>X5 d c s (fun f=>Q8 P T.g f) fun t=>X5 d c t (fun g=>indexAddr P T.g g y) fun u=>X5 d c u (fun h=>Q8 P T.o h) fun v=>M5 d c r v (fun e i=>Q0 P F.bS [e,i,z]) fun aa=> ∀f n o e g h i p w,c w->s f w->Y n w->Z o w->r e w->t g w->u h w->v i w->aa p w->Q0 P F.bQ [n,o,p] w fun D w=>V8 P .not D w fun E w=>X0 E (Q8 P T.a a w fun H w=>U3 P T.a k H w fun _u w=>Z9 P T.a k w fun l=>K (.tuple #[l,(.int .i64 91)]) w) (buildSlice P T.g 0 [] w fun J w=>X7 T.a T.g a 2 w fun L w=>J7 P .append [T.g,T.g] T.g [false,false] [J,L] w fun j w=>buildSlice P T.k 0 [] w fun M w=>indexAddr P T.g j y w fun N w=>X7 T.o T.k N 1 w fun O w=>J7 P .append [T.k,T.k] T.k [false,false] [M,O] w fun q w=>Q8 P T.f b w fun Q w=>indexAddr P T.k q z w fun R w=>U3 P T.f R Q w fun _u w=>indexAddr P T.g j y w fun U w=>fieldAddr P T.o U 1 w fun V w=>U3 P T.k V q w fun _u w=>fieldAddr P T.a a 2 w fun W w=>U3 P T.g W j w fun _u w=>Q8 P T.a a w fun X w=>U3 P T.a k X w fun _u w=>Z9 P T.a k w fun l=>K (.tuple #[l,(.int .i64 0)]) w))
theorem Q3J (h:Bj a0 a1 a2 a3 w K):Q0 P F.ca [a0,a1,a2,a3] w K:=zr (Y1 14) Tryz.func79 h
def Ef:V9:=fun b c w K=>box P T.c b w fun a w=>X7 T.c T.b a 0 w fun d w=>Q8 P T.b c w fun e w=>X1 .eql T.b 5 6 d e w fun f w=>K f w
theorem Q13 (h:Ef a0 a1 w K):Q0 P F.bs [a0,a1] w K:=zr (Y1 2) Tryz.func225 h
def Cy:Yo:=fun e d z w K=>box P T.b z w fun a w=>Q0 P F.ad [e,d] w fun f w=>V8 P .not f w fun b w=>X8 b false e w fun g w=>Q1 b false w (Q8 P T.b a) fun h w=>Q1 b false w (Q0 P F.ad [g,h]) fun i w=>Q1 b false w (V8 P .not i) fun j w=>pick P b (.bool true) j w fun k w=>X0 k (K (.bool false) w) (Q8 P T.b a w fun l w=>X1 .eql T.b 19 20 d l w fun m w=>X0 m (K (.bool true) w) (Q0 P F.aO [d] w fun c w=>Q1 c false w (Q8 P T.b a) fun n w=>Q1 c false w (Q0 P F.aO [n]) fun o w=>pick P c (.bool true) o w fun p w=>X0 p (K (.bool false) w) (U6 .eql T.b 30 d #[110,117,108,108] w fun q w=>X0 q (K (.bool true) w) (Q0 P F.bw [d] w fun r w=>U6 .neq T.b 34 r #[] w fun s w=>X0 s (Q8 P T.b a w fun t w=>U6 .eql T.b 36 t #[79,98,106,101,99,116] w fun u w=>K u w) (H2 P (.func F.bs) [] [a] w fun v w=>Q0 P F.z [e,d,v] w fun y w=>K y w)))))
theorem Q3y (h:Cy a0 a1 a2 w K):Q0 P F.c0 [a0,a1,a2] w K:=zr (Y1 13) Tryz.func196 h
def Ct:Yo:=fun k l m w K=>box P T.f l w fun b w=>Q8 P T.f b w fun n w=>Q0 P F.bo [k,n] w fun c w=>U6 .neq T.b 11 c #[] w fun a w=>X8 a true k w fun d w=>Q1 a true w (nilCheck P d) fun e w=>Z8 a true w T.q T.z e 0 fun f w=>X8 a true c w fun g w=>X8 a true m w fun h w=>Q1 a true w (Q0 P F.c0 [f,g,h]) fun i w=>pick P a i (.bool false) w fun j w=>K j w
theorem Q3t (h:Ct a0 a1 a2 w K):Q0 P F.bY [a0,a1,a2] w K:=zr (Y1 3) Tryz.func145 h
def Cx:Yo:=fun s t u w K=>box P T.o t w fun a w=>X7 T.o T.b a 0 w fun v w=>Q0 P F.bw [v] w fun g w=>U6 .neq T.b 11 g #[] w fun m w=>X0 m (K g w) (dr w fun f e=>Y5 f e (nilCheck P s) fun j=>X5 f e j (fun b=>fieldAddr P T.q b 0) fun k=>Y5 f e (fieldAddr P T.o a 0) fun l=>X5 f e k (fun c=>Q8 P T.z c) fun q=>X5 f e l (fun d=>Q8 P T.b d) fun r=> ∀b c d h i w,e w->j b w->k c w->l d w->q h w->r i w->Q0 P F.a5 [h,i] w fun n w=>indexAddr P T.l n u w fun o w=>X7 T.n T.b o 1 w fun p w=>K p w)
theorem Q3x (h:Cx a0 a1 a2 w K):Q0 P F.bZ [a0,a1,a2] w K:=zr (Y1 6) Tryz.func146 h
def Fg:zV4:=fun n H J W w K=>box P T.f W w fun c w=>Q0 P F.aR [n,H,J] w fun o w=>X2 .neq T.w 14 o 0 w fun L w=>X0 L (K o w) (dr w fun b a=>Y5 b a (nilCheck P n) fun t=>X5 b a t (fun d=>fieldAddr P T.q d 3) fun u=>Y5 b a (Q8 P T.f c) fun Q=>X5 b a u (fun e=>Q8 P T.g e) fun v=>X5 b a v (fun f=>indexAddr P T.g f H) fun y=>X5 b a y (fun g=>Q8 P T.o g) fun z=>X5 b a z (fun h=>Q0 P F.bZ [n,h,J]) fun R=> ∀d e p f g h q w,a w->t d w->u e w->Q p w->v f w->y g w->z h w->R q w->Q0 P F.bY [n,p,q] w fun M w=>V8 P .not M w fun N w=>X0 N (K (.int .i64 91) w) (dr w fun b a=>Y5 b a (nilCheck P n) fun A=>X5 b a A (fun i=>fieldAddr P T.q i 3) fun B=>X5 b a B (fun j=>Q8 P T.g j) fun C=>X5 b a C (fun k=>indexAddr P T.g k H) fun D=>X5 b a D (fun l=>fieldAddr P T.o l 1) fun E=>X5 b a E (fun m=>Q8 P T.k m) fun U=>Y5 b a (Q8 P T.f c) fun V=> ∀i j k l m r s w,a w->A i w->B j w->C k w->D l w->E m w->U r w->V s w->indexAddr P T.k r J w fun O w=>U3 P T.f O s w fun _u w=>K (.int .i64 0) w))
theorem Q4z (h:Fg a0 a1 a2 a3 w K):Q0 P F.b8 [a0,a1,a2,a3] w K:=zr (Y1 10) Tryz.func80 h
def Bi:Yo:=fun m k l w K=>box P T.a m w fun a w=>T4 P T.f w fun c w=>Q8 P T.a a w fun n w=>Q0 P F.aN [n,k,l] w fun b w=>X2 .neq T.w 13 b 0 w fun e w=>X0 e (C4 P T.f [] w fun f w=>U3 P T.f c f w fun _u w=>Z9 P T.f c w fun d=>K (.tuple #[d,b]) w) (X7 T.a T.g a 2 w fun g w=>indexAddr P T.g g k w fun h w=>X7 T.o T.k h 1 w fun i w=>J5 T.k T.f i l w fun j w=>U3 P T.f c j w fun _u w=>Z9 P T.f c w fun d=>K (.tuple #[d,(.int .i64 0)]) w)
theorem Q3I (h:Bi a0 a1 a2 w K):Q0 P F.c9 [a0,a1,a2] w K:=zr (Y1 6) Tryz.func81 h
def Rj:V9:=fun f g w K=>box P T.f f w fun a w=>X7 T.f T.e a 0 w fun h w=>X2 .eql T.e 5 h 4 w fun b w=>Z8 b true w T.f T.e a 3 fun i w=>Q1 b true w (Q8 P T.e g) fun c w=>Q1 b true w (X1 .geq T.e 9 10 i c) fun d w=>pick P b d (.bool false) w fun e w=>K e w
theorem Q2a (h:Rj a0 a1 w K):Q0 P F.bL [a0,a1] w K:=zr (Y1 2) Tryz.func147 h
def Q4v:W6:=[none,none,none,none,some ([22],[5,22,23,24,25,26,27,28,29,30])]++Y1 5++[some ([],[6,31,32,33,34,35,36,37,38,39,40,41,42,43,44,45,46,47,48,49,50,51,52,53,54,55,56,57,58,59,60,61,62,63,64,65,66,67,68,69]),none,none,none,none]
def Fe:V9:=fun d a1 w K=>box P T.e a1 w fun D w=>Q8 P T.e D w fun t7 w=>J7 P .max [T.e,T.e] T.e [false,true] [t7,(.int .i64 0)] w fun t8 w=>U3 P T.e D t8 w fun _u w=>dr w fun b a=>Y5 b a (nilCheck P d) fun N=>X5 b a N (fun f=>fieldAddr P T.q f 3) fun O=>Y5 b a (nilCheck P d) fun R=>X5 b a R (fun i=>fieldAddr P T.q i 3) fun U=>X5 b a O (fun g=>Q8 P T.g g) fun a7=>Y5 b a (Q8 P T.e D) fun Q=>X5 b a U (fun j=>Q8 P T.g j) fun V=>X5 b a V (fun k=>X6 T.g k) fun W=>M5 b a Q W (fun h l=>J7 P .min [T.e,T.e] T.e [false,false] [h,l]) fun a8=> ∀f g i j A h k l B w,a w->N f w->O g w->R i w->U j w->a7 A w->Q h w->V k w->W l w->a8 B w->G7 P T.g A none (some B) none w fun C w=>X6 T.g C w fun aj w=>lp (α:=Value) (.int .i64 0) w fun e x4 d_ w=>X1 .lss T.e 22 21 x4 aj w fun ak w=>X0 ak (J5 T.g T.o C x4 w fun al w=>L6 T.o al w fun t5 w=>X7 T.o T.k t5 1 w fun am w=>H2 P (.func F.bL) [] [D] w fun an w=>Q0 P F.h [am,an] w fun ao w=>X0 ao (K (.tuple #[]) w) (U7 22 x4 w e)) (lp (α:=Unit) () w fun c bi d_ w=>dr w fun b a=>Y5 b a (nilCheck P d) fun X=>X5 b a X (fun m=>fieldAddr P T.q m 3) fun Y=>X5 b a Y (fun n=>Q8 P T.g n) fun Z=>X5 b a Z (fun o=>X6 T.g o) fun a9=>Y5 b a (Q8 P T.e D) fun ba=> ∀m n o E H w,a w->X m w->Y n w->Z o w->a9 E w->ba H w->X1 .gtr T.e 35 36 E H w fun ap w=>X0 ap (nilCheck P d w fun aq w=>X7 T.q T.g aq 3 w fun ar w=>X6 T.g ar w fun av w=>X2 .sub T.e 42 av 1 w fun J w=>dr w fun b a=>Y5 b a (nilCheck P d) fun aa=>X5 b a aa (fun p=>fieldAddr P T.q p 2) fun ab=>Y5 b a (nilCheck P d) fun ac=>X5 b a ac (fun r=>fieldAddr P T.q r 3) fun ad=>X5 b a ab (fun q=>Q8 P T.e q) fun bb=>X5 b a ad (fun s=>Q8 P T.g s) fun ae=>X5 b a ae (fun t=>indexAddr P T.g t J) fun af=>X5 b a af (fun u=>fieldAddr P T.o u 1) fun ag=>X5 b a ag (fun v=>Q8 P T.k v) fun ah=>X5 b a ah (fun y=>X6 T.k y) fun ai=>X5 b a ai (fun z=>Y6 P .add T.e (.const (.int .i64 1)) (.tmp 56) (.int .i64 1) z) fun bc=> ∀p q r s L t u v y z M w,a w->aa p w->ab q w->ac r w->ad s w->bb L w->ae t w->af u w->ag v w->ah y w->ai z w->bc M w->X1 .sub T.e 47 57 L M w fun aw w=>nilCheck P d w fun ax w=>fieldAddr P T.q ax 2 w fun ay w=>U3 P T.e ay aw w fun _u w=>nilCheck P d w fun az w=>X7 T.q T.g az 3 w fun a2 w=>G7 P T.g a2 none (some J) none w fun a3 w=>nilCheck P d w fun a4 w=>fieldAddr P T.q a4 3 w fun a5 w=>U3 P T.g a5 a3 w fun _u w=>c () w) (K (.tuple #[]) w))
theorem Q4x (h:Fe a0 a1 w K):Q0 P F.cg [a0,a1] w K:=zr Q4v Tryz.func83 h
def Q3q:W6:=[none,some ([1],[1,8,9]),none,none,none,some ([5],[5,6,7,10,11,12,13,14,15,16,17,18,19,20,21,22,23,24,25,26,27,28,29,30,31,32,33,34,35,36,37,38,39,40,41,42,43,44,45,46,47,48,49,50,51]),none,none,none,none,some ([6],[6,7,22,23,24,25,26,27,28,29,30,31,32,33,34,35,36,37,38,39,40,41,42,43,44,45,46,47,48,49,50,51])]++Y1 6++[some ([],[52,53,54,55,56,57,58,59,60,61,62,63]),none,none]
def Bg:V9:=fun a0 Z w K=>box P T.a a0 w fun e w=>T4 P T.a w fun i w=>jn (α:=Value) w (fun Y w=>X2 .lss T.e 8 Z 0 w fun t9 w=>X0 t9 (Y (.int .i64 0) w) (Y Z w)) fun j k w=>lp (α:=Value) (.int .i64 0) w fun c h k w=>X1 .lss T.e 10 11 h j w fun b w=>X8 b true h w fun m w=>Z8 b true w T.a T.g e 2 fun n w=>Q1 b true w (X6 T.g n) fun o w=>Q1 b true w (X1 .lss T.e 14 17 m o) fun p w=>pick P b p (.bool false) w fun q w=>X0 q (lp (α:=Value) (.int .i64 0) w fun a f k w=>X7 T.a T.g e 2 w fun r w=>indexAddr P T.g r h w fun s w=>X7 T.o T.k s 1 w fun t w=>X6 T.k t w fun u w=>X1 .lss T.e 22 29 f u w fun v w=>X0 v (X7 T.a T.g e 2 w fun y w=>indexAddr P T.g y h w fun z w=>X7 T.o T.k z 1 w fun A w=>J5 T.k T.f A f w fun B w=>L6 T.f B w fun t7 w=>X7 T.f T.e t7 0 w fun C w=>X2 .eql T.e 43 C 4 w fun d w=>Z8 d true w T.f T.e t7 3 fun D w=>X8 d true j w fun E w=>Q1 d true w (X1 .geq T.e 47 48 D E) fun H w=>pick P d H (.bool false) w fun J w=>X0 J (Q8 P T.a e w fun L w=>U3 P T.a i L w fun _u w=>Z9 P T.a i w fun l=>K l w) (U7 31 f w a)) (U7 20 h w c)) (jn (α:=Unit) w (fun g w=>X7 T.a T.g e 2 w fun M w=>X6 T.g M w fun N w=>X1 .lss T.e 52 55 j N w fun O w=>X0 O (buildSlice P T.g 0 [] w fun Q w=>X7 T.a T.g e 2 w fun R w=>G7 P T.g R none (some j) none w fun U w=>J7 P .append [T.g,T.g] T.g [false,false] [Q,U] w fun V w=>fieldAddr P T.a e 2 w fun W w=>U3 P T.g W V w fun _u w=>g () w) (g () w)) fun ad k w=>Q8 P T.a e w fun X w=>U3 P T.a i X w fun _u w=>Z9 P T.a i w fun l=>K l w)
theorem Q3G (h:Bg a0 a1 w K):Q0 P F.c7 [a0,a1] w K:=zr Q3q Tryz.func84 h
def Fj:Yo:=fun a0 a1 a2 w K=>box P T.a a1 w fun t4 w=>box P T.m a2 w fun m w=>T4 P T.a w fun A w=>X7 T.m T.e m 0 w fun ab w=>X2 .eql T.e 23 ab 0 w fun du w=>X0 du (Q8 P T.a t4 w fun dv w=>X7 T.m T.b m 1 w fun dw w=>Q0 P F.bn [dv,dw] w fun dx w=>M9 dx w fun dy a8 w=>L6 T.a dy w fun t8 w=>X7 T.m T.b m 1 w fun dz w=>Q0 P F.aF [a0,dz] w fun d0 w=>M9 d0 w fun cs d1 w=>dr w fun b a=>Y5 b a (X1 .eql T.w 41 42 a8 d1) fun o=>X5 b a o (fun c=>V6 c (fun w J=>J a8 w)) fun cz=>M5 b a o cz (fun c a9=>V6 c (X2 .neq T.w 45 a9 0)) fun c0=>M5 b a o c0 (fun c ba=>V6 c (fun w J=>J ba w)) fun ae=>X5 b a ae (fun q=>V6 q (fun w J=>J cs w)) fun c1=>M5 b a ae c1 (fun q bb=>V6 q (X2 .eql T.e 48 bb 0)) fun c2=>Ya b a o ae c2 (fun c q bc=>V6 c (pick P q bc (.bool false))) fun c3=>M5 b a o c3 (fun c bd=>V6 c (fun w J=>J bd w)) fun y=>X5 b a y (fun h=>Yb h (fun w J=>J a8 w)) fun c4=>M5 b a y c4 (fun h be=>Yb h (X2 .eql T.w 52 be 0)) fun c5=>M5 b a y c5 (fun h bf=>Yb h (fun w J=>J bf w)) fun s=>X5 b a s (fun f=>V6 f (fun w J=>J cs w)) fun c6=>X5 b a s (fun f=>V6 f (fieldAddr P T.a t4 2)) fun c7=>Y5 b a (Q8 P T.a t8) fun cy=>M5 b a s c7 (fun f bh=>V6 f (Q8 P T.g bh)) fun c8=>M5 b a s c8 (fun f bi=>V6 f (X6 T.g bi)) fun c9=>Ya b a s c6 c9 (fun f bg bj=>V6 f (X1 .eql T.e 55 58 bg bj)) fun da=>Ya b a y s da (fun h f bk=>Yb h (pick P f bk (.bool false))) fun db=>Ya b a o y db (fun c h bl=>V6 c (pick P h (.bool true) bl)) fun dc=>M5 b a o dc (fun c bm=>pick P c bm (.bool false)) fun ed=>Gr b (fun j=> ∀u w,a w->cy u w->U3 P T.a A u w (dk b (j [u]) w)) fun j=> ∀c a9 ba q bb bc bd h be bf f bg bh u bi bj bk bl bm ct bz w,a w->o c w->cz a9 w->c0 ba w->ae q w->c1 bb w->c2 bc w->c3 bd w->y h w->c4 be w->c5 bf w->s f w->c6 bg w->c7 bh w->cy u w->c8 bi w->c9 bj w->da bk w->db bl w->dc bm w->ed ct w->j [u] bz w->Z9 P T.a A w fun B=>K (.tuple #[B,ct]) w) (X2 .eql T.e 23 ab 1 w fun d2 w=>X0 d2 (Q8 P T.a t4 w fun d3 w=>X7 T.m T.b m 1 w fun d4 w=>X7 T.m T.a2 m 2 w fun d5 w=>Q0 P F.bH [d3,d4,d5] w fun d6 w=>M9 d6 w fun d7 bn w=>L6 T.a d7 w fun dp w=>X7 T.m T.b m 1 w fun d8 w=>X7 T.m T.a2 m 2 w fun d9 w=>Q0 P F.bK [a0,d8,d9] w fun ea w=>M9 ea w fun cu eb w=>dr w fun b a=>Y5 b a (X1 .eql T.w 84 85 bn eb) fun p=>X5 b a p (fun d=>V6 d (fun w J=>J bn w)) fun de=>M5 b a p de (fun d bo=>V6 d (X2 .neq T.w 88 bo 0)) fun df=>M5 b a p df (fun d bp=>V6 d (fun w J=>J bp w)) fun af=>X5 b a af (fun r=>V6 r (fun w J=>J cu w)) fun dg=>M5 b a af dg (fun r bq=>V6 r (X2 .eql T.e 91 bq 0)) fun dh=>Ya b a p af dh (fun d r br=>V6 d (pick P r br (.bool false))) fun di=>M5 b a p di (fun d bs=>V6 d (fun w J=>J bs w)) fun z=>X5 b a z (fun i=>Yb i (fun w J=>J bn w)) fun dj=>M5 b a z dj (fun i bu=>Yb i (X2 .eql T.w 95 bu 0)) fun dl=>M5 b a z dl (fun i bv=>Yb i (fun w J=>J bv w)) fun t=>X5 b a t (fun g=>V6 g (fun w J=>J cu w)) fun dm=>X5 b a t (fun g=>V6 g (fieldAddr P T.a t4 2)) fun dn=>Y5 b a (Q8 P T.a dp) fun dd=>M5 b a t dn (fun g bx=>V6 g (Q8 P T.g bx)) fun aj=>M5 b a t aj (fun g C=>V6 g (X6 T.g C)) fun ak=>Ya b a t dm ak (fun g bw D=>V6 g (X1 .eql T.e 98 101 bw D)) fun al=>Ya b a z t al (fun i g E=>Yb i (pick P g E (.bool false))) fun am=>Ya b a p z am (fun d i H=>V6 d (pick P i (.bool true) H)) fun an=>M5 b a p an (fun d L=>pick P d L (.bool false)) fun cv=>Gr b (fun j=> ∀v w,a w->dd v w->U3 P T.a A v w (dk b (j [v]) w)) fun j=> ∀d bo bp r bq br bs i bu bv g bw bx v C D E H L ag bz w,a w->p d w->de bo w->df bp w->af r w->dg bq w->dh br w->di bs w->z i w->dj bu w->dl bv w->t g w->dm bw w->dn bx w->dd v w->aj C w->ak D w->al E w->am H w->an L w->cv ag w->j [v] bz w->Z9 P T.a A w fun B=>K (.tuple #[B,ag]) w) (X2 .eql T.e 23 ab 2 w fun b2 w=>X0 b2 (Q8 P T.a t4 w fun b3 w=>X7 T.m T.e m 3 w fun b4 w=>X7 T.m T.a2 m 2 w fun b5 w=>X7 T.m T.f m 4 w fun b6 w=>Q0 P F.ca [b3,b4,b5,b6] w fun b7 w=>M9 b7 w fun b8 b9 w=>L6 T.a b8 w fun dq w=>dr w fun b a=>Y5 b a (fieldAddr P T.m m 3) fun ap=>Y5 b a (fieldAddr P T.m m 2) fun ar=>Y5 b a (fieldAddr P T.m m 4) fun aw=>Y5 b a (Q8 P T.a dq) fun ao=>X5 b a ap (fun M=>Q8 P T.e M) fun aq=>X5 b a ar (fun O=>Q8 P T.a2 O) fun av=>X5 b a aw (fun R=>Q8 P T.f R) fun ax=>Ya b a aq av ax (fun N Q U=>Q0 P F.b8 [a0,N,Q,U]) fun ay=>X5 b a ay (fun V=>X1 .eql T.w 127 128 V b9) fun cw=>Gr b (fun ac=> ∀k w,a w->ao k w->U3 P T.a A k w (dk b (ac [k]) w)) fun ac=> ∀M O R k N Q U V ah ec w,a w->ap M w->ar O w->aw R w->ao k w->aq N w->av Q w->ax U w->ay V w->cw ah w->ac [k] ec w->Z9 P T.a A w fun B=>K (.tuple #[B,ah]) w) (X2 .eql T.e 23 ab 3 w fun ca w=>X0 ca (Q8 P T.a t4 w fun cb w=>X7 T.m T.e m 3 w fun cc w=>X7 T.m T.a2 m 2 w fun cd w=>Q0 P F.c9 [cb,cc,cd] w fun ce w=>M9 ce w fun cf cg w=>L6 T.f cf w fun ds w=>X7 T.m T.e m 3 w fun ch w=>X7 T.m T.a2 m 2 w fun ci w=>Q0 P F.ai [a0,ch,ci] w fun cj w=>M9 cj w fun ck cl w=>L6 T.f ck w fun dt w=>dr w fun b a=>Y5 b a (Q8 P T.a t4) fun az=>Y5 b a (Q8 P T.f ds) fun a3=>Y5 b a (Q8 P T.f dt) fun a4=>M5 b a a3 a4 (fun W X=>X1 .eql T.f 151 152 W X) fun n=>X5 b a n (fun e=>V6 e (fun w J=>J cg w)) fun a5=>X5 b a n (fun e=>V6 e (fun w J=>J cl w)) fun a6=>Ya b a n a5 a6 (fun e Y Z=>V6 e (X1 .eql T.w 155 156 Y Z)) fun a7=>M5 b a n a7 (fun e aa=>pick P e aa (.bool false)) fun cx=>Gr b (fun b0=> ∀l w,a w->az l w->U3 P T.a A l w (dk b (b0 [l]) w)) fun b0=> ∀l W X e Y Z aa ai u9 w,a w->az l w->a3 W w->a4 X w->n e w->a5 Y w->a6 Z w->a7 aa w->cx ai w->b0 [l] u9 w->Z9 P T.a A w fun B=>K (.tuple #[B,ai]) w) (X2 .eql T.e 23 ab 4 w fun cm w=>X0 cm (X7 T.m T.e m 3 w fun cn w=>Q0 P F.cg [a0,cn] w fun ee w=>Q8 P T.a t4 w fun co w=>X7 T.m T.e m 3 w fun cp w=>Q0 P F.c7 [co,cp] w fun cq w=>U3 P T.a A cq w fun _u w=>Z9 P T.a A w fun B=>K (.tuple #[B,(.bool true)]) w) (Q8 P T.a t4 w fun cr w=>U3 P T.a A cr w fun _u w=>Z9 P T.a A w fun B=>K (.tuple #[B,(.bool true)]) w)))))
theorem Q4C (h:Fj a0 a1 a2 w K):Q0 P F.be [a0,a1,a2] w K:=zr (Y1 22) Tryz.func36 h
def Q0G:W6:=[none,none,none,none,some ([6],[6,11,12,13,14,15,16,17,18,19,20,21,22,23,24,25,26,27,28,29,30,31,32,33,34,35,36,37,38,39]),none,none,some ([],[25,26,27,28,29,30,31,32,33,34,35,36,37,38,39]),none,none]
def Eo:O7:=fun g w K=>T4 P T.a w fun C w=>Q0 P F.aJ [(.int .u16 300)] w fun L w=>M9 L w fun y h w=>L6 T.a h w fun a w=>lp (α:=Value) (.int .i64 0) w fun c f E w=>Y6 P .neq T.a4 (.tmp 11) (.const (.pointer none)) y (.pointer none) w fun b w=>X8 b true f w fun i w=>X8 b true g w fun j w=>Q1 b true w (X6 T.a6 j) fun k w=>Q1 b true w (X1 .lss T.e 14 16 i k) fun l w=>pick P b l (.bool false) w fun d w=>X8 d true f w fun m w=>Q1 d true w (X2 .lss T.e 20 m 40) fun n w=>pick P d n (.bool false) w fun o w=>X0 o (jn (α:=Unit) w (fun B w=>J5 T.a6 T.m g f w fun p w=>Q0 P F.c8 [p] w fun q w=>X0 q (sq w fun w=>indexAddr P T.a6 g f w fun s w=>Q8 P T.a a w fun r w=>Q8 P T.m s w fun t w=>Q0 P F.be [y,r,t] w fun u w=>M9 u w fun v J w=>U3 P T.a a v w fun _u w=>B () w) (B () w)) fun M E w=>U7 23 f w c) (dr w fun D A=>Y5 D A (Q8 P T.a a) fun z=> ∀e w,A w->z e w->U3 P T.a C e w fun _u w=>Z9 P T.a C w fun H=>K (.tuple #[y,H]) w)
theorem Q1c (h:Eo a0 w K):Q0 P F.aK [a0] w K:=zr Q0G Tryz.func16 h
def Q0H:W6:=Y1 6++[some ([3],[2,3,7,8,9,10,11,12,13,14,15,16,17,18,19])]++Y1 6
def Er:O7:=fun b w K=>X6 T.k b w fun i w=>X2 .gtr T.e 5 i 80 w fun j w=>X0 j (K (.bool false) w) (lp (α:=Value) (.int .i64 0) w fun a h l w=>X6 T.k b w fun k w=>X1 .lss T.e 7 9 h k w fun c w=>X0 c (indexAddr P T.k b h w fun d w=>X7 T.f T.b d 2 w fun e w=>X6 T.b e w fun f w=>X2 .gtr T.e 18 f 5000 w fun g w=>X0 g (K (.bool false) w) (U7 11 h w a)) (K (.bool true) w))
theorem Q1e (h:Er a0 w K):Q0 P F.bx [a0] w K:=zr Q0H Tryz.func17 h
def Q25:W6:=Y1 6++[some ([5],[4,5,6,12,13,14,15,16,17,18,19,20,21,22,23,24,25,26,27,28,29,30,31,32,33,34,35,36,37,38,39,40,41,42,43,44,45,46,47,48,49,50,51,52,53,54,55,56,57,58,59,60,61,62,63,64,65,66,67,68,69,70])]++Y1 7++[some ([6],[4,6,44,45,46,47,48,49,50,51,52,53,54,55,56,57,58,59,60,61,62,63,64,65,66,67,68,69,70])]++Y1 6
def Se:V9:=fun N a1 w K=>X6 T.g N w fun t8 w=>X6 T.g a1 w fun ax w=>X1 .neq T.e 8 10 t8 ax w fun ay w=>X0 ay (K (.bool false) w) (lp (α:=Value) (.int .i64 0) w fun f h d_ w=>X6 T.g N w fun az w=>X1 .lss T.e 12 14 h az w fun a2 w=>X0 a2 (dr w fun c b=>Y5 c b (indexAddr P T.g N h) fun V=>X5 c b V (fun i=>fieldAddr P T.o i 0) fun W=>Y5 c b (indexAddr P T.g a1 h) fun Y=>X5 c b Y (fun l=>fieldAddr P T.o l 0) fun Z=>X5 c b W (fun j=>Q8 P T.b j) fun X=>X5 c b Z (fun m=>Q8 P T.b m) fun aa=>M5 c b X aa (fun k n=>X1 .neq T.b 22 27 k n) fun d=>X5 c b d (fun a=>Yb a (fun w J=>J N w)) fun ab=>X5 c b d (fun a=>Yb a (fun w J=>J h w)) fun ac=>Ya c b d ab ac (fun a o p=>Yb a (indexAddr P T.g o p)) fun ad=>M5 c b d ad (fun a q=>Yb a (fieldAddr P T.o q 1)) fun ae=>X5 c b d (fun a=>Yb a (fun w J=>J a1 w)) fun ag=>X5 c b d (fun a=>Yb a (fun w J=>J h w)) fun ah=>Ya c b d ag ah (fun a t u=>Yb a (indexAddr P T.g t u)) fun ai=>M5 c b d ai (fun a v=>Yb a (fieldAddr P T.o v 1)) fun aj=>M5 c b d ae (fun a r=>Yb a (Q8 P T.k r)) fun af=>M5 c b d af (fun a s=>Yb a (X6 T.k s)) fun ba=>M5 c b d aj (fun a y=>Yb a (Q8 P T.k y)) fun ak=>M5 c b d ak (fun a z=>Yb a (X6 T.k z)) fun bb=> ∀i j l m k n a o p q r t u v y s O z Q w,b w->V i w->W j w->Y l w->Z m w->X k w->aa n w->d a w->ab o w->ac p w->ad q w->ae r w->ag t w->ah u w->ai v w->aj y w->af s w->ba O w->ak z w->bb Q w->Q1 a false w (X1 .neq T.e 35 41 O Q) fun a3 w=>pick P a (.bool true) a3 w fun a4 w=>X0 a4 (K (.bool false) w) (lp (α:=Value) (.int .i64 0) w fun e g d_ w=>indexAddr P T.g N h w fun a5 w=>X7 T.o T.k a5 1 w fun a6 w=>X6 T.k a6 w fun a7 w=>X1 .lss T.e 44 50 g a7 w fun a8 w=>X0 a8 (dr w fun c b=>Y5 c b (indexAddr P T.g N h) fun al=>X5 c b al (fun A=>fieldAddr P T.o A 1) fun am=>Y5 c b (indexAddr P T.g a1 h) fun ap=>X5 c b ap (fun E=>fieldAddr P T.o E 1) fun aq=>X5 c b am (fun B=>Q8 P T.k B) fun an=>X5 c b an (fun C=>indexAddr P T.k C g) fun ao=>X5 c b ao (fun D=>Q8 P T.f D) fun bc=>X5 c b aq (fun H=>Q8 P T.k H) fun ar=>X5 c b ar (fun L=>indexAddr P T.k L g) fun av=>X5 c b av (fun M=>Q8 P T.f M) fun bd=> ∀A B E H C D R L M U w,b w->al A w->am B w->ap E w->aq H w->an C w->ao D w->bc R w->ar L w->av M w->bd U w->X1 .neq T.f 61 69 R U w fun a9 w=>X0 a9 (K (.bool false) w) (U7 52 g w e)) (U7 16 h w f))) (K (.bool true) w))
theorem Q2v (h:Se a0 a1 w K):Q0 P F.bR [a0,a1] w K:=zr Q25 Tryz.func23 h
def Q1S:W6:=[none,none,none,none,some ([3,12],[3,5,6,12,13,14,15,16,17,18,19,20,21,22,23,24,25,26,27,28,29,30,31])]++Y1 7
def Ri:O7:=fun q w K=>nilCheck P q w fun s w=>X7 T.q T.g s 3 w fun c w=>X6 T.g c w fun g w=>lp (α:=Value×Value) ((.slice none 0 0),(.int .i64 0)) w fun b f t w=>X1 .lss T.e 12 11 f.2 g w fun h w=>X0 h (J5 T.g T.o c f.2 w fun i w=>L6 T.o i w fun a w=>X7 T.o T.k a 1 w fun j w=>X6 T.k j w fun d w=>Dn P T.k d d w fun e w=>X7 T.o T.k a 1 w fun k w=>J7 P .copy [T.k,T.k] T.e [false,false] [e,k] w fun r w=>X7 T.o T.b a 0 w fun l w=>C4 P T.o [(0,l),(1,e)] w fun m w=>buildSlice P T.g 1 [(0,m)] w fun n w=>J7 P .append [T.g,T.g] T.g [false,false] [f.1,n] w fun o w=>X2 .add T.e 12 f.2 1 w fun p w=>b (o,p) w) (K f.1 w)
theorem Q29 (h:Ri a0 w K):Q0 P F.aP [a0] w K:=zr Q1S Tryz.func24 h
def Ih:W6:=Y1 9++[some ([11],[11,49,50,51,52,53,54,55,56,57])]++Y1 5
def Lf:V9:=fun a0 U w K=>Q0 P F.aK [a0] w fun V w=>M9 V w fun g W w=>L6 T.a W w fun t6 w=>Q0 P F.al [] w fun X w=>V8 P .not X w fun l w=>X8 l false g w fun Y w=>Q1 l false w (Y6 P .eql T.a4 (.tmp 22) (.const (.pointer none)) Y (.pointer none)) fun Z w=>pick P l (.bool true) Z w fun k w=>X8 k false U w fun aa w=>Q1 k false w (Q0 P F.bx [aa]) fun ab w=>Q1 k false w (V8 P .not ab) fun ac w=>pick P k (.bool true) ac w fun ad w=>X0 ad (Q0 P F.al [] w fun ae w=>K ae w) (buildSlice P T.k 0 [] w fun af w=>J7 P .append [T.k,T.k] T.k [false,false] [af,U] w fun ag w=>Q0 P F.v [] w fun ah w=>Q0 P F.b7 [g,ag,ah] w fun ai w=>M9 ai w fun y aj w=>buildSlice P T.k 0 [] w fun ak w=>J7 P .append [T.k,T.k] T.k [false,false] [ak,U] w fun al w=>Q0 P F.v [] w fun am w=>Q0 P F.b7 [g,al,am] w fun an w=>M9 an w fun ao z w=>lp (α:=Value) (.int .i64 0) w fun j x9 d_ w=>X6 T.s y w fun ap w=>X1 .lss T.e 49 51 x9 ap w fun aq w=>X0 aq (indexAddr P T.s y x9 w fun ar w=>U3 P T.a1 ar (.int .u8 255) w fun _u w=>U7 53 x9 w j) (buildSlice P T.k 0 [] w fun av w=>J7 P .append [T.k,T.k] T.k [false,false] [av,U] w fun aw w=>Q0 P F.v [] w fun ax w=>Q0 P F.b7 [g,aw,ax] w fun ay w=>M9 ay w fun az a2 w=>dr w fun e d=>Y5 e d (X1 .eql T.w 67 68 aj z) fun h=>X5 e d h (fun c=>V6 c (fun w J=>J z w)) fun C=>X5 e d h (fun c=>V6 c (fun w J=>J a2 w)) fun D=>Ya e d h C D (fun c m n=>V6 c (X1 .eql T.w 71 72 m n)) fun E=>M5 e d h E (fun c o=>pick P c o (.bool false)) fun f=>X5 e d f (fun a=>V6 a (fun w J=>J ao w)) fun H=>X5 e d f (fun a=>V6 a (fun w J=>J az w)) fun M=>M5 e d f H (fun a p=>V6 a (conv P T.s T.b p)) fun L=>M5 e d f M (fun a r=>V6 a (conv P T.s T.b r)) fun N=>Ya e d f L N (fun a q s=>V6 a (X1 .eql T.b 77 79 q s)) fun O=>M5 e d f O (fun a t=>pick P a t (.bool false)) fun i=>X5 e d i (fun b=>V6 b (fun w J=>J g w)) fun Q=>X5 e d i (fun b=>V6 b (fieldAddr P T.a t6 2)) fun R=>M5 e d i Q (fun b u=>V6 b (Q0 P F.aP [u])) fun a6=>M5 e d i R (fun b v=>V6 b (Q8 P T.g v)) fun a7=> ∀c m n o a p r q s t b u v A B w,d w->h c w->C m w->D n w->E o w->f a w->H p w->M r w->L q w->N s w->O t w->i b w->Q u w->R v w->a6 A w->a7 B w->Q1 b true w (Q0 P F.bR [A,B]) fun a3 w=>pick P b a3 (.bool false) w fun a4 w=>K a4 w))
theorem Iz (h:Lf a0 a1 w K):Q0 P F.cp [a0,a1] w K:=zr Ih Tryz.func7 h
end Go.Proofs.Y
namespace Go.Emb
open Go.RowKit (Below)
variable {P : Program} {w w' : World} {K : Value -> World -> Prop}
theorem Y4 {s:Sem Value} {v:Value} (h:s.run P w= .ok v w'):op P (sv s) w K=K v w':=by
 rw[Xu];unfold Xm sv;simp[h]
theorem Vn {s:Sem Unit} (h:s.run P w= .ok () w'):op P (su s) w K=K undef w':=by
 rw[Xu];unfold Xm su;simp[h]
abbrev S (l:List UInt8):Value:= .string ⟨l.toArray⟩
abbrev I (n:Int):Value:= .int .i64 n
theorem Bm {b:Bool} {x y:Value}:pick P (.bool b) x y w K=K (if b then x else y) w:=by
 unfold pick;rw[Xu];unfold Xm;cases b<;>simp[asBool]
theorem B5 {x y:Value}:pick P (.bool true) x y w K=K x w:=by rw[Bm];rfl
theorem R9 {x y:Value}:pick P (.bool false) x y w K=K y w:=by rw[Bm];rfl
theorem X5J {a b:Bool} {u:Value}:pick P (.bool a) (if a=true then .bool b else u) (.bool false) w K=K (.bool (a&&b)) w:=by
 rw[Bm];cases a<;>rfl
theorem X7s {a b:Bool} {u:Value}:pick P (.bool a) (.bool true) (if a=false then .bool b else u) w K=K (.bool (a||b)) w:=by
 rw[Bm];cases a<;>rfl
theorem D6 {c:World->(Value->World->Prop)->Prop}:Q1 (.bool true) true w c K=c w K:=by rw[Bk];simp[Hl]
theorem H4 {c:World->(Value->World->Prop)->Prop}:Q1 (.bool false) false w c K=c w K:=by rw[Bk];simp[Hl]
theorem Qa {c:World->(Value->World->Prop)->Prop}:Q1 (.bool true) false w c K=K undef w:=by rw[Bk];simp[Hl]
theorem F8 {c:World->(Value->World->Prop)->Prop}:Q1 (.bool false) true w c K=K undef w:=by rw[Bk];simp[Hl]
theorem F5 {b:Bool} {c:World->(Value->World->Prop)->Prop}:Q1 undef b w c K=K undef w:=by rw[Bk];rfl
theorem X5p {a b:Bool} {v:Value}:Q1 (.bool a) b w (fun w J=>J v w) K=K (if a=b then v else undef) w:=by
 rw[Bk];unfold Hl;by_cases h:a=b<;>simp[h]
theorem Q94 {b:Bool} {t e:Prop}:X0 (.bool b) t e=if b=true then t else e:=by rw[Q95];cases b<;>rfl
theorem G6 {t e:Prop}:X0 (.bool true) t e=t:=by rw[Q94];simp
theorem B4 {t e:Prop}:X0 (.bool false) t e=e:=by rw[Q94];simp
variable {k : IntKind} {t : TypeId} {ox oy : Operand} {a b : Int}
theorem To:Y6 P .add t ox oy (.int k a) (.int k b) w K=K (.int k (k.wrap (a+b))) w:=Y4 (by simp[eqGuard,Go.binOp,Op.intArith])
theorem Q6M:Y6 P .sub t ox oy (.int k a) (.int k b) w K=K (.int k (k.wrap (a-b))) w:=Y4 (by simp[eqGuard,Go.binOp,Op.intArith])
theorem X1i:Y6 P .mul t ox oy (.int k a) (.int k b) w K=K (.int k (k.wrap (a*b))) w:=Y4 (by simp[eqGuard,Go.binOp,Op.intArith])
theorem Q6K:Y6 P .lss t ox oy (.int k a) (.int k b) w K=K (.bool (decide (a<b))) w:=Y4 (by simp[eqGuard,Go.binOp,Op.intCmp])
theorem Q6J:Y6 P .leq t ox oy (.int k a) (.int k b) w K=K (.bool (decide (a<=b))) w:=Y4 (by simp[eqGuard,Go.binOp,Op.intCmp])
theorem Gg:Y6 P .gtr t ox oy (.int k a) (.int k b) w K=K (.bool (decide (b<a))) w:=Y4 (by simp[eqGuard,Go.binOp,Op.intCmp])
theorem Q3Z:Y6 P .geq t ox oy (.int k a) (.int k b) w K=K (.bool (decide (b<=a))) w:=Y4 (by simp[eqGuard,Go.binOp,Op.intCmp])
theorem Q3Y:Y6 P .eql t ox oy (.int k a) (.int k b) w K=K (.bool (decide (a=b))) w:=Y4 (by
 simp[eqGuard,Go.binOp,Op.intCmp];rfl)
theorem Q6L:Y6 P .neq t ox oy (.int k a) (.int k b) w K=K (.bool (!decide (a=b))) w:=Y4 (by
 simp[eqGuard,Go.binOp,Op.intCmp];rfl)
theorem Q7j {b:Bool}:V8 P .not (.bool b) w K=K (.bool (!b)) w:=Y4 (by simp[Op.unary])
variable {a b : Bool}
theorem Q5u (d:Nat) (h:P.underlying t=some .bool):(Op.equalIn (d+1) t (.bool a) (.bool b)).run P w= .ok (a==b) w:=by
 simp[Op.equalIn,run_underlying h]
theorem Q03 (h:P.underlying t=some .bool):(Op.equal t (.bool a) (.bool b)).run P w= .ok (a==b) w:=Q5u 9999 h
theorem Q8N (h:P.underlying t=some .bool):Y6 P .eql t ox oy (.bool a) (.bool b) w K=K (.bool (a==b)) w:=Y4 (by
 simp[eqGuard,Go.binOp,Q03 h])
theorem Q8O (h:P.underlying t=some .bool):Y6 P .neq t ox oy (.bool a) (.bool b) w K=K (.bool (!(a==b))) w:=Y4 (by
 simp[eqGuard,Go.binOp,Q03 h])
theorem Wu {vs:List Value} {i:Nat} {v:Value} (h:vs[i]? =some v):ext P (.tuple vs.toArray) i w K=K v w:=Y4 (by
 simp[Instr.extract,h])
theorem X8m {a b:Value}:ext P (.tuple #[a,b]) 0 w K=K a w:=Wu (vs:=[a,b]) rfl
theorem X8n {a b:Value}:ext P (.tuple #[a,b]) 1 w K=K b w:=Wu (vs:=[a,b]) rfl
theorem X6e {a b c:Value}:ext P (.tuple #[a,b,c]) 0 w K=K a w:=Wu (vs:=[a,b,c]) rfl
theorem X6g {a b c:Value}:ext P (.tuple #[a,b,c]) 1 w K=K b w:=Wu (vs:=[a,b,c]) rfl
theorem X6h {a b c:Value}:ext P (.tuple #[a,b,c]) 2 w K=K c w:=Wu (vs:=[a,b,c]) rfl
theorem Qh {n:Int} (c: -9223372036854775808<=n) (d:n<=9223372036854775807):IntKind.i64.wrap n=n:=by
 have e:n % 18446744073709551616=n\/n % 18446744073709551616=n+18446744073709551616:=by omega
 show (if (true&&decide (n % 18446744073709551616>=9223372036854775808))=true then n % 18446744073709551616-18446744073709551616 else n % 18446744073709551616)=n
 simp only[Bool.true_and,decide_eq_true_eq]
 split<;>omega
theorem w32 {n:Int} (c: -2147483648<=n) (d:n<=2147483647):IntKind.i32.wrap n=n:=by
 show (if (true&&decide (n % 4294967296>=2147483648))=true then n % 4294967296-4294967296 else n % 4294967296)=n
 simp only[Bool.true_and,decide_eq_true_eq]
 split<;>omega
variable {a b : List UInt8}
theorem Q6I (a b:List UInt8):(a==b)=decide (a=b):=by rw[Bool.eq_iff_iff];simp
theorem Pt:Y6 P .eql t ox oy (S a) (S b) w K=K (.bool (decide (a=b))) w:=Y4 (by
 simp[eqGuard,Go.binOp,Op.stringOp,Q6I])
theorem Pu:Y6 P .neq t ox oy (S a) (S b) w K=K (.bool (!decide (a=b))) w:=Y4 (by
 simp[eqGuard,Go.binOp,Op.stringOp,Q6I])
theorem Qw (l:List UInt8):(ByteArray.mk l.toArray).size=l.length:=by simp[ByteArray.size]
theorem X3o (a b:List UInt8):ByteArray.mk a.toArray++ByteArray.mk b.toArray=ByteArray.mk (a++b).toArray:=by
 apply ByteArray.ext;simp
theorem X9h:IntKind.i64.max=9223372036854775807:=by decide
theorem Q4J (h:a.length+b.length<=9223372036854775807):Y6 P .add t ox oy (S a) (S b) w K=K (S (a++b)) w:=Y4 (by
 have c: ¬(((a.length+b.length:Nat):Int)>IntKind.i64.max):=by rw[X9h];omega
 simp only[eqGuard,Go.binOp,Op.stringOp,Qw,X3o];simp only[if_neg c]
 simp)
theorem G5 {cs:List Bool} {r:TypeId} (c:P.underlying t=some .string):J7 P .len [t] r cs [S a] w K=K (I a.length) w:=by
 have h:(Builtin.len_ #[t] r #[S a]).run P w= .ok (I a.length) w:=by
  simp[Builtin.len_,run_underlying c,Qw,goInt]
 exact Y4 h
theorem Jn {i:Int} (d:P.underlying t=some .string) (c:0<=i) (h:i.toNat<a.length):K2 P t (S a) (I i) w K=K (.int .u8 (a[i.toNat]'h).toNat) w:=Y4 (by
 simp only[Instr.index,asIntOf,Sem.run_bind,Sem.run_pure,Result.andThen_ok,run_underlying d,c,if_true]
 have:(ByteArray.mk a.toArray)[i.toNat]? =some (a[i.toNat]'h):=by
  rw[getElem?_pos _ _ (by rw[Qw];exact h)]
  rfl
 rw[this];simp)
theorem Q6a (l:List UInt8) (i j:Nat):(ByteArray.mk l.toArray).extract i j=ByteArray.mk ((l.take j).drop i).toArray:=by
 apply ByteArray.ext;apply Array.ext'
 simp[List.drop_take]
theorem Mf {i:Int} (d:P.underlying t=some .string) (c:0<=i) (h:i<=a.length):G7 P t (S a) (some (I i)) none none w K=K (S (a.drop i.toNat)) w:=Y4 (by
 simp[Instr.sliceAt,Instr.slice,Instr.sliceBounds,Instr.sliceBound,asIntOf,run_underlying d,c,h,Qw,Q6a])
theorem Xv {i:Int} (d:P.underlying t=some .string) (c:0<=i) (h:i<=a.length):G7 P t (S a) none (some (I i)) none w K=K (S (a.take i.toNat)) w:=Y4 (by
 simp[Instr.sliceAt,Instr.slice,Instr.sliceBounds,Instr.sliceBound,asIntOf,run_underlying d,c,h,Qw,Q6a])
theorem Wp {s d:TypeId} {k j:IntKind} {n:Int} {ds:TypeDesc} (e:P.underlying s=some ds) (c:P.underlying d=some (.int k)):conv P s d (.int j n) w K=K (.int k (k.wrap n)) w:=Y4 (by
 simp[Go.convert,run_underlying e,run_underlying c,Conv.intToInt])
def Q3s (w:World) (r:Nat) (o:Obj):World:={w with heap:=w.heap.setIfInBounds r o}
theorem Q7r {B r:Nat} {a w:World} {o:Obj} (h:Below B a w) (d:B<=r):Below B a (Q3s w r o):=
 h.trans ⟨rfl,rfl,rfl,by simp[Q3s],fun k c=>by simp only[Q3s];rw[Array.getElem?_setIfInBounds_ne Q5]⟩
theorem X1F {w:World} {r:Nat} {o:Obj} (h:r<w.heap.size):(Q3s w r o).heap[r]? =some o:=by
 simp only[Q3s];rw[Array.getElem?_setIfInBounds_self_of_lt h]
theorem X7C {t:TypeId} {a:List UInt8} (c:P.underlying t=some .string):rng P t (S a) w K=K (.pointer (some ⟨w.heap.size,0,none⟩)) (w.alloc (.stringIter ⟨a.toArray⟩ 0)):=Y4 (by
 simp[Instr.range,run_underlying c])
theorem X7o {t:TypeId} {r pos:Nat} {s:ByteArray} (h:w.heap[r]? =some (.stringIter s pos)) (e:pos<s.size):
 W8 P (.pointer (some ⟨r,0,none⟩)) true t w K=K (.tuple #[.bool true,I pos, .int .i32 (Utf8.decode s pos).1]) (Q3s w r (.stringIter s (pos+(Utf8.decode s pos).2))):=Y4 (by
 have c: ∀(k:Obj->Sem Value),(getObj r>>=k).run P w=(k (.stringIter s pos)).run P w:=by
  intro k;rw[Sem.run_bind];simp[getObj,Sem.run,h]
 have d: ∀o,(setObj r o).run P w= .ok () (Q3s w r o):=by intro o;simp[setObj,Sem.run,h,Q3s]
 unfold Instr.next
 simp only[c,e,if_true]
 simp[d,goInt])
theorem X0T {t:TypeId} {r pos:Nat} {s:ByteArray} (h:w.heap[r]? =some (.stringIter s pos)) (d: ¬pos<s.size):
 W8 P (.pointer (some ⟨r,0,none⟩)) true t w K=K (.tuple #[.bool false]) w:=Y4 (by
 have c: ∀(k:Obj->Sem Value),(getObj r>>=k).run P w=(k (.stringIter s pos)).run P w:=by
  intro k;rw[Sem.run_bind];simp[getObj,Sem.run,h]
 unfold Instr.next
 simp only[c,d,if_false]
 simp)
theorem X6f {a:Value}:ext P (.tuple #[a]) 0 w K=K a w:=Wu (vs:=[a]) rfl
theorem X2f {s:ByteArray} {i:Nat} (h:(s.get! i).toNat<128):Utf8.decode s i=((s.get! i).toNat,1):=by
 unfold Utf8.decode;simp only[Nat.add_zero];rw[if_pos h]
theorem X0B {s:ByteArray} {i:Nat} (h: ¬(s.get! i).toNat<128):128<=(Utf8.decode s i).1:=by
 unfold Utf8.decode;simp only[Nat.add_zero];rw[if_neg h]
 repeat' split
 all_goals (simp only[Utf8.runeError] at*;try omega)
 all_goals (simp only[Bool.and_eq_true,decide_eq_true_eq,ge_iff_le] at*;omega)
theorem Q96 {s:ByteArray} {i:Nat}:1<=(Utf8.decode s i).2:=by
 unfold Utf8.decode;simp only
 repeat' split
 all_goals simp
def Q0f (p:Int->Bool) (s:ByteArray):Nat->Nat->Bool
 | 0,_=>true
 | n+1,i=>if i<s.size then p (Utf8.decode s i).1&&Q0f p s n (i+(Utf8.decode s i).2) else true
theorem Q74 {a:List UInt8} {i:Nat} (h:i<a.length):(ByteArray.mk a.toArray).get! i=a[i]:=by
 show (ByteArray.mk a.toArray).data[i]! =a[i]
 simp[h]
theorem X20 (p:Int->Bool) (f: ∀c:Int,128<=c->p c=false) (a:List UInt8): ∀(n i:Nat),a.length-i<=n->Q0f p ⟨a.toArray⟩ n i=(a.drop i).all (fun b=>p b.toNat):=by
 intro n
 induction n with
 | zero=>intro i h;rw[List.drop_eq_nil_of_le Q5];rfl
 | succ n g=>
  intro i h;simp only[Q0f,Qw]
  split
  .rename_i d
   rw[List.drop_eq_getElem_cons d,List.all_cons]
   by_cases e:a[i].toNat<128
   .rw[X2f (by rw[Q74 d];exact e),Q74 d]
    simp only;rw[g (i+1) Q5]
   .have j:=X0B (s:=⟨a.toArray⟩) (i:=i) (by rw[Q74 d];exact e)
    rw[f _ Q5,f _ Q5];rfl
  .rename_i d;rw[List.drop_eq_nil_of_le Q5];rfl
theorem L2 {α:Type} {A:(α->World->Prop)->World->Prop} {B:α->(Nat->Value)->World->Prop} (h:A (fun x w=> ∀d,B x d w) w):jn w A B:=Xt _ h (fun _ d _ c=>c d)
theorem X9 {d:World->World->Prop} {A c:(Value->World->Prop)->Prop} (V:Value) (h:A (fun v _=>v=V)) (e:c (fun v _=>v=V)):U8 d A c:=
 B9 _ (fun _ _ _ h _=>h) h e
theorem Sr {w w0:World} {A:(World->World->Prop)->(World->Prop)->Prop} (e:Below w0.heap.size w0 w)
 (h:A (fun w w'=>Below w.heap.size w w') (fun w'=>Below w0.heap.size w0 w')):dr w A:=
 Q0m _ _ e.drew (fun _ _ c d=>c.trans (d.mono c.size)) h
theorem Q5K {w w':World} {v V:Value} (c:Below w.heap.size w w') (h:v=V):dk (fun w w'=>Below w.heap.size w w') (fun v _=>v=V) w v w':=⟨c,h⟩
theorem Y2 {w:World} {v V:Value} (h:v=V):dk (fun w w'=>Below w.heap.size w w') (fun v _=>v=V) w v w:=⟨Below.refl _ _,h⟩
theorem X0G {n:Nat} {fn:Func} {e:Array Value->Sem Value} {xs:List Value} {v:Value} (g:P.funcs[n]? =some fn) (i:(fn.name== "runtime.NumGoroutine")=false) (j:fn.body.isNone=true)
 (l:(Extern.findNext fn).isNone=true) (m:Extern.find fn=some e) (o:(e xs.toArray).run P w= .ok v w) (h:K v w):Q0 P n xs w K:=by
 have f:Extern.findNext fn=none:=by simpa using l
 have c: ¬fn.name= "runtime.NumGoroutine":=by simpa using i
 have d:fn.body=none:=by simpa using j
 unfold Q0;rw[Xu];unfold Xm callFunc
 simp[g,c,d,f,m,o,h]
theorem Q5O {α:Type} (p:α->Bool) (c:Nat->Bool): ∀(l:List α),(∀i (h:i<l.length),c i=p l[i])->(List.range l.length).find? c=l.findIdx? p
 | [],_=>rfl
 | x::l,h=>by
  rw[List.length_cons,List.range_succ_eq_map,List.find?_cons,List.findIdx?_cons];have d:c 0=p x:=h 0 V0;rw[d];cases p x
  .simp only[Bool.false_eq_true,if_false]
   rw[List.find?_map];have:=Q5O p (c ∘ Nat.succ) l (fun i e=>h (i+1) (by simpa using e))
   rw[this]
  .rfl
def Mr:=And.intro @B5 <| And.intro @R9 <| And.intro @F5 <| And.intro @To <| And.intro @Q6M <| And.intro @X1i <| And.intro @Q6K <| And.intro @Q6J <| And.intro @Gg <| And.intro @Q3Z <| And.intro @Q3Y <| And.intro @Q6L <| And.intro @Q7j <| And.intro @Pt <| And.intro @Pu <| And.intro @X8m <| And.intro @X8n <| And.intro @X6e <| And.intro @X6g <| And.intro @X6h <| And.intro @X6f <| And.intro @X5J <| And.intro @X7s <| And.intro @D6 <| And.intro @H4 <| And.intro @Qa <| And.intro @F8 <| And.intro @X5p <| And.intro @G6 <| @B4
def Mp:=And.intro @B5 <| And.intro @R9 <| And.intro @F5 <| And.intro @To <| And.intro @Q6M <| And.intro @X1i <| And.intro @Q6K <| And.intro @Q6J <| And.intro @Gg <| And.intro @Q3Z <| And.intro @Q3Y <| And.intro @Q6L <| And.intro @Q7j <| And.intro @Pt <| And.intro @Pu <| And.intro @X8m <| And.intro @X8n <| And.intro @X6e <| And.intro @X6g <| And.intro @X6h <| And.intro @X6f <| And.intro @D6 <| And.intro @H4 <| And.intro @Qa <| And.intro @F8 <| And.intro @G6 <| @B4
def Mb:=And.intro @Bool.true_eq_false <| And.intro @Bool.false_eq_true <| And.intro @Bool.not_true <| And.intro @Bool.not_false <| And.intro @Bool.and_true <| And.intro @Bool.true_and <| And.intro @Bool.and_false <| And.intro @Bool.false_and <| And.intro @Bool.or_true <| And.intro @Bool.true_or <| And.intro @Bool.or_false <| @Bool.false_or
end Go.Emb
namespace Go.Kd
abbrev Q9:=List UInt8
def Jd (c:Int):Bool:=decide (65<=c)&&decide (c<=90)
def Yr (c:Int):Bool:=decide (97<=c)&&decide (c<=122)
def T5 (c:Int):Bool:=decide (48<=c)&&decide (c<=57)
def I5 (c:Int):Bool:=Jd c||Yr c||T5 c
def name (s:Q9):Bool:=match s with
 | []=>false
 | c::_=>decide (s.length<=32)&& !T5 c.toNat&&s.all (fun b=>I5 b.toNat)
def H7 (s:Q9):Bool:=match s with
 | []=>false
 | c::_=>name s&&Jd c.toNat
def C5 (s:Q9):Bool:=match s with
 | []=>false
 | c::_=>name s&&Yr c.toNat
def plain (s:Q9):Bool:=decide (s=[105,110,116])||decide (s=[98,111,111,108])||decide (s=[116,101,120,116])
def arr (s:Q9):Bool:=decide (2<=s.length)&&decide (s.drop (s.length-2)=[91,93])
def cutA (s:Q9):Q9:=s.take (s.length-2)
def Uh:Nat->Q9->Q9×Nat
 | 0,s=>(s,0)
 | n+1,s=>if arr s then ((Uh n (cutA s)).1,(Uh n (cutA s)).2+1) else (s,0)
def base (s:Q9):Q9×Nat:=Uh s.length s
def right (s:Q9):Bool:=decide ((base s).2<=3)&&(plain (base s).1||H7 (base s).1)
def elem (s:Q9):Q9:=if arr s&&right s then cutA s else []
def Ji (s:Q9):Nat:=if right s then (base s).2 else 0
def Zv (s:Q9):Q9×Q9×Bool:=match s with
 | []=>([],[],false)
 | c::r=>if c=46 then ([],r,true) else ((c::(Zv r).1),(Zv r).2.1,(Zv r).2.2)
def Vj (s:Q9):Bool:=(Zv s).2.2&&H7 (Zv s).1&&C5 (Zv s).2.1
def Q45 (c:UInt8) (s:Q9):Int:=match s.findIdx? (fun b=>decide (b=c)) with
 | some i=>i
 | none=> -1
def Q5M (s:Q9) (o:Option Nat):Q9×Q9×Bool:=match o with
 | some i=>(s.take i,s.drop (i+1),true)
 | none=>(s,[],false)
theorem Q0l (s:Q9):Zv s=Q5M s (s.findIdx? (fun b=>decide (b=46))):=by
 induction s with
 | nil=>rfl
 | cons c r a=>
  rw[List.findIdx?_cons];simp only[Zv]
  by_cases h:c=46
  .simp[h,Q5M]
  .simp only[h,if_false,decide_false,Bool.false_eq_true]
   rw[a];cases r.findIdx? (fun b=>decide (b=46)) with
   | none=>simp[Q5M]
   | some i=>simp[Q5M]
end Go.Kd
namespace Go.Proofs.Y
open Go.Emb Go.RowKit Go.Kd
variable {w : World} {K : Value -> World -> Prop}
theorem Y8:P.underlying T.b=some .string:=by kernel_rfl
theorem Oi:P.underlying T.e=some (.int .i64):=by kernel_rfl
theorem Q6D:P.underlying T.r=some .bool:=by kernel_rfl
theorem Q7i:P.underlying T.a1=some (.int .u8):=by kernel_rfl
theorem X1Q:P.underlying T.ay=some (.int .i32):=by kernel_rfl
theorem X1x (c:Int) (h:K (.bool (Jd c)) w):Q0 P F.cx [.int .i32 c] w K:=Q9V (by
 unfold Q36 X8
 (try simp only[↓Mr,Mr,Mb,reduceIte])
 cases a:decide (65<=c)<;>simp only[a,↓Mr,Mr,Mb,reduceIte]<;>simpa [Jd,a] using h)
theorem X1y (c:Int) (h:K (.bool (Yr c)) w):Q0 P F.cy [.int .i32 c] w K:=Q9W (by
 unfold Q37 X8
 (try simp only[↓Mr,Mr,Mb,reduceIte])
 cases a:decide (97<=c)<;>simp only[a,↓Mr,Mr,Mb,reduceIte]<;>simpa [Yr,a] using h)
theorem X7h (c:Int) (h:K (.bool (I5 c)) w):Q0 P F.cm [.int .i32 c] w K:=Q8l (by
 unfold Q1K X8;refine X1x c ?_;cases a:Jd c
 ·(try simp only[↓Mr,Mr,Mb,reduceIte])
  refine X1y c ?_;cases b:Yr c
  ·(try simp only[↓Mr,Mr,Mb,reduceIte])
   cases d:decide (48<=c)
   ·(try simp only[↓Mr,Mr,Mb,reduceIte])
    simpa [I5,T5,a,b,d] using h
   ·(try simp only[↓Mr,Mr,Mb,reduceIte])
    simpa [I5,T5,a,b,d] using h
  ·(try simp only[↓Mr,Mr,Mb,reduceIte])
   simpa [I5,a,b] using h
 ·(try simp only[↓Mr,Mr,Mb,reduceIte])
  simpa [I5,a] using h)
theorem X9b (a:List UInt8) (f:Value) (p:Int->Bool) (l: ∀(c:Int) (w:World) (K:Value->World->Prop),K (.bool (p c)) w->J0 P f [.int .i32 c] w K)
 (h: ∀w',Below w.heap.size w w'->K (.bool (Q0f p ⟨a.toArray⟩ a.length 0)) w'):Q0 P F.cY [S a,f] w K:=X2R (by
 unfold Q5X;rw[X7C Y8]
 refine Mc (fun _ w'=> ∃pos n:Nat,a.length-pos<=n/\Q0f p ⟨a.toArray⟩ a.length 0=Q0f p ⟨a.toArray⟩ n pos/\Below w.heap.size w w'/\w'.heap[w.heap.size]? =some (.stringIter ⟨a.toArray⟩ pos))
  (fun _ w'=>match w'.heap[w.heap.size]? with | some (.stringIter _ pos)=>a.length-pos | _=>0) ⟨0,a.length,by omega,rfl,(Below.refl _ _).alloc (Nat.le_refl _) _,heap_alloc_new w _⟩ ?_
 rintro _ _ w1 ⟨pos,n,q,b,j,e⟩
 by_cases g:pos<a.length
 .rw[X7o e (by rw[Qw];exact g)]
  (try simp only[↓Mr,Mr,Mb,reduceIte])
  refine l _ _ _ ?_;obtain ⟨n,rfl⟩: ∃m,n=m+1:=⟨n-1,by omega⟩
  simp only[Q0f,Qw,g,if_true] at b;have r:=Q96 (s:=⟨a.toArray⟩) (i:=pos);have d:w.heap.size<w1.heap.size:=(Array.getElem?_eq_some_iff.1 e).1;cases k:p (Utf8.decode ⟨a.toArray⟩ pos).1
  ·(try simp only[↓Mr,Mr,Mb,reduceIte])
   rw[k] at b;have:=h _ (Q7r (o:= .stringIter ⟨a.toArray⟩ (pos+(Utf8.decode ⟨a.toArray⟩ pos).2)) j (Nat.le_refl _));rw[b] at this;exact this
  ·(try simp only[↓Mr,Mr,Mb,reduceIte])
   rw[k] at b;refine ⟨⟨_,n,?_,b,Q7r j (Nat.le_refl _),X1F d⟩,?_⟩
   .omega
   .simp only[X1F d,e];omega
 .rw[X0T e (by rw[Qw];exact g)]
  (try simp only[↓Mr,Mr,Mb,reduceIte])
  have:Q0f p ⟨a.toArray⟩ n pos=true:=by
   cases n with
   | zero=>rfl
   | succ n=>simp only[Q0f,Qw,g,if_false]
  rw[<-this,<-b];exact h _ j)
theorem X21 (c:Int) (h:128<=c):I5 c=false:=by
 simp[I5,Jd,Yr,T5];omega
theorem Q9q (a:List UInt8) (n:a.length<=140737488355328) (h: ∀w',Below w.heap.size w w'->K (.bool (name a)) w'):Q0 P F.ch [S a] w K:=X13 (by
 unfold Q4X X8 X6 X2 U6
 have d: ∀c r,a=c::r->(decide (a.length<=32)&& !T5 c.toNat)=true->Q0 P F.cY [S a,(.func (.func F.cm) #[] #[])] w K:=by
  intro c r m b;refine X9b a _ I5 (fun c w K h=>J8 (first:=[]) (caps:=[]) (X7h c h)) fun w' l=>?_
  rw[X20 _ X21 a _ _ Q5];have:=h w' l;rw[m] at this b⊢;simp only[name] at this;rw[b,Bool.true_and] at this
  simpa using this
 cases a with
 | nil=>
  simp only[↓Mr,Mr,Mb,reduceIte,decide_true];exact h w (Below.refl _ _)
 | cons c r=>
  have g:decide (c::r=[])=false:=by simp
  simp only[↓Mr,Mr,Mb,reduceIte,g,G5 Y8]
  by_cases k:(c::r).length<=32
  .have e:r.length<=31:=by simpa using k
   have b:decide ((32:Int)<((c::r).length:Int))=false:=by simp only[decide_eq_false_iff_not];omega
   simp only[↓Mr,Mr,Mb,reduceIte,b];rw[Jn Y8 Q5 V0]
   (try simp only[↓Mr,Mr,Mb,reduceIte])
   have j:(c::r)[(0:Int).toNat]'(by simp)=c:=rfl
   simp only[j];cases f:decide ((48:Int)<=(c.toNat:Int))
   ·(try simp only[↓Mr,Mr,Mb,reduceIte])
    exact d c r rfl (by simp[T5,e,f])
   ·(try simp only[↓Mr,Mr,Mb,reduceIte])
    rw[Jn Y8 Q5 V0];simp only[↓Mr,Mr,Mb,reduceIte,j];cases i:decide ((c.toNat:Int)<=57)
    ·(try simp only[↓Mr,Mr,Mb,reduceIte])
     exact d c r rfl (by simp only[T5,f,i];simp[e])
    ·(try simp only[↓Mr,Mr,Mb,reduceIte])
     have:name (c::r)=false:=by simp only[name,T5,f,i];simp
     rw[<-this];exact h w (Below.refl _ _)
  .have b:decide ((32:Int)<((c::r).length:Int))=true:=by simp only[decide_eq_true_eq];omega
   simp only[↓Mr,Mr,Mb,reduceIte,b];have:name (c::r)=false:=by simp only[name];rw[decide_eq_false k];rfl
   rw[<-this];exact h w (Below.refl _ _))
theorem Gh (a:List UInt8) (e:a.length<=140737488355328) (h: ∀w',Below w.heap.size w w'->K (.bool (H7 a)) w'):Q0 P F.ak [S a] w K:=Q9R (by
 unfold Q32 X8;refine Q9q a e fun w1 b=>?_;cases a with
 | nil=>
  simp only[name,↓Mr,Mr,Mb,reduceIte];exact h w1 b
 | cons c r=>
  cases d:name (c::r)
  ·(try simp only[↓Mr,Mr,Mb,reduceIte])
   have:=h w1 b;simp only[H7,d] at this
   simpa using this
  ·(try simp only[↓Mr,Mr,Mb,reduceIte])
   rw[Jn Y8 Q5 V0];have f:(c::r)[(0:Int).toNat]'(by simp)=c:=rfl
   simp only[f];rw[Wp Q7i X1Q,w32 Q5 (by have:=c.toNat_lt;omega)]
   refine X1x _ ?_
   (try simp only[↓Mr,Mr,Mb,reduceIte])
   have:=h w1 b;simp only[H7,d] at this
   simpa using this)
theorem Gi (a:List UInt8) (h:K (.bool (plain a)) w):Q0 P F.aO [S a] w K:=Q9T (by
 unfold Q34 X8 U6
 (try simp only[↓Mr,Mr,Mb,reduceIte])
 cases b:decide (a=[105,110,116])<;>(try simp only[↓Mr,Mr,Mb,reduceIte])
 .cases c:decide (a=[98,111,111,108])<;>(try simp only[↓Mr,Mr,Mb,reduceIte])<;>simpa [plain,b,c] using h
 .simpa [plain,b] using h)
def Lk (a b:List UInt8):Bool:=decide (b.length<=a.length)&&decide (a.drop (a.length-b.length)=b)
theorem Sv (a b:List UInt8) (e:a.length<=140737488355328) (f:b.length<=140737488355328) (h:K (.bool (Lk a b)) w):Q0 P F.ac [S a,S b] w K:=Kt (by
 unfold Mv X8 X6 X1;rw[G5 Y8,G5 Y8]
 (try simp only[↓Mr,Mr,Mb,reduceIte])
 by_cases d:b.length<=a.length
 .have c:decide ((b.length:Int)<=a.length)=true:=by simp only[decide_eq_true_eq];omega
  simp only[↓Mr,Mr,Mb,reduceIte,c,G5 Y8];rw[Qh Q5 Q5,Mf Y8 Q5 Q5]
  (try simp only[↓Mr,Mr,Mb,reduceIte])
  rw[show ((a.length:Int)-b.length).toNat=a.length-b.length from by omega]
  simpa [Lk,d] using h
 .have c:decide ((b.length:Int)<=a.length)=false:=by simp only[decide_eq_false_iff_not];omega
  simp only[↓Mr,Mr,Mb,reduceIte,c]
  simpa [Lk,d] using h)
theorem X0M (a b:List UInt8) (c:a.length<=140737488355328) (d:b.length<=140737488355328) (h:K (.bool (Lk a b)) w):Q0 P F.bU [S a,S b] w K:=Q2z (by
 unfold Si;exact Sv a b c d h)
def Ce (a b:List UInt8):List UInt8:=if Lk a b then a.take (a.length-b.length) else a
theorem Q7M {a b:List UInt8} (h:Lk a b=true):b.length<=a.length:=by
 simp only[Lk,Bool.and_eq_true,decide_eq_true_eq] at h;exact h.1
theorem Q9r (a b:List UInt8) (d:a.length<=140737488355328) (e:b.length<=140737488355328) (h:K (S (Ce a b)) w):Q0 P F.bI [S a,S b] w K:=Q1w (by
 unfold Hk;refine Kb ?_;unfold Lh X6 X1;refine Sv a b d e ?_;cases c:Lk a b
 ·(try simp only[↓Mr,Mr,Mb,reduceIte])
  simpa [Ce,c] using h
 .have f:=Q7M c
  simp only[↓Mr,Mr,Mb,reduceIte,G5 Y8];rw[Qh Q5 Q5,Xv Y8 Q5 Q5];rw[show ((a.length:Int)-b.length).toNat=a.length-b.length from by omega]
  simpa [Ce,c] using h)
theorem X0L (a b:List UInt8) (d:a.length<=140737488355328) (e:b.length<=140737488355328) (h:K (.tuple #[S (Ce a b), .bool (Lk a b)]) w):Q0 P F.bT [S a,S b] w K:=Q2y (by
 unfold Sh;simp only[M9];refine Ks ?_;unfold Mu X6 X1;refine Sv a b d e ?_;cases c:Lk a b
 ·(try simp only[↓Mr,Mr,Mb,reduceIte])
  simpa [Ce,c] using h
 .have f:=Q7M c
  simp only[↓Mr,Mr,Mb,reduceIte,G5 Y8];rw[Qh Q5 Q5,Xv Y8 Q5 Q5];rw[show ((a.length:Int)-b.length).toNat=a.length-b.length from by omega]
  (try simp only[↓Mr,Mr,Mb,reduceIte])
  simpa [Ce,c] using h)
theorem Q62 (a:List UInt8):Lk a [91,93]=arr a:=rfl
theorem Q59 (a:List UInt8):Ce a [91,93]=if arr a then Kd.cutA a else a:=rfl
theorem Qz {a:List UInt8} (h:arr a=true):(Kd.cutA a).length+2=a.length:=by
 simp only[arr,Bool.and_eq_true,decide_eq_true_eq] at h;simp only[Kd.cutA,List.length_take];omega
theorem Q5A: ∀(n m:Nat) (a:List UInt8),a.length<=n->a.length<=m->Uh n a=Uh m a
 | 0,0,a,_,_=>rfl
 | 0,m+1,a,h,_=>by
  have:a=[]:=List.eq_nil_of_length_eq_zero Q5;subst this;rfl
 | n+1,0,a,_,h=>by
  have:a=[]:=List.eq_nil_of_length_eq_zero Q5;subst this;rfl
 | n+1,m+1,a,b,c=>by
  simp only[Uh]
  split
  .rename_i h
   have:=Qz h;rw[Q5A n m (Kd.cutA a) Q5 Q5]
  .rfl
theorem Yw (a:List UInt8):base a=if arr a then ((base (Kd.cutA a)).1,(base (Kd.cutA a)).2+1) else (a,0):=by
 unfold base;cases b:a.length with
 | zero=>
  have:a=[]:=List.eq_nil_of_length_eq_zero b;subst this;rfl
 | succ n=>
  simp only[Uh]
  split
  .rename_i h
   have:=Qz h;rw[Q5A n (Kd.cutA a).length (Kd.cutA a) Q5 (Nat.le_refl _)]
  .rfl
theorem Q3W (a:List UInt8):(base a).1.length+2*(base a).2=a.length:=by
 have key: ∀n (a:List UInt8),(Uh n a).1.length+2*(Uh n a).2=a.length:=by
  intro n
  induction n with
  | zero=>intro a;simp[Uh]
  | succ n b=>
   intro a;simp only[Uh]
   split
   .rename_i h
    have:=Qz h;have:=b (Kd.cutA a);simp only;omega
   .simp
 exact key _ a
theorem X40 (a:List UInt8) (e:a.length<=140737488355328) (h:K (.tuple #[S (base a).1,I (base a).2]) w):Q0 P F.cN [S a] w K:=X14 (by
 unfold Q4Y X2
 refine Mc (fun x w'=>w'=w/\ ∃(b:List UInt8) (n:Nat),x=(S b,I n)/\b.length+2*n=a.length/\base a=((base b).1,(base b).2+n)) (fun x _=>match x.1 with | .string s=>s.size | _=>0)
  ⟨rfl,a,0,rfl,by omega,rfl⟩ ?_
 rintro _ _ _ ⟨rfl,b,n,rfl,g,d⟩;refine X0M b _ Q5 V0 ?_;rw[Q62];cases c:arr b
 ·(try simp only[↓Mr,Mr,Mb,reduceIte])
  rw[Yw b,c] at d;simp only[Bool.false_eq_true,if_false,Nat.zero_add] at d;rw[d] at h;exact h
 ·(try simp only[↓Mr,Mr,Mb,reduceIte])
  refine Q9r b _ Q5 V0 ?_;rw[Q59,c];simp only[↓Mr,Mr,Mb,reduceIte,if_true];have f:=Qz c;rw[Qh Q5 Q5];refine ⟨⟨by first | rfl | trivial,Kd.cutA b,n+1,by simp,by omega,?_⟩,?_⟩
  .rw[d,Yw b,c];simp;omega
  .simp only[Qw];omega)
theorem Vk (a:List UInt8) (e:a.length<=140737488355328) (h: ∀w',Below w.heap.size w w'->K (.bool (right a)) w'):Q0 P F.a2 [S a] w K:=Q9U (by
 unfold Q35;simp only[M9];unfold X8 X2;have g:=Q3W a;refine X40 a e ?_
 (try simp only[↓Mr,Mr,Mb,reduceIte])
 by_cases c:(base a).2<=3
 .have b:decide (((base a).2:Int)<=3)=true:=by simp only[decide_eq_true_eq];omega
  simp only[↓Mr,Mr,Mb,reduceIte,b];refine Gi _ ?_;cases d:plain (base a).1
  ·(try simp only[↓Mr,Mr,Mb,reduceIte])
   refine Gh _ Q5 fun w1 f=>?_
   (try simp only[↓Mr,Mr,Mb,reduceIte])
   have:=h w1 f;simp only[right,c,d] at this
   simpa using this
  ·(try simp only[↓Mr,Mr,Mb,reduceIte])
   have:=h w (Below.refl _ _);simp only[right,c,d] at this
   simpa using this
 .have b:decide (((base a).2:Int)<=3)=false:=by simp only[decide_eq_false_iff_not];omega
  simp only[↓Mr,Mr,Mb,reduceIte,b];have:=h w (Below.refl _ _);simp only[right,c] at this
  simpa using this)
theorem Q65 (a:List UInt8) (c:a.length<=140737488355328) (h: ∀w',Below w.heap.size w w'->K (S (elem a)) w'):Q0 P F.bw [S a] w K:=X12 (by
 unfold Q4W;simp only[M9];unfold X8;refine X0L a _ c V0 ?_;rw[Q62,Q59]
 (try simp only[↓Mr,Mr,Mb,reduceIte])
 cases b:arr a
 ·(try simp only[↓Mr,Mr,Mb,reduceIte])
  have:=h w (Below.refl _ _);simp only[elem,b] at this;exact this
 ·(try simp only[↓Mr,Mr,Mb,reduceIte])
  refine Vk a c fun w1 e=>?_;have:=h w1 e;cases d:right a
  ·(try simp only[↓Mr,Mr,Mb,reduceIte])
   simp only[elem,b,d] at this;exact this
  .simp only[↓Mr,Mr,Mb,reduceIte,if_true]
   simp only[elem,b,d] at this;exact this)
theorem X3Z (a:List UInt8) (b:a.length<=140737488355328) (h: ∀w',Below w.heap.size w w'->K (I (Ji a)) w'):Q0 P F.cM [S a] w K:=X11 (by
 unfold Q4V;simp only[M9];refine X40 a b ?_
 (try simp only[↓Mr,Mr,Mb,reduceIte])
 refine Vk a b fun w1 d=>?_;have:=h w1 d;cases c:right a<;>(try simp only[↓Mr,Mr,Mb,reduceIte])<;>simpa [Ji,c] using this)
theorem Y00 (a:List UInt8) (i:a.length<=140737488355320) (h: ∀w',Below w.heap.size w w'->K (if right a&&decide (Ji a≠3) then .tuple #[S (a++[91,93]),I 0] else .tuple #[S [],I 30]) w'):Q0 P F.di [S a] w K:=X4q (by
 unfold Q7I X8 X2 U6;refine Vk a Q5 fun w1 d=>?_;cases c:right a
 ·(try simp only[↓Mr,Mr,Mb,reduceIte])
  have:=h w1 d;simp only[c] at this
  simpa using this
 ·(try simp only[↓Mr,Mr,Mb,reduceIte])
  refine X3Z a Q5 fun g e=>?_;have:=h g (d.trans (e.mono d.size))
  by_cases f:Ji a=3
  .have b:decide ((Ji a:Int)=3)=true:=by simp only[decide_eq_true_eq];omega
   simp only[↓Mr,Mr,Mb,reduceIte,b];simp only[c,f] at this
   simpa using this
  .have b:decide ((Ji a:Int)=3)=false:=by simp only[decide_eq_false_iff_not];omega
   simp only[↓Mr,Mr,Mb,reduceIte,b];rw[Q4J (by simp;omega)]
   simp only[c] at this
   simpa [f] using this)
theorem Q4u (a:List UInt8) (c:UInt8) (h:K (I (Q45 c a)) w):Q0 P F.cb [S a, .int .u8 c.toNat] w K:=by
 refine X0G (e:=Extern.BytealgIndexByte.indexByte) Tryz.func272 L1 rfl X4 X4 ?_ h
 have d:((List.range (ByteArray.mk a.toArray).size).find? fun i=>(ByteArray.mk a.toArray)[i]! ==c)=a.findIdx? (fun b=>decide (b=c)):=by
  rw[Qw];refine Q5O _ _ a fun i g=>?_
  have:(ByteArray.mk a.toArray)[i]! =a[i]:=by
   rw[getElem!_pos _ _ (by rw[Qw];exact g)];rfl
  rw[this,Bool.eq_iff_iff];simp
 have f:((c.toNat:Int).toNat.toUInt8)=c:=by simp
 have:=run_indexByte_string (P:=P) ⟨a.toArray⟩ c.toNat w;rw[f] at this;refine this.trans ?_;unfold firstIdx Q45;rw[d];cases a.findIdx? (fun b=>decide (b=c))<;>rfl
theorem X5r (a:List UInt8) (c:UInt8) (h:K (I (Q45 c a)) w):Q0 P F.bW [S a,S [c]] w K:=Q2B (by
 unfold Sk X8 X6 X2 X1;simp only[G5 Y8];have f:decide ((([c]:List UInt8).length:Int)=0)=false:=rfl;have g:decide ((([c]:List UInt8).length:Int)=1)=true:=rfl;simp only[Q3Y,f,g];simp only[↓Mr,Mr,Mb,reduceIte]
 have b:K2 P T.b (S [c]) (I 0) w fun d w=>Q0 P F.ay [S a,d] w fun e w=>K e w:=by
  rw[Jn Y8 Q5 V0];refine Ku ?_;unfold Mw;exact Q4u a c h
 cases i:decide ([c]=a)
 ·(try simp only[↓Mr,Mr,Mb,reduceIte])
  exact b
 ·(try simp only[↓Mr,Mr,Mb,reduceIte])
  have j:[c]=a:=by simpa using i
  have:Q45 c a=0:=by rw[<-j];simp[Q45,List.findIdx?_cons]
  rw[this] at h;exact h)
theorem X5n {c:UInt8} {a:List UInt8} {i:Nat} (h:a.findIdx? (fun b=>decide (b=c))=some i):i<a.length:=by
 have:=List.findIdx?_eq_some_iff_getElem.1 h;exact this.1
theorem X9a (a:List UInt8) (f:a.length<=140737488355328) (h: ∀w',Below w.heap.size w w'->K (.tuple #[S (Zv a).1,S (Zv a).2.1, .bool (Zv a).2.2]) w'):Q0 P F.cW [S a,S [46]] w K:=Q8p (by
 unfold Q1O;simp only[M9];refine Q4E ?_;unfold Fl;simp only[Y5,X5];unfold X6 X2 X1;refine X5r a 46 ?_;rw[Q0l] at h;unfold Q45;cases c:a.findIdx? (fun b=>decide (b=46)) with
 | none=>
  simp only[↓Mr,Mr,Mb,reduceIte,show decide ((0:Int)<= -1)=false from rfl]
  have:=h w (Below.refl _ _);rw[c] at this;exact this
 | some i=>
  have g:=X5n c;have d:decide ((0:Int)<=(i:Int))=true:=by simp
  simp only[Q3Z,d];simp only[↓Mr,Mr,Mb,reduceIte];refine Sr (Below.refl _ w) ?_;refine X9 (S (a.take i)) (fun w1 _=>?_) ?_
  .rw[Xv Y8 Q5 Q5];exact Y2 V0
  refine X9 (I 1) (fun w1 _=>?_) ?_
  .rw[G5 Y8];exact Y2 rfl
  refine X9 (I (i+1)) ?_ ?_
  .rintro _ w1 _ rfl
   rw[To,Qh Q5 Q5];exact Y2 rfl
  refine X9 (S (a.drop (i+1))) ?_ ?_
  .rintro _ w1 _ rfl
   rw[Mf Y8 Q5 Q5];exact Y2 V0
  rintro _ _ _ _ w1 e rfl rfl rfl rfl
  (try simp only[↓Mr,Mr,Mb,reduceIte])
  have:=h w1 e;rw[c] at this;exact this)
theorem X7g (a:List UInt8) (t:a.length<=140737488355328) (h: ∀w',Below w.heap.size w w'->K (if Vj a then .tuple #[S (Zv a).1,S (Zv a).2.1,I 0] else .tuple #[S [],S [],I 30]) w'):Q0 P F.d3 [S a] w K:=Q9S (by
 unfold Q33;simp only[M9];unfold X8;refine X9a a t fun w1 e=>?_
 have s:(Zv a).1.length<=a.length/\(Zv a).2.1.length<=a.length:=by
  rw[Q0l];cases a.findIdx? (fun b=>decide (b=46))<;>simp[Q5M]
  omega
 generalize u:(Zv a).1=p at h s;generalize v:(Zv a).2.1=q at h s;have k:Vj a=((Zv a).2.2&&H7 p&&C5 q):=by rw[Vj,u,v]
 cases j:(Zv a).2.2
 .simp only[↓Mr,Mr,Mb,reduceIte]
  have:=h w1 e;rw[k,j] at this;simpa using this
 .simp only[↓Mr,Mr,Mb,reduceIte]
  refine Gh p Q5 fun z g=>?_;have d:=e.trans (g.mono e.size);cases o:H7 p
  ·(try simp only[↓Mr,Mr,Mb,reduceIte])
   have:=h z d;rw[k,j,o] at this;simpa using this
  ·(try simp only[↓Mr,Mr,Mb,reduceIte])
   refine Q9q q Q5 fun A i=>?_;have f:=d.trans (i.mono d.size);have:=h A f;rw[k,j,o] at this;cases n:name q
   ·(try simp only[↓Mr,Mr,Mb,reduceIte])
    have m:C5 q=false:=by cases q with | nil=>rfl | cons c r=>simp[C5,n]
    rw[m] at this;simpa using this
   ·(try simp only[↓Mr,Mr,Mb,reduceIte])
    cases q with
    | nil=>simp[name] at n
    | cons c r=>
     rw[Jn Y8 Q5 V0];have l:(c::r)[(0:Int).toNat]'(by simp)=c:=rfl
     (try simp only[↓Mr,Mr,Mb,reduceIte])
     rw[l,Wp Q7i X1Q,w32 Q5 (by have:=c.toNat_lt;omega)]
     refine X1y _ ?_;have m:C5 (c::r)=Yr c.toNat:=by simp[C5,n]
     rw[m] at this;cases y:Yr c.toNat<;>(try simp only[↓Mr,Mr,Mb,reduceIte])<;>rw[y] at this<;>simpa using this)
theorem Bq (a:List UInt8) (h:K (.bool (plain a)) w):Q0 P F.a0 [S a] w K:=Q1j (by
 unfold Ew U6;refine L2 ?_
 (try simp only[↓Mr,Mr,Mb,reduceIte])
 cases b:decide (a=[105,110,116])
 .cases c:decide (a=[98,111,111,108])
  .cases d:decide (a=[116,101,120,116])<;>(try simp only[↓Mr,Mr,Mb,reduceIte])<;>intro _<;>(try simp only[↓Mr,Mr,Mb,reduceIte])<;>simpa [plain,b,c,d] using h
  ·(try simp only[↓Mr,Mr,Mb,reduceIte])
   intro _
   (try simp only[↓Mr,Mr,Mb,reduceIte])
   simpa [plain,b,c] using h
 ·(try simp only[↓Mr,Mr,Mb,reduceIte])
  intro _
  (try simp only[↓Mr,Mr,Mb,reduceIte])
  simpa [plain,b] using h)
def X65 (a:List UInt8) (w:World) (x:Value) (w':World):Prop:=
 w=w'/\ ∃i:Nat,x=I i/\i<=a.length/\(0<i->(a.head?.map fun c=>T5 c.toNat)=some false)/\(a.take i).all (fun b=>I5 b.toNat)=true
def Q8u (a:List UInt8) (x:Value):Nat:=match x with | .int _ i=>a.length-i.toNat | _=>0
theorem X02 (a:List UInt8) (O:a.length<=140737488355328) (h:K (.bool (name a)) w):Q0 P F.aV [S a] w K:=Q2n (by
 unfold Rw U7 X8 X6 X2 X1;refine Mc (X65 a w) (fun x _=>Q8u a x) ⟨rfl,0,rfl,by omega,by omega,by simp⟩ ?_
 rintro _ _ _ ⟨rfl,i,rfl,Q,M,k⟩;rw[G5 Y8]
 (try simp only[↓Mr,Mr,Mb,reduceIte])
 by_cases l:i<a.length
 .have B:decide ((i:Int)<a.length)=true:=by simp only[decide_eq_true_eq];omega
  simp only[B,↓Mr,Mr,Mb,reduceIte]
  have d: ∀z:Value->World->Prop,K2 P T.b (S a) (I i) w z=z (.int .u8 (a[i]'l).toNat) w:=fun z=>by
   rw[Jn Y8 Q5 (by simpa using l)];simp
  generalize q:a[i]=c at d
  have e:I5 c.toNat=false\/(i=0/\T5 c.toNat=true)->name a=false:=by
   intro y;cases a with
   | nil=>rfl
   | cons L r=>
    simp only[name]
    rcases y with y | ⟨rfl,y⟩
    .have:(L::r).all (fun b=>I5 b.toNat)=false:=by
      rw[List.all_eq_false];exact ⟨c,by rw[<-q];exact List.getElem_mem _,by simp[y]⟩
     rw[this];simp
    .simp only[List.getElem_cons_zero] at q
     rw[q,y];simp
  have f:I5 c.toNat=true->(i=0->T5 c.toNat=false)->X65 a w (I (IntKind.i64.wrap ((i:Int)+1))) w/\Q8u a (I (IntKind.i64.wrap ((i:Int)+1)))<Q8u a (I i):=by
   intro D H;rw[Qh Q5 Q5];refine ⟨⟨rfl,i+1,by simp,by omega,fun _=>?_,?_⟩,by simp only[Q8u];omega⟩
   .by_cases p:0<i
    .exact M p
    .obtain rfl:i=0:=by omega
     cases a with
     | nil=>simp at l
     | cons L r=>simp only[List.getElem_cons_zero] at q;subst q;simp[H rfl]
   .rw[List.take_add_one,List.getElem?_eq_getElem l,q]
    simp[k,D]
  have E:=c.toNat_lt;have t:decide ((i:Int)=0)=decide (i=0):=by rw[Bool.eq_iff_iff];simp
  by_cases n:97<=(c.toNat:Int)
  .by_cases A:(c.toNat:Int)<=122
   .simp only[d,decide_eq_true n,decide_eq_true A,↓Mr,Mr,Mb,reduceIte]
    exact f (by simp[I5,Yr,n,A]) (fun _=>by simp[T5];omega)
   .have o:(65:Int)<=c.toNat:=by omega
    have s: ¬(c.toNat:Int)<=90:=by omega
    have g: ¬(c.toNat:Int)<48:=by omega
    have j:(57:Int)<c.toNat:=by omega
    simp only[d,decide_eq_true n,decide_eq_false A,decide_eq_true o,decide_eq_false s,decide_eq_false g,decide_eq_true j,t,↓Mr,Mr,Mb,reduceIte];have m:=e (.inl (by simp[I5,Jd,Yr,T5];omega))
    rw[m] at h;cases decide (i=0)<;>(try simp only[d,decide_eq_false g,decide_eq_true j,↓Mr,Mr,Mb,reduceIte])<;>exact h
  .by_cases o:(65:Int)<=c.toNat
   .by_cases s:(c.toNat:Int)<=90
    .simp only[d,decide_eq_false n,decide_eq_true o,decide_eq_true s,↓Mr,Mr,Mb,reduceIte]
     exact f (by simp[I5,Jd,o,s]) (fun _=>by simp[T5];omega)
    .have g: ¬(c.toNat:Int)<48:=by omega
     have j:(57:Int)<c.toNat:=by omega
     simp only[d,decide_eq_false n,decide_eq_true o,decide_eq_false s,decide_eq_false g,decide_eq_true j,t,↓Mr,Mr,Mb,reduceIte];have m:=e (.inl (by simp[I5,Jd,Yr,T5];omega))
     rw[m] at h;cases decide (i=0)<;>(try simp only[d,decide_eq_false g,decide_eq_true j,↓Mr,Mr,Mb,reduceIte])<;>exact h
   .by_cases g:(c.toNat:Int)<48
    .simp only[d,decide_eq_false n,decide_eq_false o,decide_eq_true g,t,↓Mr,Mr,Mb,reduceIte]
     have m:=e (.inl (by simp[I5,Jd,Yr,T5];omega))
     rw[m] at h;cases decide (i=0)<;>(try simp only[d,decide_eq_true g,↓Mr,Mr,Mb,reduceIte])<;>exact h
    .by_cases j:(57:Int)<c.toNat
     .simp only[d,decide_eq_false n,decide_eq_false o,decide_eq_false g,decide_eq_true j,t,↓Mr,Mr,Mb,reduceIte]
      have m:=e (.inl (by simp[I5,Jd,Yr,T5];omega))
      rw[m] at h;cases decide (i=0)<;>(try simp only[d,decide_eq_false g,decide_eq_true j,↓Mr,Mr,Mb,reduceIte])<;>exact h
     .have v:T5 c.toNat=true:=by simp[T5];omega
      simp only[d,decide_eq_false n,decide_eq_false o,decide_eq_false g,decide_eq_false j,t,↓Mr,Mr,Mb,reduceIte]
      by_cases p:i=0
      .have m:=e (.inr ⟨p,v⟩)
       rw[m] at h;simp only[decide_eq_true p,d,decide_eq_false g,decide_eq_false j,↓Mr,Mr,Mb,reduceIte];exact h
      .simp only[decide_eq_false p,d,decide_eq_false g,decide_eq_false j,↓Mr,Mr,Mb,reduceIte]
       exact f (by simp[I5,v]) (fun h=>absurd h p)
 .have B:decide ((i:Int)<a.length)=false:=by simp only[decide_eq_false_iff_not];omega
  obtain rfl:i=a.length:=by omega
  simp only[B,↓Mr,Mr,Mb,reduceIte];rw[G5 Y8];cases a with
  | nil=>
   have C:decide ((1:Int)<=(([]:List UInt8).length:Int))=false:=rfl;simp only[C,↓Mr,Mr,Mb,reduceIte];exact h
  | cons c r=>
   have C:decide ((1:Int)<=((c::r).length:Int))=true:=by simp only[decide_eq_true_eq,List.length_cons];omega
   have u:=M V0;simp only[List.head?_cons,Option.map_some,Option.some.injEq] at u;simp only[List.take_length] at k;have J:name (c::r)=decide ((c::r).length<=32):=by simp only[name,u,k];simp
   have N:decide (((c::r).length:Int)<=32)=decide ((c::r).length<=32):=by rw[Bool.eq_iff_iff];simp only[decide_eq_true_eq];omega
   simp only[C,G5 Y8,N,↓Mr,Mr,Mb,reduceIte];rw[<-J];exact h)
theorem Q0s {c:UInt8} {r:List UInt8} (h:name (c::r)=true):I5 c.toNat=true/\T5 c.toNat=false:=by
 simp only[name,Bool.and_eq_true,List.all_cons,Bool.not_eq_true'] at h;exact ⟨h.2.1,h.1.2⟩
theorem Uf (a:List UInt8) (g:a.length<=140737488355328) (h:K (.bool (H7 a)) w):Q0 P F.d [S a] w K:=Q1h (by
 unfold Eu X8;refine X02 a g ?_;cases a with
 | nil=>simp only[name,↓Mr,Mr,Mb,reduceIte];exact h
 | cons c r=>
  cases d:name (c::r)
  ·(try simp only[↓Mr,Mr,Mb,reduceIte])
   simpa [H7,d] using h
  ·(try simp only[↓Mr,Mr,Mb,reduceIte])
   rw[Jn Y8 Q5 V0];have b:(c::r)[(0:Int).toNat]'(by simp)=c:=rfl
   (try simp only[↓Mr,Mr,Mb,reduceIte])
   rw[b];obtain ⟨e,f⟩:=Q0s d
   have:decide ((c.toNat:Int)<=90)=Jd c.toNat:=by
    simp only[I5,Jd,Yr,T5,Bool.or_eq_true,Bool.and_eq_true,Bool.and_eq_false_iff,decide_eq_true_eq,decide_eq_false_iff_not] at e f⊢;rw[Bool.eq_iff_iff];simp only[Bool.and_eq_true,decide_eq_true_eq];omega
   rw[this]
   simpa [H7,d] using h)
theorem Q1y (a:List UInt8) (g:a.length<=140737488355328) (h:K (.bool (C5 a)) w):Q0 P F.w [S a] w K:=Av (by
 unfold Df X8;refine X02 a g ?_;cases a with
 | nil=>simp only[name,↓Mr,Mr,Mb,reduceIte];exact h
 | cons c r=>
  cases d:name (c::r)
  ·(try simp only[↓Mr,Mr,Mb,reduceIte])
   simpa [C5,d] using h
  ·(try simp only[↓Mr,Mr,Mb,reduceIte])
   rw[Jn Y8 Q5 V0];have b:(c::r)[(0:Int).toNat]'(by simp)=c:=rfl
   (try simp only[↓Mr,Mr,Mb,reduceIte])
   rw[b];obtain ⟨e,f⟩:=Q0s d
   have:decide ((97:Int)<=c.toNat)=Yr c.toNat:=by
    simp only[I5,Jd,Yr,T5,Bool.or_eq_true,Bool.and_eq_true,Bool.and_eq_false_iff,decide_eq_true_eq,decide_eq_false_iff_not] at e f⊢;rw[Bool.eq_iff_iff];simp only[Bool.and_eq_true,decide_eq_true_eq];omega
   rw[this]
   simpa [C5,d] using h)
def X8Y (a:List UInt8) (w:World) (x:Value×Value) (w':World):Prop:=
 w=w'/\ ∃(b:List UInt8) (n:Nat),x=(S b,I n)/\b.length+2*n=a.length/\(base a).2=(base b).2+n
def X64 (x:Value×Value):Nat:=match x.1 with | .string s=>s.size | _=>0
theorem Kc (a:List UInt8) (j:a.length<=140737488355328) (h:K (I (base a).2) w):Q0 P F.a3 [S a] w K:=Q2l (by
 unfold Ru X8 X6 X2 U6;refine Mc (X8Y a w) (fun x _=>X64 x) ⟨rfl,a,0,rfl,by omega,rfl⟩ ?_
 rintro _ _ _ ⟨rfl,b,n,rfl,k,c⟩;rw[G5 Y8]
 (try simp only[↓Mr,Mr,Mb,reduceIte])
 by_cases f:2<=b.length
 .have e:decide ((2:Int)<=b.length)=true:=by simp only[decide_eq_true_eq];omega
  simp only[e,G5 Y8,↓Mr,Mr,Mb,reduceIte];rw[Qh Q5 Q5,Mf Y8 Q5 Q5];rw[show ((b.length:Int)-2).toNat=b.length-2 from by omega]
  have g:decide (b.drop (b.length-2)=[91,93])=arr b:=by simp[arr,f]
  simp only[g,↓Mr,Mr,Mb,reduceIte];cases d:arr b
  ·(try simp only[↓Mr,Mr,Mb,reduceIte])
   rw[Yw b,d] at c;simp only[Bool.false_eq_true,if_false,Nat.zero_add] at c;rw[c] at h;exact h
  ·(try simp only[G5 Y8,↓Mr,Mr,Mb,reduceIte])
   rw[Xv Y8 Q5 Q5];rw[show ((b.length:Int)-2).toNat=b.length-2 from by omega]
   have i:=Qz d;refine ⟨⟨rfl,Kd.cutA b,n+1,?_,by omega,?_⟩,?_⟩
   .simp only[Kd.cutA,Prod.mk.injEq,true_and]
    first | rfl | (rw[Qh Q5 Q5];rfl)
   .rw[c,Yw b,d];simp;omega
   .simp only[X64,Qw,List.length_take];omega
 .have e:decide ((2:Int)<=b.length)=false:=by simp only[decide_eq_false_iff_not];omega
  simp only[e,↓Mr,Mr,Mb,reduceIte];have d:arr b=false:=by simp[arr,f]
  rw[Yw b,d] at c;simp only[Bool.false_eq_true,if_false,Nat.zero_add] at c;rw[c] at h;exact h)
theorem Q7q (a:List UInt8):a.take (a.length-2*(base a).2)=(base a).1:=by
 have key: ∀n (a:List UInt8),a.take (a.length-2*(Uh n a).2)=(Uh n a).1:=by
  intro n
  induction n with
  | zero=>intro a;simp[Uh]
  | succ n b=>
   intro a;simp only[Uh]
   split
   .rename_i h
    have c:=Qz h;simp only;rw[<-b (Kd.cutA a)];rw[Kd.cutA,List.take_take,List.length_take]
    congr 1
    omega
   .simp
 exact key _ a
theorem Lv (a:List UInt8) (e:a.length<=140737488355328) (h:K (.bool (right a)) w):Q0 P F.f [S a] w K:=Q1k (by
 unfold Ex X8 X6 X2 X1;have f:=Q3W a;refine Kc a e ?_;rw[G5 Y8]
 (try simp only[↓Mr,Mr,Mb,reduceIte])
 rw[Qh (n:=2*((base a).2:Int)) Q5 Q5,Qh Q5 Q5,Xv Y8 Q5 Q5];rw[show ((a.length:Int)-2*((base a).2:Int)).toNat=a.length-2*(base a).2 from by omega,Q7q]
 (try simp only[↓Mr,Mr,Mb,reduceIte])
 by_cases c:(base a).2<=3
 .have b:decide (((base a).2:Int)<=3)=true:=by simp only[decide_eq_true_eq];omega
  simp only[b,↓Mr,Mr,Mb,reduceIte];refine Bq _ ?_;cases d:plain (base a).1
  ·(try simp only[↓Mr,Mr,Mb,reduceIte])
   refine Uf _ Q5 ?_
   (try simp only[↓Mr,Mr,Mb,reduceIte])
   simpa [right,c,d] using h
  ·(try simp only[↓Mr,Mr,Mb,reduceIte])
   simpa [right,c,d] using h
 .have b:decide (((base a).2:Int)<=3)=false:=by simp only[decide_eq_false_iff_not];omega
  simp only[b,↓Mr,Mr,Mb,reduceIte]
  simpa [right,c] using h)
theorem X6x {a:List UInt8} (h:arr a=true):2<=a.length:=by simp only[arr,Bool.and_eq_true,decide_eq_true_eq] at h;exact h.1
theorem Q83 {a:List UInt8} (h:arr a=true) (c:right a=true):3<=a.length:=by
 have d:=X6x h;refine Nat.lt_of_le_of_ne d fun e=>?_;have f:=Qz h;have b:Kd.cutA a=[]:=List.eq_nil_of_length_eq_zero Q5;simp only[right,Yw a,h,if_true,b] at c
 revert c;decide
theorem X5N (a:List UInt8) (e:a.length<=140737488355328) (h:K (S (elem a)) w):Q0 P F.bO [S a] w K:=Q2m (by
 unfold Rv X8 X6 X2 U6;rw[G5 Y8]
 (try simp only[↓Mr,Mr,Mb,reduceIte])
 by_cases j:a.length<3
 .have b:decide ((a.length:Int)<3)=true:=by simp only[decide_eq_true_eq];omega
  simp only[b,↓Mr,Mr,Mb,reduceIte]
  have g:elem a=[]:=by
   simp only[elem]
   split
   .rename_i hh
    simp only[Bool.and_eq_true] at hh;have:=Q83 hh.1 hh.2;omega
   .rfl
  rw[g] at h;exact h
 .have b:decide ((a.length:Int)<3)=false:=by simp only[decide_eq_false_iff_not];omega
  simp only[b,↓Mr,Mr,Mb,reduceIte];rw[Qh Q5 Q5,Mf Y8 Q5 Q5];rw[show ((a.length:Int)-2).toNat=a.length-2 from by omega]
  have f:decide (a.drop (a.length-2)=[91,93])=arr a:=by simp[arr];omega
  (try simp only[↓Mr,Mr,Mb,reduceIte])
  (try simp only[f,↓Mr,Mr,Mb,reduceIte])
  cases c:arr a
  ·(try simp only[↓Mr,Mr,Mb,reduceIte])
   simpa [elem,c] using h
  ·(try simp only[↓Mr,Mr,Mb,reduceIte])
   refine Kc a e ?_
   (try simp only[↓Mr,Mr,Mb,reduceIte])
   by_cases i:(base a).2<=3
   .have b:decide ((3:Int)<((base a).2:Int))=false:=by simp only[decide_eq_false_iff_not];omega
    simp only[b,↓Mr,Mr,Mb,reduceIte];refine Lv a e ?_;cases d:right a
    ·(try simp only[↓Mr,Mr,Mb,reduceIte])
     simpa [elem,c,d] using h
    ·(try simp only[↓Mr,Mr,Mb,reduceIte])
     try rw[Qh Q5 Q5]
     rw[Xv Y8 Q5 Q5];rw[show ((a.length:Int)-2).toNat=a.length-2 from by omega]
     simpa [elem,c,d,Kd.cutA] using h
   .have b:decide ((3:Int)<((base a).2:Int))=true:=by simp only[decide_eq_true_eq];omega
    simp only[b,↓Mr,Mr,Mb,reduceIte];have d:right a=false:=by simp[right,i]
    simpa [elem,c,d] using h)
def X7T (a:List UInt8) (w:World) (x:Value) (w':World):Prop:=
 w=w'/\ ∃n:Nat,x=I n/\n<=a.length/\(∀i,(h:i<n)->(b:i<a.length)->a[i]≠46)
def X3g (a:List UInt8) (x:Value):Nat:=match x with | .int _ n=>(a.length-n).toNat | _=>0
theorem Q81 (a:List UInt8) (L:a.length<=140737488355328) (h: ∀w',Below w.heap.size w w'->K (if (Zv a).2.2 then .tuple #[S (Zv a).1,S (Zv a).2.1, .bool (Vj a)] else .tuple #[S [],S [], .bool false]) w'):Q0 P F.bz [S a] w K:=Q1i (by
 unfold Ev;simp only[Y5,X5,M5,Ya];unfold U7 V6 X6 X2 X1;refine Mc (X7T a w) (fun x _=>X3g a x) ⟨rfl,0,rfl,by omega,by omega⟩ ?_
 rintro _ _ _ ⟨rfl,n,rfl,M,p⟩;rw[G5 Y8]
 (try simp only[↓Mr,Mr,Mb,reduceIte])
 by_cases D:n<a.length
 .have o:decide ((n:Int)<a.length)=true:=by simp only[decide_eq_true_eq];omega
  simp only[o,↓Mr,Mr,Mb,reduceIte];rw[Jn Y8 Q5 Q5]
  (try simp only[↓Mr,Mr,Mb,reduceIte])
  simp only[Int.toNat_natCast]
  have E:decide (((a[n]).toNat:Int)=46)=decide (a[n]=46):=by
   rw[Bool.eq_iff_iff];simp only[decide_eq_true_eq];constructor
   .intro e;exact UInt8.toNat_inj.1 (by have:(46:UInt8).toNat=46:=rfl;omega)
   .intro e;rw[e];rfl
  rw[E]
  by_cases m:a[n]=46
  .simp only[m,decide_true,↓Mr,Mr,Mb,reduceIte]
   have l:Zv a=(a.take n,a.drop (n+1),true):=by
    have:a.findIdx? (fun b=>decide (b=46))=some n:=by
     rw[List.findIdx?_eq_some_iff_getElem];exact ⟨D,by simpa using m,fun j H=>by simpa using p j H Q5⟩
    rw[Q0l,this];rfl
   have r:Vj a=(H7 (a.take n)&&C5 (a.drop (n+1))):=by simp[Vj,l]
   rw[l,r] at h;have s:((n:Int)+1).toNat=n+1:=by omega
   have u:(a.take n).length<=140737488355328:=by simp only[List.length_take];omega
   have v:(a.drop (n+1)).length<=140737488355328:=by simp only[List.length_drop];omega
   have z: ∀{w:World} {K:Value->World->Prop},K (S (a.take n)) w->G7 P T.b (S a) none (some (I n)) none w K:=by
    intro w K h;rw[Xv Y8 Q5 Q5,show ((n:Int)).toNat=n from by omega];exact h
   have A: ∀{w:World} {K:Value->World->Prop},K (S (a.drop (n+1))) w->G7 P T.b (S a) (some (I (n+1))) none none w K:=by
    intro w K h;rw[Mf Y8 Q5 Q5,s];exact h
   refine Sr (Below.refl _ _) ?_;refine X9 (S (a.take n)) (fun w c=>z (Y2 rfl)) ?_;refine X9 (I (n+1)) (fun w c=>Y2 (by rw[Qh Q5 Q5])) ?_
   refine X9 (S (a.drop (n+1))) (fun t w c e=>by rw[e];exact A (Y2 rfl)) ?_
   refine X9 (S (a.take n)) (fun w c=>z (Y2 rfl)) ?_;refine X9 (.bool (H7 (a.take n))) (fun t w c e=>by rw[e];exact Uf _ u (Y2 rfl)) ?_
   cases k:H7 (a.take n)
   .refine X9 undef (fun t w c e=>by rw[e,F8];exact Y2 rfl) ?_
    refine X9 undef (fun t w c e=>by rw[e,F8];exact Y2 rfl) ?_
    refine X9 undef (fun t f w c e d=>by rw[e,F8];exact Y2 rfl) ?_
    refine X9 undef (fun t f y w c e d g=>by rw[e,F8];exact Y2 rfl) ?_
    refine X9 undef (fun t f w c e d=>by rw[e,F8];exact Y2 rfl) ?_
    refine X9 (.bool false) (fun t f w c e d=>by rw[e,R9];exact Y2 rfl) ?_
    rintro _ _ _ _ _ _ _ _ _ _ _ w1 c rfl rfl rfl rfl rfl rfl rfl rfl rfl rfl rfl;rw[k] at h;exact h w1 (by simpa using c)
   .refine X9 (S a) (fun t w c e=>by rw[e,D6];exact Y2 rfl) ?_
    refine X9 (I n) (fun t w c e=>by rw[e,D6];exact Y2 rfl) ?_
    refine X9 (I (n+1)) (fun t f w c e d=>by rw[e,d,D6];simp only[↓Mr,Mr,Mb,reduceIte];exact Y2 (by rw[Qh Q5 Q5])) ?_
    refine X9 (S (a.drop (n+1))) (fun t f y w c e d g=>by rw[e,d,g,D6];exact A (Y2 rfl)) ?_
    refine X9 (.bool (C5 (a.drop (n+1)))) (fun t f w c e d=>by rw[e,d,D6];exact Q1y _ v (Y2 rfl)) ?_
    refine X9 (.bool (C5 (a.drop (n+1)))) (fun t f w c e d=>by rw[e,d,B5];exact Y2 rfl) ?_
    rintro _ _ _ _ _ _ _ _ _ _ _ w1 c rfl rfl rfl rfl rfl rfl rfl rfl rfl rfl rfl;rw[k] at h;exact h w1 (by simpa using c)
  .simp only[m,decide_false,↓Mr,Mr,Mb,reduceIte]
   rw[Qh Q5 Q5];refine ⟨⟨rfl,n+1,rfl,by omega,fun i B C=>?_⟩,?_⟩
   .by_cases q:i=n
    .subst q;exact m
    .exact p i Q5 C
   .simp only[X3g];omega
 .have o:decide ((n:Int)<a.length)=false:=by simp only[decide_eq_false_iff_not];omega
  simp only[o,↓Mr,Mr,Mb,reduceIte]
  have l:(Zv a).2.2=false/\(Zv a).1=a/\(Zv a).2.1=[]:=by
   have:a.findIdx? (fun b=>decide (b=46))=none:=by
    rw[List.findIdx?_eq_none_iff];intro x J;obtain ⟨i,B,rfl⟩:=List.getElem_of_mem J
    simpa using p i Q5 B
   rw[Q0l,this];exact ⟨rfl,rfl,rfl⟩
  rw[l.1] at h;exact h w (Below.refl _ _))
end Go.Proofs.Y
namespace Go.Emb
open Go.RowKit
class TZ (P : Program) (t : TypeId) (sz b : outParam Nat) (z : outParam Value) : Prop where
  h : (P.info? t).map (fun i => (i.size, i.bytes, i.zero)) = some (sz, b, some z)
def X3Y:Option TypeDesc->Bool
 | some (.struct _)=>true
 | some (.array _ _)=>true
 | none=>true
 | _=>false
class TG (P : Program) (t : TypeId) (g : outParam Bool) : Prop where
  h : (X3Y (P.underlying t), (P.underlying t).isSome) = (g, true)
class TS (P : Program) (t : TypeId) (e : outParam TypeId) : Prop where
  h : P.underlying t = some (.slice e)
class TA (P : Program) (t : TypeId) (n : outParam Nat) (e : outParam TypeId) : Prop where
  h : P.underlying t = some (.array n e)
class TM (P : Program) (t : TypeId) (k e : outParam TypeId) : Prop where
  h : P.underlying t = some (.map k e)
def Q71 (d:Option TypeDesc) (k:Nat):Option (Nat×TypeId):=match d with
 | some (.struct a)=>(a[k]?).map fun f=>(f.offset,f.type)
 | _=>none
class TF (P : Program) (t : TypeId) (k : Nat) (off : outParam Nat) (ft : outParam TypeId) : Prop where
  h : Q71 (P.underlying t) k = some (off, ft)
variable {P : Program} {w w0 w' w'' : World} {K : Value -> World -> Prop}
theorem TZ.info {t:TypeId} {sz b:Nat} {z:Value} (h:TZ P t sz b z): ∃i,P.info? t=some i/\i.size=sz/\i.bytes=b/\i.zero=some z:=by
 obtain ⟨i,a,e⟩:=Option.map_eq_some_iff.1 h.h;simp only[Prod.mk.injEq] at e;exact ⟨i,a,e.1,e.2.1,e.2.2⟩
theorem D9 {t:TypeId} {sz b:Nat} {z:Value} (h:TZ P t sz b z) (w:World):(sizeOf t).run P w= .ok sz w:=by
 obtain ⟨i,a,rfl,_⟩:=h.info
 simp[sizeOf,typeInfo,a]
theorem Xz {t:TypeId} {sz b:Nat} {z:Value} (h:TZ P t sz b z) (w:World):(zeroValue t).run P w= .ok z w:=by
 obtain ⟨i,a,_,_,c⟩:=h.info
 simp[zeroValue,typeInfo,a,c]
theorem Jw {t:TypeId} {g:Bool} (h:TG P t g) (w:World):(isAgg t).run P w= .ok g w:=by
 have hh:=h.h;simp only[Prod.mk.injEq] at hh;obtain ⟨c,b⟩:=hh;cases a:P.underlying t with
 | none=>rw[a] at b;cases b
 | some d=>
  rw[a] at c;have:=run_underlying (P:=P) (w:=w) a;simp only[isAgg,Sem.run_bind,this,Result.andThen_ok];cases d<;>simp_all [X3Y]
theorem Q6G (a:Addr) (i j:Nat):(a.add i).add j=a.add (i+j):=by
 unfold Addr.add
 by_cases b:i=0
 .simp[b]
 .by_cases c:j=0
  .simp[c]
  .simp[b,c,Nat.add_assoc]
theorem add_zero (a:Addr):a.add 0=a:=by simp[Addr.add]
theorem I4 (a:Addr) (i:Nat):(a.add i).block=a.block:=by unfold Addr.add;split<;>rfl
theorem Yv (a:Addr) (i:Nat):(a.add i).off=a.off+i:=by unfold Addr.add;split<;>simp_all
theorem Qt {a:Addr} (h:a.spot=none) (i:Nat):(a.add i).spot=none:=by unfold Addr.add;split<;>simp_all
abbrev Q2:=Nat->Option Obj
def X3 (w:World) (σ:Q2):Prop:= ∀b o,σ b=some o->w.heap[b]? =some o
structure Stp (w : World) (σ : Q2) (w' : World) (σ' : Q2) : Prop where
  bel : Below w.heap.size w w'
  sat : X3 w' σ'
  le : ∀ b o, σ b = some o -> σ' b = some o
  old : ∀ b, b < w.heap.size -> σ' b = σ b
theorem X3.lt {σ:Q2} (h:X3 w σ) {b:Nat} {o:Obj} (a:σ b=some o):b<w.heap.size:=(Array.getElem?_eq_some_iff.1 (h b o a)).1
theorem X3.below {σ:Q2} (h:X3 w σ) (a:Below w.heap.size w w'):X3 w' σ:=fun b o e=>(a.block b (h.lt e)).trans (h b o e)
theorem Stp.refl {σ:Q2} (h:X3 w σ):Stp w σ w σ:=⟨Below.refl _ _,h,fun _ _ e=>e,fun _ _=>rfl⟩
theorem Stp.trans {σ0 σ1 c:Q2} (h:Stp w σ0 w' σ1) (k:Stp w' σ1 w'' c):Stp w σ0 w'' c:=
 ⟨h.bel.trans (k.bel.mono h.bel.size),k.sat,fun b o e=>k.le b o (h.le b o e),fun b a=>(k.old b (Nat.lt_of_lt_of_le a h.bel.size)).trans (h.old b a)⟩
theorem Stp.of_below {σ:Q2} (h:X3 w σ) (a:Below w.heap.size w w'):Stp w σ w' σ:=⟨a,h.below a,fun _ _ e=>e,fun _ _=>rfl⟩
def Q2.put (σ:Q2) (b:Nat) (o:Obj):Q2:=fun k=>if k=b then some o else σ k
theorem X3.none {σ:Q2} (h:X3 w σ) {b:Nat} (a:w.heap.size<=b):σ b=none:=by
 cases e:σ b with
 | none=>rfl
 | some o=>have:=h.lt e;omega
theorem Stp.alloc {σ:Q2} (h:X3 w σ) (o:Obj):Stp w σ (w.alloc o) (σ.put w.heap.size o):=by
 refine ⟨(Below.refl _ _).alloc (Nat.le_refl _) o,?_,?_,?_⟩
 .intro b p e
  by_cases a:b=w.heap.size
  .subst a
   simp only[Q2.put,if_true] at e;cases e;exact heap_alloc_new w o
  .simp only[Q2.put,if_neg a] at e
   rw[Below.heap_alloc w o b (h.lt e)];exact h b p e
 .intro b p e
  have:=h.lt e;simp only[Q2.put];rw[if_neg Q5];exact e
 .intro b a
  simp only[Q2.put];rw[if_neg Q5]
theorem Stp.own {σ:Q2} (h:X3 w σ) (o:Obj):Stp w σ (w.alloc o) σ:=Stp.of_below h ((Below.refl _ _).alloc (Nat.le_refl _) o)
def U1 (σ:Q2) (a:Addr) (cs:List Value):Prop:=a.spot=none/\ ∃arr e b,σ a.block=some (.cells arr e b)/\ ∀i v,cs[i]? =some v->arr[a.off+i]? =some v
theorem U1.up {σ σ':Q2} {a:Addr} {cs:List Value} (h:U1 σ a cs) (g:Stp w σ w' σ'):U1 σ' a cs:=by
 obtain ⟨c,arr,e,b,d,f⟩:=h;exact ⟨c,arr,e,b,g.le _ _ d,f⟩
theorem U1.cell {σ:Q2} {a:Addr} {cs:List Value} (h:U1 σ a cs) (f:X3 w σ) {i:Nat} {v:Value} (g:cs[i]? =some v):w.cell? (a.add i)=some v:=by
 obtain ⟨b,arr,e,j,c,d⟩:=h;have:=f _ _ c;unfold World.cell?;rw[I4,this,Yv,Qt b];exact d i v g
def Z0 (σ:Q2) (w:World) (b:Nat) (cs:List Value):Prop:=σ b=none/\ ∃e,w.heap[b]? =some (.cells cs.toArray e (0,0))
theorem Z0.lt {σ:Q2} {b:Nat} {cs:List Value} (h:Z0 σ w b cs):b<w.heap.size:=by
 obtain ⟨_,e,h⟩:=h;exact (Array.getElem?_eq_some_iff.1 h).1
theorem Z0.up {σ σ':Q2} {b:Nat} {cs:List Value} (h:Z0 σ w b cs) (a:Stp w σ w' σ'):Z0 σ' w' b cs:=by
 have c:=h.lt;obtain ⟨d,e,f⟩:=h;exact ⟨(a.old b c).trans d,e,(a.bel.block b c).trans f⟩
theorem Z0.cell {σ:Q2} {b:Nat} {cs:List Value} (h:Z0 σ w b cs) {i:Nat} {v:Value} (c:cs[i]? =some v):w.cell? ((⟨b,0,none⟩:Addr).add i)=some v:=by
 obtain ⟨_,e,a⟩:=h;unfold World.cell?;rw[I4,Yv,Qt rfl];simp only[a]
 simpa using c
theorem Z0.keep {σ σ0:Q2} {b:Nat} {cs:List Value} (h:Z0 σ w b cs) (d:Stp w0 σ0 w σ) (m:w0.heap.size<=b): ∃σ',Stp w0 σ0 w σ'/\U1 σ' ⟨b,0,none⟩ cs/\(∀k o,σ k=some o->σ' k=some o)/\(∀k,k≠b->σ' k=σ k):=by
 obtain ⟨g,e,j⟩:=h;refine ⟨σ.put b (.cells cs.toArray e (0,0)),⟨d.bel,?_,?_,?_⟩,⟨rfl,cs.toArray,e,(0,0),by simp[Q2.put],?_⟩,?_,?_⟩
 .intro k o c
  by_cases a:k=b
  .subst a;simp only[Q2.put,if_true] at c;cases c;exact j
  .simp only[Q2.put,if_neg a] at c;exact d.sat k o c
 .intro k o c
  by_cases a:k=b
  .subst a;have:=d.le _ _ c;rw[g] at this;cases this
  .simp only[Q2.put,if_neg a];exact d.le _ _ c
 .intro k f
  simp only[Q2.put];rw[if_neg Q5];exact d.old k f
 .intro i v l;simpa using l
 .intro k o c
  by_cases a:k=b
  .subst a;rw[g] at c;cases c
  .simp only[Q2.put,if_neg a];exact c
 .intro k a;simp only[Q2.put,if_neg a]
theorem X1K (t:TypeId) (v:Value) (w:World):(Instr.box t v).run P w= .ok (.pointer (some ⟨w.heap.size,0,none⟩)) (w.alloc (.cells v.cells t)):=by
 simp[Instr.box,newVar,newRow]
theorem Q69 {σ:Q2} (a:X3 w σ) (cs:Array Value) (t:TypeId):Z0 σ (w.alloc (.cells cs t)) w.heap.size cs.toList:=
 ⟨a.none (Nat.le_refl _),t,by simpa using heap_alloc_new w (.cells cs t)⟩
theorem X2y {σ:Q2} (cs:Array Value) (t:TypeId):U1 (σ.put w.heap.size (.cells cs t)) ⟨w.heap.size,0,none⟩ cs.toList:=
 ⟨rfl,cs,t,(0,0),by simp[Q2.put],fun i v h=>by simpa using h⟩
theorem B6 {σ:Q2} {t:TypeId} {v:Value} (b:X3 w σ) (h: ∀a w' σ',Stp w σ w' σ'->U1 σ' a v.cells.toList->K (.pointer (some a)) w'):box P t v w K:=by
 unfold box;rw[Y4 (X1K t v w)];exact h _ _ _ (Stp.alloc b _) (X2y _ t)
theorem Q8Q {σ:Q2} {t:TypeId} {v:Value} (a:X3 w σ) (h: ∀b w',w.heap.size<=b->Stp w σ w' σ->Z0 σ w' b v.cells.toList->K (.pointer (some ⟨b,0,none⟩)) w'):box P t v w K:=by
 unfold box;rw[Y4 (X1K t v w)];exact h _ _ (Nat.le_refl _) (Stp.own a _) (Q69 a _ t)
theorem Q0e {σ:Q2} {t:TypeId} {sz a:Nat} {z:Value} [tz:TZ P t sz a z] (c:X3 w σ) (h: ∀b w',w.heap.size<=b->Stp w σ w' σ->Z0 σ w' b z.cells.toList->K (.pointer (some ⟨b,0,none⟩)) w'):T4 P t w K:=by
 unfold T4
 have:(Instr.alloc t true (.tuple #[])).run P w= .ok (.pointer (some ⟨w.heap.size,0,none⟩)) (w.alloc (.cells z.cells t)):=by
  simp[Instr.alloc,Xz tz,newVar,newRow]
 rw[Y4 this];exact h _ _ (Nat.le_refl _) (Stp.own c _) (Q69 c _ t)
theorem Yx {t:TypeId} [tg:TG P t false] {a:Addr} {v:Value} (b:w.cell? a=some v) (h:K v w):Q8 P t (.pointer (some a)) w K:=by
 unfold Q8;rw[Y4 (v:=v) (w':=w) (by simp[Instr.loadAt,Instr.sureAddr,loadVar,Jw tg,b])]
 exact h
theorem Q0u {t:TypeId} {sz b:Nat} {z:Value} [tg:TG P t true] [tz:TZ P t sz b z] {a:Addr} {cs:List Value} (d:cs.length=sz) (c: ∀j v,cs[j]? =some v->w.cell? (a.add j)=some v) (h:K (.agg cs.toArray) w):Q8 P t (.pointer (some a)) w K:=by
 unfold Q8;have:=run_loadCells_list (P:=P) w a cs c;rw[d] at this;rw[Y4 (v:= .agg cs.toArray) (w':=w) (by simp[Instr.loadAt,Instr.sureAddr,loadVar,Jw tg,D9 tz,this])]
 exact h
theorem ld {σ:Q2} {t:TypeId} [TG P t false] {a:Addr} {cs:List Value} {i:Nat} {v:Value} (c:X3 w σ) (b:U1 σ a cs) (d:cs[i]? =some v) (h:K v w):Q8 P t (.pointer (some (a.add i))) w K:=
 Yx (b.cell c d) h
theorem Y3 {σ:Q2} {t:TypeId} [TG P t false] {a:Addr} {cs:List Value} {v:Value} (c:X3 w σ) (b:U1 σ a cs) (d:cs[0]? =some v) (h:K v w):Q8 P t (.pointer (some a)) w K:=by
 have:=ld (P:=P) (t:=t) c b d h
 rwa [add_zero] at this
theorem Z2 {σ:Q2} {t:TypeId} {sz b:Nat} {z:Value} [TG P t true] [TZ P t sz b z] {a:Addr} {cs:List Value} (f:X3 w σ) (c:U1 σ a cs) (d:cs.length=sz) (h:K (.agg cs.toArray) w):Q8 P t (.pointer (some a)) w K:=
 Q0u d (fun _ _ g=>c.cell f g) h
theorem Ys {σ:Q2} {t:TypeId} [TG P t false] {b:Nat} {cs:List Value} {i:Nat} {v:Value} (a:Z0 σ w b cs) (c:cs[i]? =some v) (h:K v w):Q8 P t (.pointer (some ((⟨b,0,none⟩:Addr).add i))) w K:=
 Yx (a.cell c) h
theorem Q3i {σ:Q2} {t:TypeId} [TG P t false] {b:Nat} {cs:List Value} {v:Value} (a:Z0 σ w b cs) (c:cs[0]? =some v) (h:K v w):Q8 P t (.pointer (some ⟨b,0,none⟩)) w K:=by
 have:=Ys (P:=P) (t:=t) a c h
 rwa [add_zero] at this
theorem By {σ:Q2} {t:TypeId} {sz a:Nat} {z:Value} [TG P t true] [TZ P t sz a z] {b:Nat} {cs:List Value} (d:Z0 σ w b cs) (c:cs.length=sz) (h:K (.agg cs.toArray) w):Q8 P t (.pointer (some ⟨b,0,none⟩)) w K:=
 Q0u c (fun _ _ f=>d.cell f) h
theorem W9 {t:TypeId} {sz a:Nat} {z:Value} [tg:TG P t true] [tz:TZ P t sz a z] {σ:Q2} {b:Nat} {cs:List Value} {K:Value->Prop} (d:Z0 σ w b cs) (c:cs.length=sz) (h:K (.agg cs.toArray)):Z9 P t (.pointer (some ⟨b,0,none⟩)) w K:=by
 rw[Q6q];refine ⟨_,?_,h⟩;have:=run_loadCells_list (P:=P) w ⟨b,0,none⟩ cs (fun _ _ f=>d.cell f);rw[c] at this
 simp[asAddr,loadVar,Jw tg,D9 tz,this]
structure Upd (w : World) (b : Nat) (w' : World) : Prop where
  os : w'.os = w.os
  tape : w'.tape = w.tape
  output : w'.output = w.output
  size : w'.heap.size = w.heap.size
  block : ∀ k, k ≠ b -> w'.heap[k]? = w.heap[k]?
theorem Upd.stp {σ0 σ:Q2} {b:Nat} (c:Upd w b w') (a:Stp w0 σ0 w σ) (h:w0.heap.size<=b) (g:σ b=none):Stp w0 σ0 w' σ:=by
 refine ⟨⟨c.os.trans a.bel.os,c.tape.trans a.bel.tape,c.output.trans a.bel.output,by rw[c.size];exact a.bel.size,fun k f=>(c.block k Q5).trans (a.bel.block k f)⟩,?_,a.le,a.old⟩
 intro k o d;rw[c.block k (by intro e;subst e;rw[g] at d;cases d)]
 exact a.sat k o d
theorem Z0.upd {σ:Q2} {b k:Nat} {cs:List Value} (h:Z0 σ w k cs) (f:Upd w b w') (a:k≠b):Z0 σ w' k cs:=by
 obtain ⟨c,e,d⟩:=h;exact ⟨c,e,(f.block k a).trans d⟩
theorem Mg {b:Nat} {cs:Array Value} {a:Array Value} {e:TypeId} (h:w.heap[b]? =some (.cells a e (0,0))):Upd w b (w.setRow b cs)/\(w.setRow b cs).heap[b]? =some (.cells cs e (0,0)):=by
 have d:=(Array.getElem?_eq_some_iff.1 h).1;refine ⟨⟨rfl,rfl,rfl,by simp[World.setRow],fun k c=>?_⟩,?_⟩
 .simp only[World.setRow,Array.getElem?_modify]
  rw[if_neg Q5]
 .simp only[World.setRow,Array.getElem?_modify,if_true,h]
  rfl
theorem My {t:TypeId} {sz a:Nat} {z:Value} [tz:TZ P t sz a z] {σ:Q2} {b:Nat} {cs ds:List Value} (l:Z0 σ w b cs) (k:cs.length=sz) (f:ds.length=sz) (g:ds.toArray.all (·.oneCell')=true)
 (h: ∀w',Upd w b w'->Z0 σ w' b ds->K undef w'):U3 P t (.pointer (some ⟨b,0,none⟩)) (.agg ds.toArray) w K:=by
 obtain ⟨n,e,d⟩:=l;unfold U3;obtain ⟨i,j,c,_⟩:=tz.info;have:=run_storeVar_row (P:=P) w b e t cs.toArray ds.toArray d (by simp[j,c,f]) (by simp[k,f]) g
 rw[Vn (w':=w.setRow b ds.toArray) (by simpa [Instr.storeAt,Instr.sureAddr] using this)]
 obtain ⟨m,hh⟩:=Mg (cs:=ds.toArray) d;exact h _ m ⟨n,e,hh⟩
theorem X1N {cs:List Value} {i:Nat} {v:Value} (a:i<cs.length):(cs.take i++[v]++cs.drop (i+1))=cs.set i v:=by
 rw[List.set_eq_take_append_cons_drop,if_pos a];simp
theorem Vh {t:TypeId} {c:Nat} {z:Value} [tz:TZ P t 1 c z] {σ:Q2} {b i:Nat} {cs:List Value} {v:Value} (l:Z0 σ w b cs) (k:i<cs.length) (j:v.cells= #[v]) (g:v.oneCell'=true)
 (h: ∀w',Upd w b w'->Z0 σ w' b (cs.set i v)->K undef w'):U3 P t (.pointer (some ((⟨b,0,none⟩:Addr).add i))) v w K:=by
 obtain ⟨n,e,d⟩:=l;unfold U3;have a:(⟨b,0,none⟩:Addr).add i=⟨b,i,none⟩:=by unfold Addr.add;split<;>simp_all
 have:=run_storeCells_at P b i e [v] 0 cs.toArray w d (by simp;omega) (by simpa using g)
 simp only[Nat.add_zero] at this;obtain ⟨m,hh⟩:=Mg (cs:=(cs.set i v).toArray) d
 have f:(List.take i cs.toArray.toList++[v]++List.drop (i+[v].length) cs.toArray.toList).toArray=(cs.set i v).toArray:=by
  rw[<-X1N k];simp
 rw[f] at this;rw[Vn (w':=w.setRow b (cs.set i v).toArray) (by simp[Instr.storeAt,Instr.sureAddr,a,storeVar,D9 tz,j,this])]
 exact h _ m ⟨n,e,hh⟩
theorem st0 {t:TypeId} {a:Nat} {z:Value} [tz:TZ P t 1 a z] {σ:Q2} {b:Nat} {cs:List Value} {v:Value} (g:Z0 σ w b cs) (f:0<cs.length) (d:v.cells= #[v]) (c:v.oneCell'=true)
 (h: ∀w',Upd w b w'->Z0 σ w' b (cs.set 0 v)->K undef w'):U3 P t (.pointer (some ⟨b,0,none⟩)) v w K:=by
 have:=Vh (P:=P) (t:=t) g f d c h
 rwa [add_zero] at this
class NZ (n : Nat) : Prop where
  h : (n == 0) = false
instance (n:Nat):NZ (n+1):=⟨rfl⟩
theorem fa {t:TypeId} {k b:Nat} {d:TypeId} {sz c:Nat} {z:Value} [tf:TF P t k b d] [tz:TZ P d sz c z] [nz:NZ sz] {a:Addr}:fieldAddr P t (.pointer (some a)) k w K=K (.pointer (some (a.add b))) w:=by
 unfold fieldAddr;have hh:=tf.h;unfold Q71 at hh
 split at hh
 .rename_i o n
  obtain ⟨f,m,g⟩:=Option.map_eq_some_iff.1 hh;simp only[Prod.mk.injEq] at g;obtain ⟨j,l⟩:=g;subst l j;have i: ¬sz=0:=by simpa using nz.h
  exact Y4 (by simp[Instr.fieldAt,run_underlying n,m,Instr.sureAddr,fieldPlace,D9 tz,i])
 .cases hh
theorem Ib {t e:TypeId} {sz b:Nat} {z:Value} [ts:TS P t e] [tz:TZ P e sz b z] {a:Addr} {n c:Nat} {k:IntKind} {i:Int} (d:0<=i) (f:i<n):indexAddr P t (.slice (some a) n c) (.int k i) w K=K (.pointer (some (a.add (i.toNat*sz)))) w:=by
 unfold indexAddr;exact Y4 (by simp[Instr.indexAt,run_underlying ts.h,asIntOf,D9 tz,d,f])
theorem Q9o {t e:TypeId} {n sz b:Nat} {z:Value} [ta:TA P t n e] [tz:TZ P e sz b z] {a:Addr} {k:IntKind} {i:Int} (c:0<=i) (d:i<n):indexAddr P t (.pointer (some a)) (.int k i) w K=K (.pointer (some (a.add (i.toNat*sz)))) w:=by
 unfold indexAddr;exact Y4 (by simp[Instr.indexAt,run_underlying ta.h,asIntOf,Instr.sureAddr,D9 tz,c,d])
theorem E4 {a:Addr}:nilCheck P (.pointer (some a)) w K=K (.pointer (some a)) w:=by
 unfold nilCheck;rw[Xu];unfold Xm
 simp[execOp]
class Rep {α : Type} (R : Q2 -> α -> List Value -> Prop) : Prop where
  up : ∀ {σ σ' : Q2} {x : α} {cs : List Value}, (∀ b o, σ b = some o -> σ' b = some o) -> R σ x cs -> R σ' x cs
  one : ∀ {σ : Q2} {x : α} {cs : List Value}, R σ x cs -> ∀ u ∈ cs, u.oneCell' = true
def Sl {α:Type} (sz:Nat) (R:Q2->α->List Value->Prop) (σ:Q2) (v:Value) (xs:List α):Prop:=
 ∃a c,v= .slice a xs.length c/\xs.length<=c/\c<=maxLen/\(a=none->c=0)/\
  ∀b,a=some b->(0<xs.length->b.spot=none)/\ ∀i x,xs[i]? =some x-> ∃cs,U1 σ (b.add (i*sz)) cs/\cs.length=sz/\R σ x cs
theorem U1.le {σ σ':Q2} {a:Addr} {cs:List Value} (h:U1 σ a cs) (i: ∀b o,σ b=some o->σ' b=some o):U1 σ' a cs:=by
 obtain ⟨d,arr,e,c,f,g⟩:=h;exact ⟨d,arr,e,c,i _ _ f,g⟩
variable {α : Type} {R : Q2 -> α -> List Value -> Prop} {sz : Nat} {σ σ' : Q2} {v : Value} {xs : List α}
theorem Sl.le [hr:Rep R] (h:Sl sz R σ v xs) (g: ∀b o,σ b=some o->σ' b=some o):Sl sz R σ' v xs:=by
 obtain ⟨a,c,m,n,p,q,d⟩:=h;refine ⟨a,c,m,n,p,q,fun b f=>⟨(d b f).1,fun i x r=>?_⟩⟩;obtain ⟨cs,j,k,l⟩:=(d b f).2 i x r;exact ⟨cs,j.le g,k,hr.up g l⟩
theorem Sl.up [Rep R] (h:Sl sz R σ v xs) (a:Stp w σ w' σ'):Sl sz R σ' v xs:=h.le a.le
theorem Sl.max (h:Sl sz R σ v xs):xs.length<=9223372036854775807:=by
 obtain ⟨a,b,d,f,c,g⟩:=h;simp only[maxLen] at c;omega
theorem Sl.nil:Sl sz R σ (.slice none 0 0) ([]:List α):=⟨none,0,rfl,by simp,by simp,fun _=>rfl,fun b a=>by cases a⟩
theorem Q4a {c e t:TypeId} {cs:List Bool} [ts:TS P c e] {a:Option Addr} {n b:Nat}:J7 P .len [c] t cs [.slice a n b] w K=K (I n) w:=by
 have h:(Builtin.len_ #[c] t #[.slice a n b]).run P w= .ok (I n) w:=by
  simp[Builtin.len_,run_underlying ts.h,goInt]
 exact Y4 h
theorem X8y {b e t:TypeId} {cs:List Bool} [ts:TS P b e] (h:Sl sz R σ v xs):J7 P .len [b] t cs [v] w K=K (I xs.length) w:=by
 obtain ⟨a,c,rfl,_⟩:=h;exact Q4a
theorem X99 {t e:TypeId} {c:Nat} {z:Value} [TS P t e] [TZ P e sz c z] (h:Sl sz R σ v xs) {k:IntKind} {i:Int} (l:0<=i) (m:i.toNat<xs.length)
 (p: ∀a cs,U1 σ a cs->cs.length=sz->R σ xs[i.toNat] cs->K (.pointer (some a)) w):indexAddr P t v (.int k i) w K:=by
 obtain ⟨a,d,rfl,q,r,n,o⟩:=h;cases a with
 | none=>have:=n rfl;omega
 | some b=>
  rw[Ib l Q5];obtain ⟨cs,f,g,j⟩:=(o b rfl).2 i.toNat xs[i.toNat] (by simp[m])
  exact p _ cs f g j
theorem Stp.turn {σ0 σ:Q2} {row:Option Nat} (b:w.grownBy w' row) (a:Stp w0 σ0 w σ) (f: ∀k,row=some k->w0.heap.size<=k/\σ k=none):Stp w0 σ0 w' σ:=by
 refine ⟨⟨b.os.trans a.bel.os,b.tape.trans a.bel.tape,b.output.trans a.bel.output,Nat.le_trans a.bel.size b.size,fun k d=>?_⟩,?_,a.le,a.old⟩
 .refine (b.block k (Nat.lt_of_lt_of_le d a.bel.size) ?_).trans (a.bel.block k d)
  intro e;have:=(f k e.symm).1;omega
 .intro k o c
  refine (b.block k (a.sat.lt c) ?_).trans (a.sat k o c);intro e;rw[(f k e.symm).2] at c;cases c
theorem Z0.turn {σ:Q2} {row:Option Nat} {k:Nat} {cs:List Value} (h:Z0 σ w k cs) (d:w.grownBy w' row) (a:some k≠row):Z0 σ w' k cs:=by
 have f:=h.lt;obtain ⟨b,e,c⟩:=h;exact ⟨b,e,(d.block k f a).trans c⟩
def W2 {α:Type} (B:Nat) (e:TypeId) (sz:Nat) (R:Q2->α->List Value->Prop) (σ:Q2) (w:World) (v:Value) (xs:List α):Prop:=
 ∃cells,w.ownsRow B e sz v xs.length cells/\(∀k,v.ownBlock=some k->σ k=none)/\ ∀i x,xs[i]? =some x->R σ x ((cells.drop (i*sz)).take sz)
variable {B : Nat} {e : TypeId} {u : Value} {ys : List α}
theorem W2.nil:W2 B e sz R σ w (.slice none 0 0) ([]:List α):=⟨[],World.ownsRow_nil w B e sz,by intro k a;simp[Value.ownBlock] at a,by intro i x h;simp at h⟩
theorem W2.mem (h:W2 B e sz R σ w v xs): ∀k,v.ownBlock=some k->B<=k/\k<w.heap.size/\σ k=none:=by
 obtain ⟨cells,d,f,_⟩:=h;intro k c;obtain ⟨a,b⟩:=d.lt k c;exact ⟨a,b,f k c⟩
theorem W2.up [hr:Rep R] (h:W2 B e sz R σ w v xs) (a:Stp w σ w' σ'):W2 B e sz R σ' w' v xs:=by
 obtain ⟨cells,c,d,f⟩:=h;refine ⟨cells,c.kept ⟨a.bel.os,a.bel.tape,a.bel.output,a.bel.size,fun k g _=>a.bel.block k g⟩ (by cases b:v.ownBlock<;>simp) (row:=none),?_,fun i x j=>hr.up a.le (f i x j)⟩
 intro k b;rw[a.old k (c.lt k b).2];exact d k b
theorem Sl.cells (h:Sl sz R σ v xs) (D:X3 w σ) [hr:Rep R]: ∃(a:Option Addr) (c:Nat) (news:List Value),v= .slice a xs.length c/\(a=none->c=0)/\news.length=xs.length*sz/\(∀b,a=some b-> ∀j u,news[j]? =some u->w.cell? (b.add j)=some u)/\(∀u∈news,u.oneCell'=true)/\
 ∀i x,xs[i]? =some x->R σ x ((news.drop (i*sz)).take sz):=by
 obtain ⟨a,c,rfl,M,N,f,t⟩:=h;cases a with
 | none=>
  have L:=f rfl;have d:xs=[]:=List.eq_nil_of_length_eq_zero Q5;subst d;exact ⟨none,c,[],rfl,f,by simp,fun b C=>(by cases C),by simp,by simp⟩
 | some b=>
  obtain ⟨E,l⟩:=t b rfl;clear t
  have key: ∀(ys:List α) (k:Nat),(∀i x,ys[i]? =some x-> ∃cs,U1 σ (b.add ((k+i)*sz)) cs/\cs.length=sz/\R σ x cs)->
   ∃news:List Value,news.length=ys.length*sz/\(∀j u,news[j]? =some u->w.cell? (b.add (k*sz+j))=some u)/\(∀u∈news,u.oneCell'=true)/\ ∀i x,ys[i]? =some x->R σ x ((news.drop (i*sz)).take sz):=by
   intro ys
   induction ys with
   | nil=>intro k _;exact ⟨[],by simp,by simp,by simp,by simp⟩
   | cons y r H=>
    intro k z;obtain ⟨cs,A,q,s⟩:=z 0 y rfl
    obtain ⟨news,m,n,o,p⟩:=H (k+1) (fun i x d=>by
     have:=z (i+1) x (by simpa using d)
     rwa [show k+1+i=k+(i+1) by omega])
    refine ⟨cs++news,by simp[m,q,Nat.add_mul,Nat.add_comm],?_,?_,?_⟩
    .intro j u hu
     by_cases O:j<sz
     .rw[List.getElem?_append_left Q5] at hu
      have:=A.cell D hu
      rwa [Q6G,Nat.add_zero] at this
     .rw[List.getElem?_append_right Q5] at hu
      have:=n _ _ hu
      rwa [q,show (k+1)*sz+(j-sz)=k*sz+j by rw[Nat.add_mul];omega] at this
    .intro u hu
     rcases List.mem_append.1 hu with hu | hu
     .exact hr.one s u hu
     .exact o u hu
    .intro i x d
     cases i with
     | zero=>
      simp at d;subst d
      simp only[Nat.zero_mul,List.drop_zero];rw[List.take_append_of_le_length Q5,List.take_of_length_le Q5];exact s
     | succ i=>
      have:=p i x (by simpa using d)
      rw[show (i+1)*sz=cs.length+i*sz by rw[Nat.add_mul];omega,List.drop_append]
      simpa [List.drop_eq_nil_of_le] using this
  obtain ⟨news,m,n,o,p⟩:=key xs 0 (fun i x d=>by rw[Nat.zero_add];exact l i x d)
  refine ⟨some b,c,news,rfl,f,m,?_,o,p⟩;intro J g j u hu;cases g;have:=n j u hu
  rwa [Nat.zero_mul,Nat.zero_add] at this
variable {σ0 : Q2}
theorem Oq (cells news:List Value) (n i:Nat) (b:cells.length=n*sz) (a:i<n):((cells++news).drop (i*sz)).take sz=(cells.drop (i*sz)).take sz:=by
 have h:i*sz+sz<=n*sz:=by rw[<-Nat.succ_mul];exact Nat.mul_le_mul_right _ a
 rw[List.drop_append_of_le_length Q5,List.take_append_of_le_length (by simp only[List.length_drop];omega)]
theorem app {t y:TypeId} {n:Nat} {z:Value} {cs:List Bool} [ts:TS P t e] [tz:TZ P e sz n z] [hr:Rep R] (A:Stp w0 σ0 w σ) (ha:W2 w0.heap.size e sz R σ w v xs) (U:Sl sz R σ u ys) (M:(z.cells.size==sz&&decide (0<sz))=true)
 (hb:(xs.length+ys.length)*n<=140737488355328) (hm:xs.length+ys.length<=9223372036854775807)
 (h: ∀d w',w.grownBy w' v.ownBlock->Stp w0 σ0 w' σ->W2 w0.heap.size e sz R σ w' d (xs++ys)->(d.ownBlock=v.ownBlock\/ ∀k,d.ownBlock=some k->w.heap.size<=k)->K d w'):J7 P .append [t,t] y cs [v,u] w K:=by
 obtain ⟨cells,r,O,h3⟩:=ha;obtain ⟨a,f,news,rfl,V,W,n3,n4,n5⟩:=U.cells A.sat;obtain ⟨i,H,L,D,q⟩:=tz.info
 have o: ∀d w',(Builtin.append_ #[t,t] y #[v, .slice a ys.length f]).run P w= .ok d w'->w'.ownsRow w0.heap.size e sz d (xs.length+ys.length) (cells++news)->w.grownBy w' v.ownBlock->(d.ownBlock=v.ownBlock\/d.ownBlock=some w.heap.size)->J7 P .append [t,t] y cs [v, .slice a ys.length f] w K:=by
  intro d w' s c l hat
  have p:(builtin .append #[t,t] y cs.toArray #[v, .slice a ys.length f]).run P w= .ok (.value d) w':=by
   simp[builtin,s]
  unfold J7;rw[Xu];unfold Xm;rw[p];refine h d w' l (Stp.turn l A fun k m=>⟨(r.lt k m).1,O k m⟩) ⟨cells++news,by rw[List.length_append];exact c,?_,?_⟩ ?_
  .intro k m
   rcases hat with hat | hat
   .exact O k (hat▸m)
   .rw[hat] at m;cases m;exact A.sat.none (Nat.le_refl _)
  .intro j x C
   by_cases Q:j<xs.length
   .rw[List.getElem?_append_left Q] at C
    rw[Oq cells news xs.length j r.1 Q];exact h3 j x C
   .rw[List.getElem?_append_right Q5] at C
    have:=n5 _ _ C;rw[show j*sz=cells.length+(j-xs.length)*sz by rw[r.1,<-Nat.add_mul];congr 1;omega,List.drop_append]
    simpa [List.drop_eq_nil_of_le] using this
  .rcases hat with hat | hat
   .exact .inl hat
   .right;intro k m;rw[hat] at m;cases m;exact Nat.le_refl _
 simp only[Bool.and_eq_true,beq_iff_eq,decide_eq_true_eq] at M;cases a with
 | some b=>
  obtain ⟨d,w',g1,g2,g3,_,g5⟩:=run_append_own_at (P:=P) w w0.heap.size t y e i z sz n ts.h H q L D M.1 M.2 v xs.length cells r b ys.length f news W (n3 b rfl) n4 (by simp only[maxLen];omega) hb A.bel.size
  exact o d w' g1 g2 g3 g5
 | none=>
  have hy:ys=[]:=List.eq_nil_of_length_eq_zero (by obtain ⟨a',N,Y,q1,_,q3,_⟩:=U;injection Y with _ e2 Z;have:=V rfl;subst Z;omega)
  have E:=V rfl;subst hy E;have hn:news=[]:=List.eq_nil_of_length_eq_zero (by simpa using W)
  subst hn;have c:=r
  rcases r.2 with ⟨rfl,h0⟩ | ⟨g,f,X,rfl,ah,hg,J,_⟩
  .refine o (.slice none 0 0) w ?_ (by simpa using c) (World.grownBy.refl w _) (.inl rfl)
   simp[Builtin.append_,run_underlying ts.h,sizeOf,typeInfo,H,Builtin.lenOf,Builtin.firstCells]
  .refine o _ w ?_ (by simpa using c) (World.grownBy.refl w _) (.inl rfl)
   simp[Builtin.append_,run_underlying ts.h,sizeOf,typeInfo,H,Builtin.lenOf,Builtin.firstCells,J,storeCells]
theorem Q2.put_le {w:World} (d:X3 w σ) {b:Nat} (h:σ b=none) (o:Obj): ∀k p,σ k=some p->(σ.put b o) k=some p:=by
 intro k p c
 by_cases a:k=b
 .subst a;rw[h] at c;cases c
 .simp only[Q2.put,if_neg a];exact c
theorem Stp.put {b:Nat} {o:Obj} (c:Stp w0 σ0 w σ) (g:σ b=none) (h:w0.heap.size<=b) (f:w.heap[b]? =some o):Stp w0 σ0 w (σ.put b o):=by
 refine ⟨c.bel,?_,fun k p a=>Q2.put_le c.sat g o k p (c.le k p a),?_⟩
 .intro k p a
  by_cases d:k=b
  .subst d;simp only[Q2.put,if_true] at a;cases a;exact f
  .simp only[Q2.put,if_neg d] at a;exact c.sat k p a
 .intro k a
  simp only[Q2.put];rw[if_neg Q5];exact c.old k a
theorem W2.keep [hr:Rep R] (h:W2 w0.heap.size e sz R σ w v xs) (m:Stp w0 σ0 w σ): ∃σ',Stp w0 σ0 w σ'/\Sl sz R σ' v xs/\(∀k o,σ k=some o->σ' k=some o)/\(∀k,some k≠v.ownBlock->σ' k=σ k):=by
 obtain ⟨cells,r,z,A⟩:=h
 rcases r.2 with ⟨rfl,y⟩ | ⟨g,l,c,rfl,C,D,p,f,J,q⟩
 .have:xs=[]:=List.eq_nil_of_length_eq_zero y
  subst this;exact ⟨σ,m,Sl.nil,fun _ _ h=>h,fun _ _=>rfl⟩
 .have t:=z g rfl
  have a:=Q2.put_le m.sat t (.cells c e (0,0));refine ⟨σ.put g (.cells c e (0,0)),m.put t C D,⟨_,l,rfl,p,f,by simp,?_⟩,a,?_⟩
  .intro b n
   cases n;refine ⟨fun _=>rfl,fun i x s=>⟨(cells.drop (i*sz)).take sz,⟨Qt rfl _,c,e,(0,0),by rw[I4];simp[Q2.put],?_⟩,?_,hr.up a (A i x s)⟩⟩
   .intro j u d
    rw[Yv];rw[List.getElem?_take] at d
    split at d
    .rw[List.getElem?_drop,<-q,List.getElem?_take] at d
     split at d
     .simpa using d
     .cases d
    .cases d
   .have E:i<xs.length:=(List.getElem?_eq_some_iff.1 s).1
    have h:i*sz+sz<=xs.length*sz:=by rw[<-Nat.succ_mul];exact Nat.mul_le_mul_right _ E
    rw[List.length_take,List.length_drop,r.1];omega
  .intro k H
   have:k≠g:=by intro e;subst e;exact H rfl
   simp only[Q2.put,if_neg this]
theorem Sl.piece {a:Option Addr} {n d:Nat} (h:Sl sz R σ (.slice a n d) xs) (l m:Nat) (O:l+m<=xs.length):Sl sz R σ (.slice (if d=l then a else a.map (·.add (l*sz))) m (d-l)) ((xs.drop l).take m):=by
 obtain ⟨L,j,H,M,N,D,k⟩:=h
 injection H with s t y
 subst s t y;have c:((xs.drop l).take m).length=m:=by simp;omega
 refine ⟨_,d-l,by rw[c],by rw[c];omega,by omega,?_,?_⟩
 .intro o
  split at o
  .omega
  .cases a with
   | none=>have:=D rfl;omega
   | some b=>simp at o
 .intro b f
  split at f
  .rename_i E
   obtain ⟨p,q⟩:=k b f;have J:m=0:=by omega
   subst J;exact ⟨fun h=>by simp at h,by simp⟩
  .cases a with
   | none=>simp at f
   | some r=>
    simp only[Option.map_some,Option.some.injEq] at f;obtain ⟨p,q⟩:=k r rfl;subst f;refine ⟨fun h=>Qt (p (by rw[c] at h;omega)) _,fun i x g=>?_⟩
    rw[List.getElem?_take] at g
    split at g
    .rw[List.getElem?_drop] at g
     obtain ⟨cs,z,A,C⟩:=q _ _ g;refine ⟨cs,?_,A,C⟩;rw[Q6G,<-Nat.add_mul];exact z
    .cases g
theorem Bu {t:TypeId} {f:Nat} {z:Value} [ts:TS P t e] [tz:TZ P e sz f z] (h:Sl sz R σ v xs) (d c:Option Value) (l m:Nat) (j:d=none/\l=0\/d=some (I l)) (g:c=none/\m=xs.length\/c=some (I m)) (i:l<=m) (D:m<=xs.length)
 (p: ∀k,Sl sz R σ k ((xs.drop l).take (m-l))->K k w):G7 P t v d c none w K:=by
 have o:=h;obtain ⟨a,b,rfl,s,y,A,C⟩:=h
 have hh: ∀w:World,(Instr.sliceBounds true xs.length b d c none).run P w= .ok (l,m,b) w:=by
  intro w;have q:(m:Int)<=b:=by omega
  have r:(l:Int)<=m:=by omega
  have n:m<=b:=by omega
  rcases j with ⟨rfl,rfl⟩ | rfl<;>rcases g with ⟨rfl,rfl⟩ | rfl<;>
   simp[Instr.sliceBounds,Instr.sliceBound,asIntOf,n,i]<;>intros<;>omega
 unfold G7
 have:(Instr.sliceAt t (.slice a xs.length b) d c none).run P w= .ok (.slice (if b=l then a else a.map (·.add (l*sz))) (m-l) (b-l)) w:=by
  simp[Instr.sliceAt,run_underlying ts.h,Instr.slice,hh,D9 tz]
 rw[Y4 this];exact p _ (o.piece l (m-l) Q5)
def en:Nat->List Value->List (Nat×Value)
 | _,[]=>[]
 | i,v::r=>(i,v)::en (i+1) r
theorem X3U (off:Nat): ∀(vs:List Value) (k:Nat) (cs:Array Value),off+k+vs.length<=cs.size->
 ((vs.zipIdx k).foldl (fun cs (p:Value×Nat)=>cs.setIfInBounds (off+p.2) p.1) cs).toList=cs.toList.take (off+k)++vs++cs.toList.drop (off+k+vs.length):=by
 intro vs
 induction vs with
 | nil=>intro k cs _;simp
 | cons v r ih=>
  intro k cs h;simp only[List.length_cons] at h;rw[List.zipIdx_cons,List.foldl_cons,ih (k+1) _ (by simp;omega)]
  simp only[Array.toList_setIfInBounds,List.length_cons];apply List.ext_getElem?;intro i;simp only[List.getElem?_append,List.length_take,List.length_set,Array.length_toList,List.getElem?_take,List.getElem?_drop,List.length_append,List.getElem?_set,List.length_cons]
  rcases Nat.lt_trichotomy i (off+k) with hi | hi | hi
  .simp[show i<off+(k+1) by omega,hi,show i<min (off+(k+1)) cs.size by omega,show i<min (off+(k+1)) cs.size+r.length by omega,show i<min (off+k) cs.size by omega,show i<min (off+k) cs.size+(r.length+1) by omega,show off+k≠i by omega]
  .subst hi
   simp[show off+k<off+(k+1) by omega,show off+k<min (off+(k+1)) cs.size by omega,show off+k<min (off+(k+1)) cs.size+r.length by omega,show¬off+k<min (off+k) cs.size by omega,show off+k<min (off+k) cs.size+(r.length+1) by omega,show off+k<cs.size by omega,show off+k-min (off+k) cs.size=0 by omega]
  .by_cases h2:i<off+(k+1)+r.length
   .simp[show¬i<min (off+(k+1)) cs.size by omega,show i<min (off+(k+1)) cs.size+r.length by omega,show¬i<min (off+k) cs.size by omega,show i<min (off+k) cs.size+(r.length+1) by omega,show i-min (off+k) cs.size=(i-min (off+(k+1)) cs.size)+1 by omega]
   .simp only[show¬i<min (off+(k+1)) cs.size+r.length by omega,show¬i<min (off+k) cs.size+(r.length+1) by omega,if_false]
    rw[show off+(k+1)+r.length+(i-(min (off+(k+1)) cs.size+r.length))=i by omega,show off+k+(r.length+1)+(i-(min (off+k) cs.size+(r.length+1)))=i by omega,if_neg Q5]
theorem X1v (sz:Nat): ∀(vs:List Value) (i:Nat) (cs:Array Value),(i+vs.length)*sz<=cs.size->(∀v∈vs,v.cells.size=sz)->
 ∃cs',Instr.fill (fun i=>some (i*sz,sz)) cs (en i vs)=some cs'/\cs'.toList=cs.toList.take (i*sz)++vs.flatMap (·.cells.toList)++cs.toList.drop ((i+vs.length)*sz):=by
 intro vs
 induction vs with
 | nil=>intro i cs _ _;exact ⟨cs,rfl,by simp⟩
 | cons v r ih=>
  intro i cs h hv;have hv0:=hv v V0;simp only[List.length_cons] at h
  have h1:i*sz+sz<=cs.size:=by
   have:(i+1)*sz<=(i+(r.length+1))*sz:=Nat.mul_le_mul_right _ Q5;rw[Nat.succ_mul] at this;omega
  have hset:=X3U (i*sz) v.cells.toList 0 cs (by simp;omega)
  simp only[Nat.add_zero] at hset
  have e1:v.cells.zipIdx.foldl (fun cs (p:Value×Nat)=>cs.setIfInBounds (i*sz+p.2) p.1) cs=(v.cells.toList.zipIdx 0).foldl (fun cs (p:Value×Nat)=>cs.setIfInBounds (i*sz+p.2) p.1) cs:=by
   rw[<-Array.foldl_toList,Array.toList_zipIdx]
  have hsz':((v.cells.toList.zipIdx 0).foldl (fun cs (p:Value×Nat)=>cs.setIfInBounds (i*sz+p.2) p.1) cs).size=cs.size:=by
   rw[<-Array.length_toList,hset]
   simp;omega
  obtain ⟨cs',q1,q2⟩:=ih (i+1) _ (by rw[hsz'];rw[show i+1+r.length=i+(r.length+1) by omega];exact h) (fun u hu=>hv u (by simp[hu]))
  refine ⟨cs',?_,?_⟩
  .simp only[en,Instr.fill]
   rw[if_neg (by simp[hv0];omega)]
   rw[e1];exact q1
  .rw[q2,hset]
   simp only[List.flatMap_cons,List.length_cons,Array.length_toList,hv0];have e2:(i+1)*sz=i*sz+sz:=by rw[Nat.succ_mul]
   have e3:(i+(r.length+1))*sz=i*sz+sz+r.length*sz:=by rw[Nat.add_mul,Nat.succ_mul];omega
   have e4:(i+1+r.length)*sz=i*sz+sz+r.length*sz:=by rw[Nat.add_mul,Nat.succ_mul]
   rw[e2,e3,e4];have t1:(cs.toList.take (i*sz)).length=i*sz:=by simp;omega
   have t2:(cs.toList.take (i*sz)++v.cells.toList).length=i*sz+sz:=by rw[List.length_append,t1];simp[hv0]
   have k1: ∀C:List Value,(cs.toList.take (i*sz)++v.cells.toList++C).take (i*sz+sz)=cs.toList.take (i*sz)++v.cells.toList:=by
    intro C;rw[List.take_append_of_le_length Q5,List.take_of_length_le Q5]
   have k2: ∀(C:List Value) (n:Nat),(cs.toList.take (i*sz)++v.cells.toList++C).drop (i*sz+sz+n)=C.drop n:=by
    intro C n;rw[List.drop_append,t2,List.drop_eq_nil_of_le Q5,List.nil_append]
    congr 1;omega
   rw[k1,k2,List.drop_drop];simp only[List.append_assoc]
theorem Fm {t:TypeId} {by_:Nat} {z:Value} [ts:TS P t e] [tz:TZ P e sz by_ z] (vs:List Value) (hv: ∀v∈vs,v.cells.size=sz) (hsm:vs.length*sz<=16777216) (w:World):
 ∃cells:Array Value,(Instr.buildSlice t vs.length (en 0 vs).toArray).run P w= .ok (.slice (some ⟨w.heap.size,0,none⟩) vs.length vs.length) (w.alloc (.cells cells e))/\cells.toList=vs.flatMap (·.cells.toList):=by
 have h2: ¬vs.length*sz>2 ^ 24:=by omega
 by_cases h:vs.length*sz=0
 .obtain ⟨cells,hf,hl⟩:=X1v sz vs 0 ((Array.range (vs.length*sz)).map ((#[]:Array Value)[· % (#[]:Array Value).size]!)) V0 hv
  refine ⟨cells,?_,by rw[hl];simp⟩
  simp only[Instr.buildSlice,Sem.run_bind,run_underlying ts.h,Result.andThen_ok,D9 tz,if_neg h2,if_pos h,Sem.run_pure,hf]
  simp[newRow]
 .obtain ⟨cells,hf,hl⟩:=X1v sz vs 0 ((Array.range (vs.length*sz)).map (z.cells[· % z.cells.size]!)) V0 hv
  refine ⟨cells,?_,by rw[hl];simp⟩
  simp only[Instr.buildSlice,Sem.run_bind,run_underlying ts.h,Result.andThen_ok,D9 tz,if_neg h2,if_neg h,Sem.run_pure,Xz tz,hf]
  simp[newRow]
theorem X2o {vs:List Value} (d: ∀v∈vs,v.cells.size=sz) (i:Nat) (v:Value) (h:vs[i]? =some v):((vs.flatMap (·.cells.toList)).drop (i*sz)).take sz=v.cells.toList:=by
 induction vs generalizing i with
 | nil=>simp at h
 | cons a r f=>
  have b:=d a V0;cases i with
  | zero=>
   simp at h;subst h
   rw[List.flatMap_cons,Nat.zero_mul,List.drop_zero,List.take_append_of_le_length (by simp[b]),List.take_of_length_le (by simp[b])]
  | succ i=>
   rw[List.flatMap_cons,Nat.succ_mul,List.drop_append,List.drop_eq_nil_of_le (by simp[b]),List.nil_append]
   rw[show i*sz+sz-a.cells.toList.length=i*sz by simp[b]]
   exact f (fun v c=>d v (by simp[c])) i (by simpa using h)
theorem Q5j {vs:List Value} (b: ∀v∈vs,v.cells.size=sz):(vs.flatMap (·.cells.toList)).length=vs.length*sz:=by
 induction vs with
 | nil=>simp
 | cons a r c=>
  rw[List.flatMap_cons,List.length_append,c (fun v h=>b v (by simp[h]))]
  simp[b a V0,Nat.succ_mul,Nat.add_comm]
def Q2D (R:Q2->α->List Value->Prop) (σ:Q2):List Value->List α->Prop
 | [],[]=>True
 | v::vs,x::xs=>R σ x v.cells.toList/\Q2D R σ vs xs
 | _,_=>False
theorem Q2D.len {vs:List Value} (h:Q2D R σ vs xs):vs.length=xs.length:=by
 induction vs generalizing xs with
 | nil=>cases xs with
  | nil=>rfl
  | cons=>exact h.elim
 | cons v r a=>cases xs with
  | nil=>exact h.elim
  | cons x y=>simp[a h.2]
theorem Q2D.get {vs:List Value} (h:Q2D R σ vs xs) {i:Nat} {x:α} (a:xs[i]? =some x): ∃v,vs[i]? =some v/\R σ x v.cells.toList:=by
 induction vs generalizing xs i with
 | nil=>cases xs with
  | nil=>simp at a
  | cons=>exact h.elim
 | cons v r b=>cases xs with
  | nil=>exact h.elim
  | cons y ys=>
   cases i with
   | zero=>simp at a;subst a;exact ⟨v,rfl,h.1⟩
   | succ i=>obtain ⟨u,c,d⟩:=b h.2 (i:=i) (by simpa using a);exact ⟨u,by simpa using c,d⟩
theorem Zb {t:TypeId} {g:Nat} {z:Value} {n:Nat} {a:List (Nat×Value)} [ts:TS P t e] [tz:TZ P e sz g z] (j:Stp w0 σ0 w σ) (vs:List Value) (xs:List α) (q:n=vs.length) (r:a=en 0 vs) (c: ∀v∈vs,v.cells.size=sz) (b:(decide (0<sz)&&decide (vs.length*sz<=16777216))=true) (o:Q2D R σ vs xs)
 (h: ∀v w',Stp w σ w' σ->W2 w0.heap.size e sz R σ w' v xs->(∀k,v.ownBlock=some k->w.heap.size<=k)->K v w'):buildSlice P t n a w K:=by
 subst q r;simp only[Bool.and_eq_true,decide_eq_true_eq] at b;obtain ⟨m,b⟩:=b;obtain ⟨cells,p,d⟩:=Fm (P:=P) (t:=t) vs c b w;unfold buildSlice;rw[Y4 p];have f:=o.len;refine h _ _ (Stp.own j.sat _) ⟨cells.toList,⟨by rw[d,Q5j c,f], .inr ⟨_,_,cells,by rw[f],j.bel.size,heap_alloc_new w _,by omega,?_,?_,?_⟩⟩,?_,?_⟩ ?_
 .simp only[maxLen]
  have:vs.length*1<=vs.length*sz:=Nat.mul_le_mul_left _ m;omega
 .rw[<-Array.length_toList,d,Q5j c,f]
 .rw[List.take_of_length_le (by rw[d,Q5j c,f];exact Nat.le_refl _)]
 .intro k l;cases l;exact j.sat.none (Nat.le_refl _)
 .intro i x s
  obtain ⟨v,y,A⟩:=o.get s;rw[d,X2o c i v y];exact A
 .intro k l;cases l;exact Nat.le_refl _
theorem B7 [Rep R] {t:TypeId} {b:Nat} {z:Value} {n:Nat} {a:List (Nat×Value)} [ts:TS P t e] [tz:TZ P e sz b z] (m:X3 w σ) (vs:List Value) (xs:List α) (k:n=vs.length) (l:a=en 0 vs) (o: ∀v∈vs,v.cells.size=sz) (c:(decide (0<sz)&&decide (vs.length*sz<=16777216))=true) (i:Q2D R σ vs xs)
 (h: ∀v w' σ',Stp w σ w' σ'->Sl sz R σ' v xs->K v w'):buildSlice P t n a w K:=by
 refine Zb (Stp.refl m) vs xs k l o c i fun v w' j g _=>?_;obtain ⟨σ',d,f,_⟩:=g.keep j;exact h v w' σ' d f
theorem X7a {t:TypeId} {k a:Nat} {b:TypeId} [tf:TF P t k a b] [tg:TG P b false] {cs:Array Value} {v:Value} (l:cs[a]? =some v):Qr P t (.agg cs) k w K=K v w:=by
 unfold Qr;have hh:=tf.h;unfold Q71 at hh
 split at hh
 .rename_i m j
  obtain ⟨f,i,c⟩:=Option.map_eq_some_iff.1 hh;simp only[Prod.mk.injEq] at c;obtain ⟨d,g⟩:=c;subst g d;exact Y4 (by simp[Instr.field,run_underlying j,i,asAgg,part,Jw tg,l])
 .cases hh
theorem Yy {f:Fn} {first caps:List Value}:H2 P f first caps w K=K (.func f first.toArray caps.toArray) w:=Y4 (by simp[Instr.makeFunc])
theorem L4 {t:TypeId} {a:List (Nat×Value)} {cells:Array Value} (h:P.built t a=some cells) (b:K (.agg cells) w):C4 P t a w K:=by
 unfold C4;rw[Y4 (run_build w t a.toArray cells h)];exact b
def F2 (o:Option Obj) (m:List (List UInt8×Value)):Prop:=
 ∃b a,o=some (.map b a)/\b.toList.map (fun e=>(e.key,e.val))=m.map (fun p=>(S p.1,p.2))/\(b.toList.map (·.born)).Pairwise (· < ·)/\ ∀e∈b.toList,e.born<a
def K5 (m:List (List UInt8×Value)) (k:List UInt8):Option Value:=match m with
 | []=>none
 | p::r=>if p.1=k then some p.2 else K5 r k
def putS (m:List (List UInt8×Value)) (k:List UInt8) (v:Value):List (List UInt8×Value):=match m with
 | []=>[(k,v)]
 | p::r=>if p.1=k then (k,v)::r else p::putS r k v
theorem Co (a b:List UInt8):((⟨a.toArray⟩:ByteArray)==⟨b.toArray⟩)=decide (a=b):=by
 rw[<-Q6I]
 show (a.toArray==b.toArray)=_
 simp
theorem Pb (k:List UInt8): ∀(c:List MapEntry) (m:List (List UInt8×Value)) (i:Nat),c.map (fun e=>(e.key,e.val))=m.map (fun p=>(S p.1,p.2))->
 ∃r,Instr.findNow .string (S k) c i=some r/\r.map (·.2)=K5 m k/\(∀j v,r=some (j,v)->i<=j/\(∃e,c[j-i]? =some e/\e.key=S k)/\ ∀u,(c.modify (j-i) fun e=>{e with key:=S k,val:=u}).map (fun e=>(e.key,e.val))=(putS m k u).map (fun p=>(S p.1,p.2)))/\
  (r=none-> ∀u,putS m k u=m++[(k,u)]):=by
 intro c
 induction c with
 | nil=>
  intro m i h;cases m with
  | nil=>exact ⟨none,rfl,rfl,V0,fun _ u=>rfl⟩
  | cons=>simp at h
 | cons e r o=>
  intro m i h;cases m with
  | nil=>simp at h
  | cons p q=>
   simp only[List.map_cons,List.cons.injEq,Prod.mk.injEq] at h;obtain ⟨⟨d,g⟩,l⟩:=h;simp only[Instr.findNow,d,Instr.sameNow,Co]
   by_cases a:p.1=k
   .have f:decide (k=p.1)=true:=by simp[a]
    simp only[f];refine ⟨_,rfl,by simp[K5,a,g],?_,by simp⟩
    intro j v b;cases b;refine ⟨Nat.le_refl _,⟨e,by simp,by rw[d,a]⟩,fun u=>?_⟩
    simp[putS,a,l]
   .have f:decide (k=p.1)=false:=by simp;exact fun e=>a e.symm
    simp only[f];obtain ⟨A,s,t,y,z⟩:=o q (i+1) l;refine ⟨A,s,by simp[K5,a,t],?_,?_⟩
    .intro j v b
     obtain ⟨E,C,D⟩:=y j v b;refine ⟨by omega,by rw[show j-i=(j-(i+1))+1 by omega];simpa using C,fun u=>?_⟩
     have:=D u;rw[show j-i=(j-(i+1))+1 by omega]
     simp[putS,a,d,g,this]
    .intro n u
     simp[putS,a,z n u]
theorem Qv {t:TypeId} (a:P.underlying t=some .string) (b:Bool) (k:List UInt8) (w:World):(Instr.checkKey b 10000 t (S k)).run P w= .ok () w:=by
 unfold Instr.checkKey
 simp[run_underlying a]
theorem Q5m {t i g:TypeId} {sz d:Nat} {z:Value} [tm:TM P t i g] [tz:TZ P g sz d z] (b:P.underlying i=some .string) {r:Nat} {m:List (List UInt8×Value)} (q:F2 (w.heap[r]?) m) (k:List UInt8):
 lookup P t (.map (some r)) (S k) true w K=K (match K5 m k with | some v=> .tuple #[v, .bool true] | none=> .tuple #[z, .bool false]) w:=by
 obtain ⟨f,a,l,n,y,A⟩:=q;obtain ⟨s,j,c,C,D⟩:=Pb k f.toList m 0 n;unfold lookup;refine Y4 ?_;simp only[Instr.lookup,Sem.run_bind,run_underlying tm.h,Result.andThen_ok,Instr.findKey,run_underlying b,j,Qv b];have o:(getObj r).run P w= .ok (.map f a) w:=by simp[getObj,Sem.run,l]
 simp only[o,Result.andThen_ok,Sem.run_bind,Sem.run_pure,Qv b,run_underlying b,j];cases s with
 | none=>simp at c;rw[<-c];simp[Xz tz]
 | some p=>simp at c;rw[<-c];simp
theorem Q7P {t i f:TypeId} {sz c:Nat} {z:Value} [tm:TM P t i f] [tz:TZ P f sz c z] (g:P.underlying i=some .string) {r:Nat} {m:List (List UInt8×Value)} (o:F2 (w.heap[r]?) m) (k:List UInt8):
 lookup P t (.map (some r)) (S k) false w K=K ((K5 m k).getD z) w:=by
 obtain ⟨d,a,j,l,y,A⟩:=o;obtain ⟨s,q,b,C,D⟩:=Pb k d.toList m 0 l;unfold lookup;refine Y4 ?_;have n:(getObj r).run P w= .ok (.map d a) w:=by simp[getObj,Sem.run,j]
 simp only[Instr.lookup,Sem.run_bind,run_underlying tm.h,Result.andThen_ok,Instr.findKey,run_underlying g,q,Qv g,n,Sem.run_pure];cases s with
 | none=>simp at b;rw[<-b];simp[Xz tz]
 | some p=>simp at b;rw[<-b];simp
def K3 (σ:Q2) (w:World) (r:Nat) (m:List (List UInt8×Value)):Prop:=σ r=none/\F2 (w.heap[r]?) m
def Jb (σ:Q2) (r:Nat) (m:List (List UInt8×Value)):Prop:=F2 (σ r) m
theorem Jb.is {σ:Q2} {r:Nat} {m:List (List UInt8×Value)} (h:Jb σ r m) (f:X3 w σ):F2 (w.heap[r]?) m:=by
 obtain ⟨b,a,c,d⟩:=h;exact ⟨b,a,f _ _ c,d⟩
theorem Jb.le {σ σ':Q2} {r:Nat} {m:List (List UInt8×Value)} (h:Jb σ r m) (g: ∀b o,σ b=some o->σ' b=some o):Jb σ' r m:=by
 obtain ⟨c,a,d,f⟩:=h;exact ⟨c,a,g _ _ d,f⟩
theorem Jb.up {σ σ':Q2} {r:Nat} {m:List (List UInt8×Value)} (h:Jb σ r m) (a:Stp w σ w' σ'):Jb σ' r m:=h.le a.le
theorem K3.lt {σ:Q2} {r:Nat} {m:List (List UInt8×Value)} (h:K3 σ w r m):r<w.heap.size:=by
 obtain ⟨_,c,a,b,_⟩:=h;exact (Array.getElem?_eq_some_iff.1 b).1
theorem K3.up {σ σ':Q2} {r:Nat} {m:List (List UInt8×Value)} (h:K3 σ w r m) (a:Stp w σ w' σ'):K3 σ' w' r m:=by
 have b:=h.lt;exact ⟨(a.old r b).trans h.1,(a.bel.block r b).symm▸h.2⟩
theorem Q6b {t:TypeId} {σ:Q2} (a:X3 w σ) (h: ∀r w',w.heap.size<=r->Stp w σ w' σ->K3 σ w' r []->K (.map (some r)) w'):Hr P t none w K:=by
 unfold Hr;rw[Y4 (v:= .map (some w.heap.size)) (w':=w.alloc (.map #[] 0)) (by simp[Instr.makeMap])]
 exact h _ _ (Nat.le_refl _) (Stp.own a _) ⟨a.none (Nat.le_refl _), #[],0,heap_alloc_new w _,rfl,by simp,by simp⟩
theorem K3.keep {σ σ0:Q2} {r:Nat} {m:List (List UInt8×Value)} (h:K3 σ w r m) (d:Stp w0 σ0 w σ) (i:w0.heap.size<=r): ∃σ',Stp w0 σ0 w σ'/\Jb σ' r m/\(∀k o,σ k=some o->σ' k=some o)/\(∀k,k≠r->σ' k=σ k):=by
 obtain ⟨c,b,a,f,g⟩:=h;exact ⟨σ.put r (.map b a),d.put c i f,⟨b,a,by simp[Q2.put],g⟩,Q2.put_le d.sat c _,fun k j=>by simp only[Q2.put,if_neg j]⟩
theorem Q0y {t U Y:TypeId} [tm:TM P t U Y] (A:P.underlying U=some .string) {σ:Q2} {r:Nat} {m:List (List UInt8×Value)} (hm:K3 σ w r m) (k:List UInt8) (v:Value)
 (h: ∀w',Upd w r w'->K3 σ w' r (putS m k v)->K undef w'):mapUpdate P t (.map (some r)) (S k) v w K:=by
 obtain ⟨L,l,d,D,M,N,E⟩:=hm;obtain ⟨r',V,q2,q3,q4⟩:=Pb k l.toList m 0 M;have Q:(getObj r).run P w= .ok (.map l d) w:=by simp[getObj,Sem.run,D]
 have hl:=(Array.getElem?_eq_some_iff.1 D).1
 have n: ∀o,o=Obj.map l d\/True->(∀c e f,o≠ .cells c e f)->(setObj r o).run P w= .ok () {w with heap:=w.heap.setIfInBounds r o}:=by
  intro o _ _
  simp[setObj,Sem.run,D]
 have C: ∀o,Upd w r {w with heap:=w.heap.setIfInBounds r o}:=fun o=>⟨rfl,rfl,rfl,by simp,fun k A=>by simp only[Array.getElem?_setIfInBounds];rw[if_neg Q5]⟩
 have z: ∀o,({w with heap:=w.heap.setIfInBounds r o}:World).heap[r]? =some o:=fun o=>by simp[Array.getElem?_setIfInBounds,hl]
 unfold mapUpdate;cases r' with
 | none=>
  rw[Vn (w':={w with heap:=w.heap.setIfInBounds r (.map (l.push {key:=S k,val:=v,born:=d}) (d+1))}) (by
   simp only[Instr.mapUpdate,Sem.run_bind,run_underlying tm.h,Result.andThen_ok,Instr.findKey,run_underlying A,V,Qv A,Q,Sem.run_pure];exact n _ (.inr trivial) (by intros;simp))]
  refine h _ (C _) ⟨L,_,_,z _,?_,?_,?_⟩
  .rw[q4 rfl];simp[M]
  .simp only[Array.toList_push,List.map_append,List.map_cons,List.map_nil]
   rw[List.pairwise_append];refine ⟨N,by simp,?_⟩
   intro a Z b O
   simp at O;subst O
   obtain ⟨e,s,rfl⟩:=List.mem_map.1 Z;exact E e s
  .intro e s
   simp at s
   rcases s with s | rfl
   .have:=E e (by simpa using s);omega
   .simp
 | some p=>
  obtain ⟨j,u⟩:=p;obtain ⟨z1,z2,W⟩:=q3 j u rfl;obtain ⟨e,J,X⟩:=z2;simp only[Nat.sub_zero] at J W
  have g:((l.modify j fun e=>{e with key:=S k,val:=v}).toList.map (·.born))=l.toList.map (·.born):=by
   apply List.ext_getElem?;intro i;simp only[Array.toList_modify,List.getElem?_map,List.getElem?_modify]
   by_cases H:j=i<;>cases l.toList[i]? <;>simp[H]
  have q:(Instr.keyThatStays (S k) (S k)).run P w= .ok (S k) w:=by
   simp[Instr.keyThatStays,Instr.sameBits,Co]
  rw[Vn (w':={w with heap:=w.heap.setIfInBounds r (.map (l.modify j fun e=>{e with key:=S k,val:=v}) d)}) (by
   simp only[Instr.mapUpdate,Sem.run_bind,run_underlying tm.h,Result.andThen_ok,Instr.findKey,run_underlying A,V,Qv A,Q,Sem.run_pure];rw[show ((l[j]?).map (·.key)).getD (S k)=S k by rw[<-Array.getElem?_toList,J];simp[X]]
   simp only[q,Result.andThen_ok];exact n _ (.inr trivial) (by intros;simp))]
  refine h _ (C _) ⟨L,_,_,z _,?_,?_,?_⟩
  .simp only[Array.toList_modify];exact W v
  .rw[g];exact N
  .intro x hx
   have:x.born∈l.toList.map (·.born):=by rw[<-g];exact List.mem_map.2 ⟨x,hx,rfl⟩
   obtain ⟨y,hy,e⟩:=List.mem_map.1 this;rw[<-e];exact E y hy
variable {w1 : World}
theorem U9 {c b:Bool} {a:World->(Value->World->Prop)->Prop} (d:c=b->a w K) (e:c=(!b)->K undef w):Q1 (.bool c) b w a K:=by
 cases c<;>cases b
 .rw[H4];exact d rfl
 .rw[F8];exact e rfl
 .rw[Qa];exact e rfl
 .rw[D6];exact d rfl
theorem Q4 {c:Bool} {t e:Prop} (a:c=true->t) (b:c=false->e):X0 (.bool c) t e:=by
 cases c
 .rw[B4];exact b rfl
 .rw[G6];exact a rfl
theorem Q6 {α:Type} {R:Q2->α->List Value->Prop} {sz:Nat} {σ:Q2} {v:Value} {xs:List α} {a e t:TypeId} {cs:List Bool} [ts:TS P a e] (h:Sl sz R σ v xs) (b:K (I xs.length) w):J7 P .len [a] t cs [v] w K:=by
 rw[X8y h];exact b
structure Kpt (D : Nat -> Prop) (w w' : World) : Prop where
  os : w'.os = w.os
  tape : w'.tape = w.tape
  output : w'.output = w.output
  size : w.heap.size <= w'.heap.size
  block : ∀ k, k < w.heap.size -> ¬ D k -> w'.heap[k]? = w.heap[k]?
theorem Kpt.refl {D:Nat->Prop}:Kpt D w w:=⟨rfl,rfl,rfl,Nat.le_refl _,fun _ _ _=>rfl⟩
theorem Kpt.trans {D:Nat->Prop} (h:Kpt D w w') (k:Kpt D w' w''):Kpt D w w'':=
 ⟨k.os.trans h.os,k.tape.trans h.tape,k.output.trans h.output,Nat.le_trans h.size k.size,fun i b a=>(k.block i (Nat.lt_of_lt_of_le b h.size) a).trans (h.block i b a)⟩
theorem Kpt.of_below {D:Nat->Prop} (h:Below w.heap.size w w'):Kpt D w w':=⟨h.os,h.tape,h.output,h.size,fun k a _=>h.block k a⟩
theorem Kpt.of_grown {D:Nat->Prop} {row:Option Nat} (h:w.grownBy w' row) (c: ∀k,row=some k->D k):Kpt D w w':=⟨h.os,h.tape,h.output,h.size,fun k b a=>h.block k b (fun e=>a (c k e.symm))⟩
theorem Kpt.of_upd {D:Nat->Prop} {b:Nat} (h:Upd w b w') (a:D b):Kpt D w w':=⟨h.os,h.tape,h.output,by rw[h.size];exact Nat.le_refl _,fun k d c=>h.block k (fun e=>c (e▸a))⟩
theorem Kpt.mono {D D':Nat->Prop} (h:Kpt D w w') (b: ∀k,k<w.heap.size->D k->D' k):Kpt D' w w':=⟨h.os,h.tape,h.output,h.size,fun k a c=>h.block k a (fun e=>c (b k a e))⟩
theorem Kpt.below {D:Nat->Prop} (h:Kpt D w w') (a: ∀k,¬D k):Below w.heap.size w w':=⟨h.os,h.tape,h.output,h.size,fun k b=>h.block k b (a k)⟩
theorem Stp.kp {σ0 σ:Q2} {D:Nat->Prop} (a:Stp w0 σ0 w σ) (b:Kpt D w w') (f: ∀k,D k->w0.heap.size<=k/\σ k=none):Stp w0 σ0 w' σ:=by
 refine ⟨⟨b.os.trans a.bel.os,b.tape.trans a.bel.tape,b.output.trans a.bel.output,Nat.le_trans a.bel.size b.size,fun k c=>?_⟩,?_,a.le,a.old⟩
 .refine (b.block k (Nat.lt_of_lt_of_le c a.bel.size) ?_).trans (a.bel.block k c)
  intro e;have:=(f k e).1;omega
 .intro k o d
  refine (b.block k (a.sat.lt d) ?_).trans (a.sat k o d);intro e;rw[(f k e).2] at d;cases d
theorem Z0.kp {σ:Q2} {D:Nat->Prop} {k:Nat} {cs:List Value} (h:Z0 σ w k cs) (d:Kpt D w w') (a: ¬D k):Z0 σ w' k cs:=by
 have f:=h.lt;obtain ⟨b,e,c⟩:=h;exact ⟨b,e,(d.block k f a).trans c⟩
theorem K3.kp {σ:Q2} {D:Nat->Prop} {r:Nat} {m:List (List UInt8×Value)} (h:K3 σ w r m) (b:Kpt D w w') (a: ¬D r):K3 σ w' r m:=
 ⟨h.1,(b.block r h.lt a).symm▸h.2⟩
theorem W2.kp {α:Type} {R:Q2->α->List Value->Prop} {B sz:Nat} {e:TypeId} {σ:Q2} {v:Value} {xs:List α} {D:Nat->Prop} (h:W2 B e sz R σ w v xs) (n:Kpt D w w') (d: ∀k,v.ownBlock=some k-> ¬D k):W2 B e sz R σ w' v xs:=by
 obtain ⟨cells,f,j,l⟩:=h;refine ⟨cells,⟨f.1,?_⟩,j,l⟩
 rcases f.2 with o | ⟨g,b,c,rfl,m,i,a⟩
 .exact .inl o
 .refine .inr ⟨g,b,c,rfl,m,?_,a⟩
  rw[n.block g (Array.getElem?_eq_some_iff.1 i).1 (d g rfl)];exact i
theorem bt {w w1 b:World} (a:Below w.heap.size w w1) (c:Below w1.heap.size w1 b):Below w.heap.size w b:=a.trans (c.mono a.size)
abbrev V5:Nat:=140737488351232
def L3 (_:Q2) (s:List UInt8) (cs:List Value):Prop:=cs=[S s]/\s.length<=V5
instance:Rep L3:=⟨fun _ h=>h,fun h u hu=>by rw[h.1] at hu;simp at hu;subst hu;rfl⟩
def G2 (_:Q2) (n:Int) (cs:List Value):Prop:=cs=[I n]/\ -9223372036854775808<=n/\n<=9223372036854775807
instance:Rep G2:=⟨fun _ h=>h,fun h u hu=>by rw[h.1] at hu;simp at hu;subst hu;rfl⟩
def Q0d (_:Q2) (b:Bool) (cs:List Value):Prop:=cs=[.bool b]
instance:Rep Q0d:=⟨fun _ h=>h,fun h u hu=>by rw[h] at hu;simp at hu;subst hu;rfl⟩
def UpI (N:Nat) (a:Nat->World->Prop) (x:Value) (w:World):Prop:= ∃n:Nat,x=I n/\n<=N/\a n w
def UpM (N:Nat) (x:Value):Nat:=match x with | .int _ n=>N-n.toNat | _=>0
theorem V2 {A:(Value->World->Prop)->Value->(Nat->Value)->World->Prop} (N:Nat) (a:Nat->World->Prop) (c:a 0 w)
 (b: ∀n w d,n<=N->a n w->A (fun y w'=>UpI N a y w'/\UpM N y<UpM N (I n)) (I n) d w):lp (α:=Value) (.int .i64 0) w A:=by
 refine Mc (UpI N a) (fun x _=>UpM N x) ⟨0,rfl,Nat.zero_le _,c⟩ ?_;rintro _ d w' ⟨n,rfl,f,e⟩;exact b n w' d f e
theorem Y7 {N n:Nat} {a:Nat->World->Prop} (d:N<=9223372036854775807) (c:n<N) (b:a (n+1) w):UpI N a (.int .i64 (IntKind.i64.wrap (n+1))) w/\UpM N (.int .i64 (IntKind.i64.wrap (n+1)))<UpM N (I n):=by
 rw[Qh Q5 Q5];exact ⟨⟨n+1,rfl,c,b⟩,by simp only[UpM];omega⟩
def Ps {α:Type} (N:Nat) (a:Nat->α->World->Prop) (x:α×Value) (w:World):Prop:= ∃n:Nat,x.2=I n/\n<=N/\a n x.1 w
def Du {α:Type} (N:Nat) (x:α×Value):Nat:=UpM N x.2
theorem H0 {α:Type} {A:(α×Value->World->Prop)->α×Value->(Nat->Value)->World->Prop} {a:α} (N:Nat) (b:Nat->α->World->Prop) (g:b 0 a w)
 (c: ∀n a w d,n<=N->b n a w->A (fun y w'=>Ps N b y w'/\Du N y<Du N (a,I n)) (a,I n) d w):lp (α:=α×Value) (a, .int .i64 0) w A:=by
 refine Mc (Ps N b) (fun x _=>Du N x) ⟨0,rfl,Nat.zero_le _,g⟩ ?_;rintro ⟨a,x⟩ d w' ⟨n,f,h,e⟩;simp only at f e;subst f;exact c n a w' d h e
theorem U4 {α:Type} {a c:α} {N n:Nat} {b:Nat->α->World->Prop} (f:N<=9223372036854775807) (e:n<N) (d:b (n+1) c w):Ps N b (c, .int .i64 (IntKind.i64.wrap (n+1))) w/\Du N (c, .int .i64 (IntKind.i64.wrap (n+1)))<Du N (a,I n):=by
 rw[Qh Q5 Q5];exact ⟨⟨n+1,rfl,e,d⟩,by simp only[Du,UpM];omega⟩
theorem E3 {α:Type} {R:Q2->α->List Value->Prop} {sz:Nat} {σ:Q2} {v:Value} {xs:List α} {t e:TypeId} {b:Nat} {z:Value} [TS P t e] [TZ P e sz b z] (h:Sl sz R σ v xs) {n:Nat} (i:n<xs.length)
 (g: ∀a cs,U1 σ a cs->cs.length=sz->R σ xs[n] cs->K (.pointer (some a)) w):indexAddr P t v (I n) w K:=
 X99 h Q5 (by simpa using i) (fun a cs c d f=>g a cs c d (by simpa using f))
theorem Z3 {t:TypeId} {sz c:Nat} {z:Value} {A:Value->Value->World->Prop} [tz:TZ P t sz c z] {σ:Q2} {cs:List Value} (o:X3 w σ) (r:z.cells.size=sz) (n:cs.length=sz) (k: ∀u∈cs,u.oneCell'=true)
 (h: ∀a w' e,Stp w σ w' e->U1 e a cs->A (.pointer (some a)) undef w'):T4 P t w (fun p w=>U3 P t p (.agg cs.toArray) w (fun u w=>A p u w)):=by
 refine Q0e o fun b w1 f m g=>?_;refine My g (by simpa using r) n (by rw[List.all_toArray];exact List.all_eq_true.2 k) fun s q d=>?_
 have l:Stp w σ s σ:=q.stp m f g.1;obtain ⟨e,i,j,_⟩:=d.keep l f;exact h _ _ _ i j
theorem W0 {t:TypeId} {d:Nat} {z:Value} {A:Value->Value->World->Prop} [tz:TZ P t 1 d z] {σ:Q2} {v:Value} (r:X3 w σ) (y:z.cells.size=1) (n:v.cells= #[v]) (l:v.oneCell'=true)
 (h: ∀a w' f,Stp w σ w' f->U1 f a [v]->A (.pointer (some a)) undef w'):T4 P t w (fun p w=>U3 P t p v w (fun u w=>A p u w)):=by
 refine Q0e r fun b w1 g o i=>?_;have q:z.cells.toList.length=1:=by simpa using y
 refine st0 i Q5 n l fun B s c=>?_;have m:Stp w σ B σ:=s.stp o g i.1
 have e:z.cells.toList.set 0 v=[v]:=by
  match hzl:z.cells.toList,q with
  | [x],_=>rfl
 rw[e] at c;obtain ⟨f,j,k,_⟩:=c.keep m g;exact h _ _ _ j k
theorem D3 {α:Type} {xs:List α} {p:α->Bool} {n:Nat} (h:n<xs.length):(xs.take (n+1)).any p=((xs.take n).any p||p xs[n]):=by
 rw[List.take_add_one,List.getElem?_eq_getElem h,List.any_append];simp
theorem I6 {α:Type} {xs:List α} {p:α->Bool} {n:Nat} (h:n<xs.length) (a:p xs[n]=true):xs.any p=true:=List.any_eq_true.2 ⟨_,List.getElem_mem h,a⟩
theorem C9 {α:Type} {xs:List α} {p:α->Bool} {n:Nat} (h: ¬n<xs.length):(xs.take n).any p=xs.any p:=by rw[List.take_of_length_le Q5]
end Go.Emb
namespace Go.Hm
open Go.Kd
structure Fld where
  name : Q9
  kind : Q9
  tr : Bool
deriving DecidableEq
structure Ins where
  op : Q9
  n : Int
  s : Q9
deriving DecidableEq
structure Cat where
  frm : Int
  to : Int
  at_ : Int
  cls : Q9
deriving DecidableEq
structure Met where
  name : Q9
  params : List Q9
  result : Q9
  abs : Bool
  locals : Int
  code : List Ins
  catches : List Cat
deriving DecidableEq
structure Cla where
  name : Q9
  super : Q9
  like : List Q9
  iface : Bool
  abs : Bool
  fin : Bool
  fields : List Fld
  methods : List Hm.Met
deriving DecidableEq
def Fld.zero:Fld:=⟨[],[],false⟩
def Met.zero:Hm.Met:=⟨[],[],[],false,0,[],[]⟩
def Cla.zero:Cla:=⟨[],[],[],false,false,false,[],[]⟩
end Go.Hm
namespace Go.Emb
open Go.RowKit Go.Hm
abbrev Yg (n:Int):Prop:= -9223372036854775808<=n/\n<=9223372036854775807
def I1 (_:Q2) (f:Fld) (cs:List Value):Prop:=cs=[S f.name,S f.kind, .bool f.tr]/\f.name.length<=V5/\f.kind.length<=V5
def Yz (_:Q2) (i:Ins) (cs:List Value):Prop:=cs=[S i.op,I i.n,S i.s]/\i.op.length<=V5/\Yg i.n/\i.s.length<=V5
def Wj (_:Q2) (c:Cat) (cs:List Value):Prop:=cs=[I c.frm,I c.to,I c.at_,S c.cls]/\Yg c.frm/\Yg c.to/\Yg c.at_/\c.cls.length<=V5
def B8 (σ:Q2) (m:Hm.Met) (cs:List Value):Prop:= ∃pv a b,cs=[S m.name,pv,S m.result, .bool m.abs,I m.locals,a,b]/\Sl 1 L3 σ pv m.params/\Sl 3 Yz σ a m.code/\Sl 4 Wj σ b m.catches/\m.name.length<=V5/\m.result.length<=V5/\Yg m.locals
def M0 (σ:Q2) (c:Cla) (cs:List Value):Prop:= ∃b a mv,cs=[S c.name,S c.super,b, .bool c.iface, .bool c.abs, .bool c.fin,a,mv]/\Sl 1 L3 σ b c.like/\Sl 3 I1 σ a c.fields/\Sl 7 B8 σ mv c.methods/\c.name.length<=V5/\c.super.length<=V5
theorem Yk {α:Type} {sz:Nat} {R:Q2->α->List Value->Prop} {σ:Q2} {v:Value} {xs:List α} (h:Sl sz R σ v xs):v.oneCell'=true:=by
 obtain ⟨a,b,rfl,_⟩:=h;rfl
instance:Rep I1:=⟨fun _ h=>h,fun h u hu=>by rw[h.1] at hu;simp at hu;rcases hu with rfl | rfl | rfl<;>rfl⟩
instance:Rep Yz:=⟨fun _ h=>h,fun h u hu=>by rw[h.1] at hu;simp at hu;rcases hu with rfl | rfl | rfl<;>rfl⟩
instance:Rep Wj:=⟨fun _ h=>h,fun h u hu=>by rw[h.1] at hu;simp at hu;rcases hu with rfl | rfl | rfl | rfl<;>rfl⟩
instance:Rep B8:=⟨fun hk ⟨pv,cv,hv,h1,h2,h3,h4,h5⟩=>⟨pv,cv,hv,h1,h2.le hk,h3.le hk,h4.le hk,h5⟩,fun ⟨pv,cv,hv,h1,h2,h3,h4,h5⟩ u hu=>by
 rw[h1] at hu;simp at hu;rcases hu with rfl | rfl | rfl | rfl | rfl | rfl | rfl
 .rfl
 .exact Yk h2
 .rfl
 .rfl
 .rfl
 .exact Yk h3
 .exact Yk h4⟩
instance:Rep M0:=⟨fun hk ⟨pv,cv,hv,h1,h2,h3,h4,h5⟩=>⟨pv,cv,hv,h1,h2.le hk,h3.le hk,h4.le hk,h5⟩,fun ⟨pv,cv,hv,h1,h2,h3,h4,h5⟩ u hu=>by
 rw[h1] at hu;simp at hu;rcases hu with rfl | rfl | rfl | rfl | rfl | rfl | rfl | rfl
 .rfl
 .rfl
 .exact Yk h2
 .rfl
 .rfl
 .rfl
 .exact Yk h3
 .exact Yk h4⟩
end Go.Emb
namespace Go.Proofs.Y
open Go.Emb
instance z_x:TZ P T.x 1 0 (.tuple #[]):=⟨X4⟩
instance g_x:TG P T.x false:=⟨X4⟩
instance z_int64:TZ P T.a2 1 8 (.int .i64 0):=⟨X4⟩
instance g_int64:TG P T.a2 false:=⟨X4⟩
instance z_int:TZ P T.e 1 8 (.int .i64 0):=⟨X4⟩
instance g_int:TG P T.e false:=⟨X4⟩
instance z_bool:TZ P T.r 1 1 (.bool false):=⟨X4⟩
instance g_bool:TG P T.r false:=⟨X4⟩
instance z_uint8:TZ P T.a1 1 1 (.int .u8 0):=⟨X4⟩
instance g_uint8:TG P T.a1 false:=⟨X4⟩
instance z_string:TZ P T.b 1 16 (.string ⟨#[]⟩):=⟨X4⟩
instance g_string:TG P T.b false:=⟨X4⟩
instance z_uintptr:TZ P T.aF 1 8 (.int .u64 0):=⟨X4⟩
instance g_uintptr:TG P T.aF false:=⟨X4⟩
instance z_int32:TZ P T.ay 1 4 (.int .i32 0):=⟨X4⟩
instance g_int32:TG P T.ay false:=⟨X4⟩
instance z_P_heap_Heap:TZ P T.a4 1 8 (.pointer none):=⟨X4⟩
instance g_P_heap_Heap:TG P T.a4 false:=⟨X4⟩
instance z_S_api_Class:TZ P T.i 1 24 (.slice none 0 0):=⟨X4⟩
instance g_S_api_Class:TG P T.i false:=⟨X4⟩
instance s_S_api_Class:TS P T.i 111:=⟨X4⟩
instance z_S_api_Cell:TZ P T.g 1 24 (.slice none 0 0):=⟨X4⟩
instance g_S_api_Cell:TG P T.g false:=⟨X4⟩
instance s_S_api_Cell:TS P T.g 95:=⟨X4⟩
instance z_squinchref09_Heap:TZ P T.a 3 56 (.agg #[.slice none 0 0, .int .i64 0, .slice none 0 0]):=⟨X4⟩
instance g_squinchref09_Heap:TG P T.a true:=⟨X4⟩
instance f_squinchref09_Heap_0:TF P T.a 0 0 23:=⟨X4⟩
instance f_squinchref09_Heap_1:TF P T.a 1 1 3:=⟨X4⟩
instance f_squinchref09_Heap_2:TF P T.a 2 2 24:=⟨X4⟩
instance z_uint16:TZ P T.aC 1 2 (.int .u16 0):=⟨X4⟩
instance g_uint16:TG P T.aC false:=⟨X4⟩
instance z_func_string_bool:TZ P T.ad 1 8 .nilFunc:=⟨X4⟩
instance g_func_string_bool:TG P T.ad false:=⟨X4⟩
instance z_S_uint8:TZ P T.s 1 24 (.slice none 0 0):=⟨X4⟩
instance g_S_uint8:TG P T.s false:=⟨X4⟩
instance s_S_uint8:TS P T.s 5:=⟨X4⟩
instance z_api_Errno:TZ P T.w 1 8 (.int .i64 0):=⟨X4⟩
instance g_api_Errno:TG P T.w false:=⟨X4⟩
instance z_api_Value:TZ P T.f 4 40 (.agg #[.int .i64 0, .int .i64 0, .string ⟨#[]⟩, .int .i64 0]):=⟨X4⟩
instance g_api_Value:TG P T.f true:=⟨X4⟩
instance f_api_Value_0:TF P T.f 0 0 3:=⟨X4⟩
instance f_api_Value_1:TF P T.f 1 1 2:=⟨X4⟩
instance f_api_Value_2:TF P T.f 2 2 9:=⟨X4⟩
instance f_api_Value_3:TF P T.f 3 3 3:=⟨X4⟩
instance z_api_Limits:TZ P T.ac 2 16 (.agg #[.int .i64 0, .int .i64 0]):=⟨X4⟩
instance g_api_Limits:TG P T.ac true:=⟨X4⟩
instance f_api_Limits_0:TF P T.ac 0 0 3:=⟨X4⟩
instance f_api_Limits_1:TF P T.ac 1 1 3:=⟨X4⟩
instance z_func_string_string:TZ P T.aj 1 8 .nilFunc:=⟨X4⟩
instance g_func_string_string:TG P T.aj false:=⟨X4⟩
instance z_S_squinchref09_Act:TZ P T.a6 1 24 (.slice none 0 0):=⟨X4⟩
instance g_S_squinchref09_Act:TG P T.a6 false:=⟨X4⟩
instance s_S_squinchref09_Act:TS P T.a6 79:=⟨X4⟩
instance z_S_api_Value:TZ P T.k 1 24 (.slice none 0 0):=⟨X4⟩
instance g_S_api_Value:TG P T.k false:=⟨X4⟩
instance s_S_api_Value:TS P T.k 37:=⟨X4⟩
instance z_S_int:TZ P T.u 1 24 (.slice none 0 0):=⟨X4⟩
instance g_S_int:TG P T.u false:=⟨X4⟩
instance s_S_int:TS P T.u 3:=⟨X4⟩
instance z_P_hier_Table:TZ P T.z 1 8 (.pointer none):=⟨X4⟩
instance g_P_hier_Table:TG P T.z false:=⟨X4⟩
instance z_S__2_string:TZ P T.aa 1 24 (.slice none 0 0):=⟨X4⟩
instance g_S__2_string:TG P T.aa false:=⟨X4⟩
instance s_S__2_string:TS P T.aa 154:=⟨X4⟩
instance z_uint64:TZ P T.ai 1 8 (.int .u64 0):=⟨X4⟩
instance g_uint64:TG P T.ai false:=⟨X4⟩
instance z_squinchref09_Act:TZ P T.m 8 80 (.agg #[.int .i64 0, .string ⟨#[]⟩, .int .i64 0, .int .i64 0, .int .i64 0, .int .i64 0, .string ⟨#[]⟩, .int .i64 0]):=⟨X4⟩
instance g_squinchref09_Act:TG P T.m true:=⟨X4⟩
instance f_squinchref09_Act_0:TF P T.m 0 0 3:=⟨X4⟩
instance f_squinchref09_Act_1:TF P T.m 1 1 9:=⟨X4⟩
instance f_squinchref09_Act_2:TF P T.m 2 2 2:=⟨X4⟩
instance f_squinchref09_Act_3:TF P T.m 3 3 3:=⟨X4⟩
instance f_squinchref09_Act_4:TF P T.m 4 4 37:=⟨X4⟩
instance z_M_int_int:TZ P T.ab 1 8 (.map none):=⟨X4⟩
instance g_M_int_int:TG P T.ab false:=⟨X4⟩
instance m_M_int_int:TM P T.ab 3 3:=⟨X4⟩
instance z_S_string:TZ P T.h 1 24 (.slice none 0 0):=⟨X4⟩
instance g_S_string:TG P T.h false:=⟨X4⟩
instance s_S_string:TS P T.h 9:=⟨X4⟩
instance z_api_Cell:TZ P T.o 2 40 (.agg #[.string ⟨#[]⟩, .slice none 0 0]):=⟨X4⟩
instance g_api_Cell:TG P T.o true:=⟨X4⟩
instance f_api_Cell_0:TF P T.o 0 0 9:=⟨X4⟩
instance f_api_Cell_1:TF P T.o 1 1 46:=⟨X4⟩
instance z_heap_Heap:TZ P T.q 4 48 (.agg #[.pointer none, .int .i64 0, .int .i64 0, .slice none 0 0]):=⟨X4⟩
instance g_heap_Heap:TG P T.q true:=⟨X4⟩
instance f_heap_Heap_0:TF P T.q 0 0 60:=⟨X4⟩
instance f_heap_Heap_1:TF P T.q 1 1 3:=⟨X4⟩
instance f_heap_Heap_2:TF P T.q 2 2 3:=⟨X4⟩
instance f_heap_Heap_3:TF P T.q 3 3 24:=⟨X4⟩
instance z_M_string_int:TZ P T.a5 1 8 (.map none):=⟨X4⟩
instance g_M_string_int:TG P T.a5 false:=⟨X4⟩
instance m_M_string_int:TM P T.a5 9 3:=⟨X4⟩
instance z_hier_Table:TZ P T.a3 2 32 (.agg #[.slice none 0 0, .map none]):=⟨X4⟩
instance g_hier_Table:TG P T.a3 true:=⟨X4⟩
instance f_hier_Table_0:TF P T.a3 0 0 23:=⟨X4⟩
instance f_hier_Table_1:TF P T.a3 1 1 105:=⟨X4⟩
instance z_S_api_Field:TZ P T.l 1 24 (.slice none 0 0):=⟨X4⟩
instance g_S_api_Field:TG P T.l false:=⟨X4⟩
instance s_S_api_Field:TS P T.l 121:=⟨X4⟩
instance z_S_api_Method:TZ P T.j 1 24 (.slice none 0 0):=⟨X4⟩
instance g_S_api_Method:TG P T.j false:=⟨X4⟩
instance s_S_api_Method:TS P T.j 124:=⟨X4⟩
instance z_api_Class:TZ P T.c 8 112 (.agg #[.string ⟨#[]⟩, .string ⟨#[]⟩, .slice none 0 0, .bool false, .bool false, .bool false, .slice none 0 0, .slice none 0 0]):=⟨X4⟩
instance g_api_Class:TG P T.c true:=⟨X4⟩
instance f_api_Class_0:TF P T.c 0 0 9:=⟨X4⟩
instance f_api_Class_1:TF P T.c 1 1 9:=⟨X4⟩
instance f_api_Class_2:TF P T.c 2 2 90:=⟨X4⟩
instance f_api_Class_3:TF P T.c 3 3 4:=⟨X4⟩
instance f_api_Class_4:TF P T.c 4 4 4:=⟨X4⟩
instance f_api_Class_5:TF P T.c 5 5 4:=⟨X4⟩
instance f_api_Class_6:TF P T.c 6 6 108:=⟨X4⟩
instance f_api_Class_7:TF P T.c 7 7 109:=⟨X4⟩
instance z_api_Instr:TZ P T.y 3 40 (.agg #[.string ⟨#[]⟩, .int .i64 0, .string ⟨#[]⟩]):=⟨X4⟩
instance g_api_Instr:TG P T.y true:=⟨X4⟩
instance f_api_Instr_0:TF P T.y 0 0 9:=⟨X4⟩
instance f_api_Instr_1:TF P T.y 1 1 2:=⟨X4⟩
instance f_api_Instr_2:TF P T.y 2 2 9:=⟨X4⟩
instance z_S_api_Instr:TZ P T.p 1 24 (.slice none 0 0):=⟨X4⟩
instance g_S_api_Instr:TG P T.p false:=⟨X4⟩
instance s_S_api_Instr:TS P T.p 118:=⟨X4⟩
instance z_api_Field:TZ P T.n 3 40 (.agg #[.string ⟨#[]⟩, .string ⟨#[]⟩, .bool false]):=⟨X4⟩
instance g_api_Field:TG P T.n true:=⟨X4⟩
instance f_api_Field_0:TF P T.n 0 0 9:=⟨X4⟩
instance f_api_Field_1:TF P T.n 1 1 9:=⟨X4⟩
instance f_api_Field_2:TF P T.n 2 2 4:=⟨X4⟩
instance z_S_api_Catch:TZ P T.t 1 24 (.slice none 0 0):=⟨X4⟩
instance g_S_api_Catch:TG P T.t false:=⟨X4⟩
instance s_S_api_Catch:TS P T.t 222:=⟨X4⟩
instance z_api_Method:TZ P T.d 7 120 (.agg #[.string ⟨#[]⟩, .slice none 0 0, .string ⟨#[]⟩, .bool false, .int .i64 0, .slice none 0 0, .slice none 0 0]):=⟨X4⟩
instance g_api_Method:TG P T.d true:=⟨X4⟩
instance f_api_Method_0:TF P T.d 0 0 9:=⟨X4⟩
instance f_api_Method_1:TF P T.d 1 1 90:=⟨X4⟩
instance f_api_Method_2:TF P T.d 2 2 9:=⟨X4⟩
instance f_api_Method_3:TF P T.d 3 3 4:=⟨X4⟩
instance f_api_Method_4:TF P T.d 4 4 3:=⟨X4⟩
instance f_api_Method_5:TF P T.d 5 5 119:=⟨X4⟩
instance f_api_Method_6:TF P T.d 6 6 122:=⟨X4⟩
instance z_S_S_bool:TZ P T.ae 1 24 (.slice none 0 0):=⟨X4⟩
instance g_S_S_bool:TG P T.ae false:=⟨X4⟩
instance s_S_S_bool:TS P T.ae 129:=⟨X4⟩
instance z_S_bool:TZ P T.a9 1 24 (.slice none 0 0):=⟨X4⟩
instance g_S_bool:TG P T.a9 false:=⟨X4⟩
instance s_S_bool:TS P T.a9 4:=⟨X4⟩
instance z_func_int_2:TZ P T.aw 1 8 .nilFunc:=⟨X4⟩
instance g_func_int_2:TG P T.aw false:=⟨X4⟩
instance z_P_pack_Writer:TZ P T.af 1 8 (.pointer none):=⟨X4⟩
instance g_P_pack_Writer:TG P T.af false:=⟨X4⟩
instance z_A2_string:TZ P T.a8 2 32 (.agg #[.string ⟨#[]⟩, .string ⟨#[]⟩]):=⟨X4⟩
instance g_A2_string:TG P T.a8 true:=⟨X4⟩
instance a_A2_string:TA P T.a8 2 9:=⟨X4⟩
instance z_A6_string:TZ P T.az 6 96 (.agg #[.string ⟨#[]⟩, .string ⟨#[]⟩, .string ⟨#[]⟩, .string ⟨#[]⟩, .string ⟨#[]⟩, .string ⟨#[]⟩]):=⟨X4⟩
instance g_A6_string:TG P T.az true:=⟨X4⟩
instance a_A6_string:TA P T.az 6 9:=⟨X4⟩
instance z_M_string_string:TZ P T.a0 1 8 (.map none):=⟨X4⟩
instance g_M_string_string:TG P T.a0 false:=⟨X4⟩
instance m_M_string_string:TM P T.a0 9 9:=⟨X4⟩
instance z_func_api_Method_string:TZ P T.ag 1 8 .nilFunc:=⟨X4⟩
instance g_func_api_Method_string:TG P T.ag false:=⟨X4⟩
instance z_func_api_Method_bool:TZ P T.am 1 8 .nilFunc:=⟨X4⟩
instance g_func_api_Method_bool:TG P T.am false:=⟨X4⟩
instance g_A256_uint8:TG P T.aD true:=⟨X4⟩
instance a_A256_uint8:TA P T.aD 256 5:=⟨X4⟩
instance z_utf8_acceptRange:TZ P T.au 2 2 (.agg #[.int .u8 0, .int .u8 0]):=⟨X4⟩
instance g_utf8_acceptRange:TG P T.au true:=⟨X4⟩
instance f_utf8_acceptRange_0:TF P T.au 0 0 5:=⟨X4⟩
instance f_utf8_acceptRange_1:TF P T.au 1 1 5:=⟨X4⟩
instance z_A16_utf8_acceptRange:TZ P T.av 32 32 (.agg #[.int .u8 0, .int .u8 0, .int .u8 0, .int .u8 0, .int .u8 0, .int .u8 0, .int .u8 0, .int .u8 0, .int .u8 0, .int .u8 0, .int .u8 0, .int .u8 0, .int .u8 0, .int .u8 0, .int .u8 0, .int .u8 0, .int .u8 0, .int .u8 0, .int .u8 0, .int .u8 0, .int .u8 0, .int .u8 0, .int .u8 0, .int .u8 0, .int .u8 0, .int .u8 0, .int .u8 0, .int .u8 0, .int .u8 0, .int .u8 0, .int .u8 0, .int .u8 0]):=⟨X4⟩
instance g_A16_utf8_acceptRange:TG P T.av true:=⟨X4⟩
instance a_A16_utf8_acceptRange:TA P T.av 16 198:=⟨X4⟩
instance z_pack_Writer:TZ P T.a7 1 24 (.agg #[.slice none 0 0]):=⟨X4⟩
instance g_pack_Writer:TG P T.a7 true:=⟨X4⟩
instance f_pack_Writer_0:TF P T.a7 0 0 32:=⟨X4⟩
instance z_S_uint64:TZ P T.ak 1 24 (.slice none 0 0):=⟨X4⟩
instance g_S_uint64:TG P T.ak false:=⟨X4⟩
instance s_S_uint64:TS P T.ak 75:=⟨X4⟩
instance z_func_api_Field_string:TZ P T.ah 1 8 .nilFunc:=⟨X4⟩
instance g_func_api_Field_string:TG P T.ah false:=⟨X4⟩
instance z_func_api_Field_bool:TZ P T.aq 1 8 .nilFunc:=⟨X4⟩
instance g_func_api_Field_bool:TG P T.aq false:=⟨X4⟩
instance z_api_Catch:TZ P T.v 4 40 (.agg #[.int .i64 0, .int .i64 0, .int .i64 0, .string ⟨#[]⟩]):=⟨X4⟩
instance g_api_Catch:TG P T.v true:=⟨X4⟩
instance f_api_Catch_0:TF P T.v 0 0 3:=⟨X4⟩
instance f_api_Catch_1:TF P T.v 1 1 3:=⟨X4⟩
instance f_api_Catch_2:TF P T.v 2 2 3:=⟨X4⟩
instance f_api_Catch_3:TF P T.v 3 3 9:=⟨X4⟩
instance z_S_int64:TZ P T.aB 1 24 (.slice none 0 0):=⟨X4⟩
instance g_S_int64:TG P T.aB false:=⟨X4⟩
instance s_S_int64:TS P T.aB 2:=⟨X4⟩
instance z_func_api_Catch_bool:TZ P T.ap 1 8 .nilFunc:=⟨X4⟩
instance g_func_api_Catch_bool:TG P T.ap false:=⟨X4⟩
instance z_func_api_Instr_bool:TZ P T.ar 1 8 .nilFunc:=⟨X4⟩
instance g_func_api_Instr_bool:TG P T.ar false:=⟨X4⟩
instance g_strings_asciiSet:TG P T.an true:=⟨X4⟩
instance a_strings_asciiSet:TA P T.an 256 4:=⟨X4⟩
instance z_strings_Builder:TZ P T.ax 2 32 (.agg #[.pointer none, .slice none 0 0]):=⟨X4⟩
instance g_strings_Builder:TG P T.ax true:=⟨X4⟩
instance f_strings_Builder_0:TF P T.ax 0 0 252:=⟨X4⟩
instance f_strings_Builder_1:TF P T.ax 1 1 32:=⟨X4⟩
instance z_P_uint8:TZ P T.aE 1 8 (.pointer none):=⟨X4⟩
instance g_P_uint8:TG P T.aE false:=⟨X4⟩
instance z_code_op:TZ P T.al 3 24 (.agg #[.string ⟨#[]⟩, .bool false, .bool false]):=⟨X4⟩
instance g_code_op:TG P T.al true:=⟨X4⟩
instance f_code_op_0:TF P T.al 0 0 9:=⟨X4⟩
instance f_code_op_1:TF P T.al 1 1 4:=⟨X4⟩
instance f_code_op_2:TF P T.al 2 2 4:=⟨X4⟩
instance g_A42_code_op:TG P T.ao true:=⟨X4⟩
instance a_A42_code_op:TA P T.ao 42 271:=⟨X4⟩
instance z_S_code_op:TZ P T.aA 1 24 (.slice none 0 0):=⟨X4⟩
instance g_S_code_op:TG P T.aA false:=⟨X4⟩
instance s_S_code_op:TS P T.aA 271:=⟨X4⟩
instance z_uint32:TZ P T.aG 1 4 (.int .u32 0):=⟨X4⟩
instance g_uint32:TG P T.aG false:=⟨X4⟩
end Go.Proofs.Y
namespace Go.Emb
theorem aS {p:Prop} (h:p:=by (first | assumption | exact Stp.sat Q7 | exact Hst.sat Q7)):p:=h
theorem aL {p:Prop} (h:p:=by (first | assumption | exact Sl.lift Q7 (by (repeat (first | exact SLe.refl _ | refine SLe.more ?_ Q7 | refine SLe.more ?_ (Nxt.le Q7) | refine SLe.step ?_ Q7))) | exact U1.lift Q7 (by (repeat (first | exact SLe.refl _ | refine SLe.more ?_ Q7 | refine SLe.more ?_ (Nxt.le Q7) | refine SLe.step ?_ Q7))) | exact Jb.lift Q7 (by (repeat (first | exact SLe.refl _ | refine SLe.more ?_ Q7 | refine SLe.more ?_ (Nxt.le Q7) | refine SLe.step ?_ Q7))) | exact RCl_lift Q7 (by (repeat (first | exact SLe.refl _ | refine SLe.more ?_ Q7 | refine SLe.more ?_ (Nxt.le Q7) | refine SLe.step ?_ Q7))) | exact RMe_lift Q7 (by (repeat (first | exact SLe.refl _ | refine SLe.more ?_ Q7 | refine SLe.more ?_ (Nxt.le Q7) | refine SLe.step ?_ Q7))) | exact Glb.lift Q7 (by (repeat (first | exact SLe.refl _ | refine SLe.more ?_ Q7 | refine SLe.more ?_ (Nxt.le Q7) | refine SLe.step ?_ Q7))) | exact Tab.lift Q7 (by (repeat (first | exact SLe.refl _ | refine SLe.more ?_ Q7 | refine SLe.more ?_ (Nxt.le Q7) | refine SLe.step ?_ Q7))) | exact RIn_any Q7 | exact RFd_any Q7 | exact RCa_any Q7)):p:=h
theorem aR {p:Prop} (h:p:=by with_unfolding_all rfl):p:=h
theorem aF {p:Prop} (a:p:=by (refine Eq.subst (motive:=fun b=>K b _) ?_ (h _ _ (by (repeat (first | exact Stp.refl (by (first | assumption | exact Stp.sat Q7 | exact Hst.sat Q7)) | assumption | refine Stp.trans ?_ (by first | assumption | exact Hst.stp Q7)))));clear h;(try clear hA);(try clear hB);(try clear hC);first | rfl | ((try simp only[Bool.not_eq_true',Bool.not_eq_false',Bool.not_true,Bool.not_false,Bool.not_eq_true] at*);simp only[*,Mb,reduceIte];done) | (simp[*];done) | simp_all)):p:=a
theorem au {p:Prop} (h:p:=by (first | assumption | (first | assumption | exact Stp.sat Q7 | exact Hst.sat Q7) | (first | assumption | exact Sl.lift Q7 (by (repeat (first | exact SLe.refl _ | refine SLe.more ?_ Q7 | refine SLe.more ?_ (Nxt.le Q7) | refine SLe.step ?_ Q7))) | exact U1.lift Q7 (by (repeat (first | exact SLe.refl _ | refine SLe.more ?_ Q7 | refine SLe.more ?_ (Nxt.le Q7) | refine SLe.step ?_ Q7))) | exact Jb.lift Q7 (by (repeat (first | exact SLe.refl _ | refine SLe.more ?_ Q7 | refine SLe.more ?_ (Nxt.le Q7) | refine SLe.step ?_ Q7))) | exact RCl_lift Q7 (by (repeat (first | exact SLe.refl _ | refine SLe.more ?_ Q7 | refine SLe.more ?_ (Nxt.le Q7) | refine SLe.step ?_ Q7))) | exact RMe_lift Q7 (by (repeat (first | exact SLe.refl _ | refine SLe.more ?_ Q7 | refine SLe.more ?_ (Nxt.le Q7) | refine SLe.step ?_ Q7))) | exact Glb.lift Q7 (by (repeat (first | exact SLe.refl _ | refine SLe.more ?_ Q7 | refine SLe.more ?_ (Nxt.le Q7) | refine SLe.step ?_ Q7))) | exact Tab.lift Q7 (by (repeat (first | exact SLe.refl _ | refine SLe.more ?_ Q7 | refine SLe.more ?_ (Nxt.le Q7) | refine SLe.step ?_ Q7))) | exact RIn_any Q7 | exact RFd_any Q7 | exact RCa_any Q7) | exact Nat.le_trans Q7 L1 | omega)):p:=h
end Go.Emb
namespace Go.Proofs.Y
open Go.Emb
theorem X9f {a:List UInt8} {cs:List Bool} {r:TypeId} {w:World} {K:Value->World->Prop}:J7 P .len [T.b] r cs [S a] w K=K (I a.length) w:=G5 Y8
theorem X9e {c d:Operand} {a b:Bool} {w:World} {K:Value->World->Prop}:Y6 P .eql T.r c d (.bool a) (.bool b) w K=K (.bool (a==b)) w:=Q8N Q6D
theorem X9g {c d:Operand} {a b:Bool} {w:World} {K:Value->World->Prop}:Y6 P .neq T.r c d (.bool a) (.bool b) w K=K (.bool (!(a==b))) w:=Q8O Q6D
def Mm:=And.intro @fa <| And.intro @E4 <| And.intro @Yy <| And.intro @X9f <| And.intro @X9e @X9g
def M1:=And.intro Mm Mr
def M2:=And.intro Mm Mp
end Go.Proofs.Y
namespace Go.Proofs.Y
open Go.Emb Go.RowKit Go.Kd Go.Hm
variable {w : World} {K : Value -> World -> Prop} {σ : Q2}
def Og (m:Hm.Met):Bool:=decide (32<m.params.length)||decide (32<m.catches.length)||decide (200<m.code.length)||decide (64<m.locals)
def Vp (c:Cla):Bool:=c.methods.any Og||decide (32<c.like.length)||decide (32<c.fields.length)||decide (32<c.methods.length)
theorem X86 {c : Cla} {cs : List Value} (hs : X3 w σ) (hc : M0 σ c cs) (h : ∀ w', Below w.heap.size w w' -> K (.bool (Vp c)) w') : Q0 P F.d0 [.agg cs.toArray] w K := Q9L (by
  obtain ⟨lv, fv, mv, rfl, hl, hf, hm, hn, hsu⟩ := hc
  unfold Q2W
  simp only [L6]
  unfold Z8 X7 J5 U7 X6 X2 X1
  refine B6 hs fun a w1 σ1 hk ha => ?_
  have hs := hk.sat
  replace hl := hl.up hk
  replace hf := hf.up hk
  replace hm := hm.up hk
  simp only [Value.cells] at ha
  ((try simp only [↓M1, M1, Mb, reduceIte]); repeat ((first | refine ld (by assumption) (by assumption) rfl ?_ | refine Y3 (by assumption) (by assumption) rfl ?_ | refine Q6 (by assumption) ?_); (try simp only [↓M1, M1, Mb, reduceIte])))
  refine V2 c.methods.length (fun n w' => Below w1.heap.size w1 w' /\ ((c.methods.take n).any Og) = false) ⟨Below.refl _ _, by simp⟩ fun n w2 d hn hi => ?_
  obtain ⟨hb, hp⟩ := hi
  have hs2 := hs.below hb
  ((try simp only [↓M1, M1, Mb, reduceIte]); repeat ((first | refine ld (by assumption) (by assumption) rfl ?_ | refine Y3 (by assumption) (by assumption) rfl ?_ | refine Q6 (by assumption) ?_); (try simp only [↓M1, M1, Mb, reduceIte])))
  refine Q4 (fun hc => ?_) (fun hc => ?_)
  · have hn' : n < c.methods.length := by simpa using hc
    refine E3 hm hn' fun p cs hl1 hlen hr => ?_
    refine Z2 hs2 hl1 hlen ?_
    refine Z3 hs2 (by rfl) hlen (Rep.one hr) fun q w3 σ3 hk3 hq => ?_
    obtain ⟨pv, cv, hv, rfl, g1, g2, g3, g4⟩ := hr
    have hs3 := hk3.sat
    replace g1 := g1.up hk3
    replace g2 := g2.up hk3
    replace g3 := g3.up hk3
    ((try simp only [↓M1, M1, Mb, reduceIte]); repeat ((first | refine ld (by assumption) (by assumption) rfl ?_ | refine Y3 (by assumption) (by assumption) rfl ?_ | refine Q6 (by assumption) ?_); (try simp only [↓M1, M1, Mb, reduceIte])))
    (repeat' ((first | refine U9 (fun hh => ?_) (fun hh => ?_) | refine Q4 (fun hh => ?_) (fun hh => ?_)) <;> (try simp only [hh, Bool.not_true, Bool.not_false, ↓M1, M1, Mb, reduceIte]) <;> ((try simp only [↓M1, M1, Mb, reduceIte]); repeat ((first | refine ld (by assumption) (by assumption) rfl ?_ | refine Y3 (by assumption) (by assumption) rfl ?_ | refine Q6 (by assumption) ?_); (try simp only [↓M1, M1, Mb, reduceIte])))))
    all_goals first
      | refine Y7 hm.max hn' ⟨bt hb hk3.bel, ?_⟩
        rw [D3 hn', hp]; simp only [Og]; (first | (simp only [decide_eq_true_eq, decide_eq_false_iff_not, Bool.not_true, Bool.not_false, Bool.not_eq_true', Bool.not_eq_false', Bool.or_eq_true, Bool.and_eq_true, Bool.or_eq_false_iff, Bool.and_eq_false_iff, Bool.false_or, Bool.true_and, Bool.or_false, Bool.and_true] at *; first | omega | (and_intros <;> omega)) | (rw [Bool.eq_iff_iff]; (simp only [decide_eq_true_eq, decide_eq_false_iff_not, Bool.not_true, Bool.not_false, Bool.not_eq_true', Bool.not_eq_false', Bool.or_eq_true, Bool.and_eq_true, Bool.or_eq_false_iff, Bool.and_eq_false_iff, Bool.false_or, Bool.true_and, Bool.or_false, Bool.and_true] at *; first | omega | (and_intros <;> omega))))
      | have e : Vp c = true := by
          have : Og c.methods[n] = true := by simp only [Og]; (first | (simp only [decide_eq_true_eq, decide_eq_false_iff_not, Bool.not_true, Bool.not_false, Bool.not_eq_true', Bool.not_eq_false', Bool.or_eq_true, Bool.and_eq_true, Bool.or_eq_false_iff, Bool.and_eq_false_iff, Bool.false_or, Bool.true_and, Bool.or_false, Bool.and_true] at *; first | omega | (and_intros <;> omega)) | (rw [Bool.eq_iff_iff]; (simp only [decide_eq_true_eq, decide_eq_false_iff_not, Bool.not_true, Bool.not_false, Bool.not_eq_true', Bool.not_eq_false', Bool.or_eq_true, Bool.and_eq_true, Bool.or_eq_false_iff, Bool.and_eq_false_iff, Bool.false_or, Bool.true_and, Bool.or_false, Bool.and_true] at *; first | omega | (and_intros <;> omega))))
          simp [Vp, I6 hn' this]
        rw [<- e]; exact h _ (bt hk.bel (bt hb hk3.bel))
  · have hn' : ¬ n < c.methods.length := by simpa using hc
    rw [C9 hn'] at hp
    have h := h w2 (bt hk.bel hb)
    ((try simp only [↓M1, M1, Mb, reduceIte]); repeat ((first | refine ld (by assumption) (by assumption) rfl ?_ | refine Y3 (by assumption) (by assumption) rfl ?_ | refine Q6 (by assumption) ?_); (try simp only [↓M1, M1, Mb, reduceIte])))
    (repeat' ((first | refine U9 (fun hh => ?_) (fun hh => ?_) | refine Q4 (fun hh => ?_) (fun hh => ?_)) <;> (try simp only [hh, Bool.not_true, Bool.not_false, ↓M1, M1, Mb, reduceIte]) <;> ((try simp only [↓M1, M1, Mb, reduceIte]); repeat ((first | refine ld (by assumption) (by assumption) rfl ?_ | refine Y3 (by assumption) (by assumption) rfl ?_ | refine Q6 (by assumption) ?_); (try simp only [↓M1, M1, Mb, reduceIte])))))
    all_goals
      refine Eq.subst (motive := fun b => K (.bool b) w2) ?_ h
      simp only [Vp, hp]
      (first | (simp only [decide_eq_true_eq, decide_eq_false_iff_not, Bool.not_true, Bool.not_false, Bool.not_eq_true', Bool.not_eq_false', Bool.or_eq_true, Bool.and_eq_true, Bool.or_eq_false_iff, Bool.and_eq_false_iff, Bool.false_or, Bool.true_and, Bool.or_false, Bool.and_true] at *; first | omega | (and_intros <;> omega)) | (rw [Bool.eq_iff_iff]; (simp only [decide_eq_true_eq, decide_eq_false_iff_not, Bool.not_true, Bool.not_false, Bool.not_eq_true', Bool.not_eq_false', Bool.or_eq_true, Bool.and_eq_true, Bool.or_eq_false_iff, Bool.and_eq_false_iff, Bool.false_or, Bool.true_and, Bool.or_false, Bool.and_true] at *; first | omega | (and_intros <;> omega)))))
end Go.Proofs.Y
namespace Go.Emb
open Go.RowKit Go.Hm
variable {H : Type} {enc : TypeId × Value -> H} {P : Program} {W : World} {t : TypeId} {cs : List Value} {fuel : Nat} {x : DataW H × List MemPlace}
def Mi (W:World):Q2:=fun b=>W.heap[b]?
theorem X4z:X3 W (Mi W):=fun b o h=>h
def Wt (P:Program) (t:TypeId) (d:DataW H):Prop:= ∀n∈d.weights P t,n<=reachBytes
theorem X7j {a:Addr} {n:Nat} (h:W.cells? 0 a n=some cs) (C:0<n):cs.length=n/\U1 (Mi W) a cs:=by
 obtain ⟨_,m,u⟩:=World.cells?_some h;refine ⟨m,?_⟩
 have key: ∀i v,cs[i]? =some v-> ∃arr e f,W.heap[a.block]? =some (.cells arr e f)/\(a.add i).spot=none/\arr[a.off+i]? =some v:=by
  intro i v g;have B:i<cs.length:=(List.getElem?_eq_some_iff.1 g).1;have b:=u i Q5;rw[g] at b;unfold World.cell? at b;rw[I4,Yv] at b;cases p:W.heap[a.block]? with
  | none=>rw[p] at b;cases b
  | some o=>
   rw[p] at b;cases o with
   | cells arr e f=>
    simp only at b
    split at b
    .cases b
    .rename_i w
     exact ⟨arr,e,f,rfl,by simpa using w,b⟩
   | _=>cases b
 cases j:cs with
 | nil=>subst j;simp at m;omega
 | cons c r=>
  obtain ⟨arr,e,f,l,s,A⟩:=key 0 c (by rw[j];rfl)
  refine ⟨by simpa [Addr.add] using s,arr,e,f,l,fun i v g=>?_⟩
  obtain ⟨k,z,q,d,D,y⟩:=key i v (by rw[j];exact g)
  rw[l] at d
  injection d with d
  injection d with d
  subst d;exact y
theorem X4g (a:P.underlying t=some .string) (h:DataW.trod enc P W 0 (fun _=>true) true fuel t cs=some x) (b:Wt P t x.1): ∃s:Kd.Q9,cs=[S s]/\s.length<=V5:=by
 obtain ⟨⟨⟨s⟩⟩,rfl,rfl,_⟩:=DataW.trod_string a h;refine ⟨s,rfl,?_⟩;have:=b s.length (by simp[DataW.weights])
 exact this
theorem An (c:P.underlying t=some (.int .i64)) (h:DataW.trod enc P W 0 (fun _=>true) true fuel t cs=some x): ∃n,cs=[I n]/\Yg n:=by
 obtain ⟨n,b,_,a⟩:=DataW.trod_int c h;refine ⟨n,b,?_⟩;simp only[Lit.wf,Bool.and_eq_true,decide_eq_true_eq] at a;exact ⟨a.1,a.2⟩
theorem X7k {α:Type} {Q:Nat->α->Prop}: ∀(n:Nat),(∀i,i<n-> ∃y,Q i y)-> ∃xs:List α,xs.length=n/\ ∀i y,xs[i]? =some y->Q i y:=by
 intro n
 induction n with
 | zero=>intro _;exact ⟨[],rfl,by simp⟩
 | succ n f=>
  intro h;obtain ⟨xs,c,d⟩:=f fun i b=>h i Q5;obtain ⟨y,e⟩:=h n Q5;refine ⟨xs++[y],by simp[c],fun i z a=>?_⟩
  by_cases b:i<xs.length
  .rw[List.getElem?_append_left b] at a;exact d i z a
  .rw[List.getElem?_append_right Q5] at a
   have:i-xs.length=0:=by
    have:=(List.getElem?_eq_some_iff.1 a).1
    simp at this;omega
   rw[this] at a
   simp at a
   subst a;rw[show i=n by omega];exact e
theorem X8N {e:TypeId} {d:DataW H}: ∀{l:List (DataW H)},d∈l-> ∀n∈d.weights P e,n∈DataW.weightsAll P e l:=by
 intro l
 induction l with
 | nil=>intro h;simp at h
 | cons a r c=>
  intro h n b;simp only[DataW.weightsAll,List.mem_append]
  rcases List.mem_cons.1 h with rfl | h
  .exact .inl b
  .exact .inr (c h n b)
theorem X6r {α:Type} {R:Q2->α->List Value->Prop} {e:TypeId} {sz:Nat} (z:P.underlying t=some (.slice e)) (L:P.cellsOf e=sz) (Q:0<sz)
 (r: ∀fuel cs (x:DataW H×List MemPlace),DataW.trod enc P W 0 (fun _=>true) true fuel e cs=some x->Wt P e x.1-> ∃y,R (Mi W) y cs)
 (h:DataW.trod enc P W 0 (fun _=>true) true fuel t cs=some x) (O:Wt P t x.1): ∃v xs,cs=[v]/\Sl sz R (Mi W) v xs:=by
 rcases DataW.trod_slice z h with ⟨rfl,rfl⟩ | ⟨a,o,p,d,A,n,_,rfl,rfl,_,N,s,w,f,_⟩
 .exact ⟨_,[],rfl,Sl.nil⟩
 subst L
 have step: ∀i,i<o-> ∃y,∃c,U1 (Mi W) (a.add (i*P.cellsOf e)) c/\c.length=P.cellsOf e/\R (Mi W) y c:=by
  intro i M;have u:=f i M;have g:i<d.length:=by omega
  rw[List.getElem?_eq_getElem g] at u;obtain ⟨c,C,D⟩:=Option.bind_eq_some_iff.1 u;obtain ⟨E,q⟩:=X7j C Q
  obtain ⟨y,l⟩:=r n c _ D (fun m s=>O m (by
   simp only[DataW.weights,z,List.mem_cons,List.mem_append];exact .inr (.inl (X8N (List.mem_map.2 ⟨_,List.getElem_mem g,rfl⟩) m s))))
  exact ⟨y,c,q,E,l⟩
 obtain ⟨xs,j,k⟩:=X7k o step;refine ⟨_,xs,rfl,some a,p,by rw[j],by rw[j];exact N,s,by simp,fun b J=>?_⟩
 cases J;refine ⟨fun B=>?_,fun i y l=>k i y l⟩;obtain ⟨y,l⟩: ∃y,xs[0]? =some y:=⟨xs[0],List.getElem?_eq_getElem B⟩;obtain ⟨c,q,_,_⟩:=k 0 y l;have:=q.1
 simpa [Addr.add] using this
theorem X1U: ∀{a:List TypeId} {l:List (DataW H)} {i:Nat} {u:TypeId} {d:DataW H},a[i]? =some u->l[i]? =some d-> ∀n∈d.weights P u,n∈DataW.weightsEach P a l:=
 fun b c n e=>DataW.weights_mem_each b c n e
theorem Dp {c:Array Field} (g:P.underlying t=some (.struct c)) (h:DataW.trod enc P W 0 (fun _=>true) true fuel t cs=some x) (s:Wt P t x.1) (i:Nat) {o:Nat} {b:TypeId}
 (q:(c[i]?).map (fun f=>(f.type,f.offset))=some (b,o)) (l:P.cellsOf b=1): ∃n y,DataW.trod enc P W 0 (fun _=>true) true n b ((cs.drop o).take 1)=some y/\Wt P b y.1:=by
 obtain ⟨xs,n,_,rfl,v,j,k⟩:=DataW.trod_struct g h;obtain ⟨f,a,p⟩:=Option.map_eq_some_iff.1 q;cases p;have d:=k i f a;have e:i<xs.length:=by rw[j];exact (Array.getElem?_eq_some_iff.1 a).1
 rw[List.getElem?_eq_getElem e,l] at d;refine ⟨n,_,d,fun m r=>s m ?_⟩;simp only[DataW.weights,g];exact X1U (i:=i) (u:=f.type) (by rw[List.getElem?_map,Array.getElem?_toList,a];rfl) (by rw[List.getElem?_map,List.getElem?_eq_getElem e];rfl) m r
theorem X4f {a:Array Field} {k:Nat} (d:P.underlying t=some (.struct a)) (c:P.cellsOf t=k) (h:DataW.trod enc P W 0 (fun _=>true) true fuel t cs=some x):cs.length=k:=by
 obtain ⟨_,_,_,_,b,_,_⟩:=DataW.trod_struct d h;rw[b,c]
theorem X6m {α:Type} {l:List α} (h:l.length=3): ∃a b c,l=[a,b,c]:=by
 match l,h with
 | [a,b,c],_=>exact ⟨a,b,c,rfl⟩
theorem X9c {α:Type} {l:List α} (h:l.length=4): ∃a b c d,l=[a,b,c,d]:=by
 match l,h with
 | [a,b,c,d],_=>exact ⟨a,b,c,d,rfl⟩
theorem X9d {α:Type} {l:List α} (h:l.length=8): ∃a b c d e f g i,l=[a,b,c,d,e,f,g,i]:=by
 match l,h with
 | [a,b,c,d,e,f,g,i],_=>exact ⟨a,b,c,d,e,f,g,i,rfl⟩
end Go.Emb
namespace Go.Proofs.Y
open Go.Emb Go.RowKit Go.Kd Go.Hm
theorem Q0T:P.cellsOf T.b=1:=by kernel_rfl
theorem X8C:P.cellsOf T.r=1:=by kernel_rfl
theorem Q8w:P.cellsOf T.e=1:=by kernel_rfl
end Go.Proofs.Y
namespace Go.Emb
def V3 {α β:Type} (a:β->α->Bool×β):β->List α->Nat->Option Nat×β
 | s,[],_=>(none,s)
 | s,x::xs,i=>if (a s x).1 then (some i,(a s x).2) else V3 a (a s x).2 xs (i+1)
def D0 (o:Option Nat):Int:=match o with | some i=>i | none=> -1
theorem Ql {α:Type} (p:α->Bool): ∀(xs:List α) (i:Nat),(V3 (fun (_:Unit) x=>(p x,())) () xs i).1=(xs.findIdx? p).map (· +i):=by
 intro xs
 induction xs with
 | nil=>intro i;rfl
 | cons x r ih=>
  intro i;rw[List.findIdx?_cons];simp only[V3];cases p x with
  | true=>simp
  | false=>
   simp only[Bool.false_eq_true,if_false];rw[ih (i+1),Option.map_map]
   congr 1;funext n;simp only[Function.comp];omega
theorem Cd {α β:Type} (a:β->α->Bool×β) (s:β) (xs:List α) (i:Nat):decide ((0:Int)<=D0 (V3 a s xs i).1)=(V3 a s xs i).1.isSome:=by
 cases (V3 a s xs i).1<;>simp[D0]
end Go.Emb
namespace Go.Proofs.Y
open Go.Emb Go.RowKit Go.Kd Go.Hm
variable {w : World} {K : Value -> World -> Prop} {σ : Q2}
theorem Oa {β:Type} {xs:List Hm.Met} {v f:Value} (b:β->Hm.Met->Bool×β) (m:β) (a:β->World->Prop) (D:Nat->Prop) (l: ∀s w,a s w->X3 w σ) (y:a m w) (u:Sl 7 B8 σ v xs)
 (z: ∀s x cs (w1:World) (K:Value->World->Prop),x∈xs->Kpt D w w1->a s w1->B8 σ x cs->cs.length=7->(∀w',Kpt D w w'->a (b s x).2 w'->K (.bool (b s x).1) w')->J0 P f [.agg cs.toArray] w1 K)
 (h: ∀w',Kpt D w w'->a (V3 b m xs 0).2 w'->K (I (D0 (V3 b m xs 0).1)) w'):Q0 P F.i [v,f] w K:=Ju (by
 unfold P6 J5 U7 X6 X1
 ((try simp only[↓M1,M1,Mb,reduceIte]);repeat ((first | refine ld Q7 Q7 rfl ?_ | refine Y3 Q7 Q7 rfl ?_ | refine Q6 Q7 ?_);(try simp only[↓M1,M1,Mb,reduceIte])))
 refine V2 xs.length (fun n w'=>Kpt D w w'/\ ∃s,a s w'/\V3 b m xs 0=V3 b s (xs.drop n) n) ⟨Kpt.refl,m,y,rfl⟩ fun n w1 d E i=>?_;obtain ⟨t,s,i,e⟩:=i;have r:=l s w1 i
 ((try simp only[↓M1,M1,Mb,reduceIte]);repeat ((first | refine ld Q7 Q7 rfl ?_ | refine Y3 Q7 Q7 rfl ?_ | refine Q6 Q7 ?_);(try simp only[↓M1,M1,Mb,reduceIte])))
 refine Q4 (fun q=>?_) (fun q=>?_)
 .have c:n<xs.length:=by simpa using q
  refine E3 u c fun p cs A g B=>?_;refine Z2 r A g ?_;refine z s xs[n] cs w1 _ (List.getElem_mem c) t i B g fun C k j=>?_;rw[List.drop_eq_getElem_cons c] at e;simp only[V3] at e;refine Q4 (fun o=>?_) (fun o=>?_)
  .rw[o] at e
   have:=h C k;rw[e] at this;exact this j
  .rw[o] at e
   ((try simp only[↓M1,M1,Mb,reduceIte]);repeat ((first | refine ld Q7 Q7 rfl ?_ | refine Y3 Q7 Q7 rfl ?_ | refine Q6 Q7 ?_);(try simp only[↓M1,M1,Mb,reduceIte])))
   exact Y7 u.max c ⟨k,_,j,by simpa using e⟩
 .have c: ¬n<xs.length:=by simpa using q
  rw[List.drop_eq_nil_of_le Q5] at e;have:=h w1 t;rw[e] at this;exact this i)
theorem Wd {β:Type} {xs:List Hm.Met} {v f:Value} (b:β->Hm.Met->Bool×β) (d:β) (a:β->World->Prop) (D:Nat->Prop) (c: ∀s w,a s w->X3 w σ) (e:a d w) (k:Sl 7 B8 σ v xs)
 (g: ∀s x cs (w1:World) (K:Value->World->Prop),x∈xs->Kpt D w w1->a s w1->B8 σ x cs->cs.length=7->(∀w',Kpt D w w'->a (b s x).2 w'->K (.bool (b s x).1) w')->J0 P f [.agg cs.toArray] w1 K)
 (h: ∀w',Kpt D w w'->a (V3 b d xs 0).2 w'->K (.bool (V3 b d xs 0).1.isSome) w'):Q0 P F.a [v,f] w K:=Zj (by
 unfold I8 X2;refine Oa b d a D c e k g fun w1 j i=>?_
 (try simp only[↓M1,M1,Mb,reduceIte])
 rw[Cd];exact h w1 j i)
theorem Pv {xs:List Hm.Met} {v f:Value} (p:Hm.Met->Bool) (hs:X3 w σ) (hv:Sl 7 B8 σ v xs)
 (hf: ∀x cs (w1:World) (K:Value->World->Prop),x∈xs->X3 w1 σ->B8 σ x cs->cs.length=7->(∀w',Below w1.heap.size w1 w'->K (.bool (p x)) w')->J0 P f [.agg cs.toArray] w1 K)
 (h: ∀w',Below w.heap.size w w'->K (I (D0 (xs.findIdx? p))) w'):Q0 P F.i [v,f] w K:=by
 refine Oa (fun (_:Unit) x=>(p x,())) () (fun _ w'=>Below w.heap.size w w') (fun _=>False) (fun _ w' hb=>hs.below hb) (Below.refl _ _) hv (fun s x cs w1 K hx hk hi hr hl hK=>hf x cs w1 K hx (hs.below hi) hr hl fun w' hb=>hK w' (.of_below (bt hi hb)) (bt hi hb)) fun w' hk hi=>?_;rw[Ql]
 simpa using h w' hi
theorem T0 {xs:List Hm.Met} {v f:Value} (p:Hm.Met->Bool) (hs:X3 w σ) (hv:Sl 7 B8 σ v xs)
 (hf: ∀x cs (w1:World) (K:Value->World->Prop),x∈xs->X3 w1 σ->B8 σ x cs->cs.length=7->(∀w',Below w1.heap.size w1 w'->K (.bool (p x)) w')->J0 P f [.agg cs.toArray] w1 K)
 (h: ∀w',Below w.heap.size w w'->K (.bool (xs.any p)) w'):Q0 P F.a [v,f] w K:=by
 refine Wd (fun (_:Unit) x=>(p x,())) () (fun _ w'=>Below w.heap.size w w') (fun _=>False) (fun _ w' hb=>hs.below hb) (Below.refl _ _) hv (fun s x cs w1 K hx hk hi hr hl hK=>hf x cs w1 K hx (hs.below hi) hr hl fun w' hb=>hK w' (.of_below (bt hi hb)) (bt hi hb)) fun w' hk hi=>?_;rw[Ql]
 simpa using h w' hi
theorem Dt {β:Type} {xs:List Fld} {v f:Value} (b:β->Fld->Bool×β) (m:β) (a:β->World->Prop) (D:Nat->Prop) (l: ∀s w,a s w->X3 w σ) (y:a m w) (u:Sl 3 I1 σ v xs)
 (z: ∀s x cs (w1:World) (K:Value->World->Prop),x∈xs->Kpt D w w1->a s w1->I1 σ x cs->cs.length=3->(∀w',Kpt D w w'->a (b s x).2 w'->K (.bool (b s x).1) w')->J0 P f [.agg cs.toArray] w1 K)
 (h: ∀w',Kpt D w w'->a (V3 b m xs 0).2 w'->K (I (D0 (V3 b m xs 0).1)) w'):Q0 P F.k [v,f] w K:=Uu (by
 unfold A0 J5 U7 X6 X1
 ((try simp only[↓M1,M1,Mb,reduceIte]);repeat ((first | refine ld Q7 Q7 rfl ?_ | refine Y3 Q7 Q7 rfl ?_ | refine Q6 Q7 ?_);(try simp only[↓M1,M1,Mb,reduceIte])))
 refine V2 xs.length (fun n w'=>Kpt D w w'/\ ∃s,a s w'/\V3 b m xs 0=V3 b s (xs.drop n) n) ⟨Kpt.refl,m,y,rfl⟩ fun n w1 d E i=>?_;obtain ⟨t,s,i,e⟩:=i;have r:=l s w1 i
 ((try simp only[↓M1,M1,Mb,reduceIte]);repeat ((first | refine ld Q7 Q7 rfl ?_ | refine Y3 Q7 Q7 rfl ?_ | refine Q6 Q7 ?_);(try simp only[↓M1,M1,Mb,reduceIte])))
 refine Q4 (fun q=>?_) (fun q=>?_)
 .have c:n<xs.length:=by simpa using q
  refine E3 u c fun p cs A g B=>?_;refine Z2 r A g ?_;refine z s xs[n] cs w1 _ (List.getElem_mem c) t i B g fun C k j=>?_;rw[List.drop_eq_getElem_cons c] at e;simp only[V3] at e;refine Q4 (fun o=>?_) (fun o=>?_)
  .rw[o] at e
   have:=h C k;rw[e] at this;exact this j
  .rw[o] at e
   ((try simp only[↓M1,M1,Mb,reduceIte]);repeat ((first | refine ld Q7 Q7 rfl ?_ | refine Y3 Q7 Q7 rfl ?_ | refine Q6 Q7 ?_);(try simp only[↓M1,M1,Mb,reduceIte])))
   exact Y7 u.max c ⟨k,_,j,by simpa using e⟩
 .have c: ¬n<xs.length:=by simpa using q
  rw[List.drop_eq_nil_of_le Q5] at e;have:=h w1 t;rw[e] at this;exact this i)
theorem Kg {β:Type} {xs:List Fld} {v f:Value} (b:β->Fld->Bool×β) (d:β) (a:β->World->Prop) (D:Nat->Prop) (c: ∀s w,a s w->X3 w σ) (e:a d w) (k:Sl 3 I1 σ v xs)
 (g: ∀s x cs (w1:World) (K:Value->World->Prop),x∈xs->Kpt D w w1->a s w1->I1 σ x cs->cs.length=3->(∀w',Kpt D w w'->a (b s x).2 w'->K (.bool (b s x).1) w')->J0 P f [.agg cs.toArray] w1 K)
 (h: ∀w',Kpt D w w'->a (V3 b d xs 0).2 w'->K (.bool (V3 b d xs 0).1.isSome) w'):Q0 P F.g [v,f] w K:=Zy (by
 unfold K9 X2;refine Dt b d a D c e k g fun w1 j i=>?_
 (try simp only[↓M1,M1,Mb,reduceIte])
 rw[Cd];exact h w1 j i)
theorem Ts {xs:List Fld} {v f:Value} (p:Fld->Bool) (hs:X3 w σ) (hv:Sl 3 I1 σ v xs)
 (hf: ∀x cs (w1:World) (K:Value->World->Prop),x∈xs->X3 w1 σ->I1 σ x cs->cs.length=3->(∀w',Below w1.heap.size w1 w'->K (.bool (p x)) w')->J0 P f [.agg cs.toArray] w1 K)
 (h: ∀w',Below w.heap.size w w'->K (I (D0 (xs.findIdx? p))) w'):Q0 P F.k [v,f] w K:=by
 refine Dt (fun (_:Unit) x=>(p x,())) () (fun _ w'=>Below w.heap.size w w') (fun _=>False) (fun _ w' hb=>hs.below hb) (Below.refl _ _) hv (fun s x cs w1 K hx hk hi hr hl hK=>hf x cs w1 K hx (hs.below hi) hr hl fun w' hb=>hK w' (.of_below (bt hi hb)) (bt hi hb)) fun w' hk hi=>?_;rw[Ql]
 simpa using h w' hi
theorem Wm {xs:List Fld} {v f:Value} (p:Fld->Bool) (hs:X3 w σ) (hv:Sl 3 I1 σ v xs)
 (hf: ∀x cs (w1:World) (K:Value->World->Prop),x∈xs->X3 w1 σ->I1 σ x cs->cs.length=3->(∀w',Below w1.heap.size w1 w'->K (.bool (p x)) w')->J0 P f [.agg cs.toArray] w1 K)
 (h: ∀w',Below w.heap.size w w'->K (.bool (xs.any p)) w'):Q0 P F.g [v,f] w K:=by
 refine Kg (fun (_:Unit) x=>(p x,())) () (fun _ w'=>Below w.heap.size w w') (fun _=>False) (fun _ w' hb=>hs.below hb) (Below.refl _ _) hv (fun s x cs w1 K hx hk hi hr hl hK=>hf x cs w1 K hx (hs.below hi) hr hl fun w' hb=>hK w' (.of_below (bt hi hb)) (bt hi hb)) fun w' hk hi=>?_;rw[Ql]
 simpa using h w' hi
theorem Q07 {β:Type} {xs:List Ins} {v f:Value} (b:β->Ins->Bool×β) (m:β) (a:β->World->Prop) (D:Nat->Prop) (l: ∀s w,a s w->X3 w σ) (y:a m w) (u:Sl 3 Yz σ v xs)
 (z: ∀s x cs (w1:World) (K:Value->World->Prop),x∈xs->Kpt D w w1->a s w1->Yz σ x cs->cs.length=3->(∀w',Kpt D w w'->a (b s x).2 w'->K (.bool (b s x).1) w')->J0 P f [.agg cs.toArray] w1 K)
 (h: ∀w',Kpt D w w'->a (V3 b m xs 0).2 w'->K (I (D0 (V3 b m xs 0).1)) w'):Q0 P F.a7 [v,f] w K:=Uv (by
 unfold A8 J5 U7 X6 X1
 ((try simp only[↓M1,M1,Mb,reduceIte]);repeat ((first | refine ld Q7 Q7 rfl ?_ | refine Y3 Q7 Q7 rfl ?_ | refine Q6 Q7 ?_);(try simp only[↓M1,M1,Mb,reduceIte])))
 refine V2 xs.length (fun n w'=>Kpt D w w'/\ ∃s,a s w'/\V3 b m xs 0=V3 b s (xs.drop n) n) ⟨Kpt.refl,m,y,rfl⟩ fun n w1 d E i=>?_;obtain ⟨t,s,i,e⟩:=i;have r:=l s w1 i
 ((try simp only[↓M1,M1,Mb,reduceIte]);repeat ((first | refine ld Q7 Q7 rfl ?_ | refine Y3 Q7 Q7 rfl ?_ | refine Q6 Q7 ?_);(try simp only[↓M1,M1,Mb,reduceIte])))
 refine Q4 (fun q=>?_) (fun q=>?_)
 .have c:n<xs.length:=by simpa using q
  refine E3 u c fun p cs A g B=>?_;refine Z2 r A g ?_;refine z s xs[n] cs w1 _ (List.getElem_mem c) t i B g fun C k j=>?_;rw[List.drop_eq_getElem_cons c] at e;simp only[V3] at e;refine Q4 (fun o=>?_) (fun o=>?_)
  .rw[o] at e
   have:=h C k;rw[e] at this;exact this j
  .rw[o] at e
   ((try simp only[↓M1,M1,Mb,reduceIte]);repeat ((first | refine ld Q7 Q7 rfl ?_ | refine Y3 Q7 Q7 rfl ?_ | refine Q6 Q7 ?_);(try simp only[↓M1,M1,Mb,reduceIte])))
   exact Y7 u.max c ⟨k,_,j,by simpa using e⟩
 .have c: ¬n<xs.length:=by simpa using q
  rw[List.drop_eq_nil_of_le Q5] at e;have:=h w1 t;rw[e] at this;exact this i)
theorem Kh {β:Type} {xs:List Ins} {v f:Value} (b:β->Ins->Bool×β) (d:β) (a:β->World->Prop) (D:Nat->Prop) (c: ∀s w,a s w->X3 w σ) (e:a d w) (k:Sl 3 Yz σ v xs)
 (g: ∀s x cs (w1:World) (K:Value->World->Prop),x∈xs->Kpt D w w1->a s w1->Yz σ x cs->cs.length=3->(∀w',Kpt D w w'->a (b s x).2 w'->K (.bool (b s x).1) w')->J0 P f [.agg cs.toArray] w1 K)
 (h: ∀w',Kpt D w w'->a (V3 b d xs 0).2 w'->K (.bool (V3 b d xs 0).1.isSome) w'):Q0 P F.n [v,f] w K:=Zz (by
 unfold P0 X2;refine Q07 b d a D c e k g fun w1 j i=>?_
 (try simp only[↓M1,M1,Mb,reduceIte])
 rw[Cd];exact h w1 j i)
theorem Gn {xs:List Ins} {v f:Value} (p:Ins->Bool) (hs:X3 w σ) (hv:Sl 3 Yz σ v xs)
 (hf: ∀x cs (w1:World) (K:Value->World->Prop),x∈xs->X3 w1 σ->Yz σ x cs->cs.length=3->(∀w',Below w1.heap.size w1 w'->K (.bool (p x)) w')->J0 P f [.agg cs.toArray] w1 K)
 (h: ∀w',Below w.heap.size w w'->K (.bool (xs.any p)) w'):Q0 P F.n [v,f] w K:=by
 refine Kh (fun (_:Unit) x=>(p x,())) () (fun _ w'=>Below w.heap.size w w') (fun _=>False) (fun _ w' hb=>hs.below hb) (Below.refl _ _) hv (fun s x cs w1 K hx hk hi hr hl hK=>hf x cs w1 K hx (hs.below hi) hr hl fun w' hb=>hK w' (.of_below (bt hi hb)) (bt hi hb)) fun w' hk hi=>?_;rw[Ql]
 simpa using h w' hi
theorem Q05 {β:Type} {xs:List Cat} {v f:Value} (b:β->Cat->Bool×β) (m:β) (a:β->World->Prop) (D:Nat->Prop) (l: ∀s w,a s w->X3 w σ) (y:a m w) (u:Sl 4 Wj σ v xs)
 (z: ∀s x cs (w1:World) (K:Value->World->Prop),x∈xs->Kpt D w w1->a s w1->Wj σ x cs->cs.length=4->(∀w',Kpt D w w'->a (b s x).2 w'->K (.bool (b s x).1) w')->J0 P f [.agg cs.toArray] w1 K)
 (h: ∀w',Kpt D w w'->a (V3 b m xs 0).2 w'->K (I (D0 (V3 b m xs 0).1)) w'):Q0 P F.a6 [v,f] w K:=Us (by
 unfold T8 J5 U7 X6 X1
 ((try simp only[↓M1,M1,Mb,reduceIte]);repeat ((first | refine ld Q7 Q7 rfl ?_ | refine Y3 Q7 Q7 rfl ?_ | refine Q6 Q7 ?_);(try simp only[↓M1,M1,Mb,reduceIte])))
 refine V2 xs.length (fun n w'=>Kpt D w w'/\ ∃s,a s w'/\V3 b m xs 0=V3 b s (xs.drop n) n) ⟨Kpt.refl,m,y,rfl⟩ fun n w1 d E i=>?_;obtain ⟨t,s,i,e⟩:=i;have r:=l s w1 i
 ((try simp only[↓M1,M1,Mb,reduceIte]);repeat ((first | refine ld Q7 Q7 rfl ?_ | refine Y3 Q7 Q7 rfl ?_ | refine Q6 Q7 ?_);(try simp only[↓M1,M1,Mb,reduceIte])))
 refine Q4 (fun q=>?_) (fun q=>?_)
 .have c:n<xs.length:=by simpa using q
  refine E3 u c fun p cs A g B=>?_;refine Z2 r A g ?_;refine z s xs[n] cs w1 _ (List.getElem_mem c) t i B g fun C k j=>?_;rw[List.drop_eq_getElem_cons c] at e;simp only[V3] at e;refine Q4 (fun o=>?_) (fun o=>?_)
  .rw[o] at e
   have:=h C k;rw[e] at this;exact this j
  .rw[o] at e
   ((try simp only[↓M1,M1,Mb,reduceIte]);repeat ((first | refine ld Q7 Q7 rfl ?_ | refine Y3 Q7 Q7 rfl ?_ | refine Q6 Q7 ?_);(try simp only[↓M1,M1,Mb,reduceIte])))
   exact Y7 u.max c ⟨k,_,j,by simpa using e⟩
 .have c: ¬n<xs.length:=by simpa using q
  rw[List.drop_eq_nil_of_le Q5] at e;have:=h w1 t;rw[e] at this;exact this i)
theorem Kf {β:Type} {xs:List Cat} {v f:Value} (b:β->Cat->Bool×β) (d:β) (a:β->World->Prop) (D:Nat->Prop) (c: ∀s w,a s w->X3 w σ) (e:a d w) (k:Sl 4 Wj σ v xs)
 (g: ∀s x cs (w1:World) (K:Value->World->Prop),x∈xs->Kpt D w w1->a s w1->Wj σ x cs->cs.length=4->(∀w',Kpt D w w'->a (b s x).2 w'->K (.bool (b s x).1) w')->J0 P f [.agg cs.toArray] w1 K)
 (h: ∀w',Kpt D w w'->a (V3 b d xs 0).2 w'->K (.bool (V3 b d xs 0).1.isSome) w'):Q0 P F.m [v,f] w K:=Zx (by
 unfold K8 X2;refine Q05 b d a D c e k g fun w1 j i=>?_
 (try simp only[↓M1,M1,Mb,reduceIte])
 rw[Cd];exact h w1 j i)
theorem Gm {xs:List Cat} {v f:Value} (p:Cat->Bool) (hs:X3 w σ) (hv:Sl 4 Wj σ v xs)
 (hf: ∀x cs (w1:World) (K:Value->World->Prop),x∈xs->X3 w1 σ->Wj σ x cs->cs.length=4->(∀w',Below w1.heap.size w1 w'->K (.bool (p x)) w')->J0 P f [.agg cs.toArray] w1 K)
 (h: ∀w',Below w.heap.size w w'->K (.bool (xs.any p)) w'):Q0 P F.m [v,f] w K:=by
 refine Kf (fun (_:Unit) x=>(p x,())) () (fun _ w'=>Below w.heap.size w w') (fun _=>False) (fun _ w' hb=>hs.below hb) (Below.refl _ _) hv (fun s x cs w1 K hx hk hi hr hl hK=>hf x cs w1 K hx (hs.below hi) hr hl fun w' hb=>hK w' (.of_below (bt hi hb)) (bt hi hb)) fun w' hk hi=>?_;rw[Ql]
 simpa using h w' hi
theorem Q06 {β:Type} {xs:List Cla} {v f:Value} (b:β->Cla->Bool×β) (m:β) (a:β->World->Prop) (D:Nat->Prop) (l: ∀s w,a s w->X3 w σ) (y:a m w) (u:Sl 8 M0 σ v xs)
 (z: ∀s x cs (w1:World) (K:Value->World->Prop),x∈xs->Kpt D w w1->a s w1->M0 σ x cs->cs.length=8->(∀w',Kpt D w w'->a (b s x).2 w'->K (.bool (b s x).1) w')->J0 P f [.agg cs.toArray] w1 K)
 (h: ∀w',Kpt D w w'->a (V3 b m xs 0).2 w'->K (I (D0 (V3 b m xs 0).1)) w'):Q0 P F.p [v,f] w K:=Ut (by
 unfold T9 J5 U7 X6 X1
 ((try simp only[↓M1,M1,Mb,reduceIte]);repeat ((first | refine ld Q7 Q7 rfl ?_ | refine Y3 Q7 Q7 rfl ?_ | refine Q6 Q7 ?_);(try simp only[↓M1,M1,Mb,reduceIte])))
 refine V2 xs.length (fun n w'=>Kpt D w w'/\ ∃s,a s w'/\V3 b m xs 0=V3 b s (xs.drop n) n) ⟨Kpt.refl,m,y,rfl⟩ fun n w1 d E i=>?_;obtain ⟨t,s,i,e⟩:=i;have r:=l s w1 i
 ((try simp only[↓M1,M1,Mb,reduceIte]);repeat ((first | refine ld Q7 Q7 rfl ?_ | refine Y3 Q7 Q7 rfl ?_ | refine Q6 Q7 ?_);(try simp only[↓M1,M1,Mb,reduceIte])))
 refine Q4 (fun q=>?_) (fun q=>?_)
 .have c:n<xs.length:=by simpa using q
  refine E3 u c fun p cs A g B=>?_;refine Z2 r A g ?_;refine z s xs[n] cs w1 _ (List.getElem_mem c) t i B g fun C k j=>?_;rw[List.drop_eq_getElem_cons c] at e;simp only[V3] at e;refine Q4 (fun o=>?_) (fun o=>?_)
  .rw[o] at e
   have:=h C k;rw[e] at this;exact this j
  .rw[o] at e
   ((try simp only[↓M1,M1,Mb,reduceIte]);repeat ((first | refine ld Q7 Q7 rfl ?_ | refine Y3 Q7 Q7 rfl ?_ | refine Q6 Q7 ?_);(try simp only[↓M1,M1,Mb,reduceIte])))
   exact Y7 u.max c ⟨k,_,j,by simpa using e⟩
 .have c: ¬n<xs.length:=by simpa using q
  rw[List.drop_eq_nil_of_le Q5] at e;have:=h w1 t;rw[e] at this;exact this i)
theorem Tq {xs:List Cla} {v f:Value} (p:Cla->Bool) (hs:X3 w σ) (hv:Sl 8 M0 σ v xs)
 (hf: ∀x cs (w1:World) (K:Value->World->Prop),x∈xs->X3 w1 σ->M0 σ x cs->cs.length=8->(∀w',Below w1.heap.size w1 w'->K (.bool (p x)) w')->J0 P f [.agg cs.toArray] w1 K)
 (h: ∀w',Below w.heap.size w w'->K (I (D0 (xs.findIdx? p))) w'):Q0 P F.p [v,f] w K:=by
 refine Q06 (fun (_:Unit) x=>(p x,())) () (fun _ w'=>Below w.heap.size w w') (fun _=>False) (fun _ w' hb=>hs.below hb) (Below.refl _ _) hv (fun s x cs w1 K hx hk hi hr hl hK=>hf x cs w1 K hx (hs.below hi) hr hl fun w' hb=>hK w' (.of_below (bt hi hb)) (bt hi hb)) fun w' hk hi=>?_;rw[Ql]
 simpa using h w' hi
theorem Q3Q {β:Type} {xs:List Q9} {v f:Value} (b:β->Q9->Bool×β) (m:β) (a:β->World->Prop) (D:Nat->Prop) (l: ∀s w,a s w->X3 w σ) (z:a m w) (y:Sl 1 L3 σ v xs)
 (A: ∀s x (w1:World) (K:Value->World->Prop),x∈xs->Kpt D w w1->a s w1->x.length<=V5->(∀w',Kpt D w w'->a (b s x).2 w'->K (.bool (b s x).1) w')->J0 P f [S x] w1 K)
 (h: ∀w',Kpt D w w'->a (V3 b m xs 0).2 w'->K (I (D0 (V3 b m xs 0).1)) w'):Q0 P F.y [v,f] w K:=Nd (by
 unfold Xp J5 U7 X6 X1
 ((try simp only[↓M1,M1,Mb,reduceIte]);repeat ((first | refine ld Q7 Q7 rfl ?_ | refine Y3 Q7 Q7 rfl ?_ | refine Q6 Q7 ?_);(try simp only[↓M1,M1,Mb,reduceIte])))
 refine V2 xs.length (fun n w'=>Kpt D w w'/\ ∃s,a s w'/\V3 b m xs 0=V3 b s (xs.drop n) n) ⟨Kpt.refl,m,z,rfl⟩ fun n w1 d H i=>?_;obtain ⟨t,s,i,e⟩:=i;have r:=l s w1 i
 ((try simp only[↓M1,M1,Mb,reduceIte]);repeat ((first | refine ld Q7 Q7 rfl ?_ | refine Y3 Q7 Q7 rfl ?_ | refine Q6 Q7 ?_);(try simp only[↓M1,M1,Mb,reduceIte])))
 refine Q4 (fun q=>?_) (fun q=>?_)
 .have c:n<xs.length:=by simpa using q
  refine E3 y c fun p cs B u C=>?_;obtain ⟨rfl,g⟩:=C;refine Y3 r B rfl ?_;refine A s xs[n] w1 _ (List.getElem_mem c) t i g fun E k j=>?_;rw[List.drop_eq_getElem_cons c] at e;simp only[V3] at e;refine Q4 (fun o=>?_) (fun o=>?_)
  .rw[o] at e
   have:=h E k;rw[e] at this;exact this j
  .rw[o] at e
   ((try simp only[↓M1,M1,Mb,reduceIte]);repeat ((first | refine ld Q7 Q7 rfl ?_ | refine Y3 Q7 Q7 rfl ?_ | refine Q6 Q7 ?_);(try simp only[↓M1,M1,Mb,reduceIte])))
   exact Y7 y.max c ⟨k,_,j,by simpa using e⟩
 .have c: ¬n<xs.length:=by simpa using q
  rw[List.drop_eq_nil_of_le Q5] at e;have:=h w1 t;rw[e] at this;exact this i)
theorem Q2I {xs:List Q9} {v f:Value} (p:Q9->Bool) (hs:X3 w σ) (hv:Sl 1 L3 σ v xs)
 (hf: ∀x (w1:World) (K:Value->World->Prop),x∈xs->X3 w1 σ->x.length<=V5->(∀w',Below w1.heap.size w1 w'->K (.bool (p x)) w')->J0 P f [S x] w1 K)
 (h: ∀w',Below w.heap.size w w'->K (I (D0 (xs.findIdx? p))) w'):Q0 P F.y [v,f] w K:=by
 refine Q3Q (fun (_:Unit) x=>(p x,())) () (fun _ w'=>Below w.heap.size w w') (fun _=>False) (fun _ w' hb=>hs.below hb) (Below.refl _ _) hv (fun s x w1 K hx hk hi hr hK=>hf x w1 K hx (hs.below hi) hr fun w' hb=>hK w' (.of_below (bt hi hb)) (bt hi hb)) fun w' hk hi=>?_;rw[Ql]
 simpa using h w' hi
theorem Q9l {α:Type} (p:α->Bool) (xs:List α):decide ((0:Int)<=D0 (xs.findIdx? p))=xs.any p:=by
 rw[Bool.eq_iff_iff,List.any_eq_true];simp only[decide_eq_true_eq];cases h:xs.findIdx? p with
 | none=>
  simp only[D0];constructor
  .intro h;omega
  .rintro ⟨x,c,a⟩;have:=List.findIdx?_eq_none_iff.1 h x c;rw[a] at this;cases this
 | some i=>
  simp only[D0];obtain ⟨b,a,_⟩:=List.findIdx?_eq_some_iff_getElem.1 h;exact ⟨fun _=>⟨xs[i],List.getElem_mem b,a⟩,fun _=>by omega⟩
theorem Xj {xs:List Q9} {v f:Value} (p:Q9->Bool) (c:X3 w σ) (d:Sl 1 L3 σ v xs)
 (b: ∀x (w1:World) (K:Value->World->Prop),x∈xs->X3 w1 σ->x.length<=V5->(∀w',Below w1.heap.size w1 w'->K (.bool (p x)) w')->J0 P f [S x] w1 K)
 (h: ∀w',Below w.heap.size w w'->K (.bool (xs.any p)) w'):Q0 P F.c [v,f] w K:=Wi (by
 unfold Qy X2;refine Q2I p c d b fun w1 a=>?_
 (try simp only[↓M1,M1,Mb,reduceIte])
 rw[Q9l];exact h w1 a)
theorem Q6O {xs:List Q9} {v:Value} {x:Q9} (r:X3 w σ) (i:Sl 1 L3 σ v xs)
 (h:K (I (D0 (xs.findIdx? fun y=>decide (x=y)))) w):Q0 P F.ax [v,S x] w K:=Ra (by
 unfold Zh J5 U7 X6 X1
 ((try simp only[↓M1,M1,Mb,reduceIte]);repeat ((first | refine ld Q7 Q7 rfl ?_ | refine Y3 Q7 Q7 rfl ?_ | refine Q6 Q7 ?_);(try simp only[↓M1,M1,Mb,reduceIte])))
 refine V2 xs.length (fun n w'=>w=w'/\(xs.take n).any (fun y=>decide (x=y))=false) ⟨rfl,rfl⟩ fun n w1 d q b=>?_;obtain ⟨rfl,b⟩:=b
 ((try simp only[↓M1,M1,Mb,reduceIte]);repeat ((first | refine ld Q7 Q7 rfl ?_ | refine Y3 Q7 Q7 rfl ?_ | refine Q6 Q7 ?_);(try simp only[↓M1,M1,Mb,reduceIte])))
 refine Q4 (fun e=>?_) (fun e=>?_)
 .have a:n<xs.length:=by simpa using e
  refine E3 i a fun p cs o g k=>?_;obtain ⟨rfl,f⟩:=k
  ((try simp only[↓M1,M1,Mb,reduceIte]);repeat ((first | refine ld Q7 Q7 rfl ?_ | refine Y3 Q7 Q7 rfl ?_ | refine Q6 Q7 ?_);(try simp only[↓M1,M1,Mb,reduceIte])))
  refine Q4 (fun c=>?_) (fun c=>?_)
  .have:xs.findIdx? (fun y=>decide (x=y))=some n:=by
    rw[List.findIdx?_eq_some_iff_getElem];refine ⟨a,c,fun j m=>?_⟩;have:=List.any_eq_false.1 b (xs[j]) (List.mem_take_iff_getElem.2 ⟨j,by omega,rfl⟩)
    exact this
   rw[this] at h;exact h
  ·((try simp only[↓M1,M1,Mb,reduceIte]);repeat ((first | refine ld Q7 Q7 rfl ?_ | refine Y3 Q7 Q7 rfl ?_ | refine Q6 Q7 ?_);(try simp only[↓M1,M1,Mb,reduceIte])))
   exact Y7 i.max a ⟨rfl,by rw[D3 a,b,c];rfl⟩
 .have a: ¬n<xs.length:=by simpa using e
  rw[C9 a] at b
  have:xs.findIdx? (fun y=>decide (x=y))=none:=by
   rw[List.findIdx?_eq_none_iff];intro y l;simpa using List.any_eq_false.1 b y l
  rw[this] at h;exact h)
theorem Q4p {xs:List Q9} {v:Value} {x:Q9} (a:X3 w σ) (b:Sl 1 L3 σ v xs)
 (h:K (.bool (xs.any fun y=>decide (x=y))) w):Q0 P F.ah [v,S x] w K:=Nz (by
 unfold Xy X2;refine Q6O a b ?_
 (try simp only[↓M1,M1,Mb,reduceIte])
 rw[Q9l];exact h)
end Go.Proofs.Y
namespace Go.Emb
abbrev Q2.Le (σ σ':Q2):Prop:= ∀b o,σ b=some o->σ' b=some o
def Qc {α:Type} (f:α->List UInt8):List α->List α->Bool
 | _,[]=>true
 | seen,x::r=> !(seen.any fun y=>decide (f y=f x))&&Qc f (seen++[x]) r
theorem Nj {α:Type} (p:α->Bool) (xs:List α):(!xs.any fun x=> !p x)=xs.all p:=by
 rw[List.all_eq_not_any_not]
end Go.Emb
namespace Go.Proofs.Y
open Go.Emb Go.RowKit Go.Kd Go.Hm
variable {w : World} {K : Value -> World -> Prop} {σ : Q2}
theorem Q2K {xs:List Hm.Met} {v:Value} {fn:Fn} {k d:Array Value} (p:Hm.Met->Bool) (u:X3 w σ) (y:Sl 7 B8 σ v xs)
 (s: ∀(σ1:Q2) x cs (w1:World) (K:Value->World->Prop),σ.Le σ1->x∈xs->X3 w1 σ1->B8 σ1 x cs->cs.length=7->(∀w',Below w1.heap.size w1 w'->K (.bool (p x)) w')->J0 P (.func fn k d) [.agg cs.toArray] w1 K)
 (h: ∀w',Below w.heap.size w w'->K (.bool (xs.all p)) w'):Q0 P F.ap [v, .func fn k d] w K:=Iw (by
 unfold Lb;refine B6 u fun a w1 σ1 f l=>?_;simp only[Value.cells] at l
 ((try simp only[↓M1,M1,Mb,reduceIte]);repeat ((first | refine ld Q7 Q7 rfl ?_ | refine Y3 Q7 Q7 rfl ?_ | refine Q6 Q7 ?_);(try simp only[↓M1,M1,Mb,reduceIte])))
 refine T0 (fun x=> !p x) f.sat (y.up f) (fun x cs n K z j t m q=>?_) fun n r=>?_
 .refine J8 (Fa ?_)
  unfold Vb;refine B6 j fun b A C c g=>?_;refine Y3 c.sat (l.up c) rfl ?_;refine Z2 c.sat g m ?_;refine s C x _ A _ (fun b o e=>c.le b o (f.le b o e)) z c.sat (Rep.up c.le t) m fun B i=>?_
  (try simp only[↓M1,M1,Mb,reduceIte])
  exact q B (bt c.bel i)
 ·(try simp only[↓M1,M1,Mb,reduceIte])
  rw[Nj];exact h n (bt f.bel r))
theorem Q4r {xs:List Fld} {v:Value} {fn:Fn} {k d:Array Value} (p:Fld->Bool) (u:X3 w σ) (y:Sl 3 I1 σ v xs)
 (s: ∀(σ1:Q2) x cs (w1:World) (K:Value->World->Prop),σ.Le σ1->x∈xs->X3 w1 σ1->I1 σ1 x cs->cs.length=3->(∀w',Below w1.heap.size w1 w'->K (.bool (p x)) w')->J0 P (.func fn k d) [.agg cs.toArray] w1 K)
 (h: ∀w',Below w.heap.size w w'->K (.bool (xs.all p)) w'):Q0 P F.au [v, .func fn k d] w K:=Kp (by
 unfold Mq;refine B6 u fun a w1 σ1 f l=>?_;simp only[Value.cells] at l
 ((try simp only[↓M1,M1,Mb,reduceIte]);repeat ((first | refine ld Q7 Q7 rfl ?_ | refine Y3 Q7 Q7 rfl ?_ | refine Q6 Q7 ?_);(try simp only[↓M1,M1,Mb,reduceIte])))
 refine Wm (fun x=> !p x) f.sat (y.up f) (fun x cs n K z j t m q=>?_) fun n r=>?_
 .refine J8 (Fz ?_)
  unfold Vy;refine B6 j fun b A C c g=>?_;refine Y3 c.sat (l.up c) rfl ?_;refine Z2 c.sat g m ?_;refine s C x _ A _ (fun b o e=>c.le b o (f.le b o e)) z c.sat (Rep.up c.le t) m fun B i=>?_
  (try simp only[↓M1,M1,Mb,reduceIte])
  exact q B (bt c.bel i)
 ·(try simp only[↓M1,M1,Mb,reduceIte])
  rw[Nj];exact h n (bt f.bel r))
theorem Q4s {xs:List Ins} {v:Value} {fn:Fn} {k d:Array Value} (p:Ins->Bool) (u:X3 w σ) (y:Sl 3 Yz σ v xs)
 (s: ∀(σ1:Q2) x cs (w1:World) (K:Value->World->Prop),σ.Le σ1->x∈xs->X3 w1 σ1->Yz σ1 x cs->cs.length=3->(∀w',Below w1.heap.size w1 w'->K (.bool (p x)) w')->J0 P (.func fn k d) [.agg cs.toArray] w1 K)
 (h: ∀w',Below w.heap.size w w'->K (.bool (xs.all p)) w'):Q0 P F.av [v, .func fn k d] w K:=Kq (by
 unfold Ms;refine B6 u fun a w1 σ1 f l=>?_;simp only[Value.cells] at l
 ((try simp only[↓M1,M1,Mb,reduceIte]);repeat ((first | refine ld Q7 Q7 rfl ?_ | refine Y3 Q7 Q7 rfl ?_ | refine Q6 Q7 ?_);(try simp only[↓M1,M1,Mb,reduceIte])))
 refine Gn (fun x=> !p x) f.sat (y.up f) (fun x cs n K z j t m q=>?_) fun n r=>?_
 .refine J8 (Ga ?_)
  unfold Vz;refine B6 j fun b A C c g=>?_;refine Y3 c.sat (l.up c) rfl ?_;refine Z2 c.sat g m ?_;refine s C x _ A _ (fun b o e=>c.le b o (f.le b o e)) z c.sat (Rep.up c.le t) m fun B i=>?_
  (try simp only[↓M1,M1,Mb,reduceIte])
  exact q B (bt c.bel i)
 ·(try simp only[↓M1,M1,Mb,reduceIte])
  rw[Nj];exact h n (bt f.bel r))
theorem Q4q {xs:List Cat} {v:Value} {fn:Fn} {k d:Array Value} (p:Cat->Bool) (u:X3 w σ) (y:Sl 4 Wj σ v xs)
 (s: ∀(σ1:Q2) x cs (w1:World) (K:Value->World->Prop),σ.Le σ1->x∈xs->X3 w1 σ1->Wj σ1 x cs->cs.length=4->(∀w',Below w1.heap.size w1 w'->K (.bool (p x)) w')->J0 P (.func fn k d) [.agg cs.toArray] w1 K)
 (h: ∀w',Below w.heap.size w w'->K (.bool (xs.all p)) w'):Q0 P F.ar [v, .func fn k d] w K:=Ko (by
 unfold Mo;refine B6 u fun a w1 σ1 f l=>?_;simp only[Value.cells] at l
 ((try simp only[↓M1,M1,Mb,reduceIte]);repeat ((first | refine ld Q7 Q7 rfl ?_ | refine Y3 Q7 Q7 rfl ?_ | refine Q6 Q7 ?_);(try simp only[↓M1,M1,Mb,reduceIte])))
 refine Gm (fun x=> !p x) f.sat (y.up f) (fun x cs n K z j t m q=>?_) fun n r=>?_
 .refine J8 (Fy ?_)
  unfold Vx;refine B6 j fun b A C c g=>?_;refine Y3 c.sat (l.up c) rfl ?_;refine Z2 c.sat g m ?_;refine s C x _ A _ (fun b o e=>c.le b o (f.le b o e)) z c.sat (Rep.up c.le t) m fun B i=>?_
  (try simp only[↓M1,M1,Mb,reduceIte])
  exact q B (bt c.bel i)
 ·(try simp only[↓M1,M1,Mb,reduceIte])
  rw[Nj];exact h n (bt f.bel r))
theorem Tt {xs:List Q9} {v:Value} {fn:Fn} {g b:Array Value} (p:Q9->Bool) (n:X3 w σ) (o:Sl 1 L3 σ v xs)
 (l: ∀(σ1:Q2) x (w1:World) (K:Value->World->Prop),σ.Le σ1->x∈xs->X3 w1 σ1->x.length<=V5->(∀w',Below w1.heap.size w1 w'->K (.bool (p x)) w')->J0 P (.func fn g b) [S x] w1 K)
 (h: ∀w',Below w.heap.size w w'->K (.bool (xs.all p)) w'):Q0 P F.ab [v, .func fn g b] w K:=Q1a (by
 unfold Em;refine B6 n fun a w1 σ1 d i=>?_;simp only[Value.cells] at i
 ((try simp only[↓M1,M1,Mb,reduceIte]);repeat ((first | refine ld Q7 Q7 rfl ?_ | refine Y3 Q7 Q7 rfl ?_ | refine Q6 Q7 ?_);(try simp only[↓M1,M1,Mb,reduceIte])))
 refine Xj (fun x=> !p x) d.sat (o.up d) (fun x f K q c m j=>?_) fun f k=>?_
 .refine J8 (Th ?_)
  unfold Ns;refine Y3 c i rfl ?_;refine l σ1 x f _ d.le q c m fun r e=>?_
  (try simp only[↓M1,M1,Mb,reduceIte])
  exact j r e
 ·(try simp only[↓M1,M1,Mb,reduceIte])
  rw[Nj];exact h f (bt d.bel k))
theorem Q4t {xs:List Hm.Met} {v:Value} {fn:Fn} {E l:Array Value} (f:Hm.Met->Q9) (hs:X3 w σ) (C:Sl 7 B8 σ v xs)
 (Y: ∀(σ1:Q2) x cs (w1:World) (K:Value->World->Prop),σ.Le σ1->X3 w1 σ1->B8 σ1 x cs->cs.length=7->(∀w',Below w1.heap.size w1 w'->K (S (f x)) w')->J0 P (.func fn E l) [.agg cs.toArray] w1 K)
 (h: ∀w',Below w.heap.size w w'->K (.bool (Qc f [] xs)) w'):Q0 P F.aw [v, .func fn E l] w K:=Kr (by
 unfold Mt;simp only[L6];unfold J5 U7 X6 X1;refine B6 hs fun a w1 σ1 A X=>?_;simp only[Value.cells] at X;have R:=A.sat;replace C:=C.up A
 ((try simp only[↓M1,M1,Mb,reduceIte]);repeat ((first | refine ld Q7 Q7 rfl ?_ | refine Y3 Q7 Q7 rfl ?_ | refine Q6 Q7 ?_);(try simp only[↓M1,M1,Mb,reduceIte])))
 refine V2 xs.length (fun n w'=>Below w1.heap.size w1 w'/\Qc f [] xs=Qc f (xs.take n) (xs.drop n)) ⟨Below.refl _ _,rfl⟩ fun n w2 d hn hi=>?_;obtain ⟨i,r⟩:=hi;have B:=R.below i
 ((try simp only[↓M1,M1,Mb,reduceIte]);repeat ((first | refine ld Q7 Q7 rfl ?_ | refine Y3 Q7 Q7 rfl ?_ | refine Q6 Q7 ?_);(try simp only[↓M1,M1,Mb,reduceIte])))
 refine Q4 (fun N=>?_) (fun N=>?_)
 .have k:n<xs.length:=by simpa using N
  rw[List.drop_eq_getElem_cons k] at r;simp only[Qc] at r;refine E3 C k fun p cs hl g Z=>?_;refine Z2 B hl g ?_;refine Z3 B (by rfl) g (Rep.one Z) fun q w3 σ3 j hq=>?_
  refine Bu (C.up j) none (some (I n)) 0 n (.inl ⟨rfl,rfl⟩) (.inr rfl) Q5 Q5 fun v' V=>?_
  ((try simp only[↓M1,M1,Mb,reduceIte]);repeat ((first | refine ld Q7 Q7 rfl ?_ | refine Y3 Q7 Q7 rfl ?_ | refine Q6 Q7 ?_);(try simp only[↓M1,M1,Mb,reduceIte])))
  refine T0 (fun y=>decide (f y=f xs[n])) j.sat V (fun y ys w4 K hy U Q D hK=>?_) fun w4 J=>?_
  .refine J8 (Gb ?_)
   unfold Wa;simp only[Y5,M5];unfold X1;refine B6 U fun b w5 W c L=>?_;have u:=(X.up j).up c;have O:=hq.up c;have s:σ.Le W:=fun b o e=>c.le b o (j.le b o (A.le b o e));refine Sr (Below.refl _ _) ?_;refine X9 (.func fn E l) (fun w i=>Y3 (c.sat.below i) u rfl (Y2 rfl)) ?_;refine X9 (.agg ys.toArray) (fun w i=>Z2 (c.sat.below i) L D (Y2 rfl)) ?_;refine X9 (S (f y)) (fun t t' w i e e'=>by rw[e,e'];exact Y W y ys w _ s (c.sat.below i) (Rep.up c.le Q) D fun w' H=>Q5K H rfl) ?_
   refine X9 (.func fn E l) (fun w i=>Y3 (c.sat.below i) u rfl (Y2 rfl)) ?_;refine X9 (.agg cs.toArray) (fun w i=>Z2 (c.sat.below i) O g (Y2 rfl)) ?_;rintro _ _ _ _ _ w6 z rfl rfl rfl rfl rfl;refine Y W xs[n] cs w6 _ s (c.sat.below z) (Rep.up (fun b o e=>c.le b o (j.le b o e)) Z) g fun w7 M=>?_
   (try simp only[↓M1,M1,Mb,reduceIte])
   exact hK w7 (bt (bt c.bel z) M)
  .have m:=bt i (bt j.bel J)
   simp only[List.drop_zero,Nat.sub_zero] at*;refine Q4 (fun hh=>?_) (fun hh=>?_)
   .rw[hh] at r
    have:=h w4 (bt A.bel m);rw[r] at this;exact this
   .rw[hh] at r
    ((try simp only[↓M1,M1,Mb,reduceIte]);repeat ((first | refine ld Q7 Q7 rfl ?_ | refine Y3 Q7 Q7 rfl ?_ | refine Q6 Q7 ?_);(try simp only[↓M1,M1,Mb,reduceIte])))
    refine Y7 C.max k ⟨m,?_⟩;rw[r,List.take_add_one,List.getElem?_eq_getElem k];rfl
 .have k: ¬n<xs.length:=by simpa using N
  rw[List.drop_eq_nil_of_le Q5] at r;have:=h w2 (bt A.bel i);rw[r] at this;exact this)
theorem Q5c {xs:List Fld} {v:Value} {fn:Fn} {E l:Array Value} (f:Fld->Q9) (hs:X3 w σ) (C:Sl 3 I1 σ v xs)
 (Y: ∀(σ1:Q2) x cs (w1:World) (K:Value->World->Prop),σ.Le σ1->X3 w1 σ1->I1 σ1 x cs->cs.length=3->(∀w',Below w1.heap.size w1 w'->K (S (f x)) w')->J0 P (.func fn E l) [.agg cs.toArray] w1 K)
 (h: ∀w',Below w.heap.size w w'->K (.bool (Qc f [] xs)) w'):Q0 P F.aB [v, .func fn E l] w K:=Ti (by
 unfold Nt;simp only[L6];unfold J5 U7 X6 X1;refine B6 hs fun a w1 σ1 A X=>?_;simp only[Value.cells] at X;have R:=A.sat;replace C:=C.up A
 ((try simp only[↓M1,M1,Mb,reduceIte]);repeat ((first | refine ld Q7 Q7 rfl ?_ | refine Y3 Q7 Q7 rfl ?_ | refine Q6 Q7 ?_);(try simp only[↓M1,M1,Mb,reduceIte])))
 refine V2 xs.length (fun n w'=>Below w1.heap.size w1 w'/\Qc f [] xs=Qc f (xs.take n) (xs.drop n)) ⟨Below.refl _ _,rfl⟩ fun n w2 d hn hi=>?_;obtain ⟨i,r⟩:=hi;have B:=R.below i
 ((try simp only[↓M1,M1,Mb,reduceIte]);repeat ((first | refine ld Q7 Q7 rfl ?_ | refine Y3 Q7 Q7 rfl ?_ | refine Q6 Q7 ?_);(try simp only[↓M1,M1,Mb,reduceIte])))
 refine Q4 (fun N=>?_) (fun N=>?_)
 .have k:n<xs.length:=by simpa using N
  rw[List.drop_eq_getElem_cons k] at r;simp only[Qc] at r;refine E3 C k fun p cs hl g Z=>?_;refine Z2 B hl g ?_;refine Z3 B (by rfl) g (Rep.one Z) fun q w3 σ3 j hq=>?_
  refine Bu (C.up j) none (some (I n)) 0 n (.inl ⟨rfl,rfl⟩) (.inr rfl) Q5 Q5 fun v' V=>?_
  ((try simp only[↓M1,M1,Mb,reduceIte]);repeat ((first | refine ld Q7 Q7 rfl ?_ | refine Y3 Q7 Q7 rfl ?_ | refine Q6 Q7 ?_);(try simp only[↓M1,M1,Mb,reduceIte])))
  refine Wm (fun y=>decide (f y=f xs[n])) j.sat V (fun y ys w4 K hy U Q D hK=>?_) fun w4 J=>?_
  .refine J8 (Ix ?_)
   unfold Lc;simp only[Y5,M5];unfold X1;refine B6 U fun b w5 W c L=>?_;have u:=(X.up j).up c;have O:=hq.up c;have s:σ.Le W:=fun b o e=>c.le b o (j.le b o (A.le b o e));refine Sr (Below.refl _ _) ?_;refine X9 (.func fn E l) (fun w i=>Y3 (c.sat.below i) u rfl (Y2 rfl)) ?_;refine X9 (.agg ys.toArray) (fun w i=>Z2 (c.sat.below i) L D (Y2 rfl)) ?_;refine X9 (S (f y)) (fun t t' w i e e'=>by rw[e,e'];exact Y W y ys w _ s (c.sat.below i) (Rep.up c.le Q) D fun w' H=>Q5K H rfl) ?_
   refine X9 (.func fn E l) (fun w i=>Y3 (c.sat.below i) u rfl (Y2 rfl)) ?_;refine X9 (.agg cs.toArray) (fun w i=>Z2 (c.sat.below i) O g (Y2 rfl)) ?_;rintro _ _ _ _ _ w6 z rfl rfl rfl rfl rfl;refine Y W xs[n] cs w6 _ s (c.sat.below z) (Rep.up (fun b o e=>c.le b o (j.le b o e)) Z) g fun w7 M=>?_
   (try simp only[↓M1,M1,Mb,reduceIte])
   exact hK w7 (bt (bt c.bel z) M)
  .have m:=bt i (bt j.bel J)
   simp only[List.drop_zero,Nat.sub_zero] at*;refine Q4 (fun hh=>?_) (fun hh=>?_)
   .rw[hh] at r
    have:=h w4 (bt A.bel m);rw[r] at this;exact this
   .rw[hh] at r
    ((try simp only[↓M1,M1,Mb,reduceIte]);repeat ((first | refine ld Q7 Q7 rfl ?_ | refine Y3 Q7 Q7 rfl ?_ | refine Q6 Q7 ?_);(try simp only[↓M1,M1,Mb,reduceIte])))
    refine Y7 C.max k ⟨m,?_⟩;rw[r,List.take_add_one,List.getElem?_eq_getElem k];rfl
 .have k: ¬n<xs.length:=by simpa using N
  rw[List.drop_eq_nil_of_le Q5] at r;have:=h w2 (bt A.bel i);rw[r] at this;exact this)
theorem Q89 {xs:List Q9} {v:Value} {fn:Fn} {D k:Array Value} (f:Q9->Q9) (hs:X3 w σ) (C:Sl 1 L3 σ v xs)
 (U: ∀(σ1:Q2) x (w1:World) (K:Value->World->Prop),σ.Le σ1->X3 w1 σ1->x.length<=V5->(∀w',Below w1.heap.size w1 w'->K (S (f x)) w')->J0 P (.func fn D k) [S x] w1 K)
 (h: ∀w',Below w.heap.size w w'->K (.bool (Qc f [] xs)) w'):Q0 P F.aU [v, .func fn D k] w K:=Q2i (by
 unfold Rr;simp only[L6];unfold J5 U7 X6 X1;refine B6 hs fun a w1 σ1 A R=>?_;simp only[Value.cells] at R;have N:=A.sat;replace C:=C.up A
 ((try simp only[↓M1,M1,Mb,reduceIte]);repeat ((first | refine ld Q7 Q7 rfl ?_ | refine Y3 Q7 Q7 rfl ?_ | refine Q6 Q7 ?_);(try simp only[↓M1,M1,Mb,reduceIte])))
 refine V2 xs.length (fun n w'=>Below w1.heap.size w1 w'/\Qc f [] xs=Qc f (xs.take n) (xs.drop n)) ⟨Below.refl _ _,rfl⟩ fun n w2 d hn Y=>?_;obtain ⟨c,m⟩:=Y;have B:=N.below c
 ((try simp only[↓M1,M1,Mb,reduceIte]);repeat ((first | refine ld Q7 Q7 rfl ?_ | refine Y3 Q7 Q7 rfl ?_ | refine Q6 Q7 ?_);(try simp only[↓M1,M1,Mb,reduceIte])))
 refine Q4 (fun L=>?_) (fun L=>?_)
 .have i:n<xs.length:=by simpa using L
  rw[List.drop_eq_getElem_cons i] at m;simp only[Qc] at m;refine E3 C i fun p cs Z V hr=>?_;obtain ⟨rfl,z⟩:=hr;refine Y3 B Z rfl ?_;refine W0 B (by rfl) rfl rfl fun q w3 Q g hq=>?_
  refine Bu (C.up g) none (some (I n)) 0 n (.inl ⟨rfl,rfl⟩) (.inr rfl) Q5 Q5 fun v' O=>?_
  ((try simp only[↓M1,M1,Mb,reduceIte]);repeat ((first | refine ld Q7 Q7 rfl ?_ | refine Y3 Q7 Q7 rfl ?_ | refine Q6 Q7 ?_);(try simp only[↓M1,M1,Mb,reduceIte])))
  refine Xj (fun y=>decide (f y=f xs[n])) g.sat O (fun y W K hy j M X=>?_) fun W H=>?_
  .refine J8 (Au ?_)
   unfold De;simp only[Y5,X5];unfold X1;have s:=R.up g;have r:σ.Le Q:=fun b o e=>g.le b o (A.le b o e);refine Sr (Below.refl _ _) ?_;refine X9 (.func fn D k) (fun w c=>Y3 (j.below c) s rfl (Y2 rfl)) ?_;refine X9 (S (f y)) (fun t w c e=>by rw[e];exact U Q y w _ r (j.below c) M fun w' E=>Q5K E rfl) ?_
   refine X9 (.func fn D k) (fun w c=>Y3 (j.below c) s rfl (Y2 rfl)) ?_;refine X9 (S xs[n]) (fun w c=>Y3 (j.below c) hq rfl (Y2 rfl)) ?_;rintro _ _ _ _ w6 u rfl rfl rfl rfl;refine U Q xs[n] w6 _ r (j.below u) z fun w7 J=>?_
   (try simp only[↓M1,M1,Mb,reduceIte])
   exact X w7 (bt u J)
  .have l:=bt c (bt g.bel H)
   simp only[List.drop_zero,Nat.sub_zero] at*;refine Q4 (fun hh=>?_) (fun hh=>?_)
   .rw[hh] at m
    have:=h W (bt A.bel l);rw[m] at this;exact this
   .rw[hh] at m
    ((try simp only[↓M1,M1,Mb,reduceIte]);repeat ((first | refine ld Q7 Q7 rfl ?_ | refine Y3 Q7 Q7 rfl ?_ | refine Q6 Q7 ?_);(try simp only[↓M1,M1,Mb,reduceIte])))
    refine Y7 C.max i ⟨l,?_⟩;rw[m,List.take_add_one,List.getElem?_eq_getElem i];rfl
 .have i: ¬n<xs.length:=by simpa using L
  rw[List.drop_eq_nil_of_le Q5] at m;have:=h w2 (bt A.bel c);rw[m] at this;exact this)
theorem X0F {P:Program} {w:World} (d:Nat) (t e:TypeId) (a:Option Addr) (n c:Nat) (h:P.underlying t=some (.slice e)):
 (Op.equalIn (d+1) t (.slice a n c) (.slice none 0 0)).run P w= .ok a.isNone w:=by
 cases a<;>simp[Op.equalIn,run_underlying h]
theorem Tw {t e:TypeId} {i j:Operand} [ts:TS P t e] {a:Option Addr} {n c:Nat} {b:Bool} (f:a.isNone=b) (g:K (.bool b) w):Y6 P .eql t i j (.slice a n c) (.slice none 0 0) w K:=by
 have d:(Op.equal t (.slice a n c) (.slice none 0 0)).run P w= .ok b w:=by
  have:=X0F (P:=P) (w:=w) 9999 t e a n c ts.h;rw[f] at this;exact this
 unfold Y6;rw[Y4 (v:= .bool b) (w':=w) (by simp[eqGuard,Go.binOp,d])]
 exact g
theorem Ox {xs:List Q9} {v:Value} (f:X3 w σ) (g:Sl 1 L3 σ v xs) (A:xs.length<=1000000)
 (h: ∀i w' b,Stp w σ w' b->Sl 1 L3 b i xs->K i w'):Q0 P F.aa [v] w K:=Hz (by
 unfold Zg;have d:=g;obtain ⟨a,j,rfl,t,u,k,y⟩:=g;refine Tw rfl ?_;refine Q4 (fun e=>?_) (fun e=>?_)
 .have:a=none:=by simpa using e
  have s:=k this;have o:xs=[]:=List.eq_nil_of_length_eq_zero Q5;subst o;exact h _ w σ (Stp.refl f) Sl.nil
 .refine Zb (R:=L3) (sz:=1) (Stp.refl f) [] [] rfl rfl V0 (by rfl) trivial fun B w1 n m _=>?_
  refine app n m d (by rfl) (by simp only[List.length_nil];omega) (by simp only[List.length_nil];omega) fun C r z l c _=>?_
  obtain ⟨b,p,q,_⟩:=c.keep l;exact h _ r b p q)
theorem Cq {xs:List Fld} {v:Value} (f:X3 w σ) (g:Sl 3 I1 σ v xs) (A:xs.length<=1000000)
 (h: ∀i w' b,Stp w σ w' b->Sl 3 I1 b i xs->K i w'):Q0 P F.af [v] w K:=Ls (by
 unfold Xf;have d:=g;obtain ⟨a,j,rfl,t,u,k,y⟩:=g;refine Tw rfl ?_;refine Q4 (fun e=>?_) (fun e=>?_)
 .have:a=none:=by simpa using e
  have s:=k this;have o:xs=[]:=List.eq_nil_of_length_eq_zero Q5;subst o;exact h _ w σ (Stp.refl f) Sl.nil
 .refine Zb (R:=I1) (sz:=3) (Stp.refl f) [] [] rfl rfl V0 (by rfl) trivial fun B w1 n m _=>?_
  refine app n m d (by rfl) (by simp only[List.length_nil];omega) (by simp only[List.length_nil];omega) fun C r z l c _=>?_
  obtain ⟨b,p,q,_⟩:=c.keep l;exact h _ r b p q)
theorem Cr {xs:List Ins} {v:Value} (f:X3 w σ) (g:Sl 3 Yz σ v xs) (A:xs.length<=1000000)
 (h: ∀i w' b,Stp w σ w' b->Sl 3 Yz b i xs->K i w'):Q0 P F.ag [v] w K:=Lt (by
 unfold Xg;have d:=g;obtain ⟨a,j,rfl,t,u,k,y⟩:=g;refine Tw rfl ?_;refine Q4 (fun e=>?_) (fun e=>?_)
 .have:a=none:=by simpa using e
  have s:=k this;have o:xs=[]:=List.eq_nil_of_length_eq_zero Q5;subst o;exact h _ w σ (Stp.refl f) Sl.nil
 .refine Zb (R:=Yz) (sz:=3) (Stp.refl f) [] [] rfl rfl V0 (by rfl) trivial fun B w1 n m _=>?_
  refine app n m d (by rfl) (by simp only[List.length_nil];omega) (by simp only[List.length_nil];omega) fun C r z l c _=>?_
  obtain ⟨b,p,q,_⟩:=c.keep l;exact h _ r b p q)
theorem Cp {xs:List Cat} {v:Value} (f:X3 w σ) (g:Sl 4 Wj σ v xs) (A:xs.length<=1000000)
 (h: ∀i w' b,Stp w σ w' b->Sl 4 Wj b i xs->K i w'):Q0 P F.ae [v] w K:=Lr (by
 unfold Xe;have d:=g;obtain ⟨a,j,rfl,t,u,k,y⟩:=g;refine Tw rfl ?_;refine Q4 (fun e=>?_) (fun e=>?_)
 .have:a=none:=by simpa using e
  have s:=k this;have o:xs=[]:=List.eq_nil_of_length_eq_zero Q5;subst o;exact h _ w σ (Stp.refl f) Sl.nil
 .refine Zb (R:=Wj) (sz:=4) (Stp.refl f) [] [] rfl rfl V0 (by rfl) trivial fun B w1 n m _=>?_
  refine app n m d (by rfl) (by simp only[List.length_nil];omega) (by simp only[List.length_nil];omega) fun C r z l c _=>?_
  obtain ⟨b,p,q,_⟩:=c.keep l;exact h _ r b p q)
end Go.Proofs.Y
namespace Go.Hm
open Go.Kd
structure Opr where
  name : Q9
  number : Bool
  text : Bool
deriving DecidableEq
def Lo:List Opr:=[
 ⟨[105,110,116],true,false⟩,
 ⟨[116,114,117,101],false,false⟩,
 ⟨[102,97,108,115,101],false,false⟩,
 ⟨[119,111,114,100],false,true⟩,
 ⟨[110,117,108,108],false,false⟩,
 ⟨[108,111,97,100],true,false⟩,
 ⟨[115,116,111,114,101],true,false⟩,
 ⟨[112,111,112],false,false⟩,
 ⟨[100,117,112],false,false⟩,
 ⟨[115,119,97,112],false,false⟩,
 ⟨[97,100,100],false,false⟩,
 ⟨[115,117,98],false,false⟩,
 ⟨[109,117,108],false,false⟩,
 ⟨[100,105,118],false,false⟩,
 ⟨[114,101,109],false,false⟩,
 ⟨[110,101,103],false,false⟩,
 ⟨[108,101,115,115],false,false⟩,
 ⟨[115,97,109,101],false,false⟩,
 ⟨[110,111,116],false,false⟩,
 ⟨[98,111,116,104],false,false⟩,
 ⟨[106,111,105,110],false,false⟩,
 ⟨[115,105,122,101],false,false⟩,
 ⟨[106,117,109,112],true,false⟩,
 ⟨[98,114,97,110,99,104],true,false⟩,
 ⟨[110,101,119],false,true⟩,
 ⟨[103,101,116],false,true⟩,
 ⟨[112,117,116],false,true⟩,
 ⟨[99,97,108,108],false,true⟩,
 ⟨[97,114,114,97,121],false,true⟩,
 ⟨[97,116],false,false⟩,
 ⟨[115,101,116],false,false⟩,
 ⟨[105,115],false,true⟩,
 ⟨[99,97,115,116],false,true⟩,
 ⟨[114,101,116,117,114,110],false,false⟩,
 ⟨[116,104,114,111,119],false,false⟩,
 ⟨[111,117,116],false,false⟩,
 ⟨[101,113,117,97,108],false,false⟩,
 ⟨[97,110,100],false,false⟩,
 ⟨[111,114],false,false⟩,
 ⟨[120,111,114],false,false⟩,
 ⟨[115,104,108],false,false⟩,
 ⟨[115,104,114],false,false⟩]
end Go.Hm
namespace Go.Emb
open Go.Hm
def ROp (_:Q2) (o:Opr) (cs:List Value):Prop:=cs=[S o.name, .bool o.number, .bool o.text]
def cOp (o:Opr):List Value:=[S o.name, .bool o.number, .bool o.text]
instance:Rep ROp:=⟨fun _ h=>h,fun h u hu=>by rw[h] at hu;simp at hu;rcases hu with rfl | rfl | rfl<;>rfl⟩
end Go.Emb
namespace Go.Proofs.Y
open Go.Emb Go.RowKit Go.Kd Go.Hm
variable {w : World} {K : Value -> World -> Prop} {σ : Q2}
theorem Q8X {a:Q9} (k:a.length<=V5) (h: ∀w',Below w.heap.size w w'->K (.bool (C5 a)) w'):Q0 P F.c2 [S a] w K:=Q7b (by
 unfold Tz X8;have b:a.length<=140737488355328:=by simp only[V5] at k;omega
 refine Q9q a b fun w1 e=>?_;cases d:name a
 ·(try simp only[↓M1,M1,Mb,reduceIte])
  have:=h w1 e
  rwa [show C5 a=false by cases a with | nil=>rfl | cons c r=>simp[C5,d]] at this
 ·(try simp only[↓M1,M1,Mb,reduceIte])
  refine Gh a b fun m j=>?_
  (try simp only[↓M1,M1,Mb,reduceIte])
  have:=h m (bt e j)
  rwa [show C5 a= !H7 a by
   cases a with
   | nil=>simp[name] at d
   | cons c r=>
    obtain ⟨i,l⟩:=Q0s d;simp only[H7,C5,d,Bool.true_and];simp only[I5,l,Bool.or_false] at i;cases f:Jd c.toNat<;>cases g:Yr c.toNat
    .simp[f,g] at i
    .rfl
    .rfl
    .exfalso
     simp only[Jd,Yr,Bool.and_eq_true,decide_eq_true_eq] at f g;omega] at this)
theorem X7H {t e:TypeId} {n sz b:Nat} {z:Value} [ta:TA P t n e] [tz:TZ P e sz b z] {a:Addr} (d:K (.slice (some a) n n) w):G7 P t (.pointer (some a)) none none none w K:=by
 unfold G7
 have:(Instr.sliceAt t (.pointer (some a)) none none none).run P w= .ok (.slice (some (if n=0 then a else a.add (0*sz))) (n-0) (n-0)) w:=by
  simp[Instr.sliceAt,run_underlying ta.h,Instr.sureAddr,Instr.sliceBounds,D9 tz]
 rw[Y4 this]
 have c:(if n=0 then a else a.add (0*sz))=a:=by
  by_cases h:n=0
  .rw[if_pos h]
  .rw[if_neg h,Nat.zero_mul,add_zero]
 rw[c];exact d
def Q5a (σ:Q2):Prop:=U1 σ ⟨G.a,0,none⟩ (Lo.flatMap cOp)
theorem X1B (i:Nat) (o:Opr) (h:Lo[i]? =some o):((Lo.flatMap cOp).drop (i*3)).take 3=cOp o:=by
 have c:i<42:=(List.getElem?_eq_some_iff.1 h).1
 have key: ∀l:List Opr,∀i o,l[i]? =some o->((l.flatMap cOp).drop (i*3)).take 3=cOp o:=by
  intro l
  induction l with
  | nil=>intro i o h;simp at h
  | cons a r b=>
   intro i o h;cases i with
   | zero=>simp at h;subst h;rfl
   | succ i=>
    have:=b i o (by simpa using h)
    rw[List.flatMap_cons,show (i+1)*3=(cOp a).length+i*3 by simp[cOp];omega,List.drop_append]
    simpa [List.drop_eq_nil_of_le] using this
 exact key _ i o h
theorem Q67 {σ:Q2} {a:Addr} {cs:List Value} (h:U1 σ a cs) (i n:Nat):U1 σ (a.add i) ((cs.drop i).take n):=by
 obtain ⟨d,arr,e,c,f,g⟩:=h;refine ⟨Qt d _,arr,e,c,by rw[I4];exact f,fun j v b=>?_⟩
 rw[List.getElem?_take] at b
 split at b
 .rw[List.getElem?_drop] at b
  rw[Yv,Nat.add_assoc];exact g _ _ b
 .cases b
theorem X8E (h:Q5a σ):Sl 3 ROp σ (.slice (some ⟨G.a,0,none⟩) 42 42) Lo:=by
 refine ⟨_,42,rfl,by decide,by decide,by simp,?_⟩
 rintro _ ⟨⟩;refine ⟨fun _=>rfl,fun i x a=>⟨cOp x,?_,rfl,rfl⟩⟩;rw[<-X1B i x a];exact Q67 h (i*3) 3
theorem Q2C {β:Type} {xs:List Opr} {v f:Value} (b:β->Opr->Bool×β) (m:β) (a:β->World->Prop) (D:Nat->Prop) (l: ∀s w,a s w->X3 w σ) (y:a m w) (u:Sl 3 ROp σ v xs)
 (z: ∀s x cs (w1:World) (K:Value->World->Prop),x∈xs->Kpt D w w1->a s w1->ROp σ x cs->cs.length=3->(∀w',Kpt D w w'->a (b s x).2 w'->K (.bool (b s x).1) w')->J0 P f [.agg cs.toArray] w1 K)
 (h: ∀w',Kpt D w w'->a (V3 b m xs 0).2 w'->K (I (D0 (V3 b m xs 0).1)) w'):Q0 P F.u [v,f] w K:=Lu (by
 unfold Xh J5 U7 X6 X1
 ((try simp only[↓M1,M1,Mb,reduceIte]);repeat ((first | refine ld Q7 Q7 rfl ?_ | refine Y3 Q7 Q7 rfl ?_ | refine Q6 Q7 ?_);(try simp only[↓M1,M1,Mb,reduceIte])))
 refine V2 xs.length (fun n w'=>Kpt D w w'/\ ∃s,a s w'/\V3 b m xs 0=V3 b s (xs.drop n) n) ⟨Kpt.refl,m,y,rfl⟩ fun n w1 d E i=>?_;obtain ⟨t,s,i,e⟩:=i;have r:=l s w1 i
 ((try simp only[↓M1,M1,Mb,reduceIte]);repeat ((first | refine ld Q7 Q7 rfl ?_ | refine Y3 Q7 Q7 rfl ?_ | refine Q6 Q7 ?_);(try simp only[↓M1,M1,Mb,reduceIte])))
 refine Q4 (fun q=>?_) (fun q=>?_)
 .have c:n<xs.length:=by simpa using q
  refine E3 u c fun p cs A g B=>?_;refine Z2 r A g ?_;refine z s xs[n] cs w1 _ (List.getElem_mem c) t i B g fun C k j=>?_;rw[List.drop_eq_getElem_cons c] at e;simp only[V3] at e;refine Q4 (fun o=>?_) (fun o=>?_)
  .rw[o] at e
   have:=h C k;rw[e] at this;exact this j
  .rw[o] at e
   ((try simp only[↓M1,M1,Mb,reduceIte]);repeat ((first | refine ld Q7 Q7 rfl ?_ | refine Y3 Q7 Q7 rfl ?_ | refine Q6 Q7 ?_);(try simp only[↓M1,M1,Mb,reduceIte])))
   exact Y7 u.max c ⟨k,_,j,by simpa using e⟩
 .have c: ¬n<xs.length:=by simpa using q
  rw[List.drop_eq_nil_of_le Q5] at e;have:=h w1 t;rw[e] at this;exact this i)
theorem Q1P {xs:List Opr} {v f:Value} (p:Opr->Bool) (hs:X3 w σ) (hv:Sl 3 ROp σ v xs)
 (hf: ∀x cs (w1:World) (K:Value->World->Prop),x∈xs->X3 w1 σ->ROp σ x cs->cs.length=3->(∀w',Below w1.heap.size w1 w'->K (.bool (p x)) w')->J0 P f [.agg cs.toArray] w1 K)
 (h: ∀w',Below w.heap.size w w'->K (I (D0 (xs.findIdx? p))) w'):Q0 P F.u [v,f] w K:=by
 refine Q2C (fun (_:Unit) x=>(p x,())) () (fun _ w'=>Below w.heap.size w w') (fun _=>False) (fun _ w' hb=>hs.below hb) (Below.refl _ _) hv (fun s x cs w1 K hx hk hi hr hl hK=>hf x cs w1 K hx (hs.below hi) hr hl fun w' hb=>hK w' (.of_below (bt hi hb)) (bt hi hb)) fun w' hk hi=>?_;rw[Ql]
 simpa using h w' hi
theorem Q5a.le {σ a:Q2} (h:Q5a σ) (c: ∀b o,σ b=some o->a b=some o):Q5a a:=U1.le h c
def Zd (n:Q9):Option Nat:=Lo.findIdx? fun o=>decide (o.name=n)
theorem X83 {a:Q9} (r:X3 w σ) (k:Q5a σ) (h: ∀w',Below w.heap.size w w'->K (I (D0 (Zd a))) w'):Q0 P F.d8 [S a] w K:=X0Y (by
 unfold Q4S;refine B6 r fun p w1 σ1 c f=>?_;simp only[Value.cells] at f;refine X7H ?_
 ((try simp only[↓M1,M1,Mb,reduceIte]);repeat ((first | refine ld Q7 Q7 rfl ?_ | refine Y3 Q7 Q7 rfl ?_ | refine Q6 Q7 ?_);(try simp only[↓M1,M1,Mb,reduceIte])))
 refine Q1P (fun o=>decide (o.name=a)) c.sat (X8E (k.le c.le)) (fun x cs g K v e n u i=>?_) fun g j=>?_
 .refine J8 (Q8h ?_)
  unfold Q1G X7 X1;refine B6 e fun q t y b m=>?_;have d:cs=[S x.name, .bool x.number, .bool x.text]:=n;subst d;have s:=b.sat;have l:=f.up b;simp only[Value.cells] at m
  ((try simp only[↓M1,M1,Mb,reduceIte]);repeat ((first | refine ld Q7 Q7 rfl ?_ | refine Y3 Q7 Q7 rfl ?_ | refine Q6 Q7 ?_);(try simp only[↓M1,M1,Mb,reduceIte])))
  exact i t b.bel
 ·(try simp only[↓M1,M1,Mb,reduceIte])
  exact h g (bt c.bel j))
def I0 (n:Q9):Bool×Bool×Bool:=match Zd n with
 | none=>(false,false,false)
 | some i=>((Lo.getD i ⟨[],false,false⟩).number,(Lo.getD i ⟨[],false,false⟩).text,true)
theorem X6J {a:Q9} (l:X3 w σ) (j:Q5a σ) (h: ∀w',Below w.heap.size w w'->K (.tuple #[.bool (I0 a).1, .bool (I0 a).2.1, .bool (I0 a).2.2]) w'):Q0 P F.cv [S a] w K:=Q9N (by
 unfold Q2Y;simp only[Y5,X5];unfold X2;refine X83 l j fun w1 b=>?_;have c:=l.below b;unfold I0 at h;cases f:Zd a with
 | none=>
  rw[f] at h;simp only[D0]
  (try simp only[↓M1,M1,Mb,reduceIte])
  simp only[show decide ((-1:Int)<0)=true from rfl,↓M1,M1,Mb,reduceIte]
  exact h w1 b
 | some i=>
  rw[f] at h;simp only at h;have n:i<42:=(List.findIdx?_eq_some_iff_getElem.1 f).1
  have k:Lo[i]? =some (Lo.getD i ⟨[],false,false⟩):=by
   rw[List.getD,List.getElem?_eq_getElem (by exact n)];rfl
  generalize Lo.getD i ⟨[],false,false⟩=o at h k;have g:=Q67 j (i*3) 3;rw[X1B i o k] at g;simp only[D0];have m:decide ((i:Int)<0)=false:=by simp
  simp only[m,↓M1,M1,Mb,reduceIte]
  have A: ∀{w:World} {K:Value->World->Prop},K (.pointer (some ((⟨G.a,0,none⟩:Addr).add (i*3)))) w->indexAddr P T.ao (.pointer (some ⟨G.a,0,none⟩)) (I i) w K:=by
   intro w K h;rw[Q9o Q5 Q5]
   simpa using h
  refine Sr (Below.refl _ _) ?_;refine X9 (.pointer (some ((⟨G.a,0,none⟩:Addr).add (i*3)))) (fun w b=>A (Y2 rfl)) ?_;refine X9 (.pointer (some (((⟨G.a,0,none⟩:Addr).add (i*3)).add 1))) (fun t w b e=>by rw[e,fa];exact Y2 rfl) ?_
  refine X9 (.pointer (some ((⟨G.a,0,none⟩:Addr).add (i*3)))) (fun w b=>A (Y2 rfl)) ?_;refine X9 (.pointer (some (((⟨G.a,0,none⟩:Addr).add (i*3)).add 2))) (fun t w b e=>by rw[e,fa];exact Y2 rfl) ?_
  refine X9 (.bool o.number) (fun t w b e=>by rw[e];exact ld (c.below b) g rfl (Y2 rfl)) ?_
  refine X9 (.bool o.text) (fun t w b e=>by rw[e];exact ld (c.below b) g rfl (Y2 rfl)) ?_
  rintro _ _ _ _ _ _ p d rfl rfl rfl rfl rfl rfl;exact h p (bt b d))
end Go.Proofs.Y
