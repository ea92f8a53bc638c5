/- Parts of a proof about the given program: its functions as texts of their own, what each computes, plain laws of that. The conditions of each stand in its statement. -/
import Derived.Test.YtlfdfcejjgidpaaGreatDoorB1
import Derived.Below
import Derived.Maps.AppendAt
import Derived.ChangeArms
import Derived.DataReads
import Derived.SizedLaws
import Derived.Deep.AppendSrc
set_option linter.unnecessarySimpa false
set_option linter.defProp false
set_option linter.unusedSectionVars false
set_option linter.unusedVariables false
set_option linter.unusedSimpArgs false
namespace Go.Proofs.Y
open Go.Emb
set_option maxRecDepth 100000
variable {w : World} {K : Value -> World -> Prop} {a0 a1 a2 a3 a5 a6 a7 : Value}
def Tl:W4:=[none,none,none,none,some ([8],[6,8,12,13,14,15,16,17,18,19,20,21,22,23,24,25])]++X8 6
def Ol:Ln:=fun i j k w K=>Q0 P F.a3 [i,j] w fun b w=>lp (α:=Value) (.int .i64 0) w fun a c l w=>X7 T.h b w fun d w=>X2 .lss T.d 12 14 c d w fun e w=>X0 e (indexAddr P T.h b c w fun f w=>Y2 T.j T.b f 0 w fun g w=>X2 .eql T.b 22 23 g k w fun h w=>X0 h (K c w) (U4 16 c w a)) (K (.int .i64 (-1)) w)
theorem Aw (h:Ol a0 a1 a2 w K):Q0 P F.bn [a0,a1,a2] w K:=zr Tl Tryz.func127 h
def Ef:M7:=fun a w K=>X7 T.b a w fun c w=>Q0 P F.am [a] w fun d w=>Y5 P .mul T.d (.const (.int .i64 2)) (.tmp 7) (.int .i64 2) d w fun e w=>X2 .sub T.d 5 8 c e w fun f w=>I9 P T.b a none (some f) none w fun b w=>K b w
theorem Q0T (h:Ef a0 w K):Q0 P F.aP [a0] w K:=zr (X8 2) Tryz.func193 h
def Ee:V2:=fun p d w K=>V5 .eql T.b 5 d #[110,117,108,108] w fun c w=>Y0 c false d w fun q w=>Q1 c false w (Q0 P F.h [q]) fun r w=>Y0 c false r w fun a w=>Y0 a true d w fun e w=>Q1 a true w (Q0 P F.aP [e]) fun f w=>Q1 a true w (Q0 P F.ah [f]) fun g w=>Y0 a true g w fun b w=>Y0 b false p w fun h w=>Y0 b false d w fun i w=>Q1 b false w (Q0 P F.aP [i]) fun j w=>Q1 b false w (Q0 P F.b [h,j]) fun k w=>Q1 b false w (X5 .geq T.d 18 k 0) fun l w=>Q1 a true w (pick P b (.bool true) l) fun m w=>Q1 c false w (pick P a m (.bool false)) fun n w=>pick P c (.bool true) n w fun o w=>K o w
theorem Q0S (h:Ee a0 a1 w K):Q0 P F.bz [a0,a1] w K:=zr (X8 2) Tryz.func139 h
def On:V2:=fun e d w K=>V5 .neq T.b 5 d #[110,117,108,108] w fun a w=>Y0 a true e w fun f w=>Y0 a true d w fun g w=>Q1 a true w (Q0 P F.bz [f,g]) fun b w=>pick P a b (.bool false) w fun c w=>K c w
theorem Ay (h:On a0 a1 w K):Q0 P F.bo [a0,a1] w K:=zr (X8 2) Tryz.func128 h
def Q0x:W4:=[none,none,none,none,some ([3,4],[3,4,5,6,7,8,9,10,11,12,13,14,15,16,17,18,19,20,21,22]),none,none,none,some ([3],[3,12,13,14,15]),none,none]
def Eb:M7:=fun n w K=>box P T.c n w fun a w=>lp (α:=Value×Value) ((.string ⟨#[40]⟩),(.int .i64 0)) w fun b c o w=>Y2 T.c T.e a 1 w fun p w=>X7 T.e p w fun q w=>X2 .lss T.d 5 8 c.2 q w fun r w=>X0 r (jn (α:=Value) w (fun m w=>X5 .gtr T.d 12 c.2 0 w fun e w=>X0 e (V5 .add T.b 14 c.1 #[44] w fun f w=>m f w) (m c.1 w)) fun s o w=>Y2 T.c T.e a 1 w fun g w=>Z5 T.e T.b g c.2 w fun h w=>X2 .add T.b 16 21 s h w fun i w=>X5 .add T.d 10 c.2 1 w fun d w=>b (i,d) w) (V5 .add T.b 23 c.1 #[41] w fun j w=>Y2 T.c T.b a 2 w fun k w=>X2 .add T.b 24 26 j k w fun l w=>K l w)
theorem Q0P (h:Eb a0 w K):Q0 P F.aO [a0] w K:=zr Q0x Tryz.func129 h
def Q1J:W4:=[none,none,none,some ([5],[4,5,6,7,8,9,10,11,12,13,14,15,16,17,18,19,20,21])]++X8 6
def Re:V2:=fun i j w K=>box P T.a i w fun a w=>lp (α:=Value) (.int .i64 0) w fun b c m w=>Y2 T.a T.f a 7 w fun k w=>X7 T.f k w fun l w=>X2 .lss T.d 6 9 c l w fun d w=>X0 d (Y2 T.a T.f a 7 w fun e w=>indexAddr P T.f e c w fun f w=>Y2 T.c T.b f 0 w fun g w=>X2 .eql T.b 18 19 g j w fun h w=>X0 h (K c w) (U4 11 c w b)) (K (.int .i64 (-1)) w)
theorem Q1Y (h:Re a0 a1 w K):Q0 P F.aW [a0,a1] w K:=zr Q1J Tryz.func191 h
def Tm:W4:=[none,none,none,some ([9],[6,8,9,10,11,12,13,14,15,16,17,18,19,20,21,22,23,24,25,26,27,28,29,30,31,32,33,34,35,36,37,38,39,40,41,42,43,44,45,46,47,48,49,50,51,52,53,54])]++X8 12
def Om:Ln:=fun v Y X w K=>box P T.a Y w fun b w=>Qh P T.c w fun k w=>lp (α:=Value) (.int .i64 0) w fun d R Z w=>Y2 T.a T.e b 2 w fun y w=>X7 T.e y w fun z w=>X2 .lss T.d 15 18 R z w fun A w=>X0 A (Y2 T.a T.e b 2 w fun B w=>Z5 T.e T.b B R w fun C w=>Q0 P F.b [v,C] w fun D w=>Z5 T.g T.a v D w fun E w=>M4 T.a E w fun a w=>Q9 P T.a a w fun H w=>Q0 P F.aW [H,X] w fun m w=>X5 .geq T.d 35 m 0 w fun J w=>X0 J (dr w fun f c=>Z1 f c (fieldAddr P T.a a 0) fun r=>Z1 f c (fieldAddr P T.a a 7) fun s=>Y1 f c r (fun g=>Q9 P T.b g) fun U=>Y1 f c s (fun h=>Q9 P T.f h) fun t=>Y1 f c t (fun i=>indexAddr P T.f i m) fun u=>Y1 f c u (fun j=>Q9 P T.c j) fun V=> ∀g h n i j o w,c w->r g w->s h w->U n w->t i w->u j w->V o w->M3 P T.c k o w fun _u w=>M0 P T.c k w fun l=>K (.tuple #[n,l,(.bool true)]) w) (Q9 P T.a a w fun L w=>Q0 P F.aI [v,L,X] w fun p w=>M8 p w fun M N w=>ext P p 2 w fun O w=>M4 T.c N w fun e w=>X0 O (dr w fun f c=>Z1 f c (Q9 P T.c e) fun W=> ∀q w,c w->W q w->M3 P T.c k q w fun _u w=>M0 P T.c k w fun l=>K (.tuple #[M,l,(.bool true)]) w) (U4 20 R w d))) (D7 P T.c [] w fun Q w=>M3 P T.c k Q w fun _u w=>M0 P T.c k w fun l=>K (.tuple #[(.string ⟨#[]⟩),l,(.bool false)]) w)
theorem Ax (h:Om a0 a1 a2 w K):Q0 P F.aI [a0,a1,a2] w K:=zr Tm Tryz.func192 h
def Ke:W4:=[none,none,none,some ([9],[6,8,9,10,18,19,20,21,22,23,24,25,26,27,28,29,30,31,32,33,34,35,36,37,38,39,40,41,42,43,44,45,46,47])]++X8 8++[some ([11],[6,8,11,12,13,14,51,52,53,54,55,56,57,58,59,60,61,62,63,64,65,66,67,68,69,70,71,72,73])]++X8 7
def Mq:Ln:=fun b a1 a2 w K=>Qh P T.c w fun m w=>Q0 P F.b [b,a1] w fun D w=>lp (α:=Value) D w fun e t d_ w=>X5 .geq T.d 18 t 0 w fun E w=>X0 E (Z5 T.g T.a b t w fun M w=>Q0 P F.aW [M,a2] w fun o w=>X5 .geq T.d 33 o 0 w fun N w=>X0 N (dr w fun d a=>Z1 d a (indexAddr P T.g b t) fun u=>Y1 d a u (fun f=>fieldAddr P T.a f 0) fun v=>Z1 d a (indexAddr P T.g b t) fun y=>Y1 d a y (fun h=>fieldAddr P T.a h 7) fun z=>Y1 d a v (fun g=>Q9 P T.b g) fun ab=>Y1 d a z (fun i=>Q9 P T.f i) fun A=>Y1 d a A (fun j=>indexAddr P T.f j o) fun B=>Y1 d a B (fun k=>Q9 P T.c k) fun ac=> ∀f g h i p j k q w,a w->u f w->v g w->y h w->z i w->ab p w->A j w->B k w->ac q w->M3 P T.c m q w fun _u w=>M0 P T.c m w fun n=>K (.tuple #[p,n,(.bool true)]) w) (indexAddr P T.g b t w fun H w=>Y2 T.a T.b H 1 w fun J w=>Q0 P F.b [b,J] w fun L w=>e L w)) (Q0 P F.b [b,a1] w fun O w=>lp (α:=Value) O w fun c l d_ w=>X5 .geq T.d 51 l 0 w fun Q w=>X0 Q (Z5 T.g T.a b l w fun W w=>Q0 P F.aI [b,W,a2] w fun r w=>M8 r w fun X Y w=>ext P r 2 w fun Z w=>M4 T.c Y w fun C w=>X0 Z (dr w fun d a=>Z1 d a (Q9 P T.c C) fun ad=> ∀s w,a w->ad s w->M3 P T.c m s w fun _u w=>M0 P T.c m w fun n=>K (.tuple #[X,n,(.bool true)]) w) (indexAddr P T.g b l w fun R w=>Y2 T.a T.b R 1 w fun U w=>Q0 P F.b [b,U] w fun V w=>c V w)) (D7 P T.c [] w fun aa w=>M3 P T.c m aa w fun _u w=>M0 P T.c m w fun n=>K (.tuple #[(.string ⟨#[]⟩),n,(.bool false)]) w))
theorem Ko (h:Mq a0 a1 a2 w K):Q0 P F.b8 [a0,a1,a2] w K:=zr Ke Tryz.func130 h
def Gn:W4:=[none,none,none,none,some ([6],[4,6,24,25,26,27,28,29,30,31,32,33,34,35,36,37,38,39,40,41])]++X8 8++[some ([7,8],[7,8,43,44,45,46,47,48,49,50,51,52,53,54,55,56,57,58])]++X8 5++[some ([7,9],[7,9,59,60,61,62,63,64,65,66,67,68,69,70,71,72,73,74,75,76,77,78,79,80,81,82,83,84,85,86,87,88,89]),none,none,some ([7],[7,66,67,68,69,70,71,72,73,74,75,76,77,78,79,80,81,82,83,84,85,86,87,88,89]),none,none,none,none,some ([10],[4,10,90,91,92,93,94,95,96,97,98,99,100,101,102])]++X8 9++[some ([12,13],[12,13,106,107,108,109,110,111,112,113,114,115,116,117,118,119,120,121,122,123,124,125,126,127,128,129,130]),none,none,some ([12],[12,112,113,114,115,116,117,118,119,120,121,122,123,124,125,126,127,128,129,130]),none,none,none,some ([14],[4,14,15,131,132,133,134,135,136,137,138,139,140,141,142,143,144,145,146,147,148,149,150,151,152,153,154,155,156,157,158,159,160,161,162,163,164,165]),none,none,none,none,some ([15],[4,15,137,138,139,140,141,142,143,144,145,146,147,148,149,150,151,152,153,154,155,156,157,158,159,160,161,162,163,164,165])]++X8 7++[some ([16],[4,16,17,18,19,166,167,168,169,170,171,172,173,174,175,176,177,178,179,180,181,182,183,184,185,186,187,188,189,190,191,192,193,194,195])]++X8 7
def Lg:V2:=fun a0 a1 w K=>Z5 T.g T.a a0 a1 w fun co w=>M4 T.a co w fun V w=>lp (α:=Value) (.int .i64 0) w fun Z x4 d_ w=>Y2 T.a T.h V 6 w fun cp w=>X7 T.h cp w fun cq w=>X2 .lss T.d 24 27 x4 cq w fun cr w=>X0 cr (dr w fun c b=>Z1 c b (fieldAddr P T.a V 1) fun ci=>Z1 c b (fieldAddr P T.a V 6) fun cj=>Y1 c b ci (fun a5=>Q9 P T.b a5) fun dt=>Y1 c b cj (fun a6=>Q9 P T.h a6) fun ck=>Y1 c b ck (fun a7=>indexAddr P T.h a7 x4) fun cl=>Y1 c b cl (fun a8=>fieldAddr P T.j a8 0) fun cm=>Y1 c b cm (fun a9=>Q9 P T.b a9) fun du=> ∀a5 a6 ca a7 a8 a9 cb w,b w->ci a5 w->cj a6 w->dt ca w->ck a7 w->cl a8 w->cm a9 w->du cb w->Q0 P F.bn [a0,ca,cb] w fun cs w=>X5 .geq T.d 40 cs 0 w fun ct w=>X0 ct (K (.int .i64 64) w) (U4 29 x4 w Z)) (buildSlice P T.e 0 [] w fun cu w=>lp (α:=Value×Value) (cu,(.int .i64 0)) w fun l W d_ w=>Y2 T.a T.h V 6 w fun cv w=>X7 T.h cv w fun cw w=>X2 .lss T.d 43 46 W.2 cw w fun cx w=>X0 cx (Y2 T.a T.h V 6 w fun cz w=>indexAddr P T.h cz W.2 w fun c0 w=>Y2 T.j T.b c0 1 w fun c1 w=>buildSlice P T.e 1 [(0,c1)] w fun c2 w=>V9 P .append [T.e,T.e] T.e [false,false] [W.1,c2] w fun c3 w=>X5 .add T.d 48 W.2 1 w fun cy w=>l (c3,cy) w) (lp (α:=Value×Value) (W.1,(.int .i64 0)) w fun m i d_ w=>Y2 T.a T.f V 7 w fun c4 w=>X7 T.f c4 w fun c5 w=>X2 .lss T.d 59 62 i.2 c5 w fun c6 w=>X0 c6 (jn (α:=Value) w (fun bc w=>Y2 T.a T.f V 7 w fun c8 w=>indexAddr P T.f c8 i.2 w fun c9 w=>Y2 T.c T.e c9 1 w fun da w=>V9 P .append [T.e,T.e] T.e [false,false] [i.1,da] w fun cc w=>Y2 T.a T.f V 7 w fun db w=>indexAddr P T.f db i.2 w fun dc w=>Y2 T.c T.b dc 2 w fun dd w=>V5 .neq T.b 79 dd #[] w fun de w=>X0 de (Y2 T.a T.f V 7 w fun df w=>indexAddr P T.f df i.2 w fun dg w=>Y2 T.c T.b dg 2 w fun dh w=>buildSlice P T.e 1 [(0,dh)] w fun di w=>V9 P .append [T.e,T.e] T.e [false,false] [cc,di] w fun dj w=>bc dj w) (bc cc w)) fun dq d_ w=>X5 .add T.d 64 i.2 1 w fun c7 w=>m (dq,c7) w) (lp (α:=Value) (.int .i64 0) w fun n ba d_ w=>X7 T.e i.1 w fun dl w=>X2 .lss T.d 90 92 ba dl w fun dm w=>X0 dm (Z5 T.e T.b i.1 ba w fun be w=>Q0 P F.bo [a0,be] w fun bf w=>V1 P .not bf w fun bg w=>X0 bg (K (.int .i64 65) w) (U4 94 ba w n)) (Q0 P F.aH [a0] w fun bh w=>buildSlice P T.f 0 [] w fun bi w=>lp (α:=Value×Value) (bi,(.int .i64 0)) w fun o e d_ w=>X7 T.g a0 w fun bj w=>X2 .lss T.d 106 108 e.2 bj w fun bk w=>X0 bk (jn (α:=Value) w (fun bd w=>X2 .eql T.d 112 113 e.2 a1 w fun g w=>Y0 g false bh w fun bm w=>Y0 g false a1 w fun bn w=>zhi g false w T.ad T.a7 bm bn fun bo w=>Y0 g false e.2 w fun bp w=>zhi g false w T.a7 T.n bo bp fun bq w=>pick P g (.bool true) bq w fun br w=>X0 br (indexAddr P T.g a0 e.2 w fun bs w=>Y2 T.a T.f bs 7 w fun bu w=>V9 P .append [T.f,T.f] T.f [false,false] [e.1,bu] w fun bv w=>bd bv w) (bd e.1 w)) fun ds d_ w=>X5 .add T.d 110 e.2 1 w fun bl w=>o (ds,bl) w) (lp (α:=Value) (.int .i64 0) w fun p X d_ w=>X7 T.f e.1 w fun bw w=>X2 .lss T.d 131 133 X bw w fun bx w=>X0 bx (lp (α:=Value) (.int .i64 0) w fun q ab d_ w=>X2 .lss T.d 137 138 ab X w fun bz w=>X0 bz (dr w fun c b=>Z1 c b (indexAddr P T.f e.1 X) fun ag=>Y1 c b ag (fun s=>fieldAddr P T.c s 0) fun ah=>Z1 c b (indexAddr P T.f e.1 ab) fun aj=>Y1 c b aj (fun v=>fieldAddr P T.c v 0) fun ak=>Y1 c b ah (fun t=>Q9 P T.b t) fun ai=>Y1 c b ak (fun y=>Q9 P T.b y) fun al=>D0 c b ai al (fun u z=>X2 .eql T.b 146 151 u z) fun d=>Y1 c b d (fun a=>W0 a (fun w J=>J e.1 w)) fun am=>Y1 c b d (fun a=>W0 a (fun w J=>J X w)) fun an=>En c b d am an (fun a A B=>W0 a (indexAddr P T.f A B)) fun ao=>Y1 c b d (fun a=>W0 a (fun w J=>J e.1 w)) fun aq=>Y1 c b d (fun a=>W0 a (fun w J=>J ab w)) fun ar=>En c b d aq ar (fun a E H=>W0 a (indexAddr P T.f E H)) fun av=>D0 c b d ao (fun a C=>W0 a (Q9 P T.c C)) fun ap=>D0 c b d ap (fun a D=>W0 a (Q0 P F.aO [D])) fun cd=>D0 c b d av (fun a L=>W0 a (Q9 P T.c L)) fun ce=> ∀s t v y u z a A B C E H L D ac ad w,b w->ag s w->ah t w->aj v w->ak y w->ai u w->al z w->d a w->am A w->an B w->ao C w->aq E w->ar H w->av L w->ap D w->cd ac w->ce ad w->Q1 a true w (Q0 P F.aO [ad]) fun b0 w=>Q1 a true w (X2 .neq T.b 158 163 ac b0) fun b1 w=>pick P a b1 (.bool false) w fun b2 w=>X0 b2 (K (.int .i64 66) w) (U4 140 ab w q)) (U4 135 X w p)) (lp (α:=Value) (.int .i64 0) w fun r bb d_ w=>X7 T.f e.1 w fun b3 w=>X2 .lss T.d 166 168 bb b3 w fun M w=>J5 M true w T.a T.n V 4 fun b4 w=>Q1 M true w (V1 P .not b4) fun b5 w=>pick P M b5 (.bool false) w fun b6 w=>X0 b6 (dr w fun c b=>Z1 c b (fieldAddr P T.a V 0) fun aw=>Z1 c b (indexAddr P T.f e.1 bb) fun ay=>Y1 c b ay (fun Q=>fieldAddr P T.c Q 0) fun az=>Y1 c b aw (fun N=>Q9 P T.b N) fun ax=>Y1 c b az (fun R=>Q9 P T.b R) fun a2=>D0 c b ax a2 (fun O U=>Q0 P F.b8 [a0,O,U]) fun k=>Y1 c b k (fun f=>ext P f 0) fun cg=>Y1 c b k (fun f=>ext P f 1) fun a3=>Y1 c b k (fun f=>ext P f 2) fun ch=>Z1 c b (Qh P T.c) fun cf=>Q7g c (fun Y=> ∀j h w,b w->cf j w->a3 h w->M3 P T.c j h w (dk c (Y [j,h]) w)) fun Y=> ∀N Q R O U f b7 h ae j dn w,b w->aw N w->ay Q w->az R w->ax O w->a2 U w->k f w->cg b7 w->a3 h w->ch ae w->cf j w->Y [j,h] dn w->V1 P .not ae w fun af w=>J5 af false w T.c T.n j 3 fun b8 w=>pick P af (.bool true) b8 w fun b9 w=>X0 b9 (K (.int .i64 67) w) (U4 175 bb w r)) (K (.int .i64 0) w)))))))
theorem Gx (h:Lg a0 a1 w K):Q0 P F.b3 [a0,a1] w K:=zr Gn Tryz.func68 h
def Q1I:W4:=X8 5++[some ([5,7],[2,3,4,5,7,8,21,22,23,24,25,26,27,28,29,30,31,32,33,34,35,36,37,38,39,40,41,42])]++X8 9++[some ([9],[2,3,4,9,43,44,45,46,47,48,49,50,51,52,53,54,55,56,57,58,59,60])]++X8 7++[some ([10],[2,3,4,10,11,61,62,63,64,65,66,67,68,69,70,71,72,73,74,75,76])]++X8 9++[some ([13],[2,3,4,13,79,80,81,82,83,84,85,86,87,88,89,90,91,92,93,94,95,96])]++X8 8++[some ([14,15],[14,15,98,99,100,101,102,103,104,105,106,107,108,109,110])]++X8 5++[some ([16],[2,3,4,16,17,111,112,113,114,115,116,117,118,119,120,121,122,123,124,125,126,127,128,129,130,131])]++X8 7
def Rd:M7:=fun k w K=>Q0 P F.bm [] w fun E w=>X7 T.g E w fun b w=>lp (α:=Value×Value) (E,(.int .i64 0)) w fun l c q w=>X7 T.g k w fun M w=>X2 .lss T.d 21 23 c.2 M w fun N w=>X0 N (Z5 T.g T.a k c.2 w fun Q w=>Q0 P F.bk [Q] w fun H w=>X5 .neq T.z 32 H 0 w fun R w=>X0 R (K (.tuple #[(.slice none 0 0),c.2,H]) w) (Z5 T.g T.a k c.2 w fun U w=>buildSlice P T.g 1 [(0,U)] w fun V w=>V9 P .append [T.g,T.g] T.g [false,false] [c.1,V] w fun W w=>X5 .add T.d 25 c.2 1 w fun O w=>l (W,O) w)) (lp (α:=Value) (.int .i64 0) w fun d i q w=>X7 T.g k w fun X w=>X2 .lss T.d 43 45 i X w fun Y w=>X0 Y (indexAddr P T.g k i w fun Z w=>Y2 T.a T.b Z 0 w fun aa w=>Q0 P F.b [c.1,aa] w fun ab w=>X2 .add T.d 56 57 b i w fun ac w=>X2 .neq T.d 55 58 ab ac w fun ad w=>X0 ad (K (.tuple #[(.slice none 0 0),i,(.int .i64 60)]) w) (U4 47 i w d)) (lp (α:=Value) (.int .i64 0) w fun e m q w=>X7 T.g k w fun ae w=>X2 .lss T.d 61 63 m ae w fun af w=>X0 af (Z5 T.g T.a k m w fun ag w=>Q0 P F.b9 [c.1,ag] w fun J w=>X5 .neq T.z 73 J 0 w fun ah w=>X0 ah (K (.tuple #[(.slice none 0 0),m,J]) w) (U4 65 m w e)) (Q0 P F.aH [c.1] w fun ai w=>lp (α:=Value) (.int .i64 0) w fun f j q w=>X7 T.g k w fun aj w=>X2 .lss T.d 79 81 j aj w fun ak w=>X0 ak (X2 .add T.d 86 87 b j w fun al w=>Z5 T.ad T.a7 ai al w fun am w=>X2 .add T.d 91 92 b j w fun an w=>Z5 T.a7 T.n am an w fun ao w=>X0 ao (K (.tuple #[(.slice none 0 0),j,(.int .i64 63)]) w) (U4 83 j w f)) (buildSlice P T.o 0 [] w fun ap w=>lp (α:=Value×Value) (ap,(.int .i64 0)) w fun g a q w=>X7 T.g k w fun r w=>X2 .lss T.d 98 100 a.2 r w fun s w=>X0 s (X2 .add T.d 107 108 b a.2 w fun u w=>Q0 P F.aX [c.1,a.1,b,u] w fun v w=>X5 .add T.d 102 a.2 1 w fun t w=>g (v,t) w) (lp (α:=Value) (.int .i64 0) w fun h n q w=>X7 T.o a.1 w fun y w=>X2 .lss T.d 111 113 n y w fun z w=>X0 z (Z5 T.o T.d a.1 n w fun A w=>Q0 P F.b3 [c.1,A] w fun o w=>X5 .neq T.z 123 o 0 w fun B w=>X0 B (dr w fun Tr Br=>Z1 Tr Br (indexAddr P T.o a.1 n) fun L=> ∀p w,Br w->L p w->Q9 P T.d p w fun C w=>X2 .sub T.d 128 129 C b w fun D w=>K (.tuple #[(.slice none 0 0),D,o]) w) (U4 115 n w h)) (K (.tuple #[c.1,(.int .i64 0),(.int .i64 0)]) w))))))
theorem Q1X (h:Rd a0 w K):Q0 P F.bL [a0] w K:=zr Q1I Tryz.func27 h
def Q4b:V2:=fun g a w K=>X5 .lss T.d 6 a 0 w fun f w=>Y0 f false a w fun h w=>Q1 f false w (X5 .gtr T.d 9 h 1048576) fun b w=>pick P f (.bool true) b w fun c w=>X0 c (K (.tuple #[(.pointer none),(.int .i64 90)]) w) (D7 P T.a0 [(0,g),(1,a)] w fun d w=>box P T.a0 d w fun e w=>K (.tuple #[e,(.int .i64 0)]) w)
theorem X0B (h:Q4b a0 a1 w K):Q0 P F.cO [a0,a1] w K:=zr (X8 5) Tryz.func28 h
def Nw:M7:=fun C w K=>Qh P T.r w fun c w=>Q0 P F.ax [] w fun i w=>Q0 P F.cP [i] w fun e w=>M8 e w fun f D w=>ext P e 2 w fun j w=>Q0 P F.ax [] w fun k w=>Q0 P F.bL [k] w fun g w=>M8 g w fun l E w=>ext P g 2 w fun m w=>Y5 P .rem T.aC (.tmp 25) (.const (.int .u16 301)) C (.int .u16 301) w fun n w=>conv P T.aC T.d n w fun h w=>X5 .neq T.z 28 j 0 w fun a w=>Y0 a false m w fun o w=>Q1 a false w (X5 .neq T.z 31 o 0) fun p w=>pick P a (.bool true) p w fun b w=>Y0 b false f w fun q w=>Q1 b false w (Y5 P .eql T.u (.tmp 35) (.const (.pointer none)) q (.pointer none)) fun r w=>pick P b (.bool true) r w fun s w=>X0 s (D7 P T.r [] w fun t w=>M3 P T.r c t w fun _u w=>M0 P T.r c w fun d=>K (.tuple #[(.pointer none),d]) w) (Q0 P F.cO [f,h] w fun u w=>M8 u w fun v y w=>X5 .neq T.z 45 y 0 w fun z w=>X0 z (D7 P T.r [] w fun A w=>M3 P T.r c A w fun _u w=>M0 P T.r c w fun d=>K (.tuple #[(.pointer none),d]) w) (D7 P T.r [(0,l),(1,h)] w fun B w=>M3 P T.r c B w fun _u w=>M0 P T.r c w fun d=>K (.tuple #[v,d]) w))
theorem Ag (h:Nw a0 w K):Q0 P F.aF [a0] w K:=zr (X8 12) Tryz.func8 h
def Zv:W4:=[none,none,none,some ([8],[4,5,8,9,10,11,12,13,14,15,16,17,18])]++X8 7
def G9:V2:=fun e f w K=>X7 T.v e w fun g w=>lp (α:=Value) (.int .i64 0) w fun a b i w=>X2 .lss T.d 8 7 b g w fun h w=>X0 h (Z5 T.v T.i e b w fun c w=>Y8 P f [c] w fun d w=>X0 d (K b w) (U4 8 b w a)) (K (.int .i64 (-1)) w)
theorem Jc (h:G9 a0 a1 w K):Q0 P F.a1 [a0,a1] w K:=zr Zv Tryz.func85 h
def F3:V2:=fun a b w K=>Q0 P F.a1 [a,b] w fun c w=>X5 .geq T.d 7 c 0 w fun d w=>K d w
theorem Ya (h:F3 a0 a1 w K):Q0 P F.n [a0,a1] w K:=zr (X8 2) Tryz.func37 h
def Rx:V2:=fun h g w K=>X5 .geq T.d 5 g 0 w fun a w=>Y0 a true g w fun i w=>Y0 a true h w fun j w=>Q1 a true w (nilCheck P j) fun b w=>J5 a true w T.a0 T.w b 3 fun c w=>Q1 a true w (X7 T.w c) fun d w=>Q1 a true w (X2 .lss T.d 8 13 i d) fun e w=>pick P a e (.bool false) w fun f w=>K f w
theorem Q2O (h:Rx a0 a1 w K):Q0 P F.az [a0,a1] w K:=zr (X8 2) Tryz.func149 h
def Hu:V2:=fun e f w K=>Q0 P F.az [e,f] w fun g w=>V1 P .not g w fun h w=>X0 h (K (.string ⟨#[]⟩) w) (nilCheck P e w fun a w=>Y2 T.a0 T.w a 3 w fun b w=>indexAddr P T.w b f w fun c w=>Y2 T.aj T.b c 0 w fun d w=>K d w)
theorem Q1O (h:Hu a0 a1 w K):Q0 P F.w [a0,a1] w K:=zr (X8 5) Tryz.func87 h
def Cj:V2:=fun D E w K=>box P T.i E w fun a w=>Q9 P T.i a w fun H w=>D7 P T.i [] w fun J w=>X2 .eql T.i 6 7 H J w fun L w=>X0 L (K (.string ⟨#[110,117,108,108]⟩) w) (Q9 P T.i a w fun d w=>Y2 T.i T.aa a 1 w fun e w=>D7 P T.i [(0,(.int .i64 1)),(1,e)] w fun f w=>X2 .eql T.i 10 13 d f w fun g w=>X0 g (K (.string ⟨#[105,110,116]⟩) w) (Q9 P T.i a w fun h w=>Y2 T.i T.aa a 1 w fun i w=>X5 .and T.aa 18 i 1 w fun j w=>D7 P T.i [(0,(.int .i64 2)),(1,j)] w fun k w=>X2 .eql T.i 16 20 h k w fun l w=>X0 l (K (.string ⟨#[98,111,111,108]⟩) w) (Q9 P T.i a w fun m w=>Y2 T.i T.b a 2 w fun n w=>D7 P T.i [(0,(.int .i64 3)),(2,n)] w fun o w=>X2 .eql T.i 23 26 m o w fun b w=>J5 b true w T.i T.b a 2 fun p w=>Q1 b true w (X7 T.b p) fun q w=>Q1 b true w (X5 .leq T.d 31 q 4096) fun r w=>pick P b r (.bool false) w fun c w=>J5 c true w T.i T.b a 2 fun s w=>Q1 c true w (Q0 P F.aY [s]) fun t w=>pick P c t (.bool false) w fun u w=>X0 u (K (.string ⟨#[116,101,120,116]⟩) w) (Q9 P T.i a w fun v w=>Y2 T.i T.d a 3 w fun y w=>D7 P T.i [(0,(.int .i64 4)),(3,y)] w fun z w=>X2 .eql T.i 40 43 v z w fun A w=>X0 A (Y2 T.i T.d a 3 w fun B w=>Q0 P F.w [D,B] w fun C w=>K C w) (K (.string ⟨#[]⟩) w)))))
theorem Q3G (h:Cj a0 a1 w K):Q0 P F.c1 [a0,a1] w K:=zr (X8 13) Tryz.func39 h
def Q0k:V2:=fun b c w K=>box P T.i b w fun a w=>Q9 P T.a2 c w fun d w=>Q9 P T.i a w fun e w=>Q0 P F.c1 [d,e] w fun f w=>V5 .eql T.b 6 f #[] w fun g w=>K g w
theorem Q6C (h:Q0k a0 a1 w K):Q0 P F.cv [a0,a1] w K:=zr (X8 2) Tryz.func38 h
def Q4a:V2:=fun g h w K=>box P T.i h w fun a w=>Y2 T.i T.d a 0 w fun i w=>X5 .eql T.d 6 i 4 w fun b w=>Y0 b true g w fun j w=>J5 b true w T.i T.d a 3 fun c w=>Q1 b true w (Q0 P F.w [j,c]) fun d w=>Q1 b true w (V5 .neq T.b 12 d #[]) fun e w=>pick P b e (.bool false) w fun f w=>K f w
theorem X0A (h:Q4a a0 a1 w K):Q0 P F.cN [a0,a1] w K:=zr (X8 2) Tryz.func51 h
def Ft:zV4:=fun s q t r w K=>box P T.i s w fun a w=>Q9 P T.a8 q w fun v w=>Y2 T.i T.d a 3 w fun c w=>lookup P T.a8 v c true w fun d w=>M8 d w fun u e w=>Q9 P T.a2 t w fun f w=>Q9 P T.i a w fun g w=>Q0 P F.cN [f,g] w fun b w=>Y0 b true e w fun h w=>Q1 b true w (V1 P .not h) fun i w=>pick P b i (.bool false) w fun j w=>X0 j (Q9 P T.a8 q w fun k w=>Y2 T.i T.d a 3 w fun l w=>mapUpdate P T.a8 k l (.int .i64 1) w fun _u w=>Q9 P T.o r w fun m w=>Y2 T.i T.d a 3 w fun n w=>buildSlice P T.o 1 [(0,n)] w fun o w=>V9 P .append [T.o,T.o] T.o [false,false] [m,o] w fun p w=>M3 P T.o r p w fun _u w=>K (.tuple #[]) w) (K (.tuple #[]) w)
theorem Q4A (h:Ft a0 a1 a2 a3 w K):Q0 P F.ch [a0,a1,a2,a3] w K:=zr (X8 4) Tryz.func50 h
def Dn:Ln:=fun n o p w K=>Q0 P F.az [n,o] w fun b w=>V1 P .not b w fun c w=>X0 c (K (.int .i64 92) w) (X5 .lss T.aa 13 p 0 w fun a w=>Y0 a false p w fun d w=>Y0 a false n w fun e w=>Q1 a false w (nilCheck P e) fun f w=>J5 a false w T.a0 T.w f 3 fun g w=>Y0 a false o w fun h w=>Q1 a false w (indexAddr P T.w g h) fun i w=>J5 a false w T.aj T.v i 1 fun j w=>Q1 a false w (X7 T.v j) fun k w=>Q1 a false w (X2 .geq T.aa 16 25 d k) fun l w=>pick P a (.bool true) l w fun m w=>X0 m (K (.int .i64 93) w) (K (.int .i64 0) w))
theorem Q0C (h:Dn a0 a1 a2 w K):Q0 P F.br [a0,a1,a2] w K:=zr (X8 7) Tryz.func144 h
def Rw:Ln:=fun k l m w K=>Qh P T.i w fun b w=>Q0 P F.br [k,l,m] w fun a w=>X5 .neq T.z 13 a 0 w fun d w=>X0 d (D7 P T.i [] w fun e w=>M3 P T.i b e w fun _u w=>M0 P T.i b w fun c=>K (.tuple #[c,a]) w) (nilCheck P k w fun f w=>Y2 T.a0 T.w f 3 w fun g w=>indexAddr P T.w g l w fun h w=>Y2 T.aj T.v h 1 w fun i w=>Z5 T.v T.i i m w fun j w=>M3 P T.i b j w fun _u w=>M0 P T.i b w fun c=>K (.tuple #[c,(.int .i64 0)]) w)
theorem Q2N (h:Rw a0 a1 a2 w K):Q0 P F.ay [a0,a1,a2] w K:=zr (X8 6) Tryz.func82 h
def Wi:V2:=fun a f w K=>Q0 P F.a8 [a,f] w fun g w=>V1 P .not g w fun h w=>X0 h (K (.tuple #[a,(.bool false)]) w) (X7 T.b a w fun b w=>X7 T.b f w fun c w=>X2 .sub T.d 13 15 b c w fun d w=>I9 P T.b a none (some d) none w fun e w=>K (.tuple #[e,(.bool true)]) w)
theorem By (h:Wi a0 a1 w K):Q0 P F.c2 [a0,a1] w K:=zr (X8 5) Tryz.func197 h
def Eg:V2:=fun b c w K=>Q0 P F.c2 [b,c] w fun d w=>M8 d w fun e a w=>K (.tuple #[e,a]) w
theorem Q0U (h:Eg a0 a1 w K):Q0 P F.bA [a0,a1] w K:=zr (X8 2) Tryz.func151 h
def Q38:M7:=fun f w K=>Q0 P F.bA [f,(.string ⟨#[91,93]⟩)] w fun g w=>M8 g w fun h i w=>V1 P .not i w fun a w=>Y0 a false f w fun b w=>Q1 a false w (Q0 P F.a5 [b]) fun c w=>Q1 a false w (V1 P .not c) fun d w=>pick P a (.bool true) d w fun e w=>X0 e (K (.string ⟨#[]⟩) w) (K h w)
theorem Q91 (h:Q38 a0 w K):Q0 P F.cm [a0] w K:=zr (X8 6) Tryz.func94 h
def Hw:V2:=fun f g w K=>Q0 P F.az [f,g] w fun h w=>V1 P .not h w fun i w=>X0 i (K (.int .i64 0) w) (nilCheck P f w fun a w=>Y2 T.a0 T.w a 3 w fun b w=>indexAddr P T.w b g w fun c w=>Y2 T.aj T.v c 1 w fun d w=>X7 T.v d w fun e w=>K e w)
theorem Q1Q (h:Hw a0 a1 w K):Q0 P F.aS [a0,a1] w K:=zr (X8 5) Tryz.func95 h
def Dm:M7:=fun a w K=>nilCheck P a w fun b w=>Y2 T.a0 T.u b 0 w fun c w=>K c w
theorem Q0B (h:Dm a0 w K):Q0 P F.aJ [a0] w K:=zr (X8 2) Tryz.func134 h
def Q7C:W4:=X8 6++[some ([7,19],[7,8,19,20,21,22,23,24,25,26,27,28,29,30,31,32,33,34,35,36,37]),none,none,some ([7],[7,8,21,22,23,24,25,26,27,28,29,30,31,32,33,34,35,36]),none,none,none]
def Q1l:V2:=fun e u w K=>Q0 P F.w [e,u] w fun d w=>Q0 P F.aJ [e] w fun f w=>Q0 P F.ac [f,d] w fun g w=>Q0 P F.aS [e,u] w fun h w=>lp (α:=Value×Value) ((.slice none 0 0),(.int .i64 0)) w fun b c v w=>X2 .lss T.d 19 18 c.2 h w fun i w=>X0 i (jn (α:=Value) w (fun t w=>Q0 P F.cm [d] w fun j w=>V5 .neq T.b 23 j #[] w fun a w=>Y0 a false g w fun k w=>Y0 a false c.2 w fun l w=>Q1 a false w (indexAddr P T.h k l) fun m w=>J5 a false w T.j T.n m 2 fun n w=>Q1 a false w (V1 P .not n) fun o w=>pick P a (.bool true) o w fun p w=>X0 p (buildSlice P T.o 1 [(0,c.2)] w fun q w=>V9 P .append [T.o,T.o] T.o [false,false] [c.1,q] w fun r w=>t r w) (t c.1 w)) fun y v w=>X5 .add T.d 19 c.2 1 w fun s w=>b (y,s) w) (K c.1 w)
theorem Q7T (h:Q1l a0 a1 w K):Q0 P F.c7 [a0,a1] w K:=zr Q7C Tryz.func96 h
def Q5l:W4:=[none,some ([14],[7,8,9,14,15,16,17,18,19,20,21,22,23,24,25,26,27,28])]++X8 5
def Ir:Ln:=fun k l m w K=>Q0 P F.c7 [k,l] w fun c w=>X7 T.o c w fun d w=>lp (α:=Value) (.int .i64 0) w fun a j p w=>X2 .lss T.d 14 13 j d w fun e w=>X0 e (Z5 T.o T.d c j w fun f w=>Q0 P F.ay [k,l,f] w fun g w=>M8 g w fun h n w=>M4 T.i h w fun b w=>Q9 P T.i b w fun i w=>Y8 P m [i] w fun o w=>U4 14 j w a) (K (.tuple #[]) w)
theorem Q5r (h:Ir a0 a1 a2 w K):Q0 P F.cl [a0,a1,a2] w K:=zr Q5l Tryz.func52 h
def Q6r:W4:=X8 7++[some ([8],[8,14,15,16,17,18,19,20,21,22,23,24,25,26]),none,none,none,none]
def Q0f:V2:=fun y z w K=>box P T.a2 y w fun c w=>box P T.i z w fun g w=>Qh P T.o w fun a w=>Oz P T.a8 none w fun C w=>M4 T.a8 C w fun b w=>O8 P (.func F.ch) [] [b,c,a] w fun i w=>Q9 P T.i g w fun o w=>Y8 P i [o] w fun A w=>lp (α:=Value) (.int .i64 0) w fun d t D w=>Q9 P T.o a w fun p w=>X7 T.o p w fun q w=>X2 .lss T.d 14 16 t q w fun r w=>X0 r (dr w fun n h=>Z1 n h (Q9 P T.a2 c) fun u=>Z1 n h (Q9 P T.o a) fun l=>Y1 n h l (fun e=>indexAddr P T.o e t) fun m=>Y1 n h m (fun f=>Q9 P T.d f) fun v=> ∀j e f k w,h w->u j w->l e w->m f w->v k w->Q0 P F.cl [j,k,i] w fun B w=>U4 18 t w d) (Q9 P T.o a w fun s w=>K s w)
theorem Q6x (h:Q0f a0 a1 w K):Q0 P F.cs [a0,a1] w K:=zr Q6r Tryz.func22 h
def Q7E:W4:=X8 5++[some ([6,17],[6,9,11,12,13,17,18,19,20,21,22,23,24,25,26,27,28,29,30,31,32,33,34,35,36,37,38,39,40,41,42,43,44,45,46])]++X8 5++[some ([6,25],[6,11,12,13,25,26,27,28,29,30,31,32,33,34,35,36,37,38,39,40,41,42,43,44,45]),none,none,some ([6],[6,11,12,13,27,28,29,30,31,32,33,34,35,36,37,38,39,40,41,42,43,44])]++X8 5
def Q1v:V2:=fun C A w K=>Oz P T.a8 none w fun d w=>X7 T.v A w fun j w=>lp (α:=Value×Value) ((.slice none 0 0),(.int .i64 0)) w fun c i B w=>X2 .lss T.d 17 16 i.2 j w fun k w=>X0 k (Z5 T.v T.i A i.2 w fun l w=>M4 T.i l w fun f w=>Q9 P T.i f w fun m w=>Q0 P F.cs [C,m] w fun h w=>X7 T.o h w fun n w=>lp (α:=Value×Value) (i.1,(.int .i64 0)) w fun b a B w=>X2 .lss T.d 25 24 a.2 n w fun o w=>X0 o (jn (α:=Value) w (fun g w=>Z5 T.o T.d h a.2 w fun e w=>lookup P T.a8 d e true w fun p w=>M8 p w fun D q w=>V1 P .not q w fun r w=>X0 r (X7 T.o a.1 w fun s w=>mapUpdate P T.a8 d e s w fun _u w=>buildSlice P T.o 1 [(0,e)] w fun t w=>V9 P .append [T.o,T.o] T.o [false,false] [a.1,t] w fun u w=>g u w) (g a.1 w)) fun z B w=>X5 .add T.d 25 a.2 1 w fun v w=>b (z,v) w) (X5 .add T.d 17 i.2 1 w fun y w=>c (a.1,y) w)) (K (.tuple #[i.1,d]) w)
theorem Q83 (h:Q1v a0 a1 w K):Q0 P F.ca [a0,a1] w K:=zr Q7E Tryz.func40 h
def Jm:W4:=[none,none,none,some ([8],[4,5,8,9,10,11,12,13,14,15,16,17,18])]++X8 7
def I6:V2:=fun e f w K=>X7 T.a6 e w fun g w=>lp (α:=Value) (.int .i64 0) w fun a b i w=>X2 .lss T.d 8 7 b g w fun h w=>X0 h (Z5 T.a6 T.a5 e b w fun c w=>Y8 P f [c] w fun d w=>X0 d (K b w) (U4 8 b w a)) (K (.int .i64 (-1)) w)
theorem Jo (h:I6 a0 a1 w K):Q0 P F.k [a0,a1] w K:=zr Jm Tryz.func92 h
def F5:V2:=fun a b w K=>Q0 P F.k [a,b] w fun c w=>X5 .geq T.d 7 c 0 w fun d w=>K d w
theorem Yw (h:F5 a0 a1 w K):Q0 P F.o [a0,a1] w K:=zr (X8 2) Tryz.func132 h
def Fu:V2:=fun b c w K=>box P T.a5 b w fun a w=>Z5 T.a5 T.b a (.int .i64 0) w fun d w=>Q9 P T.b c w fun e w=>X2 .eql T.b 5 6 d e w fun f w=>K f w
theorem Q4B (h:Fu a0 a1 w K):Q0 P F.ci [a0,a1] w K:=zr (X8 2) Tryz.func133 h
def Py:W4:=X8 8++[some ([6,31],[6,8,31,32,33,34,35,36,37,38,39,40,41,42,43,44,45,46,47]),none,none,some ([6],[6,8,33,34,35,36,37,38,39,40,41,42,43,44,45,46]),none,none,none]
def Zo:V2:=fun i h w K=>Q0 P F.i [i,h] w fun j w=>V1 P .not j w fun d w=>Y0 d false h w fun k w=>Q1 d false w (V5 .eql T.b 14 k #[79,98,106,101,99,116]) fun l w=>pick P d (.bool true) l w fun m w=>X0 m (K (.string ⟨#[]⟩) w) (Q0 P F.e [i,h] w fun n w=>M4 T.a n w fun b w=>V5 .add T.b 20 h #[40] w fun o w=>Y2 T.a T.b b 1 w fun p w=>Q0 P F.ae [i,p] w fun q w=>X2 .add T.b 21 25 o q w fun r w=>V5 .add T.b 26 r #[41] w fun s w=>Y2 T.a T.h b 6 w fun g w=>X7 T.h g w fun t w=>lp (α:=Value×Value) (s,(.int .i64 0)) w fun c e N w=>X2 .lss T.d 31 30 e.2 t w fun u w=>X0 u (jn (α:=Value) w (fun f w=>Z5 T.h T.j g e.2 w fun v w=>M4 T.j v w fun a w=>Y2 T.j T.n a 2 w fun y w=>V1 P .not y w fun z w=>X0 z (Y2 T.j T.b a 0 w fun A w=>Y5 P .add T.b (.const (.string ⟨#[32]⟩)) (.tmp 40) (.string ⟨#[32]⟩) A w fun B w=>V5 .add T.b 41 B #[58] w fun C w=>Y2 T.j T.b a 1 w fun D w=>X2 .add T.b 42 44 C D w fun E w=>X2 .add T.b 38 45 e.1 E w fun H w=>f H w) (f e.1 w)) fun M N w=>X5 .add T.d 31 e.2 1 w fun J w=>c (M,J) w) (V5 .add T.b 48 e.1 #[46] w fun L w=>K L w))
theorem Df (h:Zo a0 a1 w K):Q0 P F.ae [a0,a1] w K:=zr Py Tryz.func135 h
variable {a4 : Value}
def Q6t:W4:=[none,none,none,none,some ([5,11],[5,7,8,11,12,13,14,15,16,17,18,19,20,21,22,23,24,25,26,27,28,29,30,31]),none,none,some ([5],[5,7,8,13,14,15,16,17,18,19,20,21,22,23,24,25,26,27,28,29,30]),none,none,none,none]
def Q0l:V2:=fun D E w K=>X7 T.o E w fun q w=>lp (α:=Value×Value) ((.slice none 0 0),(.int .i64 0)) w fun b i H w=>X2 .lss T.d 11 10 i.2 q w fun r w=>X0 r (jn (α:=Value) w (fun C w=>Z5 T.o T.d E i.2 w fun s w=>Q0 P F.w [D,s] w fun t w=>M4 T.b t w fun a w=>O8 P (.func F.ci) [] [a] w fun u w=>Q0 P F.o [i.1,u] w fun v w=>V1 P .not v w fun y w=>X0 y (dr w fun j c=>Z1 j c (Q9 P T.b a) fun l=>Z1 j c (Q0 P F.aJ [D]) fun m=>Z1 j c (Q9 P T.b a) fun n=>D0 j c m n (fun e f=>Q0 P F.ae [e,f]) fun o=>D0 j c l o (fun d g=>D7 P T.a5 [(0,d),(1,g)]) fun p=>Y1 j c p (fun h=>buildSlice P T.a6 1 [(0,h)]) fun B=> ∀d e f g h k w,c w->l d w->m e w->n f w->o g w->p h w->B k w->V9 P .append [T.a6,T.a6] T.a6 [false,false] [i.1,k] w fun z w=>C z w) (C i.1 w)) fun J H w=>X5 .add T.d 11 i.2 1 w fun A w=>b (J,A) w) (K i.1 w)
theorem Q6D (h:Q0l a0 a1 w K):Q0 P F.bX [a0,a1] w K:=zr Q6t Tryz.func74 h
def Q1u:zV0:=fun w K=>D7 P T.a4 [] w fun a w=>box P T.a4 a w fun b w=>K b w
theorem Q82 (h:Q1u w K):Q0 P F.cE [] w K:=zr (X8 2) Tryz.func88 h
def X0q:W4:=[none,none,none,some ([0,3],[0,3,4,5,6,7,8,9,10,11,12,13]),none,none,none,none]
def Q4f:M7:=fun j w K=>lp (α:=Value×Value) (j,(.slice none 0 0)) w fun a b m w=>Y5 P .geq T.a3 (.tmp 4) (.const (.int .u64 128)) b.1 (.int .u64 128) w fun k w=>X0 k (conv P T.a3 T.t b.1 w fun c w=>Y5 P .or T.t (.tmp 10) (.const (.int .u8 128)) c (.int .u8 128) w fun d w=>buildSlice P T.l 1 [(0,d)] w fun e w=>V9 P .append [T.l,T.l] T.l [false,false] [b.2,e] w fun f w=>Y5 P .shr T.a3 (.tmp 6) (.const (.int .u64 7)) b.1 (.int .u64 7) w fun l w=>a (l,f) w) (conv P T.a3 T.t b.1 w fun g w=>buildSlice P T.l 1 [(0,g)] w fun h w=>V9 P .append [T.l,T.l] T.l [false,false] [b.2,h] w fun i w=>K i w)
theorem X0F (h:Q4f a0 w K):Q0 P F.cQ [a0] w K:=zr X0q Tryz.func150 h
def Q0s:W4:=[none,some ([8],[5,8,9,10,11,12,13,14,15,16,17,18,19,20,21,22]),none,none,none,none]
def Dt:V2:=fun q r w K=>X7 T.ai r w fun s w=>lp (α:=Value) (.int .i64 0) w fun a n u w=>X2 .lss T.d 8 7 n s w fun t w=>X0 t (Z5 T.ai T.a3 r n w fun j w=>dr w fun i d=>Z1 i d (nilCheck P q) fun g=>Y1 i d g (fun b=>fieldAddr P T.a4 b 0) fun h=>Y1 i d h (fun c=>Q9 P T.l c) fun o=>Z1 i d (Q0 P F.cQ [j]) fun p=> ∀b c e f w,d w->g b w->h c w->o e w->p f w->V9 P .append [T.l,T.l] T.l [false,false] [e,f] w fun k w=>nilCheck P q w fun l w=>fieldAddr P T.a4 l 0 w fun m w=>M3 P T.l m k w fun _u w=>U4 8 n w a) (K (.tuple #[]) w)
theorem Q0H (h:Dt a0 a1 w K):Q0 P F.s [a0,a1] w K:=zr Q0s Tryz.func90 h
def Is:V2:=fun a b w K=>Q9 P T.ac b w fun c w=>conv P T.d T.a3 a w fun d w=>buildSlice P T.ai 1 [(0,d)] w fun e w=>Q0 P F.s [c,e] w fun f w=>K (.tuple #[]) w
theorem Q5s (h:Is a0 a1 w K):Q0 P F.co [a0,a1] w K:=zr [] Tryz.func89 h
def Tc:W4:=[none,some ([8],[5,8,9,10,11,12,13,14,15,16,17,18,19,20,21,22,23,24,25,26,27])]++X8 5
def Nu:V2:=fun c m w K=>X7 T.e m w fun o w=>lp (α:=Value) (.int .i64 0) w fun a l q w=>X2 .lss T.d 8 7 l o w fun p w=>X0 p (Z5 T.e T.b m l w fun b w=>X7 T.b b w fun d w=>conv P T.d T.a3 d w fun e w=>buildSlice P T.ai 1 [(0,e)] w fun f w=>Q0 P F.s [c,f] w fun n w=>nilCheck P c w fun g w=>Y2 T.a4 T.l g 0 w fun h w=>V9 P .append [T.l,T.b] T.l [false,false] [h,b] w fun i w=>nilCheck P c w fun j w=>fieldAddr P T.a4 j 0 w fun k w=>M3 P T.l k i w fun _u w=>U4 8 l w a) (K (.tuple #[]) w)
theorem Ae (h:Nu a0 a1 w K):Q0 P F.aC [a0,a1] w K:=zr Tc Tryz.func91 h
def Iu:V2:=fun b c w K=>box P T.a5 b w fun a w=>Z5 T.a5 T.b a (.int .i64 0) w fun d w=>Q9 P T.b c w fun e w=>X2 .eql T.b 5 6 d e w fun f w=>K f w
theorem Q5t (h:Iu a0 a1 w K):Q0 P F.cp [a0,a1] w K:=zr (X8 2) Tryz.func93 h
def Q4g:M7:=fun a w K=>Y5 P .shl T.aa (.tmp 3) (.const (.int .u64 1)) a (.int .u64 1) w fun b w=>conv P T.aa T.a3 b w fun c w=>Y5 P .shr T.aa (.tmp 6) (.const (.int .u64 63)) a (.int .u64 63) w fun d w=>conv P T.aa T.a3 d w fun e w=>X2 .xor T.a3 5 8 c e w fun f w=>K f w
theorem X0G (h:Q4g a0 w K):Q0 P F.cR [a0] w K:=zr (X8 2) Tryz.func199 h
def Q0r:W4:=[none,some ([8],[5,8,9,10,11,12,13,14,15,16,17]),none,none,none,none]
def Ds:V2:=fun g f w K=>X7 T.aB f w fun i w=>lp (α:=Value) (.int .i64 0) w fun a e k w=>X2 .lss T.d 8 7 e i w fun j w=>X0 j (Z5 T.aB T.aa f e w fun b w=>Q0 P F.cR [b] w fun c w=>buildSlice P T.ai 1 [(0,c)] w fun d w=>Q0 P F.s [g,d] w fun h w=>U4 8 e w a) (K (.tuple #[]) w)
theorem Q0G (h:Ds a0 a1 w K):Q0 P F.bt [a0,a1] w K:=zr Q0r Tryz.func153 h
def Tb:W4:=[none,some ([9],[5,6,9,10,11,12,13,14,15,16,17,18,19,20,21,22,23,24])]++X8 5++[some ([6],[6,13]),none]
def Nt:V2:=fun l m w K=>X7 T.a7 m w fun o w=>lp (α:=Value) (.int .i64 0) w fun a j n w=>X2 .lss T.d 9 8 j o w fun b w=>X0 b (Z5 T.a7 T.n m j w fun c w=>jn (α:=Value) w (fun k w=>X0 c (k (.int .u8 1) w) (k (.int .u8 0) w)) fun p n w=>nilCheck P l w fun d w=>Y2 T.a4 T.l d 0 w fun e w=>buildSlice P T.l 1 [(0,p)] w fun f w=>V9 P .append [T.l,T.l] T.l [false,false] [e,f] w fun g w=>nilCheck P l w fun h w=>fieldAddr P T.a4 h 0 w fun i w=>M3 P T.l i g w fun _u w=>U4 9 j w a) (K (.tuple #[]) w)
theorem Ad (h:Nt a0 a1 w K):Q0 P F.bg [a0,a1] w K:=zr Tb Tryz.func154 h
def Q1w:Ln:=fun c t u w K=>box P T.i t w fun a w=>Y2 T.i T.d a 0 w fun C w=>conv P T.d T.a3 C w fun D w=>buildSlice P T.ai 1 [(0,D)] w fun d w=>Q0 P F.s [c,d] w fun v w=>Y2 T.i T.d a 0 w fun b w=>X5 .eql T.d 13 b 1 w fun e w=>X0 e (Y2 T.i T.aa a 1 w fun f w=>buildSlice P T.aB 1 [(0,f)] w fun g w=>Q0 P F.bt [c,g] w fun y w=>K (.tuple #[]) w) (X5 .eql T.d 13 b 2 w fun h w=>X0 h (Y2 T.i T.aa a 1 w fun i w=>X5 .eql T.aa 25 i 1 w fun j w=>buildSlice P T.a7 1 [(0,j)] w fun k w=>Q0 P F.bg [c,k] w fun z w=>K (.tuple #[]) w) (X5 .eql T.d 13 b 3 w fun l w=>X0 l (Y2 T.i T.b a 2 w fun m w=>buildSlice P T.e 1 [(0,m)] w fun n w=>Q0 P F.aC [c,n] w fun A w=>K (.tuple #[]) w) (X5 .eql T.d 13 b 4 w fun o w=>X0 o (Y2 T.i T.d a 3 w fun p w=>lookup P T.a8 u p false w fun q w=>conv P T.d T.a3 q w fun r w=>buildSlice P T.ai 1 [(0,r)] w fun s w=>Q0 P F.s [c,s] w fun B w=>K (.tuple #[]) w) (K (.tuple #[]) w))))
theorem Q84 (h:Q1w a0 a1 a2 w K):Q0 P F.bF [a0,a1,a2] w K:=zr (X8 7) Tryz.func97 h
def Ji:M7:=fun a w K=>Y5 P .eql T.l (.tmp 3) (.const (.slice none 0 0)) a (.slice none 0 0) w fun b w=>X0 b (K (.slice none 0 0) w) (buildSlice P T.l 0 [] w fun c w=>V9 P .append [T.l,T.l] T.l [false,false] [c,a] w fun d w=>K d w)
theorem Rt (h:Ji a0 w K):Q0 P F.aE [a0] w K:=zr (X8 5) Tryz.func155 h
def Mj:M7:=fun a w K=>nilCheck P a w fun b w=>Y2 T.a4 T.l b 0 w fun c w=>Q0 P F.aE [c] w fun d w=>K d w
theorem Kj (h:Mj a0 w K):Q0 P F.b6 [a0] w K:=zr (X8 2) Tryz.func98 h
def Q7F:W4:=X8 8++[some ([39],[14,39,40,41,42,43,44,45,46,47,48,49,50])]++X8 7++[some ([57],[16,17,57,58,59,60,61,62,63,64,65,66,67,68,69,70,71,72,73,74,75,76,77]),none,none,some ([],[16,17,59,60,61,62,63,64,65,66,67,68,69,70,71,72,73,74,75,76])]++X8 6++[some ([80],[19,21,22,23,80,81,82,83,84,85,86,87,88,89,90,91,92,93,94,95,96,97,98,99,100,101,102,103,104])]++X8 5++[some ([88],[21,22,23,88,89,90,91,92,93,94,95,96,97,98,99,100,101,102,103])]++X8 8++[some ([111],[25,111,112,113,114,115,116,117,118,119])]++X8 5
def Q1x:zV4:=fun n J l a3 w K=>Q0 P F.cE [] w fun N w=>M4 T.ac N w fun H w=>O8 P (.func F.co) [] [H] w fun e w=>Q9 P T.ac H w fun O w=>O8 P (.func F.aC) [O] [] w fun Q w=>Q0 P F.bX [n,l] w fun g w=>X7 T.a6 g w fun R w=>Y8 P e [R] w fun a4 w=>X7 T.a6 g w fun U w=>lp (α:=Value) (.int .i64 0) w fun f x8 o w=>X2 .lss T.d 39 38 x8 U w fun V w=>X0 V (Z5 T.a6 T.a5 g x8 w fun W w=>M4 T.a5 W w fun A w=>Z5 T.a5 T.b A (.int .i64 0) w fun X w=>Z5 T.a5 T.b A (.int .i64 1) w fun Y w=>buildSlice P T.e 2 [(0,X),(1,Y)] w fun Z w=>Y8 P Q [Z] w fun a5 w=>U4 39 x8 w f) (X7 T.o l w fun aa w=>Y8 P e [aa] w fun a6 w=>X7 T.o l w fun ab w=>lp (α:=Value) (.int .i64 0) w fun a h o w=>X2 .lss T.d 57 56 h ab w fun ac w=>X0 ac (jn (α:=Unit) w (fun m w=>Z5 T.o T.d l h w fun C w=>Q0 P F.w [n,C] w fun ad w=>M4 T.b ad w fun B w=>O8 P (.func F.cp) [] [B] w fun ae w=>Q0 P F.k [g,ae] w fun af w=>Y8 P e [af] w fun a7 w=>Q9 P T.b B w fun ag w=>Q0 P F.cm [ag] w fun ah w=>V5 .neq T.b 70 ah #[] w fun ai w=>X0 ai (Q0 P F.aS [n,C] w fun aj w=>Y8 P e [aj] w fun a8 w=>m () w) (m () w)) fun ba o w=>U4 57 h w a) (X7 T.o l w fun ak w=>lp (α:=Value) (.int .i64 0) w fun b i o w=>X2 .lss T.d 80 79 i ak w fun al w=>X0 al (Z5 T.o T.d l i w fun D w=>Q0 P F.c7 [n,D] w fun E w=>X7 T.o E w fun am w=>lp (α:=Value) (.int .i64 0) w fun c j o w=>X2 .lss T.d 88 87 j am w fun an w=>X0 an (Z5 T.o T.d E j w fun ao w=>Q0 P F.ay [n,D,ao] w fun ap w=>M8 ap w fun aq a9 w=>M4 T.i aq w fun L w=>Q9 P T.ac H w fun ar w=>Q9 P T.i L w fun p w=>Q0 P F.bF [ar,p,a3] w fun ax w=>U4 88 j w c) (U4 80 i w b)) (X7 T.v J w fun q w=>Y8 P e [q] w fun ay w=>X7 T.v J w fun r w=>lp (α:=Value) (.int .i64 0) w fun d k o w=>X2 .lss T.d 111 110 k r w fun s w=>X0 s (Z5 T.v T.i J k w fun t w=>M4 T.i t w fun M w=>Q9 P T.ac H w fun u w=>Q9 P T.i M w fun v w=>Q0 P F.bF [u,v,a3] w fun az w=>U4 111 k w d) (Q9 P T.ac H w fun y w=>Q0 P F.b6 [y] w fun z w=>K z w))))
theorem Q85 (h:Q1x a0 a1 a2 a3 w K):Q0 P F.cF [a0,a1,a2,a3] w K:=zr Q7F Tryz.func41 h
def Q3b:Ln:=fun v f y w K=>box P T.a2 v w fun b w=>box P T.a9 y w fun a w=>X7 T.v f w fun g w=>X5 .gtr T.d 12 g 64 w fun c w=>Y0 c false f w fun h w=>Q1 c false w (O8 P (.func F.cv) [] [b]) fun i w=>Q1 c false w (Q0 P F.n [h,i]) fun j w=>pick P c (.bool true) j w fun k w=>X0 k (K (.tuple #[(.slice none 0 0),(.int .i64 120)]) w) (Q9 P T.a2 b w fun l w=>Q0 P F.ca [l,f] w fun m w=>M8 m w fun d n w=>X7 T.o d w fun o w=>Y2 T.a9 T.d a 0 w fun p w=>X2 .gtr T.d 26 28 o p w fun q w=>X0 q (K (.tuple #[(.slice none 0 0),(.int .i64 121)]) w) (Q9 P T.a2 b w fun r w=>Q0 P F.cF [r,f,d,n] w fun e w=>X7 T.l e w fun s w=>Y2 T.a9 T.d a 1 w fun t w=>X2 .gtr T.d 36 38 s t w fun u w=>X0 u (K (.tuple #[(.slice none 0 0),(.int .i64 122)]) w) (K (.tuple #[e,(.int .i64 0)]) w)))
theorem Q94 (h:Q3b a0 a1 a2 w K):Q0 P F.cM [a0,a1,a2] w K:=zr (X8 13) Tryz.func18 h
def Q4h:Ln:=fun h i j w K=>box P T.i i w fun b w=>box P T.a9 j w fun a w=>Q9 P T.i b w fun k w=>buildSlice P T.v 1 [(0,k)] w fun c w=>Q9 P T.a9 a w fun d w=>Q0 P F.cM [h,c,d] w fun e w=>M8 e w fun f g w=>K (.tuple #[f,g]) w
theorem X0H (h:Q4h a0 a1 a2 w K):Q0 P F.aD [a0,a1,a2] w K:=zr (X8 2) Tryz.func11 h
def Dv:zV0:=fun w K=>Qh P T.a9 w fun a w=>D7 P T.a9 [(0,(.int .i64 1000)),(1,(.int .i64 1048576))] w fun c w=>M3 P T.a9 a c w fun _u w=>M0 P T.a9 a w fun b=>K b w
theorem Q0J (h:Dv w K):Q0 P F.u [] w K:=zr (X8 2) Tryz.func12 h
def Wy:V2:=fun g h w K=>Q0 P F.i [g,h] w fun a w=>Y0 a true g w fun i w=>Y0 a true h w fun b w=>Q1 a true w (Q0 P F.e [i,b]) fun c w=>Q1 a true w (Nk P T.a c 4) fun d w=>Q1 a true w (V1 P .not d) fun e w=>pick P a e (.bool false) w fun f w=>K f w
theorem Gq (h:Wy a0 a1 w K):Q0 P F.aZ [a0,a1] w K:=zr (X8 2) Tryz.func69 h
def Hv:M7:=fun j w K=>dr w fun b a=>Z1 b a (nilCheck P j) fun l=>Y1 b a l (fun e=>fieldAddr P T.a0 e 1) fun m=>Z1 b a (nilCheck P j) fun n=>Y1 b a n (fun g=>fieldAddr P T.a0 g 2) fun o=>Y1 b a m (fun f=>Q9 P T.d f) fun p=>Y1 b a o (fun h=>Q9 P T.d h) fun i=> ∀e f g h k c w,a w->l e w->m f w->n g w->o h w->p k w->i c w->X2 .sub T.d 6 10 k c w fun d w=>K d w
theorem Q1P (h:Hv a0 w K):Q0 P F.aR [a0] w K:=zr (X8 2) Tryz.func71 h
def Q36:M7:=fun c w K=>Qh P T.i w fun a w=>V5 .eql T.b 3 c #[105,110,116] w fun g w=>X0 g (D7 P T.i [(0,(.int .i64 1))] w fun h w=>M3 P T.i a h w fun _u w=>M0 P T.i a w fun b=>K b w) (V5 .eql T.b 3 c #[98,111,111,108] w fun i w=>X0 i (D7 P T.i [(0,(.int .i64 2))] w fun j w=>M3 P T.i a j w fun _u w=>M0 P T.i a w fun b=>K b w) (V5 .eql T.b 3 c #[116,101,120,116] w fun d w=>X0 d (D7 P T.i [(0,(.int .i64 3))] w fun e w=>M3 P T.i a e w fun _u w=>M0 P T.i a w fun b=>K b w) (D7 P T.i [] w fun f w=>M3 P T.i a f w fun _u w=>M0 P T.i a w fun b=>K b w)))
theorem Q8Z (h:Q36 a0 w K):Q0 P F.cK [a0] w K:=zr (X8 10) Tryz.func72 h
def Ry:Ln:=fun a t s w K=>nilCheck P a w fun u w=>Y2 T.a0 T.d u 2 w fun b w=>X7 T.v s w fun c w=>Y5 P .add T.d (.const (.int .i64 1)) (.tmp 13) (.int .i64 1) c w fun d w=>X2 .add T.d 11 14 b d w fun e w=>nilCheck P a w fun f w=>fieldAddr P T.a0 f 2 w fun g w=>M3 P T.d g e w fun _u w=>nilCheck P a w fun h w=>Y2 T.a0 T.w h 3 w fun i w=>D7 P T.aj [(0,t),(1,s)] w fun j w=>buildSlice P T.w 1 [(0,j)] w fun k w=>V9 P .append [T.w,T.w] T.w [false,false] [i,k] w fun l w=>nilCheck P a w fun m w=>fieldAddr P T.a0 m 3 w fun n w=>M3 P T.w n l w fun _u w=>nilCheck P a w fun o w=>Y2 T.a0 T.w o 3 w fun p w=>X7 T.w p w fun q w=>X5 .sub T.d 34 q 1 w fun r w=>K (.tuple #[r,(.int .i64 0)]) w
theorem Q2P (h:Ry a0 a1 a2 w K):Q0 P F.bR [a0,a1,a2] w K:=zr (X8 4) Tryz.func73 h
def Px:W4:=X8 11++[some ([7,31],[7,9,31,32,33,34,35,36,37,38,39,40,41])]++X8 5
def Nl:V2:=fun e f w K=>nilCheck P e w fun g w=>Y2 T.a0 T.u g 0 w fun h w=>Q0 P F.aZ [h,f] w fun i w=>V1 P .not i w fun j w=>X0 j (K (.tuple #[(.int .i64 0),(.int .i64 91)]) w) (nilCheck P e w fun k w=>Y2 T.a0 T.u k 0 w fun l w=>Q0 P F.ac [l,f] w fun c w=>X7 T.h c w fun m w=>Y5 P .add T.d (.const (.int .i64 1)) (.tmp 24) (.int .i64 1) m w fun n w=>Q0 P F.aR [e] w fun o w=>X2 .gtr T.d 25 27 n o w fun p w=>X0 p (K (.tuple #[(.int .i64 0),(.int .i64 90)]) w) (X7 T.h c w fun q w=>lp (α:=Value×Value) ((.slice none 0 0),(.int .i64 0)) w fun a b D w=>X2 .lss T.d 31 30 b.2 q w fun r w=>X0 r (Z5 T.h T.j c b.2 w fun s w=>M4 T.j s w fun d w=>Y2 T.j T.b d 1 w fun t w=>Q0 P F.cK [t] w fun u w=>buildSlice P T.v 1 [(0,u)] w fun v w=>V9 P .append [T.v,T.v] T.v [false,false] [b.1,v] w fun y w=>X5 .add T.d 31 b.2 1 w fun z w=>a (y,z) w) (Q0 P F.bR [e,f,b.1] w fun A w=>M8 A w fun B C w=>K (.tuple #[B,C]) w)))
theorem Tx (h:Nl a0 a1 w K):Q0 P F.bc [a0,a1] w K:=zr Px Tryz.func29 h
def Hx:M7:=fun b w K=>Qh P T.i w fun a w=>D7 P T.i [(0,(.int .i64 4)),(3,b)] w fun d w=>M3 P T.i a d w fun _u w=>M0 P T.i a w fun c=>K c w
theorem Q1R (h:Hx a0 w K):Q0 P F.aT [a0] w K:=zr (X8 2) Tryz.func30 h
def Q0j:V2:=fun d e w K=>Q0 P F.ca [d,e] w fun a w=>M8 a w fun b f w=>Q0 P F.bX [d,b] w fun c w=>K c w
theorem Q6B (h:Q0j a0 a1 w K):Q0 P F.cu [a0,a1] w K:=zr (X8 3) Tryz.func31 h
def Nx:zV0:=fun w K=>Q0 P F.aF [(.int .u16 50)] w fun j w=>M8 j w fun b k w=>M4 T.r k w fun t2 w=>Y5 P .eql T.a2 (.tmp 15) (.const (.pointer none)) b (.pointer none) w fun l w=>X0 l (K (.bool false) w) (D7 P T.i [(0,(.int .i64 1)),(1,(.int .i64 5))] w fun m w=>Q0 P F.u [] w fun n w=>Q0 P F.aD [b,m,n] w fun o w=>M8 o w fun p q w=>D7 P T.i [] w fun r w=>Q0 P F.u [] w fun s w=>Q0 P F.aD [b,r,s] w fun t w=>M8 t w fun u v w=>Q0 P F.bc [b,(.string ⟨#[65]⟩)] w fun y w=>M8 y w fun i z w=>Q0 P F.aT [i] w fun A w=>Q0 P F.u [] w fun B w=>Q0 P F.aD [b,A,B] w fun C w=>M8 C w fun D E w=>conv P T.l T.b p w fun H w=>V5 .eql T.b 45 H #[0,0,1,1,10] w fun e w=>Y0 e true q w fun J w=>Q1 e true w (X5 .eql T.z 48 J 0) fun L w=>pick P e L (.bool false) w fun c w=>Y0 c true u w fun M w=>Q1 c true w (conv P T.l T.b M) fun N w=>Q1 c true w (V5 .eql T.b 53 N #[0,0,1,0]) fun O w=>pick P c O (.bool false) w fun f w=>Y0 f true v w fun Q w=>Q1 f true w (X5 .eql T.z 57 Q 0) fun R w=>pick P f R (.bool false) w fun g w=>Y0 g true z w fun U w=>Q1 g true w (X5 .eql T.z 61 U 0) fun V w=>pick P g V (.bool false) w fun h w=>Y0 h true E w fun W w=>Q1 h true w (X5 .eql T.z 65 W 0) fun X w=>pick P h X (.bool false) w fun d w=>Y0 d true D w fun Y w=>Q1 d true w (X7 T.l Y) fun Z w=>Q1 d true w (X5 .gtr T.d 70 Z 10) fun aa w=>pick P d aa (.bool false) w fun a w=>Y0 a true b w fun ab w=>Y0 a true i w fun ac w=>Q1 a true w (Q0 P F.aT [ac]) fun ad w=>Q1 a true w (buildSlice P T.v 1 [(0,ad)]) fun ae w=>Q1 a true w (Q0 P F.cu [ab,ae]) fun af w=>Q1 a true w (X7 T.a6 af) fun ag w=>Q1 a true w (X5 .eql T.d 79 ag 1) fun ah w=>pick P a ah (.bool false) w fun ai w=>K ai w)
theorem Ah (h:Nx w K):Q0 P F.a7 [] w K:=zr (X8 10) Tryz.func9 h
def Q1G:W4:=[none,none,none,some ([0,3],[0,3,4,5,6,7,8,9,10,11,12,13,14,15]),none,none,none,none]
def Hz:M7:=fun l w K=>lp (α:=Value×Value) (l,(.string ⟨#[]⟩)) w fun a b p w=>Y5 P .geq T.a3 (.tmp 4) (.const (.int .u64 128)) b.1 (.int .u64 128) w fun m w=>X0 m (Y5 P .rem T.a3 (.tmp 7) (.const (.int .u64 128)) b.1 (.int .u64 128) w fun n w=>Y5 P .add T.a3 (.tmp 8) (.const (.int .u64 128)) n (.int .u64 128) w fun o w=>conv P T.a3 T.t o w fun c w=>buildSlice P T.l 1 [(0,c)] w fun d w=>conv P T.l T.b d w fun e w=>X2 .add T.b 6 12 b.2 e w fun f w=>Y5 P .quo T.a3 (.tmp 14) (.const (.int .u64 128)) b.1 (.int .u64 128) w fun g w=>a (g,f) w) (conv P T.a3 T.t b.1 w fun h w=>buildSlice P T.l 1 [(0,h)] w fun i w=>conv P T.l T.b i w fun j w=>X2 .add T.b 16 20 b.2 j w fun k w=>K k w)
theorem Q1T (h:Hz a0 w K):Q0 P F.aU [a0] w K:=zr Q1G Tryz.func33 h
def Ra:M7:=fun a w K=>X5 .geq T.aa 3 a 0 w fun f w=>X0 f (conv P T.aa T.a3 a w fun g w=>Y5 P .mul T.a3 (.const (.int .u64 2)) (.tmp 6) (.int .u64 2) g w fun h w=>K h w) (X5 .add T.aa 8 a 1 w fun i w=>V1 P .neg i w fun b w=>conv P T.aa T.a3 b w fun c w=>Y5 P .mul T.a3 (.const (.int .u64 2)) (.tmp 11) (.int .u64 2) c w fun d w=>Y5 P .add T.a3 (.tmp 12) (.const (.int .u64 1)) d (.int .u64 1) w fun e w=>K e w)
theorem Q1U (h:Ra a0 w K):Q0 P F.bJ [a0] w K:=zr (X8 5) Tryz.func34 h
def Hy:M7:=fun a w K=>Q0 P F.bJ [a] w fun b w=>Q0 P F.aU [b] w fun c w=>K c w
theorem Q1S (h:Hy a0 w K):Q0 P F.bI [a0] w K:=zr (X8 2) Tryz.func13 h
def Dx:M7:=fun a w K=>X7 T.b a w fun b w=>conv P T.d T.a3 b w fun c w=>Q0 P F.aU [c] w fun d w=>X2 .add T.b 6 7 d a w fun e w=>K e w
theorem Q0L (h:Dx a0 w K):Q0 P F.bv [a0] w K:=zr (X8 2) Tryz.func14 h
def Dw:M7:=fun a w K=>X0 a (K (.string ⟨#[1]⟩) w) (K (.string ⟨#[0]⟩) w)
theorem Q0K (h:Dw a0 w K):Q0 P F.bu [a0] w K:=zr (X8 5) Tryz.func15 h
def Cq:W4:=X8 6++[some ([9],[9,37])]++X8 5
def Uv:Ln:=fun a0 a1 a2 w K=>Q0 P F.aF [(.int .u16 10)] w fun ap w=>M8 ap w fun k aq w=>M4 T.r aq w fun t8 w=>Q0 P F.a7 [] w fun ar w=>V1 P .not ar w fun p w=>Y0 p false k w fun av w=>Q1 p false w (Y5 P .eql T.a2 (.tmp 23) (.const (.pointer none)) av (.pointer none)) fun aw w=>pick P p (.bool true) aw w fun l w=>Y0 l false a1 w fun ax w=>Q1 l false w (X7 T.b ax) fun ay w=>Q1 l false w (X5 .gtr T.d 28 ay 4096) fun az w=>pick P l (.bool true) az w fun m w=>Y0 m false a1 w fun a3 w=>Q1 m false w (Q0 P F.aG [a3]) fun a4 w=>Q1 m false w (V1 P .not a4) fun a5 w=>pick P m (.bool true) a5 w fun a6 w=>X0 a6 (Q0 P F.a7 [] w fun a7 w=>K a7 w) (jn (α:=Value) w (fun J6 w=>X0 a2 (J6 (.int .i64 1) w) (J6 (.int .i64 0) w)) fun z6 d_ w=>D7 P T.i [(0,(.int .i64 1)),(1,a0)] w fun a8 w=>Q0 P F.u [] w fun a9 w=>Q0 P F.aD [k,a8,a9] w fun ba w=>M8 ba w fun bb bc w=>D7 P T.i [(0,(.int .i64 3)),(2,a1)] w fun bd w=>Q0 P F.u [] w fun be w=>Q0 P F.aD [k,bd,be] w fun bf w=>M8 bf w fun bg bh w=>D7 P T.i [(0,(.int .i64 2)),(1,z6)] w fun bi w=>Q0 P F.u [] w fun bj w=>Q0 P F.aD [k,bi,bj] w fun bk w=>M8 bk w fun bl bm w=>dr w fun e c=>Z1 e c (X5 .eql T.z 62 bc 0) fun n=>Y1 e c n (fun h=>W0 h (fun w J=>J bh w)) fun V=>D0 e c n V (fun h q=>W0 h (X5 .eql T.z 65 q 0)) fun W=>D0 e c n W (fun h r=>pick P h r (.bool false)) fun o=>Y1 e c o (fun i=>W0 i (fun w J=>J bm w)) fun X=>D0 e c o X (fun i s=>W0 i (X5 .eql T.z 69 s 0)) fun Y=>D0 e c o Y (fun i t=>pick P i t (.bool false)) fun f=>Y1 e c f (fun a=>W0 a (fun w J=>J bb w)) fun Z=>Y1 e c f (fun a=>W0 a (fun w J=>J a0 w)) fun ab=>D0 e c f Z (fun a u=>W0 a (conv P T.l T.b u)) fun aa=>D0 e c f ab (fun a y=>W0 a (Q0 P F.bI [y])) fun ac=>D0 e c f ac (fun a z=>W0 a (Y5 P .add T.b (.const (.string ⟨#[0,0,1,1]⟩)) (.tmp 76) (.string ⟨#[0,0,1,1]⟩) z)) fun ad=>En e c f aa ad (fun a v A=>W0 a (X2 .eql T.b 74 77 v A)) fun ae=>D0 e c f ae (fun a B=>pick P a B (.bool false)) fun g=>Y1 e c g (fun b=>W0 b (fun w J=>J bg w)) fun af=>Y1 e c g (fun b=>W0 b (fun w J=>J a1 w)) fun ah=>D0 e c g af (fun b C=>W0 b (conv P T.l T.b C)) fun ag=>D0 e c g ah (fun b E=>W0 b (Q0 P F.bv [E])) fun ai=>D0 e c g ai (fun b H=>W0 b (Y5 P .add T.b (.const (.string ⟨#[0,0,1,3]⟩)) (.tmp 84) (.string ⟨#[0,0,1,3]⟩) H)) fun aj=>En e c g ag aj (fun b D L=>W0 b (X2 .eql T.b 82 85 D L)) fun ak=>D0 e c g ak (fun b M=>pick P b M (.bool false)) fun j=>Y1 e c j (fun d=>W0 d (fun w J=>J bl w)) fun al=>Y1 e c j (fun d=>W0 d (fun w J=>J a2 w)) fun am=>D0 e c j al (fun d N=>W0 d (conv P T.l T.b N)) fun bp=>D0 e c j am (fun d O=>W0 d (Q0 P F.bu [O])) fun an=>D0 e c j an (fun d Q=>W0 d (Y5 P .add T.b (.const (.string ⟨#[0,0,1,2]⟩)) (.tmp 92) (.string ⟨#[0,0,1,2]⟩) Q)) fun bq=> ∀h q r i s t a u y v z A B b C E D H L M d N O R Q U w,c w->n h w->V q w->W r w->o i w->X s w->Y t w->f a w->Z u w->ab y w->aa v w->ac z w->ad A w->ae B w->g b w->af C w->ah E w->ag D w->ai H w->aj L w->ak M w->j d w->al N w->am O w->bp R w->an Q w->bq U w->Q1 d true w (X2 .eql T.b 90 93 R U) fun bn w=>pick P d bn (.bool false) w fun bo w=>K bo w)
theorem Be (h:Uv a0 a1 a2 w K):Q0 P F.bZ [a0,a1,a2] w K:=zr Cq Tryz.func3 h
end Go.Proofs.Y
namespace Go.Emb
open Go.RowKit (Below)
variable {P : Program} {w w' : World} {K : Value -> World -> Prop}
theorem Y3 {s:Sem Value} {v:Value} (h:s.run P w= .ok v w'):op P (sv s) w K=K v w':=by
 rw[Zw];unfold Ye sv;simp[h]
theorem Vw {s:Sem Unit} (h:s.run P w= .ok () w'):op P (su s) w K=K undef w':=by
 rw[Zw];unfold Ye su;simp[h]
abbrev S (l:List UInt8):Value:= .string ⟨l.toArray⟩
abbrev I (n:Int):Value:= .int .i64 n
theorem Rk {b:Bool} {x y:Value}:pick P (.bool b) x y w K=K (if b then x else y) w:=by
 unfold pick;rw[Zw];unfold Ye;cases b<;>simp[asBool]
theorem Mw {x y:Value}:pick P (.bool true) x y w K=K x w:=by rw[Rk];rfl
theorem Vy {x y:Value}:pick P (.bool false) x y w K=K y w:=by rw[Rk];rfl
theorem X38 {a b:Bool} {u:Value}:pick P (.bool a) (if a=true then .bool b else u) (.bool false) w K=K (.bool (a&&b)) w:=by
 rw[Rk];cases a<;>rfl
theorem X4P {a b:Bool} {u:Value}:pick P (.bool a) (.bool true) (if a=false then .bool b else u) w K=K (.bool (a||b)) w:=by
 rw[Rk];cases a<;>rfl
theorem P1 {c:World->(Value->World->Prop)->Prop}:Q1 (.bool true) true w c K=c w K:=by rw[Rh];simp[Oq]
theorem Zg {c:World->(Value->World->Prop)->Prop}:Q1 (.bool false) false w c K=c w K:=by rw[Rh];simp[Oq]
theorem Cm {c:World->(Value->World->Prop)->Prop}:Q1 (.bool true) false w c K=K undef w:=by rw[Rh];simp[Oq]
theorem Jj {c:World->(Value->World->Prop)->Prop}:Q1 (.bool false) true w c K=K undef w:=by rw[Rh];simp[Oq]
theorem Ri {b:Bool} {c:World->(Value->World->Prop)->Prop}:Q1 undef b w c K=K undef w:=by rw[Rh];rfl
theorem X2S {a b:Bool} {v:Value}:Q1 (.bool a) b w (fun w J=>J v w) K=K (if a=b then v else undef) w:=by
 rw[Rh];unfold Oq;by_cases h:a=b<;>simp[h]
theorem Q79 {b:Bool} {t e:Prop}:X0 (.bool b) t e=if b=true then t else e:=by rw[Q7a];cases b<;>rfl
theorem Eo {t e:Prop}:X0 (.bool true) t e=t:=by rw[Q79];simp
theorem Mc {t e:Prop}:X0 (.bool false) t e=e:=by rw[Q79];simp
variable {k : IntKind} {t : TypeId} {ox oy : Operand} {a b : Int}
theorem Ia:Y5 P .add t ox oy (.int k a) (.int k b) w K=K (.int k (k.wrap (a+b))) w:=Y3 (by simp[eqGuard,Go.binOp,Op.intArith])
theorem Q50:Y5 P .sub t ox oy (.int k a) (.int k b) w K=K (.int k (k.wrap (a-b))) w:=Y3 (by simp[eqGuard,Go.binOp,Op.intArith])
theorem Q4Y:Y5 P .mul t ox oy (.int k a) (.int k b) w K=K (.int k (k.wrap (a*b))) w:=Y3 (by simp[eqGuard,Go.binOp,Op.intArith])
theorem Q4X:Y5 P .lss t ox oy (.int k a) (.int k b) w K=K (.bool (decide (a<b))) w:=Y3 (by simp[eqGuard,Go.binOp,Op.intCmp])
theorem Q4W:Y5 P .leq t ox oy (.int k a) (.int k b) w K=K (.bool (decide (a<=b))) w:=Y3 (by simp[eqGuard,Go.binOp,Op.intCmp])
theorem Q2i:Y5 P .gtr t ox oy (.int k a) (.int k b) w K=K (.bool (decide (b<a))) w:=Y3 (by simp[eqGuard,Go.binOp,Op.intCmp])
theorem Q2h:Y5 P .geq t ox oy (.int k a) (.int k b) w K=K (.bool (decide (b<=a))) w:=Y3 (by simp[eqGuard,Go.binOp,Op.intCmp])
theorem Q2g:Y5 P .eql t ox oy (.int k a) (.int k b) w K=K (.bool (decide (a=b))) w:=Y3 (by
 simp[eqGuard,Go.binOp,Op.intCmp];rfl)
theorem Q4Z:Y5 P .neq t ox oy (.int k a) (.int k b) w K=K (.bool (!decide (a=b))) w:=Y3 (by
 simp[eqGuard,Go.binOp,Op.intCmp];rfl)
theorem Q5y {b:Bool}:V1 P .not (.bool b) w K=K (.bool (!b)) w:=Y3 (by simp[Op.unary])
theorem X57 {k:IntKind} {n:Int}:V1 P .neg (.int k n) w K=K (.int k (k.wrap (0-n))) w:=Y3 (by simp[Op.unary,Op.intArith])
variable {a b : Bool}
theorem Q3M (d:Nat) (h:P.underlying t=some .bool):(Op.equalIn (d+1) t (.bool a) (.bool b)).run P w= .ok (a==b) w:=by
 simp[Op.equalIn,run_underlying h]
theorem Kr (h:P.underlying t=some .bool):(Op.equal t (.bool a) (.bool b)).run P w= .ok (a==b) w:=Q3M 9999 h
theorem Q6Z (h:P.underlying t=some .bool):Y5 P .eql t ox oy (.bool a) (.bool b) w K=K (.bool (a==b)) w:=Y3 (by
 simp[eqGuard,Go.binOp,Kr h])
theorem Q70 (h:P.underlying t=some .bool):Y5 P .neq t ox oy (.bool a) (.bool b) w K=K (.bool (!(a==b))) w:=Y3 (by
 simp[eqGuard,Go.binOp,Kr h])
theorem Ul {vs:List Value} {i:Nat} {v:Value} (h:vs[i]? =some v):ext P (.tuple vs.toArray) i w K=K v w:=Y3 (by
 simp[Instr.extract,h])
theorem X5J {a b:Value}:ext P (.tuple #[a,b]) 0 w K=K a w:=Ul (vs:=[a,b]) rfl
theorem X5K {a b:Value}:ext P (.tuple #[a,b]) 1 w K=K b w:=Ul (vs:=[a,b]) rfl
theorem X3H {a b c:Value}:ext P (.tuple #[a,b,c]) 0 w K=K a w:=Ul (vs:=[a,b,c]) rfl
theorem X3J {a b c:Value}:ext P (.tuple #[a,b,c]) 1 w K=K b w:=Ul (vs:=[a,b,c]) rfl
theorem X3K {a b c:Value}:ext P (.tuple #[a,b,c]) 2 w K=K c w:=Ul (vs:=[a,b,c]) rfl
theorem K9 {n:Int} (c: -9223372036854775808<=n) (d:n<=9223372036854775807):IntKind.i64.wrap n=n:=by
 have e:n % 18446744073709551616=n\/n % 18446744073709551616=n+18446744073709551616:=by omega
 show (if (true&&decide (n % 18446744073709551616>=9223372036854775808))=true then n % 18446744073709551616-18446744073709551616 else n % 18446744073709551616)=n
 simp only[Bool.true_and,decide_eq_true_eq]
 split<;>omega
theorem w32 {n:Int} (c: -2147483648<=n) (d:n<=2147483647):IntKind.i32.wrap n=n:=by
 show (if (true&&decide (n % 4294967296>=2147483648))=true then n % 4294967296-4294967296 else n % 4294967296)=n
 simp only[Bool.true_and,decide_eq_true_eq]
 split<;>omega
variable {a b : List UInt8}
theorem Q4V (a b:List UInt8):(a==b)=decide (a=b):=by rw[Bool.eq_iff_iff];simp
theorem Ge:Y5 P .eql t ox oy (S a) (S b) w K=K (.bool (decide (a=b))) w:=Y3 (by
 simp[eqGuard,Go.binOp,Op.stringOp,Q4V])
theorem Gf:Y5 P .neq t ox oy (S a) (S b) w K=K (.bool (!decide (a=b))) w:=Y3 (by
 simp[eqGuard,Go.binOp,Op.stringOp,Q4V])
theorem P3 (l:List UInt8):(ByteArray.mk l.toArray).size=l.length:=by simp[ByteArray.size]
theorem X1a (a b:List UInt8):ByteArray.mk a.toArray++ByteArray.mk b.toArray=ByteArray.mk (a++b).toArray:=by
 apply ByteArray.ext;simp
theorem X6x:IntKind.i64.max=9223372036854775807:=by decide
theorem Q8r (h:a.length+b.length<=9223372036854775807):Y5 P .add t ox oy (S a) (S b) w K=K (S (a++b)) w:=Y3 (by
 have c: ¬(((a.length+b.length:Nat):Int)>IntKind.i64.max):=by rw[X6x];omega
 simp only[eqGuard,Go.binOp,Op.stringOp,P3,X1a];simp only[if_neg c]
 simp)
theorem C1 {cs:List Bool} {r:TypeId} (c:P.underlying t=some .string):V9 P .len [t] r cs [S a] w K=K (I a.length) w:=by
 have h:(Builtin.len_ #[t] r #[S a]).run P w= .ok (I a.length) w:=by
  simp[Builtin.len_,run_underlying c,P3,goInt]
 exact Y3 h
theorem Yn {i:Int} (d:P.underlying t=some .string) (c:0<=i) (h:i.toNat<a.length):B3 P t (S a) (I i) w K=K (.int .u8 (a[i.toNat]'h).toNat) w:=Y3 (by
 simp only[Instr.index,asIntOf,Sem.run_bind,Sem.run_pure,Result.andThen_ok,run_underlying d,c,if_true]
 have:(ByteArray.mk a.toArray)[i.toNat]? =some (a[i.toNat]'h):=by
  rw[getElem?_pos _ _ (by rw[P3];exact h)]
  rfl
 rw[this];simp)
theorem Q4p (l:List UInt8) (i j:Nat):(ByteArray.mk l.toArray).extract i j=ByteArray.mk ((l.take j).drop i).toArray:=by
 apply ByteArray.ext;apply Array.ext'
 simp[List.drop_take]
theorem Di {i:Int} (d:P.underlying t=some .string) (c:0<=i) (h:i<=a.length):I9 P t (S a) (some (I i)) none none w K=K (S (a.drop i.toNat)) w:=Y3 (by
 simp[Instr.sliceAt,Instr.slice,Instr.sliceBounds,Instr.sliceBound,asIntOf,run_underlying d,c,h,P3,Q4p])
theorem Xl {i:Int} (d:P.underlying t=some .string) (c:0<=i) (h:i<=a.length):I9 P t (S a) none (some (I i)) none w K=K (S (a.take i.toNat)) w:=Y3 (by
 simp[Instr.sliceAt,Instr.slice,Instr.sliceBounds,Instr.sliceBound,asIntOf,run_underlying d,c,h,P3,Q4p])
theorem Xm {s d:TypeId} {k j:IntKind} {n:Int} {ds:TypeDesc} (e:P.underlying s=some ds) (c:P.underlying d=some (.int k)):conv P s d (.int j n) w K=K (.int k (k.wrap n)) w:=Y3 (by
 simp[Go.convert,run_underlying e,run_underlying c,Conv.intToInt])
def Q1N (w:World) (r:Nat) (o:Obj):World:={w with heap:=w.heap.setIfInBounds r o}
theorem Q5I {B r:Nat} {a w:World} {o:Obj} (h:Below B a w) (d:B<=r):Below B a (Q1N w r o):=
 h.trans ⟨rfl,rfl,rfl,by simp[Q1N],fun k c=>by simp only[Q1N];rw[Array.getElem?_setIfInBounds_ne Q4]⟩
theorem Q9B {w:World} {r:Nat} {o:Obj} (h:r<w.heap.size):(Q1N w r o).heap[r]? =some o:=by
 simp only[Q1N];rw[Array.getElem?_setIfInBounds_self_of_lt h]
theorem X4Z {t:TypeId} {a:List UInt8} (c:P.underlying t=some .string):rng P t (S a) w K=K (.pointer (some ⟨w.heap.size,0,none⟩)) (w.alloc (.stringIter ⟨a.toArray⟩ 0)):=Y3 (by
 simp[Instr.range,run_underlying c])
theorem X4K {t:TypeId} {r pos:Nat} {s:ByteArray} (h:w.heap[r]? =some (.stringIter s pos)) (e:pos<s.size):
 V0 P (.pointer (some ⟨r,0,none⟩)) true t w K=K (.tuple #[.bool true,I pos, .int .i32 (Utf8.decode s pos).1]) (Q1N w r (.stringIter s (pos+(Utf8.decode s pos).2))):=Y3 (by
 have c: ∀(k:Obj->Sem Value),(getObj r>>=k).run P w=(k (.stringIter s pos)).run P w:=by
  intro k;rw[Sem.run_bind];simp[getObj,Sem.run,h]
 have d: ∀o,(setObj r o).run P w= .ok () (Q1N w r o):=by intro o;simp[setObj,Sem.run,h,Q1N]
 unfold Instr.next
 simp only[c,e,if_true]
 simp[d,goInt])
theorem Q8S {t:TypeId} {r pos:Nat} {s:ByteArray} (h:w.heap[r]? =some (.stringIter s pos)) (d: ¬pos<s.size):
 V0 P (.pointer (some ⟨r,0,none⟩)) true t w K=K (.tuple #[.bool false]) w:=Y3 (by
 have c: ∀(k:Obj->Sem Value),(getObj r>>=k).run P w=(k (.stringIter s pos)).run P w:=by
  intro k;rw[Sem.run_bind];simp[getObj,Sem.run,h]
 unfold Instr.next
 simp only[c,d,if_false]
 simp)
theorem X3I {a:Value}:ext P (.tuple #[a]) 0 w K=K a w:=Ul (vs:=[a]) rfl
theorem X02 {s:ByteArray} {i:Nat} (h:(s.get! i).toNat<128):Utf8.decode s i=((s.get! i).toNat,1):=by
 unfold Utf8.decode;simp only[Nat.add_zero];rw[if_pos h]
theorem Q8B {s:ByteArray} {i:Nat} (h: ¬(s.get! i).toNat<128):128<=(Utf8.decode s i).1:=by
 unfold Utf8.decode;simp only[Nat.add_zero];rw[if_neg h]
 repeat' split
 all_goals (simp only[Utf8.runeError] at*;try omega)
 all_goals (simp only[Bool.and_eq_true,decide_eq_true_eq,ge_iff_le] at*;omega)
theorem Q7b {s:ByteArray} {i:Nat}:1<=(Utf8.decode s i).2:=by
 unfold Utf8.decode;simp only
 repeat' split
 all_goals simp
def Pf (p:Int->Bool) (s:ByteArray):Nat->Nat->Bool
 | 0,_=>true
 | n+1,i=>if i<s.size then p (Utf8.decode s i).1&&Pf p s n (i+(Utf8.decode s i).2) else true
theorem Q5h {a:List UInt8} {i:Nat} (h:i<a.length):(ByteArray.mk a.toArray).get! i=a[i]:=by
 show (ByteArray.mk a.toArray).data[i]! =a[i]
 simp[h]
theorem Q9P (p:Int->Bool) (f: ∀c:Int,128<=c->p c=false) (a:List UInt8): ∀(n i:Nat),a.length-i<=n->Pf p ⟨a.toArray⟩ n i=(a.drop i).all (fun b=>p b.toNat):=by
 intro n
 induction n with
 | zero=>intro i h;rw[List.drop_eq_nil_of_le Q4];rfl
 | succ n g=>
  intro i h;simp only[Pf,P3]
  split
  .rename_i d
   rw[List.drop_eq_getElem_cons d,List.all_cons]
   by_cases e:a[i].toNat<128
   .rw[X02 (by rw[Q5h d];exact e),Q5h d]
    simp only;rw[g (i+1) Q4]
   .have j:=Q8B (s:=⟨a.toArray⟩) (i:=i) (by rw[Q5h d];exact e)
    rw[f _ Q4,f _ Q4];rfl
  .rename_i d;rw[List.drop_eq_nil_of_le Q4];rfl
theorem L4 {α:Type} {A:(α->World->Prop)->World->Prop} {B:α->(Nat->Value)->World->Prop} (h:A (fun x w=> ∀d,B x d w) w):jn w A B:=Xg _ h (fun _ d _ c=>c d)
theorem X4 {d:World->World->Prop} {A c:(Value->World->Prop)->Prop} (V:Value) (h:A (fun v _=>v=V)) (e:c (fun v _=>v=V)):J8 d A c:=
 H4 _ (fun _ _ _ h _=>h) h e
theorem Er {w w0:World} {A:(World->World->Prop)->(World->Prop)->Prop} (e:Below w0.heap.size w0 w)
 (h:A (fun w w'=>Below w.heap.size w w') (fun w'=>Below w0.heap.size w0 w')):dr w A:=
 Q43 _ _ e.drew (fun _ _ c d=>c.trans (d.mono c.size)) h
theorem Q41 {w w':World} {v V:Value} (c:Below w.heap.size w w') (h:v=V):dk (fun w w'=>Below w.heap.size w w') (fun v _=>v=V) w v w':=⟨c,h⟩
theorem X9 {w:World} {v V:Value} (h:v=V):dk (fun w w'=>Below w.heap.size w w') (fun v _=>v=V) w v w:=⟨Below.refl _ _,h⟩
theorem Q8G {n:Nat} {fn:Func} {e:Array Value->Sem Value} {xs:List Value} {v:Value} (g:P.funcs[n]? =some fn) (i:(fn.name== "runtime.NumGoroutine")=false) (j:fn.body.isNone=true)
 (l:(Extern.findNext fn).isNone=true) (m:Extern.find fn=some e) (o:(e xs.toArray).run P w= .ok v w) (h:K v w):Q0 P n xs w K:=by
 have f:Extern.findNext fn=none:=by simpa using l
 have c: ¬fn.name= "runtime.NumGoroutine":=by simpa using i
 have d:fn.body=none:=by simpa using j
 unfold Q0;rw[Zw];unfold Ye callFunc
 simp[g,c,d,f,m,o,h]
theorem Q45 {α:Type} (p:α->Bool) (c:Nat->Bool): ∀(l:List α),(∀i (h:i<l.length),c i=p l[i])->(List.range l.length).find? c=l.findIdx? p
 | [],_=>rfl
 | x::l,h=>by
  rw[List.length_cons,List.range_succ_eq_map,List.find?_cons,List.findIdx?_cons];have d:c 0=p x:=h 0 U5;rw[d];cases p x
  .simp only[Bool.false_eq_true,if_false]
   rw[List.find?_map];have:=Q45 p (c ∘ Nat.succ) l (fun i e=>h (i+1) (by simpa using e))
   rw[this]
  .rfl
def Mr:=And.intro @Mw <| And.intro @Vy <| And.intro @Ri <| And.intro @Ia <| And.intro @Q50 <| And.intro @Q4Y <| And.intro @Q4X <| And.intro @Q4W <| And.intro @Q2i <| And.intro @Q2h <| And.intro @Q2g <| And.intro @Q4Z <| And.intro @Q5y <| And.intro @Ge <| And.intro @Gf <| And.intro @X5J <| And.intro @X5K <| And.intro @X3H <| And.intro @X3J <| And.intro @X3K <| And.intro @X3I <| And.intro @X38 <| And.intro @X4P <| And.intro @P1 <| And.intro @Zg <| And.intro @Cm <| And.intro @Jj <| And.intro @X2S <| And.intro @Eo <| @Mc
def Mp:=And.intro @Mw <| And.intro @Vy <| And.intro @Ri <| And.intro @Ia <| And.intro @Q50 <| And.intro @Q4Y <| And.intro @Q4X <| And.intro @Q4W <| And.intro @Q2i <| And.intro @Q2h <| And.intro @Q2g <| And.intro @Q4Z <| And.intro @Q5y <| And.intro @Ge <| And.intro @Gf <| And.intro @X5J <| And.intro @X5K <| And.intro @X3H <| And.intro @X3J <| And.intro @X3K <| And.intro @X3I <| And.intro @P1 <| And.intro @Zg <| And.intro @Cm <| And.intro @Jj <| And.intro @Eo <| @Mc
def Mb:=And.intro @Bool.true_eq_false <| And.intro @Bool.false_eq_true <| And.intro @Bool.not_true <| And.intro @Bool.not_false <| And.intro @Bool.and_true <| And.intro @Bool.true_and <| And.intro @Bool.and_false <| And.intro @Bool.false_and <| And.intro @Bool.or_true <| And.intro @Bool.true_or <| And.intro @Bool.or_false <| @Bool.false_or
end Go.Emb
namespace Go.Kd
abbrev Q8:=List UInt8
def Yc (c:Int):Bool:=decide (65<=c)&&decide (c<=90)
def Qq (c:Int):Bool:=decide (97<=c)&&decide (c<=122)
def G3 (c:Int):Bool:=decide (48<=c)&&decide (c<=57)
def C8 (c:Int):Bool:=Yc c||Qq c||G3 c
def name (s:Q8):Bool:=match s with
 | []=>false
 | c::_=>decide (s.length<=32)&& !G3 c.toNat&&s.all (fun b=>C8 b.toNat)
def O6 (s:Q8):Bool:=match s with
 | []=>false
 | c::_=>name s&&Yc c.toNat
def D3 (s:Q8):Bool:=match s with
 | []=>false
 | c::_=>name s&&Qq c.toNat
def plain (s:Q8):Bool:=decide (s=[105,110,116])||decide (s=[98,111,111,108])||decide (s=[116,101,120,116])
def P7 (s:Q8):Bool:=decide (2<=s.length)&&decide (s.drop (s.length-2)=[91,93])
def cutA (s:Q8):Q8:=s.take (s.length-2)
def Zk:Nat->Q8->Q8×Nat
 | 0,s=>(s,0)
 | n+1,s=>if P7 s then ((Zk n (cutA s)).1,(Zk n (cutA s)).2+1) else (s,0)
def base (s:Q8):Q8×Nat:=Zk s.length s
def right (s:Q8):Bool:=decide ((base s).2<=3)&&(plain (base s).1||O6 (base s).1)
def elem (s:Q8):Q8:=if P7 s&&right s then cutA s else []
def Q3w (s:Q8):Nat:=if right s then (base s).2 else 0
def Xv (s:Q8):Q8×Q8×Bool:=match s with
 | []=>([],[],false)
 | c::r=>if c=46 then ([],r,true) else ((c::(Xv r).1),(Xv r).2.1,(Xv r).2.2)
def Jp (s:Q8):Bool:=(Xv s).2.2&&O6 (Xv s).1&&D3 (Xv s).2.1
def Q2n (c:UInt8) (s:Q8):Int:=match s.findIdx? (fun b=>decide (b=c)) with
 | some i=>i
 | none=> -1
def Q42 (s:Q8) (o:Option Nat):Q8×Q8×Bool:=match o with
 | some i=>(s.take i,s.drop (i+1),true)
 | none=>(s,[],false)
theorem Pk (s:Q8):Xv s=Q42 s (s.findIdx? (fun b=>decide (b=46))):=by
 induction s with
 | nil=>rfl
 | cons c r a=>
  rw[List.findIdx?_cons];simp only[Xv]
  by_cases h:c=46
  .simp[h,Q42]
  .simp only[h,if_false,decide_false,Bool.false_eq_true]
   rw[a];cases r.findIdx? (fun b=>decide (b=46)) with
   | none=>simp[Q42]
   | some i=>simp[Q42]
end Go.Kd
namespace Go.Proofs.Y
open Go.Emb Go.RowKit Go.Kd
variable {w : World} {K : Value -> World -> Prop}
theorem Y6:P.underlying T.b=some .string:=by kernel_rfl
theorem Ga:P.underlying T.d=some (.int .i64):=by kernel_rfl
theorem Q4R:P.underlying T.n=some .bool:=by kernel_rfl
theorem Q5x:P.underlying T.t=some (.int .u8):=by kernel_rfl
theorem Q9K:P.underlying T.ax=some (.int .i32):=by kernel_rfl
theorem Q9u (c:Int) (h:K (.bool (Yc c)) w):Q0 P F.c8 [.int .i32 c] w K:=Q80 (by
 unfold Q1s Y0
 (try simp only[↓Mr,Mr,Mb,reduceIte])
 cases a:decide (65<=c)<;>simp only[a,↓Mr,Mr,Mb,reduceIte]<;>simpa [Yc,a] using h)
theorem Q9v (c:Int) (h:K (.bool (Qq c)) w):Q0 P F.c9 [.int .i32 c] w K:=Q81 (by
 unfold Q1t Y0
 (try simp only[↓Mr,Mr,Mb,reduceIte])
 cases a:decide (97<=c)<;>simp only[a,↓Mr,Mr,Mb,reduceIte]<;>simpa [Qq,a] using h)
theorem X4G (c:Int) (h:K (.bool (C8 c)) w):Q0 P F.bW [.int .i32 c] w K:=Q6A (by
 unfold Q0i Y0;refine Q9u c ?_;cases a:Yc c
 ·(try simp only[↓Mr,Mr,Mb,reduceIte])
  refine Q9v c ?_;cases b:Qq c
  ·(try simp only[↓Mr,Mr,Mb,reduceIte])
   cases d:decide (48<=c)
   ·(try simp only[↓Mr,Mr,Mb,reduceIte])
    simpa [C8,G3,a,b,d] using h
   ·(try simp only[↓Mr,Mr,Mb,reduceIte])
    simpa [C8,G3,a,b,d] using h
  ·(try simp only[↓Mr,Mr,Mb,reduceIte])
   simpa [C8,a,b] using h
 ·(try simp only[↓Mr,Mr,Mb,reduceIte])
  simpa [C8,a] using h)
theorem X6t (a:List UInt8) (f:Value) (p:Int->Bool) (l: ∀(c:Int) (w:World) (K:Value->World->Prop),K (.bool (p c)) w->Y8 P f [.int .i32 c] w K)
 (h: ∀w',Below w.heap.size w w'->K (.bool (Pf p ⟨a.toArray⟩ a.length 0)) w'):Q0 P F.cy [S a,f] w K:=X0E (by
 unfold Q4e;rw[X4Z Y6]
 refine Uc (fun _ w'=> ∃pos n:Nat,a.length-pos<=n/\Pf p ⟨a.toArray⟩ a.length 0=Pf p ⟨a.toArray⟩ n pos/\Below w.heap.size w w'/\w'.heap[w.heap.size]? =some (.stringIter ⟨a.toArray⟩ pos))
  (fun _ w'=>match w'.heap[w.heap.size]? with | some (.stringIter _ pos)=>a.length-pos | _=>0) ⟨0,a.length,by omega,rfl,(Below.refl _ _).alloc (Nat.le_refl _) _,heap_alloc_new w _⟩ ?_
 rintro _ _ w1 ⟨pos,n,q,b,j,e⟩
 by_cases g:pos<a.length
 .rw[X4K e (by rw[P3];exact g)]
  (try simp only[↓Mr,Mr,Mb,reduceIte])
  refine l _ _ _ ?_;obtain ⟨n,rfl⟩: ∃m,n=m+1:=⟨n-1,by omega⟩
  simp only[Pf,P3,g,if_true] at b;have r:=Q7b (s:=⟨a.toArray⟩) (i:=pos);have d:w.heap.size<w1.heap.size:=(Array.getElem?_eq_some_iff.1 e).1;cases k:p (Utf8.decode ⟨a.toArray⟩ pos).1
  ·(try simp only[↓Mr,Mr,Mb,reduceIte])
   rw[k] at b;have:=h _ (Q5I (o:= .stringIter ⟨a.toArray⟩ (pos+(Utf8.decode ⟨a.toArray⟩ pos).2)) j (Nat.le_refl _));rw[b] at this;exact this
  ·(try simp only[↓Mr,Mr,Mb,reduceIte])
   rw[k] at b;refine ⟨⟨_,n,?_,b,Q5I j (Nat.le_refl _),Q9B d⟩,?_⟩
   .omega
   .simp only[Q9B d,e];omega
 .rw[Q8S e (by rw[P3];exact g)]
  (try simp only[↓Mr,Mr,Mb,reduceIte])
  have:Pf p ⟨a.toArray⟩ n pos=true:=by
   cases n with
   | zero=>rfl
   | succ n=>simp only[Pf,P3,g,if_false]
  rw[<-this,<-b];exact h _ j)
theorem Q9Q (c:Int) (h:128<=c):C8 c=false:=by
 simp[C8,Yc,Qq,G3];omega
theorem Q7v (a:List UInt8) (n:a.length<=140737488355328) (h: ∀w',Below w.heap.size w w'->K (.bool (name a)) w'):Q0 P F.bS [S a] w K:=Q92 (by
 unfold Q39 Y0 X7 X5 V5
 have d: ∀c r,a=c::r->(decide (a.length<=32)&& !G3 c.toNat)=true->Q0 P F.cy [S a,(.func (.func F.bW) #[] #[])] w K:=by
  intro c r m b;refine X6t a _ C8 (fun c w K h=>Z6 (first:=[]) (caps:=[]) (X4G c h)) fun w' l=>?_
  rw[Q9P _ Q9Q a _ _ Q4];have:=h w' l;rw[m] at this b⊢;simp only[name] at this;rw[b,Bool.true_and] at this
  simpa using this
 cases a with
 | nil=>
  simp only[↓Mr,Mr,Mb,reduceIte,decide_true];exact h w (Below.refl _ _)
 | cons c r=>
  have g:decide (c::r=[])=false:=by simp
  simp only[↓Mr,Mr,Mb,reduceIte,g,C1 Y6]
  by_cases k:(c::r).length<=32
  .have e:r.length<=31:=by simpa using k
   have b:decide ((32:Int)<((c::r).length:Int))=false:=by simp only[decide_eq_false_iff_not];omega
   simp only[↓Mr,Mr,Mb,reduceIte,b];rw[Yn Y6 Q4 U5]
   (try simp only[↓Mr,Mr,Mb,reduceIte])
   have j:(c::r)[(0:Int).toNat]'(by simp)=c:=rfl
   simp only[j];cases f:decide ((48:Int)<=(c.toNat:Int))
   ·(try simp only[↓Mr,Mr,Mb,reduceIte])
    exact d c r rfl (by simp[G3,e,f])
   ·(try simp only[↓Mr,Mr,Mb,reduceIte])
    rw[Yn Y6 Q4 U5];simp only[↓Mr,Mr,Mb,reduceIte,j];cases i:decide ((c.toNat:Int)<=57)
    ·(try simp only[↓Mr,Mr,Mb,reduceIte])
     exact d c r rfl (by simp only[G3,f,i];simp[e])
    ·(try simp only[↓Mr,Mr,Mb,reduceIte])
     have:name (c::r)=false:=by simp only[name,G3,f,i];simp
     rw[<-this];exact h w (Below.refl _ _)
  .have b:decide ((32:Int)<((c::r).length:Int))=true:=by simp only[decide_eq_true_eq];omega
   simp only[↓Mr,Mr,Mb,reduceIte,b];have:name (c::r)=false:=by simp only[name];rw[decide_eq_false k];rfl
   rw[<-this];exact h w (Below.refl _ _))
theorem St (a:List UInt8) (e:a.length<=140737488355328) (h: ∀w',Below w.heap.size w w'->K (.bool (O6 a)) w'):Q0 P F.ag [S a] w K:=Q7W (by
 unfold Q1o Y0;refine Q7v a e fun w1 b=>?_;cases a with
 | nil=>
  simp only[name,↓Mr,Mr,Mb,reduceIte];exact h w1 b
 | cons c r=>
  cases d:name (c::r)
  ·(try simp only[↓Mr,Mr,Mb,reduceIte])
   have:=h w1 b;simp only[O6,d] at this
   simpa using this
  ·(try simp only[↓Mr,Mr,Mb,reduceIte])
   rw[Yn Y6 Q4 U5];have f:(c::r)[(0:Int).toNat]'(by simp)=c:=rfl
   simp only[f];rw[Xm Q5x Q9K,w32 Q4 (by have:=c.toNat_lt;omega)]
   refine Q9u _ ?_
   (try simp only[↓Mr,Mr,Mb,reduceIte])
   have:=h w1 b;simp only[O6,d] at this
   simpa using this)
theorem Q2p (a:List UInt8) (h:K (.bool (plain a)) w):Q0 P F.bE [S a] w K:=Q7Y (by
 unfold Q1q Y0 V5
 (try simp only[↓Mr,Mr,Mb,reduceIte])
 cases b:decide (a=[105,110,116])<;>(try simp only[↓Mr,Mr,Mb,reduceIte])
 .cases c:decide (a=[98,111,111,108])<;>(try simp only[↓Mr,Mr,Mb,reduceIte])<;>simpa [plain,b,c] using h
 .simpa [plain,b] using h)
def Uz (a b:List UInt8):Bool:=decide (b.length<=a.length)&&decide (a.drop (a.length-b.length)=b)
theorem Ev (a b:List UInt8) (e:a.length<=140737488355328) (f:b.length<=140737488355328) (h:K (.bool (Uz a b)) w):Q0 P F.a8 [S a,S b] w K:=Bz (by
 unfold Wj Y0 X7 X2;rw[C1 Y6,C1 Y6]
 (try simp only[↓Mr,Mr,Mb,reduceIte])
 by_cases d:b.length<=a.length
 .have c:decide ((b.length:Int)<=a.length)=true:=by simp only[decide_eq_true_eq];omega
  simp only[↓Mr,Mr,Mb,reduceIte,c,C1 Y6];rw[K9 Q4 Q4,Di Y6 Q4 Q4]
  (try simp only[↓Mr,Mr,Mb,reduceIte])
  rw[show ((a.length:Int)-b.length).toNat=a.length-b.length from by omega]
  simpa [Uz,d] using h
 .have c:decide ((b.length:Int)<=a.length)=false:=by simp only[decide_eq_false_iff_not];omega
  simp only[↓Mr,Mr,Mb,reduceIte,c]
  simpa [Uz,d] using h)
theorem Q8M (a b:List UInt8) (c:a.length<=140737488355328) (d:b.length<=140737488355328) (h:K (.bool (Uz a b)) w):Q0 P F.bB [S a,S b] w K:=Q0V (by
 unfold Eh;exact Ev a b c d h)
def Hc (a b:List UInt8):List UInt8:=if Uz a b then a.take (a.length-b.length) else a
theorem Q62 {a b:List UInt8} (h:Uz a b=true):b.length<=a.length:=by
 simp only[Uz,Bool.and_eq_true,decide_eq_true_eq] at h;exact h.1
theorem Q7w (a b:List UInt8) (d:a.length<=140737488355328) (e:b.length<=140737488355328) (h:K (S (Hc a b)) w):Q0 P F.bp [S a,S b] w K:=Az (by
 unfold Oo;refine Bg ?_;unfold Ux X7 X2;refine Ev a b d e ?_;cases c:Uz a b
 ·(try simp only[↓Mr,Mr,Mb,reduceIte])
  simpa [Hc,c] using h
 .have f:=Q62 c
  simp only[↓Mr,Mr,Mb,reduceIte,C1 Y6];rw[K9 Q4 Q4,Xl Y6 Q4 Q4];rw[show ((a.length:Int)-b.length).toNat=a.length-b.length from by omega]
  simpa [Hc,c] using h)
theorem Q8L (a b:List UInt8) (d:a.length<=140737488355328) (e:b.length<=140737488355328) (h:K (.tuple #[S (Hc a b), .bool (Uz a b)]) w):Q0 P F.bA [S a,S b] w K:=Q0U (by
 unfold Eg;simp only[M8];refine By ?_;unfold Wi X7 X2;refine Ev a b d e ?_;cases c:Uz a b
 ·(try simp only[↓Mr,Mr,Mb,reduceIte])
  simpa [Hc,c] using h
 .have f:=Q62 c
  simp only[↓Mr,Mr,Mb,reduceIte,C1 Y6];rw[K9 Q4 Q4,Xl Y6 Q4 Q4];rw[show ((a.length:Int)-b.length).toNat=a.length-b.length from by omega]
  (try simp only[↓Mr,Mr,Mb,reduceIte])
  simpa [Hc,c] using h)
theorem Q4j (a:List UInt8):Uz a [91,93]=P7 a:=rfl
theorem Q3l (a:List UInt8):Hc a [91,93]=if P7 a then Kd.cutA a else a:=rfl
theorem Xn {a:List UInt8} (h:P7 a=true):(Kd.cutA a).length+2=a.length:=by
 simp only[P7,Bool.and_eq_true,decide_eq_true_eq] at h;simp only[Kd.cutA,List.length_take];omega
theorem Q3U: ∀(n m:Nat) (a:List UInt8),a.length<=n->a.length<=m->Zk n a=Zk m a
 | 0,0,a,_,_=>rfl
 | 0,m+1,a,h,_=>by
  have:a=[]:=List.eq_nil_of_length_eq_zero Q4;subst this;rfl
 | n+1,0,a,_,h=>by
  have:a=[]:=List.eq_nil_of_length_eq_zero Q4;subst this;rfl
 | n+1,m+1,a,b,c=>by
  simp only[Zk]
  split
  .rename_i h
   have:=Xn h;rw[Q3U n m (Kd.cutA a) Q4 Q4]
  .rfl
theorem Vo (a:List UInt8):base a=if P7 a then ((base (Kd.cutA a)).1,(base (Kd.cutA a)).2+1) else (a,0):=by
 unfold base;cases b:a.length with
 | zero=>
  have:a=[]:=List.eq_nil_of_length_eq_zero b;subst this;rfl
 | succ n=>
  simp only[Zk]
  split
  .rename_i h
   have:=Xn h;rw[Q3U n (Kd.cutA a).length (Kd.cutA a) Q4 (Nat.le_refl _)]
  .rfl
theorem Q2e (a:List UInt8):(base a).1.length+2*(base a).2=a.length:=by
 have key: ∀n (a:List UInt8),(Zk n a).1.length+2*(Zk n a).2=a.length:=by
  intro n
  induction n with
  | zero=>intro a;simp[Zk]
  | succ n b=>
   intro a;simp only[Zk]
   split
   .rename_i h
    have:=Xn h;have:=b (Kd.cutA a);simp only;omega
   .simp
 exact key _ a
theorem X1I (a:List UInt8) (e:a.length<=140737488355328) (h:K (.tuple #[S (base a).1,I (base a).2]) w):Q0 P F.cn [S a] w K:=Q93 (by
 unfold Q3a X5
 refine Uc (fun x w'=>w'=w/\ ∃(b:List UInt8) (n:Nat),x=(S b,I n)/\b.length+2*n=a.length/\base a=((base b).1,(base b).2+n)) (fun x _=>match x.1 with | .string s=>s.size | _=>0)
  ⟨rfl,a,0,rfl,by omega,rfl⟩ ?_
 rintro _ _ _ ⟨rfl,b,n,rfl,g,d⟩;refine Q8M b _ Q4 U5 ?_;rw[Q4j];cases c:P7 b
 ·(try simp only[↓Mr,Mr,Mb,reduceIte])
  rw[Vo b,c] at d;simp only[Bool.false_eq_true,if_false,Nat.zero_add] at d;rw[d] at h;exact h
 ·(try simp only[↓Mr,Mr,Mb,reduceIte])
  refine Q7w b _ Q4 U5 ?_;rw[Q3l,c];simp only[↓Mr,Mr,Mb,reduceIte,if_true];have f:=Xn c;rw[K9 Q4 Q4];refine ⟨⟨by first | rfl | trivial,Kd.cutA b,n+1,by simp,by omega,?_⟩,?_⟩
  .rw[d,Vo b,c];simp;omega
  .simp only[P3];omega)
theorem Vt (a:List UInt8) (e:a.length<=140737488355328) (h: ∀w',Below w.heap.size w w'->K (.bool (right a)) w'):Q0 P F.a5 [S a] w K:=Q7Z (by
 unfold Q1r;simp only[M8];unfold Y0 X5;have g:=Q2e a;refine X1I a e ?_
 (try simp only[↓Mr,Mr,Mb,reduceIte])
 by_cases c:(base a).2<=3
 .have b:decide (((base a).2:Int)<=3)=true:=by simp only[decide_eq_true_eq];omega
  simp only[↓Mr,Mr,Mb,reduceIte,b];refine Q2p _ ?_;cases d:plain (base a).1
  ·(try simp only[↓Mr,Mr,Mb,reduceIte])
   refine St _ Q4 fun w1 f=>?_
   (try simp only[↓Mr,Mr,Mb,reduceIte])
   have:=h w1 f;simp only[right,c,d] at this
   simpa using this
  ·(try simp only[↓Mr,Mr,Mb,reduceIte])
   have:=h w (Below.refl _ _);simp only[right,c,d] at this
   simpa using this
 .have b:decide (((base a).2:Int)<=3)=false:=by simp only[decide_eq_false_iff_not];omega
  simp only[↓Mr,Mr,Mb,reduceIte,b];have:=h w (Below.refl _ _);simp only[right,c] at this
  simpa using this)
theorem X1H (a:List UInt8) (c:a.length<=140737488355328) (h: ∀w',Below w.heap.size w w'->K (S (elem a)) w'):Q0 P F.cm [S a] w K:=Q91 (by
 unfold Q38;simp only[M8];unfold Y0;refine Q8L a _ c U5 ?_;rw[Q4j,Q3l]
 (try simp only[↓Mr,Mr,Mb,reduceIte])
 cases b:P7 a
 ·(try simp only[↓Mr,Mr,Mb,reduceIte])
  have:=h w (Below.refl _ _);simp only[elem,b] at this;exact this
 ·(try simp only[↓Mr,Mr,Mb,reduceIte])
  refine Vt a c fun w1 e=>?_;have:=h w1 e;cases d:right a
  ·(try simp only[↓Mr,Mr,Mb,reduceIte])
   simp only[elem,b,d] at this;exact this
  .simp only[↓Mr,Mr,Mb,reduceIte,if_true]
   simp only[elem,b,d] at this;exact this)
theorem X5U (a:List UInt8) (b:a.length<=140737488355328) (h: ∀w',Below w.heap.size w w'->K (I (Q3w a)) w'):Q0 P F.cL [S a] w K:=Q90 (by
 unfold Q37;simp only[M8];refine X1I a b ?_
 (try simp only[↓Mr,Mr,Mb,reduceIte])
 refine Vt a b fun w1 d=>?_;have:=h w1 d;cases c:right a<;>(try simp only[↓Mr,Mr,Mb,reduceIte])<;>simpa [Q3w,c] using this)
theorem Q2M (a:List UInt8) (c:UInt8) (h:K (I (Q2n c a)) w):Q0 P F.bM [S a, .int .u8 c.toNat] w K:=by
 refine Q8G (e:=Extern.BytealgIndexByte.indexByte) Tryz.func272 M5 rfl X3 X3 ?_ h
 have d:((List.range (ByteArray.mk a.toArray).size).find? fun i=>(ByteArray.mk a.toArray)[i]! ==c)=a.findIdx? (fun b=>decide (b=c)):=by
  rw[P3];refine Q45 _ _ a fun i g=>?_
  have:(ByteArray.mk a.toArray)[i]! =a[i]:=by
   rw[getElem!_pos _ _ (by rw[P3];exact g)];rfl
  rw[this,Bool.eq_iff_iff];simp
 have f:((c.toNat:Int).toNat.toUInt8)=c:=by simp
 have:=run_indexByte_string (P:=P) ⟨a.toArray⟩ c.toNat w;rw[f] at this;refine this.trans ?_;unfold firstIdx Q2n;rw[d];cases a.findIdx? (fun b=>decide (b=c))<;>rfl
theorem X2U (a:List UInt8) (c:UInt8) (h:K (I (Q2n c a)) w):Q0 P F.bD [S a,S [c]] w K:=Q0X (by
 unfold Ej Y0 X7 X5 X2;simp only[C1 Y6];have f:decide ((([c]:List UInt8).length:Int)=0)=false:=rfl;have g:decide ((([c]:List UInt8).length:Int)=1)=true:=rfl;simp only[Q2g,f,g];simp only[↓Mr,Mr,Mb,reduceIte]
 have b:B3 P T.b (S [c]) (I 0) w fun d w=>Q0 P F.au [S a,d] w fun e w=>K e w:=by
  rw[Yn Y6 Q4 U5];refine Fa ?_;unfold Wk;exact Q2M a c h
 cases i:decide ([c]=a)
 ·(try simp only[↓Mr,Mr,Mb,reduceIte])
  exact b
 ·(try simp only[↓Mr,Mr,Mb,reduceIte])
  have j:[c]=a:=by simpa using i
  have:Q2n c a=0:=by rw[<-j];simp[Q2n,List.findIdx?_cons]
  rw[this] at h;exact h)
theorem X2Q {c:UInt8} {a:List UInt8} {i:Nat} (h:a.findIdx? (fun b=>decide (b=c))=some i):i<a.length:=by
 have:=List.findIdx?_eq_some_iff_getElem.1 h;exact this.1
theorem X6s (a:List UInt8) (f:a.length<=140737488355328) (h: ∀w',Below w.heap.size w w'->K (.tuple #[S (Xv a).1,S (Xv a).2.1, .bool (Xv a).2.2]) w'):Q0 P F.cw [S a,S [46]] w K:=Q6E (by
 unfold Q0m;simp only[M8];refine Q2Q ?_;unfold Rz;simp only[Z1,Y1];unfold X7 X5 X2;refine X2U a 46 ?_;rw[Pk] at h;unfold Q2n;cases c:a.findIdx? (fun b=>decide (b=46)) with
 | none=>
  simp only[↓Mr,Mr,Mb,reduceIte,show decide ((0:Int)<= -1)=false from rfl]
  have:=h w (Below.refl _ _);rw[c] at this;exact this
 | some i=>
  have g:=X2Q c;have d:decide ((0:Int)<=(i:Int))=true:=by simp
  simp only[Q2h,d];simp only[↓Mr,Mr,Mb,reduceIte];refine Er (Below.refl _ w) ?_;refine X4 (S (a.take i)) (fun w1 _=>?_) ?_
  .rw[Xl Y6 Q4 Q4];exact X9 U5
  refine X4 (I 1) (fun w1 _=>?_) ?_
  .rw[C1 Y6];exact X9 rfl
  refine X4 (I (i+1)) ?_ ?_
  .rintro _ w1 _ rfl
   rw[Ia,K9 Q4 Q4];exact X9 rfl
  refine X4 (S (a.drop (i+1))) ?_ ?_
  .rintro _ w1 _ rfl
   rw[Di Y6 Q4 Q4];exact X9 U5
  rintro _ _ _ _ w1 e rfl rfl rfl rfl
  (try simp only[↓Mr,Mr,Mb,reduceIte])
  have:=h w1 e;rw[c] at this;exact this)
theorem X4F (a:List UInt8) (t:a.length<=140737488355328) (h: ∀w',Below w.heap.size w w'->K (if Jp a then .tuple #[S (Xv a).1,S (Xv a).2.1,I 0] else .tuple #[S [],S [],I 30]) w'):Q0 P F.cD [S a] w K:=Q7X (by
 unfold Q1p;simp only[M8];unfold Y0;refine X6s a t fun w1 e=>?_
 have s:(Xv a).1.length<=a.length/\(Xv a).2.1.length<=a.length:=by
  rw[Pk];cases a.findIdx? (fun b=>decide (b=46))<;>simp[Q42]
  omega
 generalize u:(Xv a).1=p at h s;generalize v:(Xv a).2.1=q at h s;have k:Jp a=((Xv a).2.2&&O6 p&&D3 q):=by rw[Jp,u,v]
 cases j:(Xv a).2.2
 .simp only[↓Mr,Mr,Mb,reduceIte]
  have:=h w1 e;rw[k,j] at this;simpa using this
 .simp only[↓Mr,Mr,Mb,reduceIte]
  refine St p Q4 fun z g=>?_;have d:=e.trans (g.mono e.size);cases o:O6 p
  ·(try simp only[↓Mr,Mr,Mb,reduceIte])
   have:=h z d;rw[k,j,o] at this;simpa using this
  ·(try simp only[↓Mr,Mr,Mb,reduceIte])
   refine Q7v q Q4 fun A i=>?_;have f:=d.trans (i.mono d.size);have:=h A f;rw[k,j,o] at this;cases n:name q
   ·(try simp only[↓Mr,Mr,Mb,reduceIte])
    have m:D3 q=false:=by cases q with | nil=>rfl | cons c r=>simp[D3,n]
    rw[m] at this;simpa using this
   ·(try simp only[↓Mr,Mr,Mb,reduceIte])
    cases q with
    | nil=>simp[name] at n
    | cons c r=>
     rw[Yn Y6 Q4 U5];have l:(c::r)[(0:Int).toNat]'(by simp)=c:=rfl
     (try simp only[↓Mr,Mr,Mb,reduceIte])
     rw[l,Xm Q5x Q9K,w32 Q4 (by have:=c.toNat_lt;omega)]
     refine Q9v _ ?_;have m:D3 (c::r)=Qq c.toNat:=by simp[D3,n]
     rw[m] at this;cases y:Qq c.toNat<;>(try simp only[↓Mr,Mr,Mb,reduceIte])<;>rw[y] at this<;>simpa using this)
theorem Q24 (a:List UInt8) (h:K (.bool (plain a)) w):Q0 P F.ah [S a] w K:=Am (by
 unfold Oc V5;refine L4 ?_
 (try simp only[↓Mr,Mr,Mb,reduceIte])
 cases b:decide (a=[105,110,116])
 .cases c:decide (a=[98,111,111,108])
  .cases d:decide (a=[116,101,120,116])<;>(try simp only[↓Mr,Mr,Mb,reduceIte])<;>intro _<;>(try simp only[↓Mr,Mr,Mb,reduceIte])<;>simpa [plain,b,c,d] using h
  ·(try simp only[↓Mr,Mr,Mb,reduceIte])
   intro _
   (try simp only[↓Mr,Mr,Mb,reduceIte])
   simpa [plain,b,c] using h
 ·(try simp only[↓Mr,Mr,Mb,reduceIte])
  intro _
  (try simp only[↓Mr,Mr,Mb,reduceIte])
  simpa [plain,b] using h)
def X3z (a:List UInt8) (w:World) (x:Value) (w':World):Prop:=
 w=w'/\ ∃i:Nat,x=I i/\i<=a.length/\(0<i->(a.head?.map fun c=>G3 c.toNat)=some false)/\(a.take i).all (fun b=>C8 b.toNat)=true
def Q6H (a:List UInt8) (x:Value):Nat:=match x with | .int _ i=>a.length-i.toNat | _=>0
theorem Q87 (a:List UInt8) (O:a.length<=140737488355328) (h:K (.bool (name a)) w):Q0 P F.aN [S a] w K:=Q0O (by
 unfold Ea U4 Y0 X7 X5 X2;refine Uc (X3z a w) (fun x _=>Q6H a x) ⟨rfl,0,rfl,by omega,by omega,by simp⟩ ?_
 rintro _ _ _ ⟨rfl,i,rfl,Q,M,k⟩;rw[C1 Y6]
 (try simp only[↓Mr,Mr,Mb,reduceIte])
 by_cases l:i<a.length
 .have B:decide ((i:Int)<a.length)=true:=by simp only[decide_eq_true_eq];omega
  simp only[B,↓Mr,Mr,Mb,reduceIte]
  have d: ∀z:Value->World->Prop,B3 P T.b (S a) (I i) w z=z (.int .u8 (a[i]'l).toNat) w:=fun z=>by
   rw[Yn Y6 Q4 (by simpa using l)];simp
  generalize q:a[i]=c at d
  have e:C8 c.toNat=false\/(i=0/\G3 c.toNat=true)->name a=false:=by
   intro y;cases a with
   | nil=>rfl
   | cons L r=>
    simp only[name]
    rcases y with y | ⟨rfl,y⟩
    .have:(L::r).all (fun b=>C8 b.toNat)=false:=by
      rw[List.all_eq_false];exact ⟨c,by rw[<-q];exact List.getElem_mem _,by simp[y]⟩
     rw[this];simp
    .simp only[List.getElem_cons_zero] at q
     rw[q,y];simp
  have f:C8 c.toNat=true->(i=0->G3 c.toNat=false)->X3z a w (I (IntKind.i64.wrap ((i:Int)+1))) w/\Q6H a (I (IntKind.i64.wrap ((i:Int)+1)))<Q6H a (I i):=by
   intro D H;rw[K9 Q4 Q4];refine ⟨⟨rfl,i+1,by simp,by omega,fun _=>?_,?_⟩,by simp only[Q6H];omega⟩
   .by_cases p:0<i
    .exact M p
    .obtain rfl:i=0:=by omega
     cases a with
     | nil=>simp at l
     | cons L r=>simp only[List.getElem_cons_zero] at q;subst q;simp[H rfl]
   .rw[List.take_add_one,List.getElem?_eq_getElem l,q]
    simp[k,D]
  have E:=c.toNat_lt;have t:decide ((i:Int)=0)=decide (i=0):=by rw[Bool.eq_iff_iff];simp
  by_cases n:97<=(c.toNat:Int)
  .by_cases A:(c.toNat:Int)<=122
   .simp only[d,decide_eq_true n,decide_eq_true A,↓Mr,Mr,Mb,reduceIte]
    exact f (by simp[C8,Qq,n,A]) (fun _=>by simp[G3];omega)
   .have o:(65:Int)<=c.toNat:=by omega
    have s: ¬(c.toNat:Int)<=90:=by omega
    have g: ¬(c.toNat:Int)<48:=by omega
    have j:(57:Int)<c.toNat:=by omega
    simp only[d,decide_eq_true n,decide_eq_false A,decide_eq_true o,decide_eq_false s,decide_eq_false g,decide_eq_true j,t,↓Mr,Mr,Mb,reduceIte];have m:=e (.inl (by simp[C8,Yc,Qq,G3];omega))
    rw[m] at h;cases decide (i=0)<;>(try simp only[d,decide_eq_false g,decide_eq_true j,↓Mr,Mr,Mb,reduceIte])<;>exact h
  .by_cases o:(65:Int)<=c.toNat
   .by_cases s:(c.toNat:Int)<=90
    .simp only[d,decide_eq_false n,decide_eq_true o,decide_eq_true s,↓Mr,Mr,Mb,reduceIte]
     exact f (by simp[C8,Yc,o,s]) (fun _=>by simp[G3];omega)
    .have g: ¬(c.toNat:Int)<48:=by omega
     have j:(57:Int)<c.toNat:=by omega
     simp only[d,decide_eq_false n,decide_eq_true o,decide_eq_false s,decide_eq_false g,decide_eq_true j,t,↓Mr,Mr,Mb,reduceIte];have m:=e (.inl (by simp[C8,Yc,Qq,G3];omega))
     rw[m] at h;cases decide (i=0)<;>(try simp only[d,decide_eq_false g,decide_eq_true j,↓Mr,Mr,Mb,reduceIte])<;>exact h
   .by_cases g:(c.toNat:Int)<48
    .simp only[d,decide_eq_false n,decide_eq_false o,decide_eq_true g,t,↓Mr,Mr,Mb,reduceIte]
     have m:=e (.inl (by simp[C8,Yc,Qq,G3];omega))
     rw[m] at h;cases decide (i=0)<;>(try simp only[d,decide_eq_true g,↓Mr,Mr,Mb,reduceIte])<;>exact h
    .by_cases j:(57:Int)<c.toNat
     .simp only[d,decide_eq_false n,decide_eq_false o,decide_eq_false g,decide_eq_true j,t,↓Mr,Mr,Mb,reduceIte]
      have m:=e (.inl (by simp[C8,Yc,Qq,G3];omega))
      rw[m] at h;cases decide (i=0)<;>(try simp only[d,decide_eq_false g,decide_eq_true j,↓Mr,Mr,Mb,reduceIte])<;>exact h
     .have v:G3 c.toNat=true:=by simp[G3];omega
      simp only[d,decide_eq_false n,decide_eq_false o,decide_eq_false g,decide_eq_false j,t,↓Mr,Mr,Mb,reduceIte]
      by_cases p:i=0
      .have m:=e (.inr ⟨p,v⟩)
       rw[m] at h;simp only[decide_eq_true p,d,decide_eq_false g,decide_eq_false j,↓Mr,Mr,Mb,reduceIte];exact h
      .simp only[decide_eq_false p,d,decide_eq_false g,decide_eq_false j,↓Mr,Mr,Mb,reduceIte]
       exact f (by simp[C8,v]) (fun h=>absurd h p)
 .have B:decide ((i:Int)<a.length)=false:=by simp only[decide_eq_false_iff_not];omega
  obtain rfl:i=a.length:=by omega
  simp only[B,↓Mr,Mr,Mb,reduceIte];rw[C1 Y6];cases a with
  | nil=>
   have C:decide ((1:Int)<=(([]:List UInt8).length:Int))=false:=rfl;simp only[C,↓Mr,Mr,Mb,reduceIte];exact h
  | cons c r=>
   have C:decide ((1:Int)<=((c::r).length:Int))=true:=by simp only[decide_eq_true_eq,List.length_cons];omega
   have u:=M U5;simp only[List.head?_cons,Option.map_some,Option.some.injEq] at u;simp only[List.take_length] at k;have J:name (c::r)=decide ((c::r).length<=32):=by simp only[name,u,k];simp
   have N:decide (((c::r).length:Int)<=32)=decide ((c::r).length<=32):=by rw[Bool.eq_iff_iff];simp only[decide_eq_true_eq];omega
   simp only[C,C1 Y6,N,↓Mr,Mr,Mb,reduceIte];rw[<-J];exact h)
theorem Pq {c:UInt8} {r:List UInt8} (h:name (c::r)=true):C8 c.toNat=true/\G3 c.toNat=false:=by
 simp only[name,Bool.and_eq_true,List.all_cons,Bool.not_eq_true'] at h;exact ⟨h.2.1,h.1.2⟩
theorem Zi (a:List UInt8) (g:a.length<=140737488355328) (h:K (.bool (O6 a)) w):Q0 P F.d [S a] w K:=Ak (by
 unfold Oa Y0;refine Q87 a g ?_;cases a with
 | nil=>simp only[name,↓Mr,Mr,Mb,reduceIte];exact h
 | cons c r=>
  cases d:name (c::r)
  ·(try simp only[↓Mr,Mr,Mb,reduceIte])
   simpa [O6,d] using h
  ·(try simp only[↓Mr,Mr,Mb,reduceIte])
   rw[Yn Y6 Q4 U5];have b:(c::r)[(0:Int).toNat]'(by simp)=c:=rfl
   (try simp only[↓Mr,Mr,Mb,reduceIte])
   rw[b];obtain ⟨e,f⟩:=Pq d
   have:decide ((c.toNat:Int)<=90)=Yc c.toNat:=by
    simp only[C8,Yc,Qq,G3,Bool.or_eq_true,Bool.and_eq_true,Bool.and_eq_false_iff,decide_eq_true_eq,decide_eq_false_iff_not] at e f⊢;rw[Bool.eq_iff_iff];simp only[Bool.and_eq_true,decide_eq_true_eq];omega
   rw[this]
   simpa [O6,d] using h)
theorem Q00 (a:List UInt8) (g:a.length<=140737488355328) (h:K (.bool (D3 a)) w):Q0 P F.v [S a] w K:=Kl (by
 unfold Ml Y0;refine Q87 a g ?_;cases a with
 | nil=>simp only[name,↓Mr,Mr,Mb,reduceIte];exact h
 | cons c r=>
  cases d:name (c::r)
  ·(try simp only[↓Mr,Mr,Mb,reduceIte])
   simpa [D3,d] using h
  ·(try simp only[↓Mr,Mr,Mb,reduceIte])
   rw[Yn Y6 Q4 U5];have b:(c::r)[(0:Int).toNat]'(by simp)=c:=rfl
   (try simp only[↓Mr,Mr,Mb,reduceIte])
   rw[b];obtain ⟨e,f⟩:=Pq d
   have:decide ((97:Int)<=c.toNat)=Qq c.toNat:=by
    simp only[C8,Yc,Qq,G3,Bool.or_eq_true,Bool.and_eq_true,Bool.and_eq_false_iff,decide_eq_true_eq,decide_eq_false_iff_not] at e f⊢;rw[Bool.eq_iff_iff];simp only[Bool.and_eq_true,decide_eq_true_eq];omega
   rw[this]
   simpa [D3,d] using h)
def X6k (a:List UInt8) (w:World) (x:Value×Value) (w':World):Prop:=
 w=w'/\ ∃(b:List UInt8) (n:Nat),x=(S b,I n)/\b.length+2*n=a.length/\(base a).2=(base b).2+n
def X3x (x:Value×Value):Nat:=match x.1 with | .string s=>s.size | _=>0
theorem Q3K (a:List UInt8) (j:a.length<=140737488355328) (h:K (I (base a).2) w):Q0 P F.am [S a] w K:=Q0N (by
 unfold Dz Y0 X7 X5 V5;refine Uc (X6k a w) (fun x _=>X3x x) ⟨rfl,a,0,rfl,by omega,rfl⟩ ?_
 rintro _ _ _ ⟨rfl,b,n,rfl,k,c⟩;rw[C1 Y6]
 (try simp only[↓Mr,Mr,Mb,reduceIte])
 by_cases f:2<=b.length
 .have e:decide ((2:Int)<=b.length)=true:=by simp only[decide_eq_true_eq];omega
  simp only[e,C1 Y6,↓Mr,Mr,Mb,reduceIte];rw[K9 Q4 Q4,Di Y6 Q4 Q4];rw[show ((b.length:Int)-2).toNat=b.length-2 from by omega]
  have g:decide (b.drop (b.length-2)=[91,93])=P7 b:=by simp[P7,f]
  simp only[g,↓Mr,Mr,Mb,reduceIte];cases d:P7 b
  ·(try simp only[↓Mr,Mr,Mb,reduceIte])
   rw[Vo b,d] at c;simp only[Bool.false_eq_true,if_false,Nat.zero_add] at c;rw[c] at h;exact h
  ·(try simp only[C1 Y6,↓Mr,Mr,Mb,reduceIte])
   rw[Xl Y6 Q4 Q4];rw[show ((b.length:Int)-2).toNat=b.length-2 from by omega]
   have i:=Xn d;refine ⟨⟨rfl,Kd.cutA b,n+1,?_,by omega,?_⟩,?_⟩
   .simp only[Kd.cutA,Prod.mk.injEq,true_and]
    first | rfl | (rw[K9 Q4 Q4];rfl)
   .rw[c,Vo b,d];simp;omega
   .simp only[X3x,P3,List.length_take];omega
 .have e:decide ((2:Int)<=b.length)=false:=by simp only[decide_eq_false_iff_not];omega
  simp only[e,↓Mr,Mr,Mb,reduceIte];have d:P7 b=false:=by simp[P7,f]
  rw[Vo b,d] at c;simp only[Bool.false_eq_true,if_false,Nat.zero_add] at c;rw[c] at h;exact h)
theorem Q5H (a:List UInt8):a.take (a.length-2*(base a).2)=(base a).1:=by
 have key: ∀n (a:List UInt8),a.take (a.length-2*(Zk n a).2)=(Zk n a).1:=by
  intro n
  induction n with
  | zero=>intro a;simp[Zk]
  | succ n b=>
   intro a;simp only[Zk]
   split
   .rename_i h
    have c:=Xn h;simp only;rw[<-b (Kd.cutA a)];rw[Kd.cutA,List.take_take,List.length_take]
    congr 1
    omega
   .simp
 exact key _ a
theorem My (a:List UInt8) (e:a.length<=140737488355328) (h:K (.bool (right a)) w):Q0 P F.h [S a] w K:=An (by
 unfold Od Y0 X7 X5 X2;have f:=Q2e a;refine Q3K a e ?_;rw[C1 Y6]
 (try simp only[↓Mr,Mr,Mb,reduceIte])
 rw[K9 (n:=2*((base a).2:Int)) Q4 Q4,K9 Q4 Q4,Xl Y6 Q4 Q4];rw[show ((a.length:Int)-2*((base a).2:Int)).toNat=a.length-2*(base a).2 from by omega,Q5H]
 (try simp only[↓Mr,Mr,Mb,reduceIte])
 by_cases c:(base a).2<=3
 .have b:decide (((base a).2:Int)<=3)=true:=by simp only[decide_eq_true_eq];omega
  simp only[b,↓Mr,Mr,Mb,reduceIte];refine Q24 _ ?_;cases d:plain (base a).1
  ·(try simp only[↓Mr,Mr,Mb,reduceIte])
   refine Zi _ Q4 ?_
   (try simp only[↓Mr,Mr,Mb,reduceIte])
   simpa [right,c,d] using h
  ·(try simp only[↓Mr,Mr,Mb,reduceIte])
   simpa [right,c,d] using h
 .have b:decide (((base a).2:Int)<=3)=false:=by simp only[decide_eq_false_iff_not];omega
  simp only[b,↓Mr,Mr,Mb,reduceIte]
  simpa [right,c] using h)
def X5i (a:List UInt8) (w:World) (x:Value) (w':World):Prop:=
 w=w'/\ ∃n:Nat,x=I n/\n<=a.length/\(∀i,(h:i<n)->(b:i<a.length)->a[i]≠46)
def X12 (a:List UInt8) (x:Value):Nat:=match x with | .int _ n=>(a.length-n).toNat | _=>0
theorem Q6j (a:List UInt8) (L:a.length<=140737488355328) (h: ∀w',Below w.heap.size w w'->K (if (Xv a).2.2 then .tuple #[S (Xv a).1,S (Xv a).2.1, .bool (Jp a)] else .tuple #[S [],S [], .bool false]) w'):Q0 P F.bh [S a] w K:=Al (by
 unfold Ob;simp only[Z1,Y1,D0,En];unfold U4 W0 X7 X5 X2;refine Uc (X5i a w) (fun x _=>X12 a x) ⟨rfl,0,rfl,by omega,by omega⟩ ?_
 rintro _ _ _ ⟨rfl,n,rfl,M,p⟩;rw[C1 Y6]
 (try simp only[↓Mr,Mr,Mb,reduceIte])
 by_cases D:n<a.length
 .have o:decide ((n:Int)<a.length)=true:=by simp only[decide_eq_true_eq];omega
  simp only[o,↓Mr,Mr,Mb,reduceIte];rw[Yn Y6 Q4 Q4]
  (try simp only[↓Mr,Mr,Mb,reduceIte])
  simp only[Int.toNat_natCast]
  have E:decide (((a[n]).toNat:Int)=46)=decide (a[n]=46):=by
   rw[Bool.eq_iff_iff];simp only[decide_eq_true_eq];constructor
   .intro e;exact UInt8.toNat_inj.1 (by have:(46:UInt8).toNat=46:=rfl;omega)
   .intro e;rw[e];rfl
  rw[E]
  by_cases m:a[n]=46
  .simp only[m,decide_true,↓Mr,Mr,Mb,reduceIte]
   have l:Xv a=(a.take n,a.drop (n+1),true):=by
    have:a.findIdx? (fun b=>decide (b=46))=some n:=by
     rw[List.findIdx?_eq_some_iff_getElem];exact ⟨D,by simpa using m,fun j H=>by simpa using p j H Q4⟩
    rw[Pk,this];rfl
   have r:Jp a=(O6 (a.take n)&&D3 (a.drop (n+1))):=by simp[Jp,l]
   rw[l,r] at h;have s:((n:Int)+1).toNat=n+1:=by omega
   have u:(a.take n).length<=140737488355328:=by simp only[List.length_take];omega
   have v:(a.drop (n+1)).length<=140737488355328:=by simp only[List.length_drop];omega
   have z: ∀{w:World} {K:Value->World->Prop},K (S (a.take n)) w->I9 P T.b (S a) none (some (I n)) none w K:=by
    intro w K h;rw[Xl Y6 Q4 Q4,show ((n:Int)).toNat=n from by omega];exact h
   have A: ∀{w:World} {K:Value->World->Prop},K (S (a.drop (n+1))) w->I9 P T.b (S a) (some (I (n+1))) none none w K:=by
    intro w K h;rw[Di Y6 Q4 Q4,s];exact h
   refine Er (Below.refl _ _) ?_;refine X4 (S (a.take n)) (fun w c=>z (X9 rfl)) ?_;refine X4 (I (n+1)) (fun w c=>X9 (by rw[K9 Q4 Q4])) ?_
   refine X4 (S (a.drop (n+1))) (fun t w c e=>by rw[e];exact A (X9 rfl)) ?_
   refine X4 (S (a.take n)) (fun w c=>z (X9 rfl)) ?_;refine X4 (.bool (O6 (a.take n))) (fun t w c e=>by rw[e];exact Zi _ u (X9 rfl)) ?_
   cases k:O6 (a.take n)
   .refine X4 undef (fun t w c e=>by rw[e,Jj];exact X9 rfl) ?_
    refine X4 undef (fun t w c e=>by rw[e,Jj];exact X9 rfl) ?_
    refine X4 undef (fun t f w c e d=>by rw[e,Jj];exact X9 rfl) ?_
    refine X4 undef (fun t f y w c e d g=>by rw[e,Jj];exact X9 rfl) ?_
    refine X4 undef (fun t f w c e d=>by rw[e,Jj];exact X9 rfl) ?_
    refine X4 (.bool false) (fun t f w c e d=>by rw[e,Vy];exact X9 rfl) ?_
    rintro _ _ _ _ _ _ _ _ _ _ _ w1 c rfl rfl rfl rfl rfl rfl rfl rfl rfl rfl rfl;rw[k] at h;exact h w1 (by simpa using c)
   .refine X4 (S a) (fun t w c e=>by rw[e,P1];exact X9 rfl) ?_
    refine X4 (I n) (fun t w c e=>by rw[e,P1];exact X9 rfl) ?_
    refine X4 (I (n+1)) (fun t f w c e d=>by rw[e,d,P1];simp only[↓Mr,Mr,Mb,reduceIte];exact X9 (by rw[K9 Q4 Q4])) ?_
    refine X4 (S (a.drop (n+1))) (fun t f y w c e d g=>by rw[e,d,g,P1];exact A (X9 rfl)) ?_
    refine X4 (.bool (D3 (a.drop (n+1)))) (fun t f w c e d=>by rw[e,d,P1];exact Q00 _ v (X9 rfl)) ?_
    refine X4 (.bool (D3 (a.drop (n+1)))) (fun t f w c e d=>by rw[e,d,Mw];exact X9 rfl) ?_
    rintro _ _ _ _ _ _ _ _ _ _ _ w1 c rfl rfl rfl rfl rfl rfl rfl rfl rfl rfl rfl;rw[k] at h;exact h w1 (by simpa using c)
  .simp only[m,decide_false,↓Mr,Mr,Mb,reduceIte]
   rw[K9 Q4 Q4];refine ⟨⟨rfl,n+1,rfl,by omega,fun i B C=>?_⟩,?_⟩
   .by_cases q:i=n
    .subst q;exact m
    .exact p i Q4 C
   .simp only[X12];omega
 .have o:decide ((n:Int)<a.length)=false:=by simp only[decide_eq_false_iff_not];omega
  simp only[o,↓Mr,Mr,Mb,reduceIte]
  have l:(Xv a).2.2=false/\(Xv a).1=a/\(Xv a).2.1=[]:=by
   have:a.findIdx? (fun b=>decide (b=46))=none:=by
    rw[List.findIdx?_eq_none_iff];intro x J;obtain ⟨i,B,rfl⟩:=List.getElem_of_mem J
    simpa using p i Q4 B
   rw[Pk,this];exact ⟨rfl,rfl,rfl⟩
  rw[l.1] at h;exact h w (Below.refl _ _))
end Go.Proofs.Y
namespace Go.Emb
open Go.RowKit
class TZ (P : Program) (t : TypeId) (sz b : outParam Nat) (z : outParam Value) : Prop where
  h : (P.info? t).map (fun i => (i.size, i.bytes, i.zero)) = some (sz, b, some z)
def X1G:Option TypeDesc->Bool
 | some (.struct _)=>true
 | some (.array _ _)=>true
 | none=>true
 | _=>false
class TG (P : Program) (t : TypeId) (g : outParam Bool) : Prop where
  h : (X1G (P.underlying t), (P.underlying t).isSome) = (g, true)
class TS (P : Program) (t : TypeId) (e : outParam TypeId) : Prop where
  h : P.underlying t = some (.slice e)
class TA (P : Program) (t : TypeId) (n : outParam Nat) (e : outParam TypeId) : Prop where
  h : P.underlying t = some (.array n e)
class TM (P : Program) (t : TypeId) (k e : outParam TypeId) : Prop where
  h : P.underlying t = some (.map k e)
def Q5e (d:Option TypeDesc) (k:Nat):Option (Nat×TypeId):=match d with
 | some (.struct a)=>(a[k]?).map fun f=>(f.offset,f.type)
 | _=>none
class TF (P : Program) (t : TypeId) (k : Nat) (off : outParam Nat) (ft : outParam TypeId) : Prop where
  h : Q5e (P.underlying t) k = some (off, ft)
variable {P : Program} {w w0 w' w'' : World} {K : Value -> World -> Prop}
theorem TZ.info {t:TypeId} {sz b:Nat} {z:Value} (h:TZ P t sz b z): ∃i,P.info? t=some i/\i.size=sz/\i.bytes=b/\i.zero=some z:=by
 obtain ⟨i,a,e⟩:=Option.map_eq_some_iff.1 h.h;simp only[Prod.mk.injEq] at e;exact ⟨i,a,e.1,e.2.1,e.2.2⟩
theorem O3 {t:TypeId} {sz b:Nat} {z:Value} (h:TZ P t sz b z) (w:World):(sizeOf t).run P w= .ok sz w:=by
 obtain ⟨i,a,rfl,_⟩:=h.info
 simp[sizeOf,typeInfo,a]
theorem Qb {t:TypeId} {sz b:Nat} {z:Value} (h:TZ P t sz b z) (w:World):(zeroValue t).run P w= .ok z w:=by
 obtain ⟨i,a,_,_,c⟩:=h.info
 simp[zeroValue,typeInfo,a,c]
theorem Yz {t:TypeId} {g:Bool} (h:TG P t g) (w:World):(isAgg t).run P w= .ok g w:=by
 have hh:=h.h;simp only[Prod.mk.injEq] at hh;obtain ⟨c,b⟩:=hh;cases a:P.underlying t with
 | none=>rw[a] at b;cases b
 | some d=>
  rw[a] at c;have:=run_underlying (P:=P) (w:=w) a;simp only[isAgg,Sem.run_bind,this,Result.andThen_ok];cases d<;>simp_all [X1G]
theorem Q9g (a:Addr) (i j:Nat):(a.add i).add j=a.add (i+j):=by
 unfold Addr.add
 by_cases b:i=0
 .simp[b]
 .by_cases c:j=0
  .simp[c]
  .simp[b,c,Nat.add_assoc]
theorem add_zero (a:Addr):a.add 0=a:=by simp[Addr.add]
theorem P6 (a:Addr) (i:Nat):(a.add i).block=a.block:=by unfold Addr.add;split<;>rfl
theorem Vm (a:Addr) (i:Nat):(a.add i).off=a.off+i:=by unfold Addr.add;split<;>simp_all
theorem Qf {a:Addr} (h:a.spot=none) (i:Nat):(a.add i).spot=none:=by unfold Addr.add;split<;>simp_all
abbrev Q2:=Nat->Option Obj
def X1 (w:World) (σ:Q2):Prop:= ∀b o,σ b=some o->w.heap[b]? =some o
structure Stp (w : World) (σ : Q2) (w' : World) (σ' : Q2) : Prop where
  bel : Below w.heap.size w w'
  sat : X1 w' σ'
  le : ∀ b o, σ b = some o -> σ' b = some o
  old : ∀ b, b < w.heap.size -> σ' b = σ b
theorem X1.lt {σ:Q2} (h:X1 w σ) {b:Nat} {o:Obj} (a:σ b=some o):b<w.heap.size:=(Array.getElem?_eq_some_iff.1 (h b o a)).1
theorem X1.below {σ:Q2} (h:X1 w σ) (a:Below w.heap.size w w'):X1 w' σ:=fun b o e=>(a.block b (h.lt e)).trans (h b o e)
theorem Stp.refl {σ:Q2} (h:X1 w σ):Stp w σ w σ:=⟨Below.refl _ _,h,fun _ _ e=>e,fun _ _=>rfl⟩
theorem Stp.trans {σ0 σ1 c:Q2} (h:Stp w σ0 w' σ1) (k:Stp w' σ1 w'' c):Stp w σ0 w'' c:=
 ⟨h.bel.trans (k.bel.mono h.bel.size),k.sat,fun b o e=>k.le b o (h.le b o e),fun b a=>(k.old b (Nat.lt_of_lt_of_le a h.bel.size)).trans (h.old b a)⟩
theorem Stp.of_below {σ:Q2} (h:X1 w σ) (a:Below w.heap.size w w'):Stp w σ w' σ:=⟨a,h.below a,fun _ _ e=>e,fun _ _=>rfl⟩
def Q2.put (σ:Q2) (b:Nat) (o:Obj):Q2:=fun k=>if k=b then some o else σ k
theorem X1.none {σ:Q2} (h:X1 w σ) {b:Nat} (a:w.heap.size<=b):σ b=none:=by
 cases e:σ b with
 | none=>rfl
 | some o=>have:=h.lt e;omega
theorem Stp.alloc {σ:Q2} (h:X1 w σ) (o:Obj):Stp w σ (w.alloc o) (σ.put w.heap.size o):=by
 refine ⟨(Below.refl _ _).alloc (Nat.le_refl _) o,?_,?_,?_⟩
 .intro b p e
  by_cases a:b=w.heap.size
  .subst a
   simp only[Q2.put,if_true] at e;cases e;exact heap_alloc_new w o
  .simp only[Q2.put,if_neg a] at e
   rw[Below.heap_alloc w o b (h.lt e)];exact h b p e
 .intro b p e
  have:=h.lt e;simp only[Q2.put];rw[if_neg Q4];exact e
 .intro b a
  simp only[Q2.put];rw[if_neg Q4]
theorem Stp.own {σ:Q2} (h:X1 w σ) (o:Obj):Stp w σ (w.alloc o) σ:=Stp.of_below h ((Below.refl _ _).alloc (Nat.le_refl _) o)
def J7 (σ:Q2) (a:Addr) (cs:List Value):Prop:=a.spot=none/\ ∃P7 e b,σ a.block=some (.cells P7 e b)/\ ∀i v,cs[i]? =some v->P7[a.off+i]? =some v
theorem J7.up {σ σ':Q2} {a:Addr} {cs:List Value} (h:J7 σ a cs) (g:Stp w σ w' σ'):J7 σ' a cs:=by
 obtain ⟨c,P7,e,b,d,f⟩:=h;exact ⟨c,P7,e,b,g.le _ _ d,f⟩
theorem J7.cell {σ:Q2} {a:Addr} {cs:List Value} (h:J7 σ a cs) (f:X1 w σ) {i:Nat} {v:Value} (g:cs[i]? =some v):w.cell? (a.add i)=some v:=by
 obtain ⟨b,P7,e,j,c,d⟩:=h;have:=f _ _ c;unfold World.cell?;rw[P6,this,Vm,Qf b];exact d i v g
def U6 (σ:Q2) (w:World) (b:Nat) (cs:List Value):Prop:=σ b=none/\ ∃e,w.heap[b]? =some (.cells cs.toArray e (0,0))
theorem U6.lt {σ:Q2} {b:Nat} {cs:List Value} (h:U6 σ w b cs):b<w.heap.size:=by
 obtain ⟨_,e,h⟩:=h;exact (Array.getElem?_eq_some_iff.1 h).1
theorem U6.up {σ σ':Q2} {b:Nat} {cs:List Value} (h:U6 σ w b cs) (a:Stp w σ w' σ'):U6 σ' w' b cs:=by
 have c:=h.lt;obtain ⟨d,e,f⟩:=h;exact ⟨(a.old b c).trans d,e,(a.bel.block b c).trans f⟩
theorem U6.cell {σ:Q2} {b:Nat} {cs:List Value} (h:U6 σ w b cs) {i:Nat} {v:Value} (c:cs[i]? =some v):w.cell? ((⟨b,0,none⟩:Addr).add i)=some v:=by
 obtain ⟨_,e,a⟩:=h;unfold World.cell?;rw[P6,Vm,Qf rfl];simp only[a]
 simpa using c
theorem U6.keep {σ σ0:Q2} {b:Nat} {cs:List Value} (h:U6 σ w b cs) (d:Stp w0 σ0 w σ) (m:w0.heap.size<=b): ∃σ',Stp w0 σ0 w σ'/\J7 σ' ⟨b,0,none⟩ cs/\(∀k o,σ k=some o->σ' k=some o)/\(∀k,k≠b->σ' k=σ k):=by
 obtain ⟨g,e,j⟩:=h;refine ⟨σ.put b (.cells cs.toArray e (0,0)),⟨d.bel,?_,?_,?_⟩,⟨rfl,cs.toArray,e,(0,0),by simp[Q2.put],?_⟩,?_,?_⟩
 .intro k o c
  by_cases a:k=b
  .subst a;simp only[Q2.put,if_true] at c;cases c;exact j
  .simp only[Q2.put,if_neg a] at c;exact d.sat k o c
 .intro k o c
  by_cases a:k=b
  .subst a;have:=d.le _ _ c;rw[g] at this;cases this
  .simp only[Q2.put,if_neg a];exact d.le _ _ c
 .intro k f
  simp only[Q2.put];rw[if_neg Q4];exact d.old k f
 .intro i v l;simpa using l
 .intro k o c
  by_cases a:k=b
  .subst a;rw[g] at c;cases c
  .simp only[Q2.put,if_neg a];exact c
 .intro k a;simp only[Q2.put,if_neg a]
theorem Q9G (t:TypeId) (v:Value) (w:World):(Instr.box t v).run P w= .ok (.pointer (some ⟨w.heap.size,0,none⟩)) (w.alloc (.cells v.cells t)):=by
 simp[Instr.box,newVar,newRow]
theorem Q4o {σ:Q2} (a:X1 w σ) (cs:Array Value) (t:TypeId):U6 σ (w.alloc (.cells cs t)) w.heap.size cs.toList:=
 ⟨a.none (Nat.le_refl _),t,by simpa using heap_alloc_new w (.cells cs t)⟩
theorem X0l {σ:Q2} (cs:Array Value) (t:TypeId):J7 (σ.put w.heap.size (.cells cs t)) ⟨w.heap.size,0,none⟩ cs.toList:=
 ⟨rfl,cs,t,(0,0),by simp[Q2.put],fun i v h=>by simpa using h⟩
theorem E5 {σ:Q2} {t:TypeId} {v:Value} (b:X1 w σ) (h: ∀a w' σ',Stp w σ w' σ'->J7 σ' a v.cells.toList->K (.pointer (some a)) w'):box P t v w K:=by
 unfold box;rw[Y3 (Q9G t v w)];exact h _ _ _ (Stp.alloc b _) (X0l _ t)
theorem X2r {σ:Q2} {t:TypeId} {v:Value} (a:X1 w σ) (h: ∀b w',w.heap.size<=b->Stp w σ w' σ->U6 σ w' b v.cells.toList->K (.pointer (some ⟨b,0,none⟩)) w'):box P t v w K:=by
 unfold box;rw[Y3 (Q9G t v w)];exact h _ _ (Nat.le_refl _) (Stp.own a _) (Q4o a _ t)
theorem Pe {σ:Q2} {t:TypeId} {sz a:Nat} {z:Value} [tz:TZ P t sz a z] (c:X1 w σ) (h: ∀b w',w.heap.size<=b->Stp w σ w' σ->U6 σ w' b z.cells.toList->K (.pointer (some ⟨b,0,none⟩)) w'):Qh P t w K:=by
 unfold Qh
 have:(Instr.alloc t true (.tuple #[])).run P w= .ok (.pointer (some ⟨w.heap.size,0,none⟩)) (w.alloc (.cells z.cells t)):=by
  simp[Instr.alloc,Qb tz,newVar,newRow]
 rw[Y3 this];exact h _ _ (Nat.le_refl _) (Stp.own c _) (Q4o c _ t)
theorem Yo {t:TypeId} [tg:TG P t false] {a:Addr} {v:Value} (b:w.cell? a=some v) (h:K v w):Q9 P t (.pointer (some a)) w K:=by
 unfold Q9;rw[Y3 (v:=v) (w':=w) (by simp[Instr.loadAt,Instr.sureAddr,loadVar,Yz tg,b])]
 exact h
theorem Ps {t:TypeId} {sz b:Nat} {z:Value} [tg:TG P t true] [tz:TZ P t sz b z] {a:Addr} {cs:List Value} (d:cs.length=sz) (c: ∀j v,cs[j]? =some v->w.cell? (a.add j)=some v) (h:K (.agg cs.toArray) w):Q9 P t (.pointer (some a)) w K:=by
 unfold Q9;have:=run_loadCells_list (P:=P) w a cs c;rw[d] at this;rw[Y3 (v:= .agg cs.toArray) (w':=w) (by simp[Instr.loadAt,Instr.sureAddr,loadVar,Yz tg,O3 tz,this])]
 exact h
theorem ld {σ:Q2} {t:TypeId} [TG P t false] {a:Addr} {cs:List Value} {i:Nat} {v:Value} (c:X1 w σ) (b:J7 σ a cs) (d:cs[i]? =some v) (h:K v w):Q9 P t (.pointer (some (a.add i))) w K:=
 Yo (b.cell c d) h
theorem Y4 {σ:Q2} {t:TypeId} [TG P t false] {a:Addr} {cs:List Value} {v:Value} (c:X1 w σ) (b:J7 σ a cs) (d:cs[0]? =some v) (h:K v w):Q9 P t (.pointer (some a)) w K:=by
 have:=ld (P:=P) (t:=t) c b d h
 rwa [add_zero] at this
theorem Z8 {σ:Q2} {t:TypeId} {sz b:Nat} {z:Value} [TG P t true] [TZ P t sz b z] {a:Addr} {cs:List Value} (f:X1 w σ) (c:J7 σ a cs) (d:cs.length=sz) (h:K (.agg cs.toArray) w):Q9 P t (.pointer (some a)) w K:=
 Ps d (fun _ _ g=>c.cell f g) h
theorem Fw {σ:Q2} {t:TypeId} [TG P t false] {b:Nat} {cs:List Value} {i:Nat} {v:Value} (a:U6 σ w b cs) (c:cs[i]? =some v) (h:K v w):Q9 P t (.pointer (some ((⟨b,0,none⟩:Addr).add i))) w K:=
 Yo (a.cell c) h
theorem Q3D {σ:Q2} {t:TypeId} [TG P t false] {b:Nat} {cs:List Value} {v:Value} (a:U6 σ w b cs) (c:cs[0]? =some v) (h:K v w):Q9 P t (.pointer (some ⟨b,0,none⟩)) w K:=by
 have:=Fw (P:=P) (t:=t) a c h
 rwa [add_zero] at this
theorem X5X {σ:Q2} {t:TypeId} {sz a:Nat} {z:Value} [TG P t true] [TZ P t sz a z] {b:Nat} {cs:List Value} (d:U6 σ w b cs) (c:cs.length=sz) (h:K (.agg cs.toArray) w):Q9 P t (.pointer (some ⟨b,0,none⟩)) w K:=
 Ps c (fun _ _ f=>d.cell f) h
theorem M6 {t:TypeId} {sz a:Nat} {z:Value} [tg:TG P t true] [tz:TZ P t sz a z] {σ:Q2} {b:Nat} {cs:List Value} {K:Value->Prop} (d:U6 σ w b cs) (c:cs.length=sz) (h:K (.agg cs.toArray)):M0 P t (.pointer (some ⟨b,0,none⟩)) w K:=by
 rw[Q4F];refine ⟨_,?_,h⟩;have:=run_loadCells_list (P:=P) w ⟨b,0,none⟩ cs (fun _ _ f=>d.cell f);rw[c] at this
 simp[asAddr,loadVar,Yz tg,O3 tz,this]
structure Upd (w : World) (b : Nat) (w' : World) : Prop where
  os : w'.os = w.os
  tape : w'.tape = w.tape
  output : w'.output = w.output
  size : w'.heap.size = w.heap.size
  block : ∀ k, k ≠ b -> w'.heap[k]? = w.heap[k]?
theorem Upd.stp {σ0 σ:Q2} {b:Nat} (c:Upd w b w') (a:Stp w0 σ0 w σ) (h:w0.heap.size<=b) (g:σ b=none):Stp w0 σ0 w' σ:=by
 refine ⟨⟨c.os.trans a.bel.os,c.tape.trans a.bel.tape,c.output.trans a.bel.output,by rw[c.size];exact a.bel.size,fun k f=>(c.block k Q4).trans (a.bel.block k f)⟩,?_,a.le,a.old⟩
 intro k o d;rw[c.block k (by intro e;subst e;rw[g] at d;cases d)]
 exact a.sat k o d
theorem U6.upd {σ:Q2} {b k:Nat} {cs:List Value} (h:U6 σ w k cs) (f:Upd w b w') (a:k≠b):U6 σ w' k cs:=by
 obtain ⟨c,e,d⟩:=h;exact ⟨c,e,(f.block k a).trans d⟩
theorem Sq {b:Nat} {cs:Array Value} {a:Array Value} {e:TypeId} (h:w.heap[b]? =some (.cells a e (0,0))):Upd w b (w.setRow b cs)/\(w.setRow b cs).heap[b]? =some (.cells cs e (0,0)):=by
 have d:=(Array.getElem?_eq_some_iff.1 h).1;refine ⟨⟨rfl,rfl,rfl,by simp[World.setRow],fun k c=>?_⟩,?_⟩
 .simp only[World.setRow,Array.getElem?_modify]
  rw[if_neg Q4]
 .simp only[World.setRow,Array.getElem?_modify,if_true,h]
  rfl
theorem sta {t:TypeId} {sz a:Nat} {z:Value} [tz:TZ P t sz a z] {σ:Q2} {b:Nat} {cs ds:List Value} (l:U6 σ w b cs) (k:cs.length=sz) (f:ds.length=sz) (g:ds.toArray.all (·.oneCell')=true)
 (h: ∀w',Upd w b w'->U6 σ w' b ds->K undef w'):M3 P t (.pointer (some ⟨b,0,none⟩)) (.agg ds.toArray) w K:=by
 obtain ⟨n,e,d⟩:=l;unfold M3;obtain ⟨i,j,c,_⟩:=tz.info;have:=run_storeVar_row (P:=P) w b e t cs.toArray ds.toArray d (by simp[j,c,f]) (by simp[k,f]) g
 rw[Vw (w':=w.setRow b ds.toArray) (by simpa [Instr.storeAt,Instr.sureAddr] using this)]
 obtain ⟨m,hh⟩:=Sq (cs:=ds.toArray) d;exact h _ m ⟨n,e,hh⟩
theorem X53 {cs:List Value} {i:Nat} {v:Value} (a:i<cs.length):(cs.take i++[v]++cs.drop (i+1))=cs.set i v:=by
 rw[List.set_eq_take_append_cons_drop,if_pos a];simp
theorem Bn {t:TypeId} {c:Nat} {z:Value} [tz:TZ P t 1 c z] {σ:Q2} {b i:Nat} {cs:List Value} {v:Value} (l:U6 σ w b cs) (k:i<cs.length) (j:v.cells= #[v]) (g:v.oneCell'=true)
 (h: ∀w',Upd w b w'->U6 σ w' b (cs.set i v)->K undef w'):M3 P t (.pointer (some ((⟨b,0,none⟩:Addr).add i))) v w K:=by
 obtain ⟨n,e,d⟩:=l;unfold M3;have a:(⟨b,0,none⟩:Addr).add i=⟨b,i,none⟩:=by unfold Addr.add;split<;>simp_all
 have:=run_storeCells_at P b i e [v] 0 cs.toArray w d (by simp;omega) (by simpa using g)
 simp only[Nat.add_zero] at this;obtain ⟨m,hh⟩:=Sq (cs:=(cs.set i v).toArray) d
 have f:(List.take i cs.toArray.toList++[v]++List.drop (i+[v].length) cs.toArray.toList).toArray=(cs.set i v).toArray:=by
  rw[<-X53 k];simp
 rw[f] at this;rw[Vw (w':=w.setRow b (cs.set i v).toArray) (by simp[Instr.storeAt,Instr.sureAddr,a,storeVar,O3 tz,j,this])]
 exact h _ m ⟨n,e,hh⟩
theorem st0 {t:TypeId} {a:Nat} {z:Value} [tz:TZ P t 1 a z] {σ:Q2} {b:Nat} {cs:List Value} {v:Value} (g:U6 σ w b cs) (f:0<cs.length) (d:v.cells= #[v]) (c:v.oneCell'=true)
 (h: ∀w',Upd w b w'->U6 σ w' b (cs.set 0 v)->K undef w'):M3 P t (.pointer (some ⟨b,0,none⟩)) v w K:=by
 have:=Bn (P:=P) (t:=t) g f d c h
 rwa [add_zero] at this
class NZ (n : Nat) : Prop where
  h : (n == 0) = false
instance (n:Nat):NZ (n+1):=⟨rfl⟩
theorem fa {t:TypeId} {k b:Nat} {d:TypeId} {sz c:Nat} {z:Value} [tf:TF P t k b d] [tz:TZ P d sz c z] [nz:NZ sz] {a:Addr}:fieldAddr P t (.pointer (some a)) k w K=K (.pointer (some (a.add b))) w:=by
 unfold fieldAddr;have hh:=tf.h;unfold Q5e at hh
 split at hh
 .rename_i o n
  obtain ⟨f,m,g⟩:=Option.map_eq_some_iff.1 hh;simp only[Prod.mk.injEq] at g;obtain ⟨j,l⟩:=g;subst l j;have i: ¬sz=0:=by simpa using nz.h
  exact Y3 (by simp[Instr.fieldAt,run_underlying n,m,Instr.sureAddr,fieldPlace,O3 tz,i])
 .cases hh
theorem Ix {t e:TypeId} {sz b:Nat} {z:Value} [ts:TS P t e] [tz:TZ P e sz b z] {a:Addr} {n c:Nat} {k:IntKind} {i:Int} (d:0<=i) (f:i<n):indexAddr P t (.slice (some a) n c) (.int k i) w K=K (.pointer (some (a.add (i.toNat*sz)))) w:=by
 unfold indexAddr;exact Y3 (by simp[Instr.indexAt,run_underlying ts.h,asIntOf,O3 tz,d,f])
theorem Q7t {t e:TypeId} {n sz b:Nat} {z:Value} [ta:TA P t n e] [tz:TZ P e sz b z] {a:Addr} {k:IntKind} {i:Int} (c:0<=i) (d:i<n):indexAddr P t (.pointer (some a)) (.int k i) w K=K (.pointer (some (a.add (i.toNat*sz)))) w:=by
 unfold indexAddr;exact Y3 (by simp[Instr.indexAt,run_underlying ta.h,asIntOf,Instr.sureAddr,O3 tz,c,d])
theorem E0 {a:Addr}:nilCheck P (.pointer (some a)) w K=K (.pointer (some a)) w:=by
 unfold nilCheck;rw[Zw];unfold Ye
 simp[execOp]
class Rep {α : Type} (R : Q2 -> α -> List Value -> Prop) : Prop where
  up : ∀ {σ σ' : Q2} {x : α} {cs : List Value}, (∀ b o, σ b = some o -> σ' b = some o) -> R σ x cs -> R σ' x cs
  one : ∀ {σ : Q2} {x : α} {cs : List Value}, R σ x cs -> ∀ u ∈ cs, u.oneCell' = true
def Sl {α:Type} (sz:Nat) (R:Q2->α->List Value->Prop) (σ:Q2) (v:Value) (xs:List α):Prop:=
 ∃a c,v= .slice a xs.length c/\xs.length<=c/\c<=maxLen/\(a=none->c=0)/\
  ∀b,a=some b->(0<xs.length->b.spot=none)/\ ∀i x,xs[i]? =some x-> ∃cs,J7 σ (b.add (i*sz)) cs/\cs.length=sz/\R σ x cs
theorem J7.le {σ σ':Q2} {a:Addr} {cs:List Value} (h:J7 σ a cs) (i: ∀b o,σ b=some o->σ' b=some o):J7 σ' a cs:=by
 obtain ⟨d,P7,e,c,f,g⟩:=h;exact ⟨d,P7,e,c,i _ _ f,g⟩
variable {α : Type} {R : Q2 -> α -> List Value -> Prop} {sz : Nat} {σ σ' : Q2} {v : Value} {xs : List α}
theorem Sl.le [hr:Rep R] (h:Sl sz R σ v xs) (g: ∀b o,σ b=some o->σ' b=some o):Sl sz R σ' v xs:=by
 obtain ⟨a,c,m,n,p,q,d⟩:=h;refine ⟨a,c,m,n,p,q,fun b f=>⟨(d b f).1,fun i x r=>?_⟩⟩;obtain ⟨cs,j,k,l⟩:=(d b f).2 i x r;exact ⟨cs,j.le g,k,hr.up g l⟩
theorem Sl.up [Rep R] (h:Sl sz R σ v xs) (a:Stp w σ w' σ'):Sl sz R σ' v xs:=h.le a.le
theorem Sl.max (h:Sl sz R σ v xs):xs.length<=9223372036854775807:=by
 obtain ⟨a,b,d,f,c,g⟩:=h;simp only[maxLen] at c;omega
theorem Sl.nil:Sl sz R σ (.slice none 0 0) ([]:List α):=⟨none,0,rfl,by simp,by simp,fun _=>rfl,fun b a=>by cases a⟩
theorem Q5j {c e t:TypeId} {cs:List Bool} [ts:TS P c e] {a:Option Addr} {n b:Nat}:V9 P .len [c] t cs [.slice a n b] w K=K (I n) w:=by
 have h:(Builtin.len_ #[c] t #[.slice a n b]).run P w= .ok (I n) w:=by
  simp[Builtin.len_,run_underlying ts.h,goInt]
 exact Y3 h
theorem X5Y {b e t:TypeId} {cs:List Bool} [ts:TS P b e] (h:Sl sz R σ v xs):V9 P .len [b] t cs [v] w K=K (I xs.length) w:=by
 obtain ⟨a,c,rfl,_⟩:=h;exact Q5j
theorem X6r {t e:TypeId} {c:Nat} {z:Value} [TS P t e] [TZ P e sz c z] (h:Sl sz R σ v xs) {k:IntKind} {i:Int} (l:0<=i) (m:i.toNat<xs.length)
 (p: ∀a cs,J7 σ a cs->cs.length=sz->R σ xs[i.toNat] cs->K (.pointer (some a)) w):indexAddr P t v (.int k i) w K:=by
 obtain ⟨a,d,rfl,q,r,n,o⟩:=h;cases a with
 | none=>have:=n rfl;omega
 | some b=>
  rw[Ix l Q4];obtain ⟨cs,f,g,j⟩:=(o b rfl).2 i.toNat xs[i.toNat] (by simp[m])
  exact p _ cs f g j
theorem Stp.turn {σ0 σ:Q2} {row:Option Nat} (b:w.grownBy w' row) (a:Stp w0 σ0 w σ) (f: ∀k,row=some k->w0.heap.size<=k/\σ k=none):Stp w0 σ0 w' σ:=by
 refine ⟨⟨b.os.trans a.bel.os,b.tape.trans a.bel.tape,b.output.trans a.bel.output,Nat.le_trans a.bel.size b.size,fun k d=>?_⟩,?_,a.le,a.old⟩
 .refine (b.block k (Nat.lt_of_lt_of_le d a.bel.size) ?_).trans (a.bel.block k d)
  intro e;have:=(f k e.symm).1;omega
 .intro k o c
  refine (b.block k (a.sat.lt c) ?_).trans (a.sat k o c);intro e;rw[(f k e.symm).2] at c;cases c
def W1 {α:Type} (B:Nat) (e:TypeId) (sz:Nat) (R:Q2->α->List Value->Prop) (σ:Q2) (w:World) (v:Value) (xs:List α):Prop:=
 ∃cells,w.ownsRow B e sz v xs.length cells/\(∀k,v.ownBlock=some k->σ k=none)/\ ∀i x,xs[i]? =some x->R σ x ((cells.drop (i*sz)).take sz)
variable {B : Nat} {e : TypeId} {u : Value} {ys : List α}
theorem W1.nil:W1 B e sz R σ w (.slice none 0 0) ([]:List α):=⟨[],World.ownsRow_nil w B e sz,by intro k a;simp[Value.ownBlock] at a,by intro i x h;simp at h⟩
theorem W1.mem (h:W1 B e sz R σ w v xs): ∀k,v.ownBlock=some k->B<=k/\k<w.heap.size/\σ k=none:=by
 obtain ⟨cells,d,f,_⟩:=h;intro k c;obtain ⟨a,b⟩:=d.lt k c;exact ⟨a,b,f k c⟩
theorem W1.up [hr:Rep R] (h:W1 B e sz R σ w v xs) (a:Stp w σ w' σ'):W1 B e sz R σ' w' v xs:=by
 obtain ⟨cells,c,d,f⟩:=h;refine ⟨cells,c.kept ⟨a.bel.os,a.bel.tape,a.bel.output,a.bel.size,fun k g _=>a.bel.block k g⟩ (by cases b:v.ownBlock<;>simp) (row:=none),?_,fun i x j=>hr.up a.le (f i x j)⟩
 intro k b;rw[a.old k (c.lt k b).2];exact d k b
theorem Sl.cells (h:Sl sz R σ v xs) (D:X1 w σ) [hr:Rep R]: ∃(a:Option Addr) (c:Nat) (news:List Value),v= .slice a xs.length c/\(a=none->c=0)/\news.length=xs.length*sz/\(∀b,a=some b-> ∀j u,news[j]? =some u->w.cell? (b.add j)=some u)/\(∀u∈news,u.oneCell'=true)/\
 ∀i x,xs[i]? =some x->R σ x ((news.drop (i*sz)).take sz):=by
 obtain ⟨a,c,rfl,M,N,f,t⟩:=h;cases a with
 | none=>
  have L:=f rfl;have d:xs=[]:=List.eq_nil_of_length_eq_zero Q4;subst d;exact ⟨none,c,[],rfl,f,by simp,fun b C=>(by cases C),by simp,by simp⟩
 | some b=>
  obtain ⟨E,l⟩:=t b rfl;clear t
  have key: ∀(ys:List α) (k:Nat),(∀i x,ys[i]? =some x-> ∃cs,J7 σ (b.add ((k+i)*sz)) cs/\cs.length=sz/\R σ x cs)->
   ∃news:List Value,news.length=ys.length*sz/\(∀j u,news[j]? =some u->w.cell? (b.add (k*sz+j))=some u)/\(∀u∈news,u.oneCell'=true)/\ ∀i x,ys[i]? =some x->R σ x ((news.drop (i*sz)).take sz):=by
   intro ys
   induction ys with
   | nil=>intro k _;exact ⟨[],by simp,by simp,by simp,by simp⟩
   | cons y r H=>
    intro k z;obtain ⟨cs,A,q,s⟩:=z 0 y rfl
    obtain ⟨news,m,n,o,p⟩:=H (k+1) (fun i x d=>by
     have:=z (i+1) x (by simpa using d)
     rwa [show k+1+i=k+(i+1) by omega])
    refine ⟨cs++news,by simp[m,q,Nat.add_mul,Nat.add_comm],?_,?_,?_⟩
    .intro j u hu
     by_cases O:j<sz
     .rw[List.getElem?_append_left Q4] at hu
      have:=A.cell D hu
      rwa [Q9g,Nat.add_zero] at this
     .rw[List.getElem?_append_right Q4] at hu
      have:=n _ _ hu
      rwa [q,show (k+1)*sz+(j-sz)=k*sz+j by rw[Nat.add_mul];omega] at this
    .intro u hu
     rcases List.mem_append.1 hu with hu | hu
     .exact hr.one s u hu
     .exact o u hu
    .intro i x d
     cases i with
     | zero=>
      simp at d;subst d
      simp only[Nat.zero_mul,List.drop_zero];rw[List.take_append_of_le_length Q4,List.take_of_length_le Q4];exact s
     | succ i=>
      have:=p i x (by simpa using d)
      rw[show (i+1)*sz=cs.length+i*sz by rw[Nat.add_mul];omega,List.drop_append]
      simpa [List.drop_eq_nil_of_le] using this
  obtain ⟨news,m,n,o,p⟩:=key xs 0 (fun i x d=>by rw[Nat.zero_add];exact l i x d)
  refine ⟨some b,c,news,rfl,f,m,?_,o,p⟩;intro J g j u hu;cases g;have:=n j u hu
  rwa [Nat.zero_mul,Nat.zero_add] at this
variable {σ0 : Q2}
theorem Cc (cells news:List Value) (n i:Nat) (b:cells.length=n*sz) (a:i<n):((cells++news).drop (i*sz)).take sz=(cells.drop (i*sz)).take sz:=by
 have h:i*sz+sz<=n*sz:=by rw[<-Nat.succ_mul];exact Nat.mul_le_mul_right _ a
 rw[List.drop_append_of_le_length Q4,List.take_append_of_le_length (by simp only[List.length_drop];omega)]
theorem app {t y:TypeId} {n:Nat} {z:Value} {cs:List Bool} [ts:TS P t e] [tz:TZ P e sz n z] [hr:Rep R] (A:Stp w0 σ0 w σ) (ha:W1 w0.heap.size e sz R σ w v xs) (U:Sl sz R σ u ys) (M:(z.cells.size==sz&&decide (0<sz))=true)
 (hb:(xs.length+ys.length)*n<=140737488355328) (hm:xs.length+ys.length<=9223372036854775807)
 (h: ∀d w',w.grownBy w' v.ownBlock->Stp w0 σ0 w' σ->W1 w0.heap.size e sz R σ w' d (xs++ys)->(d.ownBlock=v.ownBlock\/ ∀k,d.ownBlock=some k->w.heap.size<=k)->K d w'):V9 P .append [t,t] y cs [v,u] w K:=by
 obtain ⟨cells,r,O,h3⟩:=ha;obtain ⟨a,f,news,rfl,V,W,n3,n4,n5⟩:=U.cells A.sat;obtain ⟨i,H,L,D,q⟩:=tz.info
 have o: ∀d w',(Builtin.append_ #[t,t] y #[v, .slice a ys.length f]).run P w= .ok d w'->w'.ownsRow w0.heap.size e sz d (xs.length+ys.length) (cells++news)->w.grownBy w' v.ownBlock->(d.ownBlock=v.ownBlock\/d.ownBlock=some w.heap.size)->V9 P .append [t,t] y cs [v, .slice a ys.length f] w K:=by
  intro d w' s c l hat
  have p:(builtin .append #[t,t] y cs.toArray #[v, .slice a ys.length f]).run P w= .ok (.value d) w':=by
   simp[builtin,s]
  unfold V9;rw[Zw];unfold Ye;rw[p];refine h d w' l (Stp.turn l A fun k m=>⟨(r.lt k m).1,O k m⟩) ⟨cells++news,by rw[List.length_append];exact c,?_,?_⟩ ?_
  .intro k m
   rcases hat with hat | hat
   .exact O k (hat▸m)
   .rw[hat] at m;cases m;exact A.sat.none (Nat.le_refl _)
  .intro j x C
   by_cases Q:j<xs.length
   .rw[List.getElem?_append_left Q] at C
    rw[Cc cells news xs.length j r.1 Q];exact h3 j x C
   .rw[List.getElem?_append_right Q4] at C
    have:=n5 _ _ C;rw[show j*sz=cells.length+(j-xs.length)*sz by rw[r.1,<-Nat.add_mul];congr 1;omega,List.drop_append]
    simpa [List.drop_eq_nil_of_le] using this
  .rcases hat with hat | hat
   .exact .inl hat
   .right;intro k m;rw[hat] at m;cases m;exact Nat.le_refl _
 simp only[Bool.and_eq_true,beq_iff_eq,decide_eq_true_eq] at M;cases a with
 | some b=>
  obtain ⟨d,w',g1,g2,g3,_,g5⟩:=run_append_own_at (P:=P) w w0.heap.size t y e i z sz n ts.h H q L D M.1 M.2 v xs.length cells r b ys.length f news W (n3 b rfl) n4 (by simp only[maxLen];omega) hb A.bel.size
  exact o d w' g1 g2 g3 g5
 | none=>
  have hy:ys=[]:=List.eq_nil_of_length_eq_zero (by obtain ⟨a',N,Y,q1,_,q3,_⟩:=U;injection Y with _ e2 Z;have:=V rfl;subst Z;omega)
  have E:=V rfl;subst hy E;have hn:news=[]:=List.eq_nil_of_length_eq_zero (by simpa using W)
  subst hn;have c:=r
  rcases r.2 with ⟨rfl,h0⟩ | ⟨g,f,X,rfl,ah,hg,J,_⟩
  .refine o (.slice none 0 0) w ?_ (by simpa using c) (World.grownBy.refl w _) (.inl rfl)
   simp[Builtin.append_,run_underlying ts.h,sizeOf,typeInfo,H,Builtin.lenOf,Builtin.firstCells]
  .refine o _ w ?_ (by simpa using c) (World.grownBy.refl w _) (.inl rfl)
   simp[Builtin.append_,run_underlying ts.h,sizeOf,typeInfo,H,Builtin.lenOf,Builtin.firstCells,J,storeCells]
theorem Q2.put_le {w:World} (d:X1 w σ) {b:Nat} (h:σ b=none) (o:Obj): ∀k p,σ k=some p->(σ.put b o) k=some p:=by
 intro k p c
 by_cases a:k=b
 .subst a;rw[h] at c;cases c
 .simp only[Q2.put,if_neg a];exact c
theorem Stp.put {b:Nat} {o:Obj} (c:Stp w0 σ0 w σ) (g:σ b=none) (h:w0.heap.size<=b) (f:w.heap[b]? =some o):Stp w0 σ0 w (σ.put b o):=by
 refine ⟨c.bel,?_,fun k p a=>Q2.put_le c.sat g o k p (c.le k p a),?_⟩
 .intro k p a
  by_cases d:k=b
  .subst d;simp only[Q2.put,if_true] at a;cases a;exact f
  .simp only[Q2.put,if_neg d] at a;exact c.sat k p a
 .intro k a
  simp only[Q2.put];rw[if_neg Q4];exact c.old k a
theorem W1.keep [hr:Rep R] (h:W1 w0.heap.size e sz R σ w v xs) (m:Stp w0 σ0 w σ): ∃σ',Stp w0 σ0 w σ'/\Sl sz R σ' v xs/\(∀k o,σ k=some o->σ' k=some o)/\(∀k,some k≠v.ownBlock->σ' k=σ k):=by
 obtain ⟨cells,r,z,A⟩:=h
 rcases r.2 with ⟨rfl,y⟩ | ⟨g,l,c,rfl,C,D,p,f,J,q⟩
 .have:xs=[]:=List.eq_nil_of_length_eq_zero y
  subst this;exact ⟨σ,m,Sl.nil,fun _ _ h=>h,fun _ _=>rfl⟩
 .have t:=z g rfl
  have a:=Q2.put_le m.sat t (.cells c e (0,0));refine ⟨σ.put g (.cells c e (0,0)),m.put t C D,⟨_,l,rfl,p,f,by simp,?_⟩,a,?_⟩
  .intro b n
   cases n;refine ⟨fun _=>rfl,fun i x s=>⟨(cells.drop (i*sz)).take sz,⟨Qf rfl _,c,e,(0,0),by rw[P6];simp[Q2.put],?_⟩,?_,hr.up a (A i x s)⟩⟩
   .intro j u d
    rw[Vm];rw[List.getElem?_take] at d
    split at d
    .rw[List.getElem?_drop,<-q,List.getElem?_take] at d
     split at d
     .simpa using d
     .cases d
    .cases d
   .have E:i<xs.length:=(List.getElem?_eq_some_iff.1 s).1
    have h:i*sz+sz<=xs.length*sz:=by rw[<-Nat.succ_mul];exact Nat.mul_le_mul_right _ E
    rw[List.length_take,List.length_drop,r.1];omega
  .intro k H
   have:k≠g:=by intro e;subst e;exact H rfl
   simp only[Q2.put,if_neg this]
theorem Sl.piece {a:Option Addr} {n d:Nat} (h:Sl sz R σ (.slice a n d) xs) (l m:Nat) (O:l+m<=xs.length):Sl sz R σ (.slice (if d=l then a else a.map (·.add (l*sz))) m (d-l)) ((xs.drop l).take m):=by
 obtain ⟨L,j,H,M,N,D,k⟩:=h
 injection H with s t y
 subst s t y;have c:((xs.drop l).take m).length=m:=by simp;omega
 refine ⟨_,d-l,by rw[c],by rw[c];omega,by omega,?_,?_⟩
 .intro o
  split at o
  .omega
  .cases a with
   | none=>have:=D rfl;omega
   | some b=>simp at o
 .intro b f
  split at f
  .rename_i E
   obtain ⟨p,q⟩:=k b f;have J:m=0:=by omega
   subst J;exact ⟨fun h=>by simp at h,by simp⟩
  .cases a with
   | none=>simp at f
   | some r=>
    simp only[Option.map_some,Option.some.injEq] at f;obtain ⟨p,q⟩:=k r rfl;subst f;refine ⟨fun h=>Qf (p (by rw[c] at h;omega)) _,fun i x g=>?_⟩
    rw[List.getElem?_take] at g
    split at g
    .rw[List.getElem?_drop] at g
     obtain ⟨cs,z,A,C⟩:=q _ _ g;refine ⟨cs,?_,A,C⟩;rw[Q9g,<-Nat.add_mul];exact z
    .cases g
theorem Ky {t:TypeId} {f:Nat} {z:Value} [ts:TS P t e] [tz:TZ P e sz f z] (h:Sl sz R σ v xs) (d c:Option Value) (l m:Nat) (j:d=none/\l=0\/d=some (I l)) (g:c=none/\m=xs.length\/c=some (I m)) (i:l<=m) (D:m<=xs.length)
 (p: ∀k,Sl sz R σ k ((xs.drop l).take (m-l))->K k w):I9 P t v d c none w K:=by
 have o:=h;obtain ⟨a,b,rfl,s,y,A,C⟩:=h
 have hh: ∀w:World,(Instr.sliceBounds true xs.length b d c none).run P w= .ok (l,m,b) w:=by
  intro w;have q:(m:Int)<=b:=by omega
  have r:(l:Int)<=m:=by omega
  have n:m<=b:=by omega
  rcases j with ⟨rfl,rfl⟩ | rfl<;>rcases g with ⟨rfl,rfl⟩ | rfl<;>
   simp[Instr.sliceBounds,Instr.sliceBound,asIntOf,n,i]<;>intros<;>omega
 unfold I9
 have:(Instr.sliceAt t (.slice a xs.length b) d c none).run P w= .ok (.slice (if b=l then a else a.map (·.add (l*sz))) (m-l) (b-l)) w:=by
  simp[Instr.sliceAt,run_underlying ts.h,Instr.slice,hh,O3 tz]
 rw[Y3 this];exact p _ (o.piece l (m-l) Q4)
def en:Nat->List Value->List (Nat×Value)
 | _,[]=>[]
 | i,v::r=>(i,v)::en (i+1) r
theorem X1D (off:Nat): ∀(vs:List Value) (k:Nat) (cs:Array Value),off+k+vs.length<=cs.size->
 ((vs.zipIdx k).foldl (fun cs (p:Value×Nat)=>cs.setIfInBounds (off+p.2) p.1) cs).toList=cs.toList.take (off+k)++vs++cs.toList.drop (off+k+vs.length):=by
 intro vs
 induction vs with
 | nil=>intro k cs _;simp
 | cons v r ih=>
  intro k cs h;simp only[List.length_cons] at h;rw[List.zipIdx_cons,List.foldl_cons,ih (k+1) _ (by simp;omega)]
  simp only[Array.toList_setIfInBounds,List.length_cons];apply List.ext_getElem?;intro i;simp only[List.getElem?_append,List.length_take,List.length_set,Array.length_toList,List.getElem?_take,List.getElem?_drop,List.length_append,List.getElem?_set,List.length_cons]
  rcases Nat.lt_trichotomy i (off+k) with hi | hi | hi
  .simp[show i<off+(k+1) by omega,hi,show i<min (off+(k+1)) cs.size by omega,show i<min (off+(k+1)) cs.size+r.length by omega,show i<min (off+k) cs.size by omega,show i<min (off+k) cs.size+(r.length+1) by omega,show off+k≠i by omega]
  .subst hi
   simp[show off+k<off+(k+1) by omega,show off+k<min (off+(k+1)) cs.size by omega,show off+k<min (off+(k+1)) cs.size+r.length by omega,show¬off+k<min (off+k) cs.size by omega,show off+k<min (off+k) cs.size+(r.length+1) by omega,show off+k<cs.size by omega,show off+k-min (off+k) cs.size=0 by omega]
  .by_cases h2:i<off+(k+1)+r.length
   .simp[show¬i<min (off+(k+1)) cs.size by omega,show i<min (off+(k+1)) cs.size+r.length by omega,show¬i<min (off+k) cs.size by omega,show i<min (off+k) cs.size+(r.length+1) by omega,show i-min (off+k) cs.size=(i-min (off+(k+1)) cs.size)+1 by omega]
   .simp only[show¬i<min (off+(k+1)) cs.size+r.length by omega,show¬i<min (off+k) cs.size+(r.length+1) by omega,if_false]
    rw[show off+(k+1)+r.length+(i-(min (off+(k+1)) cs.size+r.length))=i by omega,show off+k+(r.length+1)+(i-(min (off+k) cs.size+(r.length+1)))=i by omega,if_neg Q4]
theorem Q9s (sz:Nat): ∀(vs:List Value) (i:Nat) (cs:Array Value),(i+vs.length)*sz<=cs.size->(∀v∈vs,v.cells.size=sz)->
 ∃cs',Instr.fill (fun i=>some (i*sz,sz)) cs (en i vs)=some cs'/\cs'.toList=cs.toList.take (i*sz)++vs.flatMap (·.cells.toList)++cs.toList.drop ((i+vs.length)*sz):=by
 intro vs
 induction vs with
 | nil=>intro i cs _ _;exact ⟨cs,rfl,by simp⟩
 | cons v r ih=>
  intro i cs h hv;have hv0:=hv v U5;simp only[List.length_cons] at h
  have h1:i*sz+sz<=cs.size:=by
   have:(i+1)*sz<=(i+(r.length+1))*sz:=Nat.mul_le_mul_right _ Q4;rw[Nat.succ_mul] at this;omega
  have hset:=X1D (i*sz) v.cells.toList 0 cs (by simp;omega)
  simp only[Nat.add_zero] at hset
  have e1:v.cells.zipIdx.foldl (fun cs (p:Value×Nat)=>cs.setIfInBounds (i*sz+p.2) p.1) cs=(v.cells.toList.zipIdx 0).foldl (fun cs (p:Value×Nat)=>cs.setIfInBounds (i*sz+p.2) p.1) cs:=by
   rw[<-Array.foldl_toList,Array.toList_zipIdx]
  have hsz':((v.cells.toList.zipIdx 0).foldl (fun cs (p:Value×Nat)=>cs.setIfInBounds (i*sz+p.2) p.1) cs).size=cs.size:=by
   rw[<-Array.length_toList,hset]
   simp;omega
  obtain ⟨cs',q1,q2⟩:=ih (i+1) _ (by rw[hsz'];rw[show i+1+r.length=i+(r.length+1) by omega];exact h) (fun u hu=>hv u (by simp[hu]))
  refine ⟨cs',?_,?_⟩
  .simp only[en,Instr.fill]
   rw[if_neg (by simp[hv0];omega)]
   rw[e1];exact q1
  .rw[q2,hset]
   simp only[List.flatMap_cons,List.length_cons,Array.length_toList,hv0];have e2:(i+1)*sz=i*sz+sz:=by rw[Nat.succ_mul]
   have e3:(i+(r.length+1))*sz=i*sz+sz+r.length*sz:=by rw[Nat.add_mul,Nat.succ_mul];omega
   have e4:(i+1+r.length)*sz=i*sz+sz+r.length*sz:=by rw[Nat.add_mul,Nat.succ_mul]
   rw[e2,e3,e4];have t1:(cs.toList.take (i*sz)).length=i*sz:=by simp;omega
   have t2:(cs.toList.take (i*sz)++v.cells.toList).length=i*sz+sz:=by rw[List.length_append,t1];simp[hv0]
   have k1: ∀C:List Value,(cs.toList.take (i*sz)++v.cells.toList++C).take (i*sz+sz)=cs.toList.take (i*sz)++v.cells.toList:=by
    intro C;rw[List.take_append_of_le_length Q4,List.take_of_length_le Q4]
   have k2: ∀(C:List Value) (n:Nat),(cs.toList.take (i*sz)++v.cells.toList++C).drop (i*sz+sz+n)=C.drop n:=by
    intro C n;rw[List.drop_append,t2,List.drop_eq_nil_of_le Q4,List.nil_append]
    congr 1;omega
   rw[k1,k2,List.drop_drop];simp only[List.append_assoc]
theorem Sa {t:TypeId} {by_:Nat} {z:Value} [ts:TS P t e] [tz:TZ P e sz by_ z] (vs:List Value) (hv: ∀v∈vs,v.cells.size=sz) (hsm:vs.length*sz<=16777216) (w:World):
 ∃cells:Array Value,(Instr.buildSlice t vs.length (en 0 vs).toArray).run P w= .ok (.slice (some ⟨w.heap.size,0,none⟩) vs.length vs.length) (w.alloc (.cells cells e))/\cells.toList=vs.flatMap (·.cells.toList):=by
 have h2: ¬vs.length*sz>2 ^ 24:=by omega
 by_cases h:vs.length*sz=0
 .obtain ⟨cells,hf,hl⟩:=Q9s sz vs 0 ((Array.range (vs.length*sz)).map ((#[]:Array Value)[· % (#[]:Array Value).size]!)) U5 hv
  refine ⟨cells,?_,by rw[hl];simp⟩
  simp only[Instr.buildSlice,Sem.run_bind,run_underlying ts.h,Result.andThen_ok,O3 tz,if_neg h2,if_pos h,Sem.run_pure,hf]
  simp[newRow]
 .obtain ⟨cells,hf,hl⟩:=Q9s sz vs 0 ((Array.range (vs.length*sz)).map (z.cells[· % z.cells.size]!)) U5 hv
  refine ⟨cells,?_,by rw[hl];simp⟩
  simp only[Instr.buildSlice,Sem.run_bind,run_underlying ts.h,Result.andThen_ok,O3 tz,if_neg h2,if_neg h,Sem.run_pure,Qb tz,hf]
  simp[newRow]
theorem X0c {vs:List Value} (d: ∀v∈vs,v.cells.size=sz) (i:Nat) (v:Value) (h:vs[i]? =some v):((vs.flatMap (·.cells.toList)).drop (i*sz)).take sz=v.cells.toList:=by
 induction vs generalizing i with
 | nil=>simp at h
 | cons a r f=>
  have b:=d a U5;cases i with
  | zero=>
   simp at h;subst h
   rw[List.flatMap_cons,Nat.zero_mul,List.drop_zero,List.take_append_of_le_length (by simp[b]),List.take_of_length_le (by simp[b])]
  | succ i=>
   rw[List.flatMap_cons,Nat.succ_mul,List.drop_append,List.drop_eq_nil_of_le (by simp[b]),List.nil_append]
   rw[show i*sz+sz-a.cells.toList.length=i*sz by simp[b]]
   exact f (fun v c=>d v (by simp[c])) i (by simpa using h)
theorem Q3z {vs:List Value} (b: ∀v∈vs,v.cells.size=sz):(vs.flatMap (·.cells.toList)).length=vs.length*sz:=by
 induction vs with
 | nil=>simp
 | cons a r c=>
  rw[List.flatMap_cons,List.length_append,c (fun v h=>b v (by simp[h]))]
  simp[b a U5,Nat.succ_mul,Nat.add_comm]
def Q0Z (R:Q2->α->List Value->Prop) (σ:Q2):List Value->List α->Prop
 | [],[]=>True
 | v::vs,x::xs=>R σ x v.cells.toList/\Q0Z R σ vs xs
 | _,_=>False
theorem Q0Z.len {vs:List Value} (h:Q0Z R σ vs xs):vs.length=xs.length:=by
 induction vs generalizing xs with
 | nil=>cases xs with
  | nil=>rfl
  | cons=>exact h.elim
 | cons v r a=>cases xs with
  | nil=>exact h.elim
  | cons x y=>simp[a h.2]
theorem Q0Z.get {vs:List Value} (h:Q0Z R σ vs xs) {i:Nat} {x:α} (a:xs[i]? =some x): ∃v,vs[i]? =some v/\R σ x v.cells.toList:=by
 induction vs generalizing xs i with
 | nil=>cases xs with
  | nil=>simp at a
  | cons=>exact h.elim
 | cons v r b=>cases xs with
  | nil=>exact h.elim
  | cons y ys=>
   cases i with
   | zero=>simp at a;subst a;exact ⟨v,rfl,h.1⟩
   | succ i=>obtain ⟨u,c,d⟩:=b h.2 (i:=i) (by simpa using a);exact ⟨u,by simpa using c,d⟩
theorem Yh {t:TypeId} {g:Nat} {z:Value} {n:Nat} {a:List (Nat×Value)} [ts:TS P t e] [tz:TZ P e sz g z] (j:Stp w0 σ0 w σ) (vs:List Value) (xs:List α) (q:n=vs.length) (r:a=en 0 vs) (c: ∀v∈vs,v.cells.size=sz) (b:(decide (0<sz)&&decide (vs.length*sz<=16777216))=true) (o:Q0Z R σ vs xs)
 (h: ∀v w',Stp w σ w' σ->W1 w0.heap.size e sz R σ w' v xs->(∀k,v.ownBlock=some k->w.heap.size<=k)->K v w'):buildSlice P t n a w K:=by
 subst q r;simp only[Bool.and_eq_true,decide_eq_true_eq] at b;obtain ⟨m,b⟩:=b;obtain ⟨cells,p,d⟩:=Sa (P:=P) (t:=t) vs c b w;unfold buildSlice;rw[Y3 p];have f:=o.len;refine h _ _ (Stp.own j.sat _) ⟨cells.toList,⟨by rw[d,Q3z c,f], .inr ⟨_,_,cells,by rw[f],j.bel.size,heap_alloc_new w _,by omega,?_,?_,?_⟩⟩,?_,?_⟩ ?_
 .simp only[maxLen]
  have:vs.length*1<=vs.length*sz:=Nat.mul_le_mul_left _ m;omega
 .rw[<-Array.length_toList,d,Q3z c,f]
 .rw[List.take_of_length_le (by rw[d,Q3z c,f];exact Nat.le_refl _)]
 .intro k l;cases l;exact j.sat.none (Nat.le_refl _)
 .intro i x s
  obtain ⟨v,y,A⟩:=o.get s;rw[d,X0c c i v y];exact A
 .intro k l;cases l;exact Nat.le_refl _
theorem H0 [Rep R] {t:TypeId} {b:Nat} {z:Value} {n:Nat} {a:List (Nat×Value)} [ts:TS P t e] [tz:TZ P e sz b z] (m:X1 w σ) (vs:List Value) (xs:List α) (k:n=vs.length) (l:a=en 0 vs) (o: ∀v∈vs,v.cells.size=sz) (c:(decide (0<sz)&&decide (vs.length*sz<=16777216))=true) (i:Q0Z R σ vs xs)
 (h: ∀v w' σ',Stp w σ w' σ'->Sl sz R σ' v xs->K v w'):buildSlice P t n a w K:=by
 refine Yh (Stp.refl m) vs xs k l o c i fun v w' j g _=>?_;obtain ⟨σ',d,f,_⟩:=g.keep j;exact h v w' σ' d f
theorem X4B {t:TypeId} {k a:Nat} {b:TypeId} [tf:TF P t k a b] [tg:TG P b false] {cs:Array Value} {v:Value} (l:cs[a]? =some v):Nk P t (.agg cs) k w K=K v w:=by
 unfold Nk;have hh:=tf.h;unfold Q5e at hh
 split at hh
 .rename_i m j
  obtain ⟨f,i,c⟩:=Option.map_eq_some_iff.1 hh;simp only[Prod.mk.injEq] at c;obtain ⟨d,g⟩:=c;subst g d;exact Y3 (by simp[Instr.field,run_underlying j,i,asAgg,part,Yz tg,l])
 .cases hh
theorem Yq {f:Fn} {first caps:List Value}:O8 P f first caps w K=K (.func f first.toArray caps.toArray) w:=Y3 (by simp[Instr.makeFunc])
theorem W2 {t:TypeId} {a:List (Nat×Value)} {cells:Array Value} (h:P.built t a=some cells) (b:K (.agg cells) w):D7 P t a w K:=by
 unfold D7;rw[Y3 (run_build w t a.toArray cells h)];exact b
def E9 (o:Option Obj) (m:List (List UInt8×Value)):Prop:=
 ∃b a,o=some (.map b a)/\b.toList.map (fun e=>(e.key,e.val))=m.map (fun p=>(S p.1,p.2))/\(b.toList.map (·.born)).Pairwise (· < ·)/\ ∀e∈b.toList,e.born<a
def B6 (m:List (List UInt8×Value)) (k:List UInt8):Option Value:=match m with
 | []=>none
 | p::r=>if p.1=k then some p.2 else B6 r k
def putS (m:List (List UInt8×Value)) (k:List UInt8) (v:Value):List (List UInt8×Value):=match m with
 | []=>[(k,v)]
 | p::r=>if p.1=k then (k,v)::r else p::putS r k v
theorem Hp (a b:List UInt8):((⟨a.toArray⟩:ByteArray)==⟨b.toArray⟩)=decide (a=b):=by
 rw[<-Q4V]
 show (a.toArray==b.toArray)=_
 simp
theorem Fh (k:List UInt8): ∀(c:List MapEntry) (m:List (List UInt8×Value)) (i:Nat),c.map (fun e=>(e.key,e.val))=m.map (fun p=>(S p.1,p.2))->
 ∃r,Instr.findNow .string (S k) c i=some r/\r.map (·.2)=B6 m k/\(∀j v,r=some (j,v)->i<=j/\(∃e,c[j-i]? =some e/\e.key=S k)/\ ∀u,(c.modify (j-i) fun e=>{e with key:=S k,val:=u}).map (fun e=>(e.key,e.val))=(putS m k u).map (fun p=>(S p.1,p.2)))/\
  (r=none-> ∀u,putS m k u=m++[(k,u)]):=by
 intro c
 induction c with
 | nil=>
  intro m i h;cases m with
  | nil=>exact ⟨none,rfl,rfl,U5,fun _ u=>rfl⟩
  | cons=>simp at h
 | cons e r o=>
  intro m i h;cases m with
  | nil=>simp at h
  | cons p q=>
   simp only[List.map_cons,List.cons.injEq,Prod.mk.injEq] at h;obtain ⟨⟨d,g⟩,l⟩:=h;simp only[Instr.findNow,d,Instr.sameNow,Hp]
   by_cases a:p.1=k
   .have f:decide (k=p.1)=true:=by simp[a]
    simp only[f];refine ⟨_,rfl,by simp[B6,a,g],?_,by simp⟩
    intro j v b;cases b;refine ⟨Nat.le_refl _,⟨e,by simp,by rw[d,a]⟩,fun u=>?_⟩
    simp[putS,a,l]
   .have f:decide (k=p.1)=false:=by simp;exact fun e=>a e.symm
    simp only[f];obtain ⟨A,s,t,y,z⟩:=o q (i+1) l;refine ⟨A,s,by simp[B6,a,t],?_,?_⟩
    .intro j v b
     obtain ⟨E,C,D⟩:=y j v b;refine ⟨by omega,by rw[show j-i=(j-(i+1))+1 by omega];simpa using C,fun u=>?_⟩
     have:=D u;rw[show j-i=(j-(i+1))+1 by omega]
     simp[putS,a,d,g,this]
    .intro n u
     simp[putS,a,z n u]
theorem P2 {t:TypeId} (a:P.underlying t=some .string) (b:Bool) (k:List UInt8) (w:World):(Instr.checkKey b 10000 t (S k)).run P w= .ok () w:=by
 unfold Instr.checkKey
 simp[run_underlying a]
theorem Q3E {t i g:TypeId} {sz d:Nat} {z:Value} [tm:TM P t i g] [tz:TZ P g sz d z] (b:P.underlying i=some .string) {r:Nat} {m:List (List UInt8×Value)} (q:E9 (w.heap[r]?) m) (k:List UInt8):
 lookup P t (.map (some r)) (S k) true w K=K (match B6 m k with | some v=> .tuple #[v, .bool true] | none=> .tuple #[z, .bool false]) w:=by
 obtain ⟨f,a,l,n,y,A⟩:=q;obtain ⟨s,j,c,C,D⟩:=Fh k f.toList m 0 n;unfold lookup;refine Y3 ?_;simp only[Instr.lookup,Sem.run_bind,run_underlying tm.h,Result.andThen_ok,Instr.findKey,run_underlying b,j,P2 b];have o:(getObj r).run P w= .ok (.map f a) w:=by simp[getObj,Sem.run,l]
 simp only[o,Result.andThen_ok,Sem.run_bind,Sem.run_pure,P2 b,run_underlying b,j];cases s with
 | none=>simp at c;rw[<-c];simp[Qb tz]
 | some p=>simp at c;rw[<-c];simp
theorem Q65 {t i f:TypeId} {sz c:Nat} {z:Value} [tm:TM P t i f] [tz:TZ P f sz c z] (g:P.underlying i=some .string) {r:Nat} {m:List (List UInt8×Value)} (o:E9 (w.heap[r]?) m) (k:List UInt8):
 lookup P t (.map (some r)) (S k) false w K=K ((B6 m k).getD z) w:=by
 obtain ⟨d,a,j,l,y,A⟩:=o;obtain ⟨s,q,b,C,D⟩:=Fh k d.toList m 0 l;unfold lookup;refine Y3 ?_;have n:(getObj r).run P w= .ok (.map d a) w:=by simp[getObj,Sem.run,j]
 simp only[Instr.lookup,Sem.run_bind,run_underlying tm.h,Result.andThen_ok,Instr.findKey,run_underlying g,q,P2 g,n,Sem.run_pure];cases s with
 | none=>simp at b;rw[<-b];simp[Qb tz]
 | some p=>simp at b;rw[<-b];simp
def B4 (σ:Q2) (w:World) (r:Nat) (m:List (List UInt8×Value)):Prop:=σ r=none/\E9 (w.heap[r]?) m
def Yb (σ:Q2) (r:Nat) (m:List (List UInt8×Value)):Prop:=E9 (σ r) m
theorem Yb.is {σ:Q2} {r:Nat} {m:List (List UInt8×Value)} (h:Yb σ r m) (f:X1 w σ):E9 (w.heap[r]?) m:=by
 obtain ⟨b,a,c,d⟩:=h;exact ⟨b,a,f _ _ c,d⟩
theorem Yb.le {σ σ':Q2} {r:Nat} {m:List (List UInt8×Value)} (h:Yb σ r m) (g: ∀b o,σ b=some o->σ' b=some o):Yb σ' r m:=by
 obtain ⟨c,a,d,f⟩:=h;exact ⟨c,a,g _ _ d,f⟩
theorem Yb.up {σ σ':Q2} {r:Nat} {m:List (List UInt8×Value)} (h:Yb σ r m) (a:Stp w σ w' σ'):Yb σ' r m:=h.le a.le
theorem B4.lt {σ:Q2} {r:Nat} {m:List (List UInt8×Value)} (h:B4 σ w r m):r<w.heap.size:=by
 obtain ⟨_,c,a,b,_⟩:=h;exact (Array.getElem?_eq_some_iff.1 b).1
theorem B4.up {σ σ':Q2} {r:Nat} {m:List (List UInt8×Value)} (h:B4 σ w r m) (a:Stp w σ w' σ'):B4 σ' w' r m:=by
 have b:=h.lt;exact ⟨(a.old r b).trans h.1,(a.bel.block r b).symm▸h.2⟩
theorem Q4q {t:TypeId} {σ:Q2} (a:X1 w σ) (h: ∀r w',w.heap.size<=r->Stp w σ w' σ->B4 σ w' r []->K (.map (some r)) w'):Oz P t none w K:=by
 unfold Oz;rw[Y3 (v:= .map (some w.heap.size)) (w':=w.alloc (.map #[] 0)) (by simp[Instr.makeMap])]
 exact h _ _ (Nat.le_refl _) (Stp.own a _) ⟨a.none (Nat.le_refl _), #[],0,heap_alloc_new w _,rfl,by simp,by simp⟩
theorem B4.keep {σ σ0:Q2} {r:Nat} {m:List (List UInt8×Value)} (h:B4 σ w r m) (d:Stp w0 σ0 w σ) (i:w0.heap.size<=r): ∃σ',Stp w0 σ0 w σ'/\Yb σ' r m/\(∀k o,σ k=some o->σ' k=some o)/\(∀k,k≠r->σ' k=σ k):=by
 obtain ⟨c,b,a,f,g⟩:=h;exact ⟨σ.put r (.map b a),d.put c i f,⟨b,a,by simp[Q2.put],g⟩,Q2.put_le d.sat c _,fun k j=>by simp only[Q2.put,if_neg j]⟩
theorem Pv {t U Y:TypeId} [tm:TM P t U Y] (A:P.underlying U=some .string) {σ:Q2} {r:Nat} {m:List (List UInt8×Value)} (hm:B4 σ w r m) (k:List UInt8) (v:Value)
 (h: ∀w',Upd w r w'->B4 σ w' r (putS m k v)->K undef w'):mapUpdate P t (.map (some r)) (S k) v w K:=by
 obtain ⟨L,l,d,D,M,N,E⟩:=hm;obtain ⟨r',V,q2,q3,q4⟩:=Fh k l.toList m 0 M;have Q:(getObj r).run P w= .ok (.map l d) w:=by simp[getObj,Sem.run,D]
 have hl:=(Array.getElem?_eq_some_iff.1 D).1
 have n: ∀o,o=Obj.map l d\/True->(∀c e f,o≠ .cells c e f)->(setObj r o).run P w= .ok () {w with heap:=w.heap.setIfInBounds r o}:=by
  intro o _ _
  simp[setObj,Sem.run,D]
 have C: ∀o,Upd w r {w with heap:=w.heap.setIfInBounds r o}:=fun o=>⟨rfl,rfl,rfl,by simp,fun k A=>by simp only[Array.getElem?_setIfInBounds];rw[if_neg Q4]⟩
 have z: ∀o,({w with heap:=w.heap.setIfInBounds r o}:World).heap[r]? =some o:=fun o=>by simp[Array.getElem?_setIfInBounds,hl]
 unfold mapUpdate;cases r' with
 | none=>
  rw[Vw (w':={w with heap:=w.heap.setIfInBounds r (.map (l.push {key:=S k,val:=v,born:=d}) (d+1))}) (by
   simp only[Instr.mapUpdate,Sem.run_bind,run_underlying tm.h,Result.andThen_ok,Instr.findKey,run_underlying A,V,P2 A,Q,Sem.run_pure];exact n _ (.inr trivial) (by intros;simp))]
  refine h _ (C _) ⟨L,_,_,z _,?_,?_,?_⟩
  .rw[q4 rfl];simp[M]
  .simp only[Array.toList_push,List.map_append,List.map_cons,List.map_nil]
   rw[List.pairwise_append];refine ⟨N,by simp,?_⟩
   intro a Z b O
   simp at O;subst O
   obtain ⟨e,s,rfl⟩:=List.mem_map.1 Z;exact E e s
  .intro e s
   simp at s
   rcases s with s | rfl
   .have:=E e (by simpa using s);omega
   .simp
 | some p=>
  obtain ⟨j,u⟩:=p;obtain ⟨z1,z2,W⟩:=q3 j u rfl;obtain ⟨e,J,X⟩:=z2;simp only[Nat.sub_zero] at J W
  have g:((l.modify j fun e=>{e with key:=S k,val:=v}).toList.map (·.born))=l.toList.map (·.born):=by
   apply List.ext_getElem?;intro i;simp only[Array.toList_modify,List.getElem?_map,List.getElem?_modify]
   by_cases H:j=i<;>cases l.toList[i]? <;>simp[H]
  have q:(Instr.keyThatStays (S k) (S k)).run P w= .ok (S k) w:=by
   simp[Instr.keyThatStays,Instr.sameBits,Hp]
  rw[Vw (w':={w with heap:=w.heap.setIfInBounds r (.map (l.modify j fun e=>{e with key:=S k,val:=v}) d)}) (by
   simp only[Instr.mapUpdate,Sem.run_bind,run_underlying tm.h,Result.andThen_ok,Instr.findKey,run_underlying A,V,P2 A,Q,Sem.run_pure];rw[show ((l[j]?).map (·.key)).getD (S k)=S k by rw[<-Array.getElem?_toList,J];simp[X]]
   simp only[q,Result.andThen_ok];exact n _ (.inr trivial) (by intros;simp))]
  refine h _ (C _) ⟨L,_,_,z _,?_,?_,?_⟩
  .simp only[Array.toList_modify];exact W v
  .rw[g];exact N
  .intro x hx
   have:x.born∈l.toList.map (·.born):=by rw[<-g];exact List.mem_map.2 ⟨x,hx,rfl⟩
   obtain ⟨y,hy,e⟩:=List.mem_map.1 this;rw[<-e];exact E y hy
variable {w1 : World}
theorem J4 {c b:Bool} {a:World->(Value->World->Prop)->Prop} (d:c=b->a w K) (e:c=(!b)->K undef w):Q1 (.bool c) b w a K:=by
 cases c<;>cases b
 .rw[Zg];exact d rfl
 .rw[Jj];exact e rfl
 .rw[Cm];exact e rfl
 .rw[P1];exact d rfl
theorem Q3 {c:Bool} {t e:Prop} (a:c=true->t) (b:c=false->e):X0 (.bool c) t e:=by
 cases c
 .rw[Mc];exact b rfl
 .rw[Eo];exact a rfl
theorem Q6 {α:Type} {R:Q2->α->List Value->Prop} {sz:Nat} {σ:Q2} {v:Value} {xs:List α} {a e t:TypeId} {cs:List Bool} [ts:TS P a e] (h:Sl sz R σ v xs) (b:K (I xs.length) w):V9 P .len [a] t cs [v] w K:=by
 rw[X5Y h];exact b
structure Kpt (D : Nat -> Prop) (w w' : World) : Prop where
  os : w'.os = w.os
  tape : w'.tape = w.tape
  output : w'.output = w.output
  size : w.heap.size <= w'.heap.size
  block : ∀ k, k < w.heap.size -> ¬ D k -> w'.heap[k]? = w.heap[k]?
theorem Kpt.refl {D:Nat->Prop}:Kpt D w w:=⟨rfl,rfl,rfl,Nat.le_refl _,fun _ _ _=>rfl⟩
theorem Kpt.trans {D:Nat->Prop} (h:Kpt D w w') (k:Kpt D w' w''):Kpt D w w'':=
 ⟨k.os.trans h.os,k.tape.trans h.tape,k.output.trans h.output,Nat.le_trans h.size k.size,fun i b a=>(k.block i (Nat.lt_of_lt_of_le b h.size) a).trans (h.block i b a)⟩
theorem Kpt.of_below {D:Nat->Prop} (h:Below w.heap.size w w'):Kpt D w w':=⟨h.os,h.tape,h.output,h.size,fun k a _=>h.block k a⟩
theorem Kpt.of_grown {D:Nat->Prop} {row:Option Nat} (h:w.grownBy w' row) (c: ∀k,row=some k->D k):Kpt D w w':=⟨h.os,h.tape,h.output,h.size,fun k b a=>h.block k b (fun e=>a (c k e.symm))⟩
theorem Kpt.of_upd {D:Nat->Prop} {b:Nat} (h:Upd w b w') (a:D b):Kpt D w w':=⟨h.os,h.tape,h.output,by rw[h.size];exact Nat.le_refl _,fun k d c=>h.block k (fun e=>c (e▸a))⟩
theorem Kpt.mono {D D':Nat->Prop} (h:Kpt D w w') (b: ∀k,k<w.heap.size->D k->D' k):Kpt D' w w':=⟨h.os,h.tape,h.output,h.size,fun k a c=>h.block k a (fun e=>c (b k a e))⟩
theorem Kpt.below {D:Nat->Prop} (h:Kpt D w w') (a: ∀k,¬D k):Below w.heap.size w w':=⟨h.os,h.tape,h.output,h.size,fun k b=>h.block k b (a k)⟩
theorem Stp.kp {σ0 σ:Q2} {D:Nat->Prop} (a:Stp w0 σ0 w σ) (b:Kpt D w w') (f: ∀k,D k->w0.heap.size<=k/\σ k=none):Stp w0 σ0 w' σ:=by
 refine ⟨⟨b.os.trans a.bel.os,b.tape.trans a.bel.tape,b.output.trans a.bel.output,Nat.le_trans a.bel.size b.size,fun k c=>?_⟩,?_,a.le,a.old⟩
 .refine (b.block k (Nat.lt_of_lt_of_le c a.bel.size) ?_).trans (a.bel.block k c)
  intro e;have:=(f k e).1;omega
 .intro k o d
  refine (b.block k (a.sat.lt d) ?_).trans (a.sat k o d);intro e;rw[(f k e).2] at d;cases d
theorem U6.kp {σ:Q2} {D:Nat->Prop} {k:Nat} {cs:List Value} (h:U6 σ w k cs) (d:Kpt D w w') (a: ¬D k):U6 σ w' k cs:=by
 have f:=h.lt;obtain ⟨b,e,c⟩:=h;exact ⟨b,e,(d.block k f a).trans c⟩
theorem B4.kp {σ:Q2} {D:Nat->Prop} {r:Nat} {m:List (List UInt8×Value)} (h:B4 σ w r m) (b:Kpt D w w') (a: ¬D r):B4 σ w' r m:=
 ⟨h.1,(b.block r h.lt a).symm▸h.2⟩
theorem W1.kp {α:Type} {R:Q2->α->List Value->Prop} {B sz:Nat} {e:TypeId} {σ:Q2} {v:Value} {xs:List α} {D:Nat->Prop} (h:W1 B e sz R σ w v xs) (n:Kpt D w w') (d: ∀k,v.ownBlock=some k-> ¬D k):W1 B e sz R σ w' v xs:=by
 obtain ⟨cells,f,j,l⟩:=h;refine ⟨cells,⟨f.1,?_⟩,j,l⟩
 rcases f.2 with o | ⟨g,b,c,rfl,m,i,a⟩
 .exact .inl o
 .refine .inr ⟨g,b,c,rfl,m,?_,a⟩
  rw[n.block g (Array.getElem?_eq_some_iff.1 i).1 (d g rfl)];exact i
theorem bt {w w1 b:World} (a:Below w.heap.size w w1) (c:Below w1.heap.size w1 b):Below w.heap.size w b:=a.trans (c.mono a.size)
abbrev U9:Nat:=140737488351232
def V3 (_:Q2) (s:List UInt8) (cs:List Value):Prop:=cs=[S s]/\s.length<=U9
instance:Rep V3:=⟨fun _ h=>h,fun h u hu=>by rw[h.1] at hu;simp at hu;subst hu;rfl⟩
def H9 (_:Q2) (n:Int) (cs:List Value):Prop:=cs=[I n]/\ -9223372036854775808<=n/\n<=9223372036854775807
instance:Rep H9:=⟨fun _ h=>h,fun h u hu=>by rw[h.1] at hu;simp at hu;subst hu;rfl⟩
def Q3S (_:Q2) (b:Bool) (cs:List Value):Prop:=cs=[.bool b]
instance:Rep Q3S:=⟨fun _ h=>h,fun h u hu=>by rw[h] at hu;simp at hu;subst hu;rfl⟩
def UpI (N:Nat) (a:Nat->World->Prop) (x:Value) (w:World):Prop:= ∃n:Nat,x=I n/\n<=N/\a n w
def UpM (N:Nat) (x:Value):Nat:=match x with | .int _ n=>N-n.toNat | _=>0
theorem U8 {A:(Value->World->Prop)->Value->(Nat->Value)->World->Prop} (N:Nat) (a:Nat->World->Prop) (c:a 0 w)
 (b: ∀n w d,n<=N->a n w->A (fun y w'=>UpI N a y w'/\UpM N y<UpM N (I n)) (I n) d w):lp (α:=Value) (.int .i64 0) w A:=by
 refine Uc (UpI N a) (fun x _=>UpM N x) ⟨0,rfl,Nat.zero_le _,c⟩ ?_;rintro _ d w' ⟨n,rfl,f,e⟩;exact b n w' d f e
theorem Y9 {N n:Nat} {a:Nat->World->Prop} (d:N<=9223372036854775807) (c:n<N) (b:a (n+1) w):UpI N a (.int .i64 (IntKind.i64.wrap (n+1))) w/\UpM N (.int .i64 (IntKind.i64.wrap (n+1)))<UpM N (I n):=by
 rw[K9 Q4 Q4];exact ⟨⟨n+1,rfl,c,b⟩,by simp only[UpM];omega⟩
def Gc {α:Type} (N:Nat) (a:Nat->α->World->Prop) (x:α×Value) (w:World):Prop:= ∃n:Nat,x.2=I n/\n<=N/\a n x.1 w
def Nb {α:Type} (N:Nat) (x:α×Value):Nat:=UpM N x.2
theorem O7 {α:Type} {A:(α×Value->World->Prop)->α×Value->(Nat->Value)->World->Prop} {a:α} (N:Nat) (b:Nat->α->World->Prop) (g:b 0 a w)
 (c: ∀n a w d,n<=N->b n a w->A (fun y w'=>Gc N b y w'/\Nb N y<Nb N (a,I n)) (a,I n) d w):lp (α:=α×Value) (a, .int .i64 0) w A:=by
 refine Uc (Gc N b) (fun x _=>Nb N x) ⟨0,rfl,Nat.zero_le _,g⟩ ?_;rintro ⟨a,x⟩ d w' ⟨n,f,h,e⟩;simp only at f e;subst f;exact c n a w' d h e
theorem Z9 {α:Type} {a c:α} {N n:Nat} {b:Nat->α->World->Prop} (f:N<=9223372036854775807) (e:n<N) (d:b (n+1) c w):Gc N b (c, .int .i64 (IntKind.i64.wrap (n+1))) w/\Nb N (c, .int .i64 (IntKind.i64.wrap (n+1)))<Nb N (a,I n):=by
 rw[K9 Q4 Q4];exact ⟨⟨n+1,rfl,e,d⟩,by simp only[Nb,UpM];omega⟩
theorem N0 {α:Type} {R:Q2->α->List Value->Prop} {sz:Nat} {σ:Q2} {v:Value} {xs:List α} {t e:TypeId} {b:Nat} {z:Value} [TS P t e] [TZ P e sz b z] (h:Sl sz R σ v xs) {n:Nat} (i:n<xs.length)
 (g: ∀a cs,J7 σ a cs->cs.length=sz->R σ xs[n] cs->K (.pointer (some a)) w):indexAddr P t v (I n) w K:=
 X6r h Q4 (by simpa using i) (fun a cs c d f=>g a cs c d (by simpa using f))
theorem Z0 {t:TypeId} {sz c:Nat} {z:Value} {A:Value->Value->World->Prop} [tz:TZ P t sz c z] {σ:Q2} {cs:List Value} (o:X1 w σ) (r:z.cells.size=sz) (n:cs.length=sz) (k: ∀u∈cs,u.oneCell'=true)
 (h: ∀a w' e,Stp w σ w' e->J7 e a cs->A (.pointer (some a)) undef w'):Qh P t w (fun p w=>M3 P t p (.agg cs.toArray) w (fun u w=>A p u w)):=by
 refine Pe o fun b w1 f m g=>?_;refine sta g (by simpa using r) n (by rw[List.all_toArray];exact List.all_eq_true.2 k) fun s q d=>?_
 have l:Stp w σ s σ:=q.stp m f g.1;obtain ⟨e,i,j,_⟩:=d.keep l f;exact h _ _ _ i j
theorem U7 {t:TypeId} {d:Nat} {z:Value} {A:Value->Value->World->Prop} [tz:TZ P t 1 d z] {σ:Q2} {v:Value} (r:X1 w σ) (y:z.cells.size=1) (n:v.cells= #[v]) (l:v.oneCell'=true)
 (h: ∀a w' f,Stp w σ w' f->J7 f a [v]->A (.pointer (some a)) undef w'):Qh P t w (fun p w=>M3 P t p v w (fun u w=>A p u w)):=by
 refine Pe r fun b w1 g o i=>?_;have q:z.cells.toList.length=1:=by simpa using y
 refine st0 i Q4 n l fun B s c=>?_;have m:Stp w σ B σ:=s.stp o g i.1
 have e:z.cells.toList.set 0 v=[v]:=by
  match hzl:z.cells.toList,q with
  | [x],_=>rfl
 rw[e] at c;obtain ⟨f,j,k,_⟩:=c.keep m g;exact h _ _ _ j k
theorem D6 {α:Type} {xs:List α} {p:α->Bool} {n:Nat} (h:n<xs.length):(xs.take (n+1)).any p=((xs.take n).any p||p xs[n]):=by
 rw[List.take_add_one,List.getElem?_eq_getElem h,List.any_append];simp
theorem I5 {α:Type} {xs:List α} {p:α->Bool} {n:Nat} (h:n<xs.length) (a:p xs[n]=true):xs.any p=true:=List.any_eq_true.2 ⟨_,List.getElem_mem h,a⟩
theorem C0 {α:Type} {xs:List α} {p:α->Bool} {n:Nat} (h: ¬n<xs.length):(xs.take n).any p=xs.any p:=by rw[List.take_of_length_le Q4]
end Go.Emb
namespace Go.Hm
open Go.Kd
structure Fld where
  name : Q8
  kind : Q8
  tr : Bool
deriving DecidableEq
structure Ins where
  op : Q8
  n : Int
  s : Q8
deriving DecidableEq
structure Cat where
  frm : Int
  to : Int
  at_ : Int
  cls : Q8
deriving DecidableEq
structure Met where
  name : Q8
  params : List Q8
  result : Q8
  abs : Bool
  locals : Int
  code : List Ins
  catches : List Cat
deriving DecidableEq
structure Cla where
  name : Q8
  super : Q8
  like : List Q8
  iface : Bool
  abs : Bool
  fin : Bool
  fields : List Fld
  methods : List Hm.Met
deriving DecidableEq
def Fld.zero:Fld:=⟨[],[],false⟩
def Met.zero:Hm.Met:=⟨[],[],[],false,0,[],[]⟩
def Cla.zero:Cla:=⟨[],[],[],false,false,false,[],[]⟩
end Go.Hm
namespace Go.Emb
open Go.RowKit Go.Hm
abbrev P0 (n:Int):Prop:= -9223372036854775808<=n/\n<=9223372036854775807
def C5 (_:Q2) (f:Fld) (cs:List Value):Prop:=cs=[S f.name,S f.kind, .bool f.tr]/\f.name.length<=U9/\f.kind.length<=U9
def Qx (_:Q2) (i:Ins) (cs:List Value):Prop:=cs=[S i.op,I i.n,S i.s]/\i.op.length<=U9/\P0 i.n/\i.s.length<=U9
def Uh (_:Q2) (c:Cat) (cs:List Value):Prop:=cs=[I c.frm,I c.to,I c.at_,S c.cls]/\P0 c.frm/\P0 c.to/\P0 c.at_/\c.cls.length<=U9
def E6 (σ:Q2) (m:Hm.Met) (cs:List Value):Prop:= ∃pv a b,cs=[S m.name,pv,S m.result, .bool m.abs,I m.locals,a,b]/\Sl 1 V3 σ pv m.params/\Sl 3 Qx σ a m.code/\Sl 4 Uh σ b m.catches/\m.name.length<=U9/\m.result.length<=U9/\P0 m.locals
def W8 (σ:Q2) (c:Cla) (cs:List Value):Prop:= ∃b a mv,cs=[S c.name,S c.super,b, .bool c.iface, .bool c.abs, .bool c.fin,a,mv]/\Sl 1 V3 σ b c.like/\Sl 3 C5 σ a c.fields/\Sl 7 E6 σ mv c.methods/\c.name.length<=U9/\c.super.length<=U9
theorem Qi {α:Type} {sz:Nat} {R:Q2->α->List Value->Prop} {σ:Q2} {v:Value} {xs:List α} (h:Sl sz R σ v xs):v.oneCell'=true:=by
 obtain ⟨a,b,rfl,_⟩:=h;rfl
instance:Rep C5:=⟨fun _ h=>h,fun h u hu=>by rw[h.1] at hu;simp at hu;rcases hu with rfl | rfl | rfl<;>rfl⟩
instance:Rep Qx:=⟨fun _ h=>h,fun h u hu=>by rw[h.1] at hu;simp at hu;rcases hu with rfl | rfl | rfl<;>rfl⟩
instance:Rep Uh:=⟨fun _ h=>h,fun h u hu=>by rw[h.1] at hu;simp at hu;rcases hu with rfl | rfl | rfl | rfl<;>rfl⟩
instance:Rep E6:=⟨fun hk ⟨pv,cv,hv,h1,h2,h3,h4,h5⟩=>⟨pv,cv,hv,h1,h2.le hk,h3.le hk,h4.le hk,h5⟩,fun ⟨pv,cv,hv,h1,h2,h3,h4,h5⟩ u hu=>by
 rw[h1] at hu;simp at hu;rcases hu with rfl | rfl | rfl | rfl | rfl | rfl | rfl
 .rfl
 .exact Qi h2
 .rfl
 .rfl
 .rfl
 .exact Qi h3
 .exact Qi h4⟩
instance:Rep W8:=⟨fun hk ⟨pv,cv,hv,h1,h2,h3,h4,h5⟩=>⟨pv,cv,hv,h1,h2.le hk,h3.le hk,h4.le hk,h5⟩,fun ⟨pv,cv,hv,h1,h2,h3,h4,h5⟩ u hu=>by
 rw[h1] at hu;simp at hu;rcases hu with rfl | rfl | rfl | rfl | rfl | rfl | rfl | rfl
 .rfl
 .rfl
 .exact Qi h2
 .rfl
 .rfl
 .rfl
 .exact Qi h3
 .exact Qi h4⟩
end Go.Emb
namespace Go.Proofs.Y
open Go.Emb
instance z_x:TZ P T.x 1 0 (.tuple #[]):=⟨X3⟩
instance g_x:TG P T.x false:=⟨X3⟩
instance z_int64:TZ P T.aa 1 8 (.int .i64 0):=⟨X3⟩
instance g_int64:TG P T.aa false:=⟨X3⟩
instance z_int:TZ P T.d 1 8 (.int .i64 0):=⟨X3⟩
instance g_int:TG P T.d false:=⟨X3⟩
instance z_bool:TZ P T.n 1 1 (.bool false):=⟨X3⟩
instance g_bool:TG P T.n false:=⟨X3⟩
instance z_uint8:TZ P T.t 1 1 (.int .u8 0):=⟨X3⟩
instance g_uint8:TG P T.t false:=⟨X3⟩
instance z_string:TZ P T.b 1 16 (.string ⟨#[]⟩):=⟨X3⟩
instance g_string:TG P T.b false:=⟨X3⟩
instance z_uintptr:TZ P T.aF 1 8 (.int .u64 0):=⟨X3⟩
instance g_uintptr:TG P T.aF false:=⟨X3⟩
instance z_int32:TZ P T.ax 1 4 (.int .i32 0):=⟨X3⟩
instance g_int32:TG P T.ax false:=⟨X3⟩
instance z_P_heap_Heap:TZ P T.a2 1 8 (.pointer none):=⟨X3⟩
instance g_P_heap_Heap:TG P T.a2 false:=⟨X3⟩
instance z_S_api_Class:TZ P T.g 1 24 (.slice none 0 0):=⟨X3⟩
instance g_S_api_Class:TG P T.g false:=⟨X3⟩
instance s_S_api_Class:TS P T.g 111:=⟨X3⟩
instance z_S_api_Cell:TZ P T.w 1 24 (.slice none 0 0):=⟨X3⟩
instance g_S_api_Cell:TG P T.w false:=⟨X3⟩
instance s_S_api_Cell:TS P T.w 95:=⟨X3⟩
instance z_squinchref09_Heap:TZ P T.r 3 56 (.agg #[.slice none 0 0, .int .i64 0, .slice none 0 0]):=⟨X3⟩
instance g_squinchref09_Heap:TG P T.r true:=⟨X3⟩
instance f_squinchref09_Heap_0:TF P T.r 0 0 23:=⟨X3⟩
instance f_squinchref09_Heap_1:TF P T.r 1 1 3:=⟨X3⟩
instance f_squinchref09_Heap_2:TF P T.r 2 2 24:=⟨X3⟩
instance z_uint16:TZ P T.aC 1 2 (.int .u16 0):=⟨X3⟩
instance g_uint16:TG P T.aC false:=⟨X3⟩
instance z_func_string_bool:TZ P T.ab 1 8 .nilFunc:=⟨X3⟩
instance g_func_string_bool:TG P T.ab false:=⟨X3⟩
instance z_S_uint8:TZ P T.l 1 24 (.slice none 0 0):=⟨X3⟩
instance g_S_uint8:TG P T.l false:=⟨X3⟩
instance s_S_uint8:TS P T.l 5:=⟨X3⟩
instance z_api_Errno:TZ P T.z 1 8 (.int .i64 0):=⟨X3⟩
instance g_api_Errno:TG P T.z false:=⟨X3⟩
instance z_api_Value:TZ P T.i 4 40 (.agg #[.int .i64 0, .int .i64 0, .string ⟨#[]⟩, .int .i64 0]):=⟨X3⟩
instance g_api_Value:TG P T.i true:=⟨X3⟩
instance f_api_Value_0:TF P T.i 0 0 3:=⟨X3⟩
instance f_api_Value_1:TF P T.i 1 1 2:=⟨X3⟩
instance f_api_Value_2:TF P T.i 2 2 9:=⟨X3⟩
instance f_api_Value_3:TF P T.i 3 3 3:=⟨X3⟩
instance z_api_Limits:TZ P T.a9 2 16 (.agg #[.int .i64 0, .int .i64 0]):=⟨X3⟩
instance g_api_Limits:TG P T.a9 true:=⟨X3⟩
instance f_api_Limits_0:TF P T.a9 0 0 3:=⟨X3⟩
instance f_api_Limits_1:TF P T.a9 1 1 3:=⟨X3⟩
instance z_func_string_string:TZ P T.ah 1 8 .nilFunc:=⟨X3⟩
instance g_func_string_string:TG P T.ah false:=⟨X3⟩
instance z_S_squinchref09_Act:TZ P T.az 1 24 (.slice none 0 0):=⟨X3⟩
instance g_S_squinchref09_Act:TG P T.az false:=⟨X3⟩
instance s_S_squinchref09_Act:TS P T.az 79:=⟨X3⟩
instance z_S_api_Value:TZ P T.v 1 24 (.slice none 0 0):=⟨X3⟩
instance g_S_api_Value:TG P T.v false:=⟨X3⟩
instance s_S_api_Value:TS P T.v 37:=⟨X3⟩
instance z_S_int:TZ P T.o 1 24 (.slice none 0 0):=⟨X3⟩
instance g_S_int:TG P T.o false:=⟨X3⟩
instance s_S_int:TS P T.o 3:=⟨X3⟩
instance z_P_hier_Table:TZ P T.u 1 8 (.pointer none):=⟨X3⟩
instance g_P_hier_Table:TG P T.u false:=⟨X3⟩
instance z_S__2_string:TZ P T.a6 1 24 (.slice none 0 0):=⟨X3⟩
instance g_S__2_string:TG P T.a6 false:=⟨X3⟩
instance s_S__2_string:TS P T.a6 154:=⟨X3⟩
instance z_uint64:TZ P T.a3 1 8 (.int .u64 0):=⟨X3⟩
instance g_uint64:TG P T.a3 false:=⟨X3⟩
instance z_squinchref09_Act:TZ P T.ae 8 80 (.agg #[.int .i64 0, .string ⟨#[]⟩, .int .i64 0, .int .i64 0, .int .i64 0, .int .i64 0, .string ⟨#[]⟩, .int .i64 0]):=⟨X3⟩
instance g_squinchref09_Act:TG P T.ae true:=⟨X3⟩
instance f_squinchref09_Act_0:TF P T.ae 0 0 3:=⟨X3⟩
instance f_squinchref09_Act_1:TF P T.ae 1 1 9:=⟨X3⟩
instance f_squinchref09_Act_2:TF P T.ae 2 2 2:=⟨X3⟩
instance f_squinchref09_Act_3:TF P T.ae 3 3 3:=⟨X3⟩
instance f_squinchref09_Act_4:TF P T.ae 4 4 37:=⟨X3⟩
instance z_M_int_int:TZ P T.a8 1 8 (.map none):=⟨X3⟩
instance g_M_int_int:TG P T.a8 false:=⟨X3⟩
instance m_M_int_int:TM P T.a8 3 3:=⟨X3⟩
instance z_S_string:TZ P T.e 1 24 (.slice none 0 0):=⟨X3⟩
instance g_S_string:TG P T.e false:=⟨X3⟩
instance s_S_string:TS P T.e 9:=⟨X3⟩
instance z_api_Cell:TZ P T.aj 2 40 (.agg #[.string ⟨#[]⟩, .slice none 0 0]):=⟨X3⟩
instance g_api_Cell:TG P T.aj true:=⟨X3⟩
instance f_api_Cell_0:TF P T.aj 0 0 9:=⟨X3⟩
instance f_api_Cell_1:TF P T.aj 1 1 46:=⟨X3⟩
instance z_heap_Heap:TZ P T.a0 4 48 (.agg #[.pointer none, .int .i64 0, .int .i64 0, .slice none 0 0]):=⟨X3⟩
instance g_heap_Heap:TG P T.a0 true:=⟨X3⟩
instance f_heap_Heap_0:TF P T.a0 0 0 60:=⟨X3⟩
instance f_heap_Heap_1:TF P T.a0 1 1 3:=⟨X3⟩
instance f_heap_Heap_2:TF P T.a0 2 2 3:=⟨X3⟩
instance f_heap_Heap_3:TF P T.a0 3 3 24:=⟨X3⟩
instance z_M_string_int:TZ P T.a1 1 8 (.map none):=⟨X3⟩
instance g_M_string_int:TG P T.a1 false:=⟨X3⟩
instance m_M_string_int:TM P T.a1 9 3:=⟨X3⟩
instance z_hier_Table:TZ P T.y 2 32 (.agg #[.slice none 0 0, .map none]):=⟨X3⟩
instance g_hier_Table:TG P T.y true:=⟨X3⟩
instance f_hier_Table_0:TF P T.y 0 0 23:=⟨X3⟩
instance f_hier_Table_1:TF P T.y 1 1 105:=⟨X3⟩
instance z_S_api_Field:TZ P T.h 1 24 (.slice none 0 0):=⟨X3⟩
instance g_S_api_Field:TG P T.h false:=⟨X3⟩
instance s_S_api_Field:TS P T.h 121:=⟨X3⟩
instance z_S_api_Method:TZ P T.f 1 24 (.slice none 0 0):=⟨X3⟩
instance g_S_api_Method:TG P T.f false:=⟨X3⟩
instance s_S_api_Method:TS P T.f 124:=⟨X3⟩
instance z_api_Class:TZ P T.a 8 112 (.agg #[.string ⟨#[]⟩, .string ⟨#[]⟩, .slice none 0 0, .bool false, .bool false, .bool false, .slice none 0 0, .slice none 0 0]):=⟨X3⟩
instance g_api_Class:TG P T.a true:=⟨X3⟩
instance f_api_Class_0:TF P T.a 0 0 9:=⟨X3⟩
instance f_api_Class_1:TF P T.a 1 1 9:=⟨X3⟩
instance f_api_Class_2:TF P T.a 2 2 90:=⟨X3⟩
instance f_api_Class_3:TF P T.a 3 3 4:=⟨X3⟩
instance f_api_Class_4:TF P T.a 4 4 4:=⟨X3⟩
instance f_api_Class_5:TF P T.a 5 5 4:=⟨X3⟩
instance f_api_Class_6:TF P T.a 6 6 108:=⟨X3⟩
instance f_api_Class_7:TF P T.a 7 7 109:=⟨X3⟩
instance z_api_Instr:TZ P T.q 3 40 (.agg #[.string ⟨#[]⟩, .int .i64 0, .string ⟨#[]⟩]):=⟨X3⟩
instance g_api_Instr:TG P T.q true:=⟨X3⟩
instance f_api_Instr_0:TF P T.q 0 0 9:=⟨X3⟩
instance f_api_Instr_1:TF P T.q 1 1 2:=⟨X3⟩
instance f_api_Instr_2:TF P T.q 2 2 9:=⟨X3⟩
instance z_S_api_Instr:TZ P T.k 1 24 (.slice none 0 0):=⟨X3⟩
instance g_S_api_Instr:TG P T.k false:=⟨X3⟩
instance s_S_api_Instr:TS P T.k 118:=⟨X3⟩
instance z_api_Field:TZ P T.j 3 40 (.agg #[.string ⟨#[]⟩, .string ⟨#[]⟩, .bool false]):=⟨X3⟩
instance g_api_Field:TG P T.j true:=⟨X3⟩
instance f_api_Field_0:TF P T.j 0 0 9:=⟨X3⟩
instance f_api_Field_1:TF P T.j 1 1 9:=⟨X3⟩
instance f_api_Field_2:TF P T.j 2 2 4:=⟨X3⟩
instance z_S_api_Catch:TZ P T.m 1 24 (.slice none 0 0):=⟨X3⟩
instance g_S_api_Catch:TG P T.m false:=⟨X3⟩
instance s_S_api_Catch:TS P T.m 222:=⟨X3⟩
instance z_api_Method:TZ P T.c 7 120 (.agg #[.string ⟨#[]⟩, .slice none 0 0, .string ⟨#[]⟩, .bool false, .int .i64 0, .slice none 0 0, .slice none 0 0]):=⟨X3⟩
instance g_api_Method:TG P T.c true:=⟨X3⟩
instance f_api_Method_0:TF P T.c 0 0 9:=⟨X3⟩
instance f_api_Method_1:TF P T.c 1 1 90:=⟨X3⟩
instance f_api_Method_2:TF P T.c 2 2 9:=⟨X3⟩
instance f_api_Method_3:TF P T.c 3 3 4:=⟨X3⟩
instance f_api_Method_4:TF P T.c 4 4 3:=⟨X3⟩
instance f_api_Method_5:TF P T.c 5 5 119:=⟨X3⟩
instance f_api_Method_6:TF P T.c 6 6 122:=⟨X3⟩
instance z_S_S_bool:TZ P T.ad 1 24 (.slice none 0 0):=⟨X3⟩
instance g_S_S_bool:TG P T.ad false:=⟨X3⟩
instance s_S_S_bool:TS P T.ad 129:=⟨X3⟩
instance z_S_bool:TZ P T.a7 1 24 (.slice none 0 0):=⟨X3⟩
instance g_S_bool:TG P T.a7 false:=⟨X3⟩
instance s_S_bool:TS P T.a7 4:=⟨X3⟩
instance z_func_int_2:TZ P T.av 1 8 .nilFunc:=⟨X3⟩
instance g_func_int_2:TG P T.av false:=⟨X3⟩
instance z_P_pack_Writer:TZ P T.ac 1 8 (.pointer none):=⟨X3⟩
instance g_P_pack_Writer:TG P T.ac false:=⟨X3⟩
instance z_A2_string:TZ P T.a5 2 32 (.agg #[.string ⟨#[]⟩, .string ⟨#[]⟩]):=⟨X3⟩
instance g_A2_string:TG P T.a5 true:=⟨X3⟩
instance a_A2_string:TA P T.a5 2 9:=⟨X3⟩
instance z_A6_string:TZ P T.ay 6 96 (.agg #[.string ⟨#[]⟩, .string ⟨#[]⟩, .string ⟨#[]⟩, .string ⟨#[]⟩, .string ⟨#[]⟩, .string ⟨#[]⟩]):=⟨X3⟩
instance g_A6_string:TG P T.ay true:=⟨X3⟩
instance a_A6_string:TA P T.ay 6 9:=⟨X3⟩
instance z_M_string_string:TZ P T.s 1 8 (.map none):=⟨X3⟩
instance g_M_string_string:TG P T.s false:=⟨X3⟩
instance m_M_string_string:TM P T.s 9 9:=⟨X3⟩
instance z_func_api_Method_string:TZ P T.af 1 8 .nilFunc:=⟨X3⟩
instance g_func_api_Method_string:TG P T.af false:=⟨X3⟩
instance z_func_api_Method_bool:TZ P T.al 1 8 .nilFunc:=⟨X3⟩
instance g_func_api_Method_bool:TG P T.al false:=⟨X3⟩
instance g_A256_uint8:TG P T.aD true:=⟨X3⟩
instance a_A256_uint8:TA P T.aD 256 5:=⟨X3⟩
instance z_utf8_acceptRange:TZ P T.ar 2 2 (.agg #[.int .u8 0, .int .u8 0]):=⟨X3⟩
instance g_utf8_acceptRange:TG P T.ar true:=⟨X3⟩
instance f_utf8_acceptRange_0:TF P T.ar 0 0 5:=⟨X3⟩
instance f_utf8_acceptRange_1:TF P T.ar 1 1 5:=⟨X3⟩
instance z_A16_utf8_acceptRange:TZ P T.au 32 32 (.agg #[.int .u8 0, .int .u8 0, .int .u8 0, .int .u8 0, .int .u8 0, .int .u8 0, .int .u8 0, .int .u8 0, .int .u8 0, .int .u8 0, .int .u8 0, .int .u8 0, .int .u8 0, .int .u8 0, .int .u8 0, .int .u8 0, .int .u8 0, .int .u8 0, .int .u8 0, .int .u8 0, .int .u8 0, .int .u8 0, .int .u8 0, .int .u8 0, .int .u8 0, .int .u8 0, .int .u8 0, .int .u8 0, .int .u8 0, .int .u8 0, .int .u8 0, .int .u8 0]):=⟨X3⟩
instance g_A16_utf8_acceptRange:TG P T.au true:=⟨X3⟩
instance a_A16_utf8_acceptRange:TA P T.au 16 198:=⟨X3⟩
instance z_pack_Writer:TZ P T.a4 1 24 (.agg #[.slice none 0 0]):=⟨X3⟩
instance g_pack_Writer:TG P T.a4 true:=⟨X3⟩
instance f_pack_Writer_0:TF P T.a4 0 0 32:=⟨X3⟩
instance z_S_uint64:TZ P T.ai 1 24 (.slice none 0 0):=⟨X3⟩
instance g_S_uint64:TG P T.ai false:=⟨X3⟩
instance s_S_uint64:TS P T.ai 75:=⟨X3⟩
instance z_func_api_Field_string:TZ P T.ag 1 8 .nilFunc:=⟨X3⟩
instance g_func_api_Field_string:TG P T.ag false:=⟨X3⟩
instance z_func_api_Field_bool:TZ P T.ap 1 8 .nilFunc:=⟨X3⟩
instance g_func_api_Field_bool:TG P T.ap false:=⟨X3⟩
instance z_api_Catch:TZ P T.p 4 40 (.agg #[.int .i64 0, .int .i64 0, .int .i64 0, .string ⟨#[]⟩]):=⟨X3⟩
instance g_api_Catch:TG P T.p true:=⟨X3⟩
instance f_api_Catch_0:TF P T.p 0 0 3:=⟨X3⟩
instance f_api_Catch_1:TF P T.p 1 1 3:=⟨X3⟩
instance f_api_Catch_2:TF P T.p 2 2 3:=⟨X3⟩
instance f_api_Catch_3:TF P T.p 3 3 9:=⟨X3⟩
instance z_S_int64:TZ P T.aB 1 24 (.slice none 0 0):=⟨X3⟩
instance g_S_int64:TG P T.aB false:=⟨X3⟩
instance s_S_int64:TS P T.aB 2:=⟨X3⟩
instance z_func_api_Catch_bool:TZ P T.ao 1 8 .nilFunc:=⟨X3⟩
instance g_func_api_Catch_bool:TG P T.ao false:=⟨X3⟩
instance z_func_api_Instr_bool:TZ P T.aq 1 8 .nilFunc:=⟨X3⟩
instance g_func_api_Instr_bool:TG P T.aq false:=⟨X3⟩
instance g_strings_asciiSet:TG P T.am true:=⟨X3⟩
instance a_strings_asciiSet:TA P T.am 256 4:=⟨X3⟩
instance z_strings_Builder:TZ P T.aw 2 32 (.agg #[.pointer none, .slice none 0 0]):=⟨X3⟩
instance g_strings_Builder:TG P T.aw true:=⟨X3⟩
instance f_strings_Builder_0:TF P T.aw 0 0 252:=⟨X3⟩
instance f_strings_Builder_1:TF P T.aw 1 1 32:=⟨X3⟩
instance z_P_uint8:TZ P T.aE 1 8 (.pointer none):=⟨X3⟩
instance g_P_uint8:TG P T.aE false:=⟨X3⟩
instance z_code_op:TZ P T.ak 3 24 (.agg #[.string ⟨#[]⟩, .bool false, .bool false]):=⟨X3⟩
instance g_code_op:TG P T.ak true:=⟨X3⟩
instance f_code_op_0:TF P T.ak 0 0 9:=⟨X3⟩
instance f_code_op_1:TF P T.ak 1 1 4:=⟨X3⟩
instance f_code_op_2:TF P T.ak 2 2 4:=⟨X3⟩
instance g_A42_code_op:TG P T.an true:=⟨X3⟩
instance a_A42_code_op:TA P T.an 42 271:=⟨X3⟩
instance z_S_code_op:TZ P T.aA 1 24 (.slice none 0 0):=⟨X3⟩
instance g_S_code_op:TG P T.aA false:=⟨X3⟩
instance s_S_code_op:TS P T.aA 271:=⟨X3⟩
instance z_uint32:TZ P T.aG 1 4 (.int .u32 0):=⟨X3⟩
instance g_uint32:TG P T.aG false:=⟨X3⟩
end Go.Proofs.Y
namespace Go.Emb
theorem aS {p:Prop} (h:p:=by (first | assumption | exact Stp.sat Q7 | exact Hst.sat Q7)):p:=h
theorem aL {p:Prop} (h:p:=by (first | assumption | exact Sl.lift Q7 (by (repeat (first | exact SLe.refl _ | refine SLe.more ?_ Q7 | refine SLe.more ?_ (Nxt.le Q7) | refine SLe.step ?_ Q7))) | exact J7.lift Q7 (by (repeat (first | exact SLe.refl _ | refine SLe.more ?_ Q7 | refine SLe.more ?_ (Nxt.le Q7) | refine SLe.step ?_ Q7))) | exact Yb.lift Q7 (by (repeat (first | exact SLe.refl _ | refine SLe.more ?_ Q7 | refine SLe.more ?_ (Nxt.le Q7) | refine SLe.step ?_ Q7))) | exact RCl_lift Q7 (by (repeat (first | exact SLe.refl _ | refine SLe.more ?_ Q7 | refine SLe.more ?_ (Nxt.le Q7) | refine SLe.step ?_ Q7))) | exact RMe_lift Q7 (by (repeat (first | exact SLe.refl _ | refine SLe.more ?_ Q7 | refine SLe.more ?_ (Nxt.le Q7) | refine SLe.step ?_ Q7))) | exact Glb.lift Q7 (by (repeat (first | exact SLe.refl _ | refine SLe.more ?_ Q7 | refine SLe.more ?_ (Nxt.le Q7) | refine SLe.step ?_ Q7))) | exact Tab.lift Q7 (by (repeat (first | exact SLe.refl _ | refine SLe.more ?_ Q7 | refine SLe.more ?_ (Nxt.le Q7) | refine SLe.step ?_ Q7))) | exact RIn_any Q7 | exact RFd_any Q7 | exact RCa_any Q7)):p:=h
theorem aR {p:Prop} (h:p:=by with_unfolding_all rfl):p:=h
theorem aF {p:Prop} (a:p:=by (refine Eq.subst (motive:=fun b=>K b _) ?_ (h _ _ (by (repeat (first | exact Stp.refl (by (first | assumption | exact Stp.sat Q7 | exact Hst.sat Q7)) | assumption | refine Stp.trans ?_ (by first | assumption | exact Hst.stp Q7)))));clear h;(try clear hA);(try clear hB);(try clear hC);first | rfl | ((try simp only[Bool.not_eq_true',Bool.not_eq_false',Bool.not_true,Bool.not_false,Bool.not_eq_true] at*);simp only[*,Mb,reduceIte];done) | (simp[*];done) | simp_all)):p:=a
theorem au {p:Prop} (h:p:=by (first | assumption | (first | assumption | exact Stp.sat Q7 | exact Hst.sat Q7) | (first | assumption | exact Sl.lift Q7 (by (repeat (first | exact SLe.refl _ | refine SLe.more ?_ Q7 | refine SLe.more ?_ (Nxt.le Q7) | refine SLe.step ?_ Q7))) | exact J7.lift Q7 (by (repeat (first | exact SLe.refl _ | refine SLe.more ?_ Q7 | refine SLe.more ?_ (Nxt.le Q7) | refine SLe.step ?_ Q7))) | exact Yb.lift Q7 (by (repeat (first | exact SLe.refl _ | refine SLe.more ?_ Q7 | refine SLe.more ?_ (Nxt.le Q7) | refine SLe.step ?_ Q7))) | exact RCl_lift Q7 (by (repeat (first | exact SLe.refl _ | refine SLe.more ?_ Q7 | refine SLe.more ?_ (Nxt.le Q7) | refine SLe.step ?_ Q7))) | exact RMe_lift Q7 (by (repeat (first | exact SLe.refl _ | refine SLe.more ?_ Q7 | refine SLe.more ?_ (Nxt.le Q7) | refine SLe.step ?_ Q7))) | exact Glb.lift Q7 (by (repeat (first | exact SLe.refl _ | refine SLe.more ?_ Q7 | refine SLe.more ?_ (Nxt.le Q7) | refine SLe.step ?_ Q7))) | exact Tab.lift Q7 (by (repeat (first | exact SLe.refl _ | refine SLe.more ?_ Q7 | refine SLe.more ?_ (Nxt.le Q7) | refine SLe.step ?_ Q7))) | exact RIn_any Q7 | exact RFd_any Q7 | exact RCa_any Q7) | exact Nat.le_trans Q7 M5 | omega)):p:=h
end Go.Emb
namespace Go.Proofs.Y
open Go.Emb
theorem X6v {a:List UInt8} {cs:List Bool} {r:TypeId} {w:World} {K:Value->World->Prop}:V9 P .len [T.b] r cs [S a] w K=K (I a.length) w:=C1 Y6
theorem X6u {c d:Operand} {a b:Bool} {w:World} {K:Value->World->Prop}:Y5 P .eql T.n c d (.bool a) (.bool b) w K=K (.bool (a==b)) w:=Q6Z Q4R
theorem X6w {c d:Operand} {a b:Bool} {w:World} {K:Value->World->Prop}:Y5 P .neq T.n c d (.bool a) (.bool b) w K=K (.bool (!(a==b))) w:=Q70 Q4R
def Mm:=And.intro @fa <| And.intro @E0 <| And.intro @Yq <| And.intro @X6v <| And.intro @X6u @X6w
def M1:=And.intro Mm Mr
def M2:=And.intro Mm Mp
end Go.Proofs.Y
namespace Go.Proofs.Y
open Go.Emb Go.RowKit Go.Kd Go.Hm
variable {w : World} {K : Value -> World -> Prop} {σ : Q2}
def Lq (m:Hm.Met):Bool:=decide (32<m.params.length)||decide (32<m.catches.length)||decide (200<m.code.length)||decide (64<m.locals)
def Jr (c:Cla):Bool:=c.methods.any Lq||decide (32<c.like.length)||decide (32<c.fields.length)||decide (32<c.methods.length)
theorem X5v {c : Cla} {cs : List Value} (hs : X1 w σ) (hc : W8 σ c cs) (h : ∀ w', Below w.heap.size w w' -> K (.bool (Jr c)) w') : Q0 P F.cA [.agg cs.toArray] w K := Q7Q (by
  obtain ⟨lv, fv, mv, rfl, hl, hf, hm, hn, hsu⟩ := hc
  unfold Q1i
  simp only [M4]
  unfold J5 Y2 Z5 U4 X7 X5 X2
  refine E5 hs fun a w1 σ1 hk ha => ?_
  have hs := hk.sat
  replace hl := hl.up hk
  replace hf := hf.up hk
  replace hm := hm.up hk
  simp only [Value.cells] at ha
  ((try simp only [↓M1, M1, Mb, reduceIte]); repeat ((first | refine ld (by assumption) (by assumption) rfl ?_ | refine Y4 (by assumption) (by assumption) rfl ?_ | refine Q6 (by assumption) ?_); (try simp only [↓M1, M1, Mb, reduceIte])))
  refine U8 c.methods.length (fun n w' => Below w1.heap.size w1 w' /\ ((c.methods.take n).any Lq) = false) ⟨Below.refl _ _, by simp⟩ fun n w2 d hn hi => ?_
  obtain ⟨hb, hp⟩ := hi
  have hs2 := hs.below hb
  ((try simp only [↓M1, M1, Mb, reduceIte]); repeat ((first | refine ld (by assumption) (by assumption) rfl ?_ | refine Y4 (by assumption) (by assumption) rfl ?_ | refine Q6 (by assumption) ?_); (try simp only [↓M1, M1, Mb, reduceIte])))
  refine Q3 (fun hc => ?_) (fun hc => ?_)
  · have hn' : n < c.methods.length := by simpa using hc
    refine N0 hm hn' fun p cs hl1 hlen hr => ?_
    refine Z8 hs2 hl1 hlen ?_
    refine Z0 hs2 (by rfl) hlen (Rep.one hr) fun q w3 σ3 hk3 hq => ?_
    obtain ⟨pv, cv, hv, rfl, g1, g2, g3, g4⟩ := hr
    have hs3 := hk3.sat
    replace g1 := g1.up hk3
    replace g2 := g2.up hk3
    replace g3 := g3.up hk3
    ((try simp only [↓M1, M1, Mb, reduceIte]); repeat ((first | refine ld (by assumption) (by assumption) rfl ?_ | refine Y4 (by assumption) (by assumption) rfl ?_ | refine Q6 (by assumption) ?_); (try simp only [↓M1, M1, Mb, reduceIte])))
    (repeat' ((first | refine J4 (fun hh => ?_) (fun hh => ?_) | refine Q3 (fun hh => ?_) (fun hh => ?_)) <;> (try simp only [hh, Bool.not_true, Bool.not_false, ↓M1, M1, Mb, reduceIte]) <;> ((try simp only [↓M1, M1, Mb, reduceIte]); repeat ((first | refine ld (by assumption) (by assumption) rfl ?_ | refine Y4 (by assumption) (by assumption) rfl ?_ | refine Q6 (by assumption) ?_); (try simp only [↓M1, M1, Mb, reduceIte])))))
    all_goals first
      | refine Y9 hm.max hn' ⟨bt hb hk3.bel, ?_⟩
        rw [D6 hn', hp]; simp only [Lq]; (first | (simp only [decide_eq_true_eq, decide_eq_false_iff_not, Bool.not_true, Bool.not_false, Bool.not_eq_true', Bool.not_eq_false', Bool.or_eq_true, Bool.and_eq_true, Bool.or_eq_false_iff, Bool.and_eq_false_iff, Bool.false_or, Bool.true_and, Bool.or_false, Bool.and_true] at *; first | omega | (and_intros <;> omega)) | (rw [Bool.eq_iff_iff]; (simp only [decide_eq_true_eq, decide_eq_false_iff_not, Bool.not_true, Bool.not_false, Bool.not_eq_true', Bool.not_eq_false', Bool.or_eq_true, Bool.and_eq_true, Bool.or_eq_false_iff, Bool.and_eq_false_iff, Bool.false_or, Bool.true_and, Bool.or_false, Bool.and_true] at *; first | omega | (and_intros <;> omega))))
      | have e : Jr c = true := by
          have : Lq c.methods[n] = true := by simp only [Lq]; (first | (simp only [decide_eq_true_eq, decide_eq_false_iff_not, Bool.not_true, Bool.not_false, Bool.not_eq_true', Bool.not_eq_false', Bool.or_eq_true, Bool.and_eq_true, Bool.or_eq_false_iff, Bool.and_eq_false_iff, Bool.false_or, Bool.true_and, Bool.or_false, Bool.and_true] at *; first | omega | (and_intros <;> omega)) | (rw [Bool.eq_iff_iff]; (simp only [decide_eq_true_eq, decide_eq_false_iff_not, Bool.not_true, Bool.not_false, Bool.not_eq_true', Bool.not_eq_false', Bool.or_eq_true, Bool.and_eq_true, Bool.or_eq_false_iff, Bool.and_eq_false_iff, Bool.false_or, Bool.true_and, Bool.or_false, Bool.and_true] at *; first | omega | (and_intros <;> omega))))
          simp [Jr, I5 hn' this]
        rw [<- e]; exact h _ (bt hk.bel (bt hb hk3.bel))
  · have hn' : ¬ n < c.methods.length := by simpa using hc
    rw [C0 hn'] at hp
    have h := h w2 (bt hk.bel hb)
    ((try simp only [↓M1, M1, Mb, reduceIte]); repeat ((first | refine ld (by assumption) (by assumption) rfl ?_ | refine Y4 (by assumption) (by assumption) rfl ?_ | refine Q6 (by assumption) ?_); (try simp only [↓M1, M1, Mb, reduceIte])))
    (repeat' ((first | refine J4 (fun hh => ?_) (fun hh => ?_) | refine Q3 (fun hh => ?_) (fun hh => ?_)) <;> (try simp only [hh, Bool.not_true, Bool.not_false, ↓M1, M1, Mb, reduceIte]) <;> ((try simp only [↓M1, M1, Mb, reduceIte]); repeat ((first | refine ld (by assumption) (by assumption) rfl ?_ | refine Y4 (by assumption) (by assumption) rfl ?_ | refine Q6 (by assumption) ?_); (try simp only [↓M1, M1, Mb, reduceIte])))))
    all_goals
      refine Eq.subst (motive := fun b => K (.bool b) w2) ?_ h
      simp only [Jr, hp]
      (first | (simp only [decide_eq_true_eq, decide_eq_false_iff_not, Bool.not_true, Bool.not_false, Bool.not_eq_true', Bool.not_eq_false', Bool.or_eq_true, Bool.and_eq_true, Bool.or_eq_false_iff, Bool.and_eq_false_iff, Bool.false_or, Bool.true_and, Bool.or_false, Bool.and_true] at *; first | omega | (and_intros <;> omega)) | (rw [Bool.eq_iff_iff]; (simp only [decide_eq_true_eq, decide_eq_false_iff_not, Bool.not_true, Bool.not_false, Bool.not_eq_true', Bool.not_eq_false', Bool.or_eq_true, Bool.and_eq_true, Bool.or_eq_false_iff, Bool.and_eq_false_iff, Bool.false_or, Bool.true_and, Bool.or_false, Bool.and_true] at *; first | omega | (and_intros <;> omega)))))
end Go.Proofs.Y
namespace Go.Emb
open Go.RowKit Go.Hm
variable {H : Type} {enc : TypeId × Value -> H} {P : Program} {W : World} {t : TypeId} {cs : List Value} {fuel : Nat} {x : DataW H × List MemPlace}
def Q6P (W:World):Q2:=fun b=>W.heap[b]?
theorem X27:X1 W (Q6P W):=fun b o h=>h
def Wt (P:Program) (t:TypeId) (d:DataW H):Prop:= ∀n∈d.weights P t,n<=reachBytes
theorem X64 (a:P.underlying t=some .string) (h:DataW.trod enc P W 0 (fun _=>true) true fuel t cs=some x) (b:Wt P t x.1): ∃s:Kd.Q8,cs=[S s]/\s.length<=U9:=by
 obtain ⟨⟨⟨s⟩⟩,rfl,rfl,_⟩:=DataW.trod_string a h;refine ⟨s,rfl,?_⟩;have:=b s.length (by simp[DataW.weights])
 exact this
theorem X3P {α:Type} {l:List α} (h:l.length=3): ∃a b c,l=[a,b,c]:=by
 match l,h with
 | [a,b,c],_=>exact ⟨a,b,c,rfl⟩
end Go.Emb
namespace Go.Proofs.Y
open Go.Emb Go.RowKit Go.Kd Go.Hm
theorem Q7G:P.cellsOf T.b=1:=by kernel_rfl
theorem X62:P.cellsOf T.n=1:=by kernel_rfl
end Go.Proofs.Y
namespace Go.Emb
def U1 {α β:Type} (a:β->α->Bool×β):β->List α->Nat->Option Nat×β
 | s,[],_=>(none,s)
 | s,x::xs,i=>if (a s x).1 then (some i,(a s x).2) else U1 a (a s x).2 xs (i+1)
def M9 (o:Option Nat):Int:=match o with | some i=>i | none=> -1
theorem I8 {α:Type} (p:α->Bool): ∀(xs:List α) (i:Nat),(U1 (fun (_:Unit) x=>(p x,())) () xs i).1=(xs.findIdx? p).map (· +i):=by
 intro xs
 induction xs with
 | nil=>intro i;rfl
 | cons x r ih=>
  intro i;rw[List.findIdx?_cons];simp only[U1];cases p x with
  | true=>simp
  | false=>
   simp only[Bool.false_eq_true,if_false];rw[ih (i+1),Option.map_map]
   congr 1;funext n;simp only[Function.comp];omega
theorem Hb {α β:Type} (a:β->α->Bool×β) (s:β) (xs:List α) (i:Nat):decide ((0:Int)<=M9 (U1 a s xs i).1)=(U1 a s xs i).1.isSome:=by
 cases (U1 a s xs i).1<;>simp[M9]
end Go.Emb
namespace Go.Proofs.Y
open Go.Emb Go.RowKit Go.Kd Go.Hm
variable {w : World} {K : Value -> World -> Prop} {σ : Q2}
theorem Lj {β:Type} {xs:List Hm.Met} {v f:Value} (b:β->Hm.Met->Bool×β) (m:β) (a:β->World->Prop) (D:Nat->Prop) (l: ∀s w,a s w->X1 w σ) (y:a m w) (u:Sl 7 E6 σ v xs)
 (z: ∀s x cs (w1:World) (K:Value->World->Prop),x∈xs->Kpt D w w1->a s w1->E6 σ x cs->cs.length=7->(∀w',Kpt D w w'->a (b s x).2 w'->K (.bool (b s x).1) w')->Y8 P f [.agg cs.toArray] w1 K)
 (h: ∀w',Kpt D w w'->a (U1 b m xs 0).2 w'->K (I (M9 (U1 b m xs 0).1)) w'):Q0 P F.g [v,f] w K:=Yx (by
 unfold F6 Z5 U4 X7 X2
 ((try simp only[↓M1,M1,Mb,reduceIte]);repeat ((first | refine ld Q7 Q7 rfl ?_ | refine Y4 Q7 Q7 rfl ?_ | refine Q6 Q7 ?_);(try simp only[↓M1,M1,Mb,reduceIte])))
 refine U8 xs.length (fun n w'=>Kpt D w w'/\ ∃s,a s w'/\U1 b m xs 0=U1 b s (xs.drop n) n) ⟨Kpt.refl,m,y,rfl⟩ fun n w1 d E i=>?_;obtain ⟨t,s,i,e⟩:=i;have r:=l s w1 i
 ((try simp only[↓M1,M1,Mb,reduceIte]);repeat ((first | refine ld Q7 Q7 rfl ?_ | refine Y4 Q7 Q7 rfl ?_ | refine Q6 Q7 ?_);(try simp only[↓M1,M1,Mb,reduceIte])))
 refine Q3 (fun q=>?_) (fun q=>?_)
 .have c:n<xs.length:=by simpa using q
  refine N0 u c fun p cs A g B=>?_;refine Z8 r A g ?_;refine z s xs[n] cs w1 _ (List.getElem_mem c) t i B g fun C k j=>?_;rw[List.drop_eq_getElem_cons c] at e;simp only[U1] at e;refine Q3 (fun o=>?_) (fun o=>?_)
  .rw[o] at e
   have:=h C k;rw[e] at this;exact this j
  .rw[o] at e
   ((try simp only[↓M1,M1,Mb,reduceIte]);repeat ((first | refine ld Q7 Q7 rfl ?_ | refine Y4 Q7 Q7 rfl ?_ | refine Q6 Q7 ?_);(try simp only[↓M1,M1,Mb,reduceIte])))
   exact Y9 u.max c ⟨k,_,j,by simpa using e⟩
 .have c: ¬n<xs.length:=by simpa using q
  rw[List.drop_eq_nil_of_le Q4] at e;have:=h w1 t;rw[e] at this;exact this i)
theorem Ud {β:Type} {xs:List Hm.Met} {v f:Value} (b:β->Hm.Met->Bool×β) (d:β) (a:β->World->Prop) (D:Nat->Prop) (c: ∀s w,a s w->X1 w σ) (e:a d w) (k:Sl 7 E6 σ v xs)
 (g: ∀s x cs (w1:World) (K:Value->World->Prop),x∈xs->Kpt D w w1->a s w1->E6 σ x cs->cs.length=7->(∀w',Kpt D w w'->a (b s x).2 w'->K (.bool (b s x).1) w')->Y8 P f [.agg cs.toArray] w1 K)
 (h: ∀w',Kpt D w w'->a (U1 b d xs 0).2 w'->K (.bool (U1 b d xs 0).1.isSome) w'):Q0 P F.a [v,f] w K:=Xi (by
 unfold B0 X5;refine Lj b d a D c e k g fun w1 j i=>?_
 (try simp only[↓M1,M1,Mb,reduceIte])
 rw[Hb];exact h w1 j i)
theorem Gg {xs:List Hm.Met} {v f:Value} (p:Hm.Met->Bool) (hs:X1 w σ) (hv:Sl 7 E6 σ v xs)
 (hf: ∀x cs (w1:World) (K:Value->World->Prop),x∈xs->X1 w1 σ->E6 σ x cs->cs.length=7->(∀w',Below w1.heap.size w1 w'->K (.bool (p x)) w')->Y8 P f [.agg cs.toArray] w1 K)
 (h: ∀w',Below w.heap.size w w'->K (I (M9 (xs.findIdx? p))) w'):Q0 P F.g [v,f] w K:=by
 refine Lj (fun (_:Unit) x=>(p x,())) () (fun _ w'=>Below w.heap.size w w') (fun _=>False) (fun _ w' hb=>hs.below hb) (Below.refl _ _) hv (fun s x cs w1 K hx hk hi hr hl hK=>hf x cs w1 K hx (hs.below hi) hr hl fun w' hb=>hK w' (.of_below (bt hi hb)) (bt hi hb)) fun w' hk hi=>?_;rw[I8]
 simpa using h w' hi
theorem F9 {xs:List Hm.Met} {v f:Value} (p:Hm.Met->Bool) (hs:X1 w σ) (hv:Sl 7 E6 σ v xs)
 (hf: ∀x cs (w1:World) (K:Value->World->Prop),x∈xs->X1 w1 σ->E6 σ x cs->cs.length=7->(∀w',Below w1.heap.size w1 w'->K (.bool (p x)) w')->Y8 P f [.agg cs.toArray] w1 K)
 (h: ∀w',Below w.heap.size w w'->K (.bool (xs.any p)) w'):Q0 P F.a [v,f] w K:=by
 refine Ud (fun (_:Unit) x=>(p x,())) () (fun _ w'=>Below w.heap.size w w') (fun _=>False) (fun _ w' hb=>hs.below hb) (Below.refl _ _) hv (fun s x cs w1 K hx hk hi hr hl hK=>hf x cs w1 K hx (hs.below hi) hr hl fun w' hb=>hK w' (.of_below (bt hi hb)) (bt hi hb)) fun w' hk hi=>?_;rw[I8]
 simpa using h w' hi
theorem Na {β:Type} {xs:List Fld} {v f:Value} (b:β->Fld->Bool×β) (m:β) (a:β->World->Prop) (D:Nat->Prop) (l: ∀s w,a s w->X1 w σ) (y:a m w) (u:Sl 3 C5 σ v xs)
 (z: ∀s x cs (w1:World) (K:Value->World->Prop),x∈xs->Kpt D w w1->a s w1->C5 σ x cs->cs.length=3->(∀w',Kpt D w w'->a (b s x).2 w'->K (.bool (b s x).1) w')->Y8 P f [.agg cs.toArray] w1 K)
 (h: ∀w',Kpt D w w'->a (U1 b m xs 0).2 w'->K (I (M9 (U1 b m xs 0).1)) w'):Q0 P F.j [v,f] w K:=Ja (by
 unfold G7 Z5 U4 X7 X2
 ((try simp only[↓M1,M1,Mb,reduceIte]);repeat ((first | refine ld Q7 Q7 rfl ?_ | refine Y4 Q7 Q7 rfl ?_ | refine Q6 Q7 ?_);(try simp only[↓M1,M1,Mb,reduceIte])))
 refine U8 xs.length (fun n w'=>Kpt D w w'/\ ∃s,a s w'/\U1 b m xs 0=U1 b s (xs.drop n) n) ⟨Kpt.refl,m,y,rfl⟩ fun n w1 d E i=>?_;obtain ⟨t,s,i,e⟩:=i;have r:=l s w1 i
 ((try simp only[↓M1,M1,Mb,reduceIte]);repeat ((first | refine ld Q7 Q7 rfl ?_ | refine Y4 Q7 Q7 rfl ?_ | refine Q6 Q7 ?_);(try simp only[↓M1,M1,Mb,reduceIte])))
 refine Q3 (fun q=>?_) (fun q=>?_)
 .have c:n<xs.length:=by simpa using q
  refine N0 u c fun p cs A g B=>?_;refine Z8 r A g ?_;refine z s xs[n] cs w1 _ (List.getElem_mem c) t i B g fun C k j=>?_;rw[List.drop_eq_getElem_cons c] at e;simp only[U1] at e;refine Q3 (fun o=>?_) (fun o=>?_)
  .rw[o] at e
   have:=h C k;rw[e] at this;exact this j
  .rw[o] at e
   ((try simp only[↓M1,M1,Mb,reduceIte]);repeat ((first | refine ld Q7 Q7 rfl ?_ | refine Y4 Q7 Q7 rfl ?_ | refine Q6 Q7 ?_);(try simp only[↓M1,M1,Mb,reduceIte])))
   exact Y9 u.max c ⟨k,_,j,by simpa using e⟩
 .have c: ¬n<xs.length:=by simpa using q
  rw[List.drop_eq_nil_of_le Q4] at e;have:=h w1 t;rw[e] at this;exact this i)
theorem Bj {β:Type} {xs:List Fld} {v f:Value} (b:β->Fld->Bool×β) (d:β) (a:β->World->Prop) (D:Nat->Prop) (c: ∀s w,a s w->X1 w σ) (e:a d w) (k:Sl 3 C5 σ v xs)
 (g: ∀s x cs (w1:World) (K:Value->World->Prop),x∈xs->Kpt D w w1->a s w1->C5 σ x cs->cs.length=3->(∀w',Kpt D w w'->a (b s x).2 w'->K (.bool (b s x).1) w')->Y8 P f [.agg cs.toArray] w1 K)
 (h: ∀w',Kpt D w w'->a (U1 b d xs 0).2 w'->K (.bool (U1 b d xs 0).1.isSome) w'):Q0 P F.f [v,f] w K:=Xy (by
 unfold F0 X5;refine Na b d a D c e k g fun w1 j i=>?_
 (try simp only[↓M1,M1,Mb,reduceIte])
 rw[Hb];exact h w1 j i)
theorem Ie {xs:List Fld} {v f:Value} (p:Fld->Bool) (hs:X1 w σ) (hv:Sl 3 C5 σ v xs)
 (hf: ∀x cs (w1:World) (K:Value->World->Prop),x∈xs->X1 w1 σ->C5 σ x cs->cs.length=3->(∀w',Below w1.heap.size w1 w'->K (.bool (p x)) w')->Y8 P f [.agg cs.toArray] w1 K)
 (h: ∀w',Below w.heap.size w w'->K (I (M9 (xs.findIdx? p))) w'):Q0 P F.j [v,f] w K:=by
 refine Na (fun (_:Unit) x=>(p x,())) () (fun _ w'=>Below w.heap.size w w') (fun _=>False) (fun _ w' hb=>hs.below hb) (Below.refl _ _) hv (fun s x cs w1 K hx hk hi hr hl hK=>hf x cs w1 K hx (hs.below hi) hr hl fun w' hb=>hK w' (.of_below (bt hi hb)) (bt hi hb)) fun w' hk hi=>?_;rw[I8]
 simpa using h w' hi
theorem Ui {xs:List Fld} {v f:Value} (p:Fld->Bool) (hs:X1 w σ) (hv:Sl 3 C5 σ v xs)
 (hf: ∀x cs (w1:World) (K:Value->World->Prop),x∈xs->X1 w1 σ->C5 σ x cs->cs.length=3->(∀w',Below w1.heap.size w1 w'->K (.bool (p x)) w')->Y8 P f [.agg cs.toArray] w1 K)
 (h: ∀w',Below w.heap.size w w'->K (.bool (xs.any p)) w'):Q0 P F.f [v,f] w K:=by
 refine Bj (fun (_:Unit) x=>(p x,())) () (fun _ w'=>Below w.heap.size w w') (fun _=>False) (fun _ w' hb=>hs.below hb) (Below.refl _ _) hv (fun s x cs w1 K hx hk hi hr hl hK=>hf x cs w1 K hx (hs.below hi) hr hl fun w' hb=>hK w' (.of_below (bt hi hb)) (bt hi hb)) fun w' hk hi=>?_;rw[I8]
 simpa using h w' hi
theorem Kv {β:Type} {xs:List Ins} {v f:Value} (b:β->Ins->Bool×β) (m:β) (a:β->World->Prop) (D:Nat->Prop) (l: ∀s w,a s w->X1 w σ) (y:a m w) (u:Sl 3 Qx σ v xs)
 (z: ∀s x cs (w1:World) (K:Value->World->Prop),x∈xs->Kpt D w w1->a s w1->Qx σ x cs->cs.length=3->(∀w',Kpt D w w'->a (b s x).2 w'->K (.bool (b s x).1) w')->Y8 P f [.agg cs.toArray] w1 K)
 (h: ∀w',Kpt D w w'->a (U1 b m xs 0).2 w'->K (I (M9 (U1 b m xs 0).1)) w'):Q0 P F.a0 [v,f] w K:=Jb (by
 unfold G8 Z5 U4 X7 X2
 ((try simp only[↓M1,M1,Mb,reduceIte]);repeat ((first | refine ld Q7 Q7 rfl ?_ | refine Y4 Q7 Q7 rfl ?_ | refine Q6 Q7 ?_);(try simp only[↓M1,M1,Mb,reduceIte])))
 refine U8 xs.length (fun n w'=>Kpt D w w'/\ ∃s,a s w'/\U1 b m xs 0=U1 b s (xs.drop n) n) ⟨Kpt.refl,m,y,rfl⟩ fun n w1 d E i=>?_;obtain ⟨t,s,i,e⟩:=i;have r:=l s w1 i
 ((try simp only[↓M1,M1,Mb,reduceIte]);repeat ((first | refine ld Q7 Q7 rfl ?_ | refine Y4 Q7 Q7 rfl ?_ | refine Q6 Q7 ?_);(try simp only[↓M1,M1,Mb,reduceIte])))
 refine Q3 (fun q=>?_) (fun q=>?_)
 .have c:n<xs.length:=by simpa using q
  refine N0 u c fun p cs A g B=>?_;refine Z8 r A g ?_;refine z s xs[n] cs w1 _ (List.getElem_mem c) t i B g fun C k j=>?_;rw[List.drop_eq_getElem_cons c] at e;simp only[U1] at e;refine Q3 (fun o=>?_) (fun o=>?_)
  .rw[o] at e
   have:=h C k;rw[e] at this;exact this j
  .rw[o] at e
   ((try simp only[↓M1,M1,Mb,reduceIte]);repeat ((first | refine ld Q7 Q7 rfl ?_ | refine Y4 Q7 Q7 rfl ?_ | refine Q6 Q7 ?_);(try simp only[↓M1,M1,Mb,reduceIte])))
   exact Y9 u.max c ⟨k,_,j,by simpa using e⟩
 .have c: ¬n<xs.length:=by simpa using q
  rw[List.drop_eq_nil_of_le Q4] at e;have:=h w1 t;rw[e] at this;exact this i)
theorem Bk {β:Type} {xs:List Ins} {v f:Value} (b:β->Ins->Bool×β) (d:β) (a:β->World->Prop) (D:Nat->Prop) (c: ∀s w,a s w->X1 w σ) (e:a d w) (k:Sl 3 Qx σ v xs)
 (g: ∀s x cs (w1:World) (K:Value->World->Prop),x∈xs->Kpt D w w1->a s w1->Qx σ x cs->cs.length=3->(∀w',Kpt D w w'->a (b s x).2 w'->K (.bool (b s x).1) w')->Y8 P f [.agg cs.toArray] w1 K)
 (h: ∀w',Kpt D w w'->a (U1 b d xs 0).2 w'->K (.bool (U1 b d xs 0).1.isSome) w'):Q0 P F.m [v,f] w K:=Xz (by
 unfold F2 X5;refine Kv b d a D c e k g fun w1 j i=>?_
 (try simp only[↓M1,M1,Mb,reduceIte])
 rw[Hb];exact h w1 j i)
theorem Sy {xs:List Ins} {v f:Value} (p:Ins->Bool) (hs:X1 w σ) (hv:Sl 3 Qx σ v xs)
 (hf: ∀x cs (w1:World) (K:Value->World->Prop),x∈xs->X1 w1 σ->Qx σ x cs->cs.length=3->(∀w',Below w1.heap.size w1 w'->K (.bool (p x)) w')->Y8 P f [.agg cs.toArray] w1 K)
 (h: ∀w',Below w.heap.size w w'->K (.bool (xs.any p)) w'):Q0 P F.m [v,f] w K:=by
 refine Bk (fun (_:Unit) x=>(p x,())) () (fun _ w'=>Below w.heap.size w w') (fun _=>False) (fun _ w' hb=>hs.below hb) (Below.refl _ _) hv (fun s x cs w1 K hx hk hi hr hl hK=>hf x cs w1 K hx (hs.below hi) hr hl fun w' hb=>hK w' (.of_below (bt hi hb)) (bt hi hb)) fun w' hk hi=>?_;rw[I8]
 simpa using h w' hi
theorem Kt {β:Type} {xs:List Cat} {v f:Value} (b:β->Cat->Bool×β) (m:β) (a:β->World->Prop) (D:Nat->Prop) (l: ∀s w,a s w->X1 w σ) (y:a m w) (u:Sl 4 Uh σ v xs)
 (z: ∀s x cs (w1:World) (K:Value->World->Prop),x∈xs->Kpt D w w1->a s w1->Uh σ x cs->cs.length=4->(∀w',Kpt D w w'->a (b s x).2 w'->K (.bool (b s x).1) w')->Y8 P f [.agg cs.toArray] w1 K)
 (h: ∀w',Kpt D w w'->a (U1 b m xs 0).2 w'->K (I (M9 (U1 b m xs 0).1)) w'):Q0 P F.z [v,f] w K:=Zy (by
 unfold G5 Z5 U4 X7 X2
 ((try simp only[↓M1,M1,Mb,reduceIte]);repeat ((first | refine ld Q7 Q7 rfl ?_ | refine Y4 Q7 Q7 rfl ?_ | refine Q6 Q7 ?_);(try simp only[↓M1,M1,Mb,reduceIte])))
 refine U8 xs.length (fun n w'=>Kpt D w w'/\ ∃s,a s w'/\U1 b m xs 0=U1 b s (xs.drop n) n) ⟨Kpt.refl,m,y,rfl⟩ fun n w1 d E i=>?_;obtain ⟨t,s,i,e⟩:=i;have r:=l s w1 i
 ((try simp only[↓M1,M1,Mb,reduceIte]);repeat ((first | refine ld Q7 Q7 rfl ?_ | refine Y4 Q7 Q7 rfl ?_ | refine Q6 Q7 ?_);(try simp only[↓M1,M1,Mb,reduceIte])))
 refine Q3 (fun q=>?_) (fun q=>?_)
 .have c:n<xs.length:=by simpa using q
  refine N0 u c fun p cs A g B=>?_;refine Z8 r A g ?_;refine z s xs[n] cs w1 _ (List.getElem_mem c) t i B g fun C k j=>?_;rw[List.drop_eq_getElem_cons c] at e;simp only[U1] at e;refine Q3 (fun o=>?_) (fun o=>?_)
  .rw[o] at e
   have:=h C k;rw[e] at this;exact this j
  .rw[o] at e
   ((try simp only[↓M1,M1,Mb,reduceIte]);repeat ((first | refine ld Q7 Q7 rfl ?_ | refine Y4 Q7 Q7 rfl ?_ | refine Q6 Q7 ?_);(try simp only[↓M1,M1,Mb,reduceIte])))
   exact Y9 u.max c ⟨k,_,j,by simpa using e⟩
 .have c: ¬n<xs.length:=by simpa using q
  rw[List.drop_eq_nil_of_le Q4] at e;have:=h w1 t;rw[e] at this;exact this i)
theorem Bi {β:Type} {xs:List Cat} {v f:Value} (b:β->Cat->Bool×β) (d:β) (a:β->World->Prop) (D:Nat->Prop) (c: ∀s w,a s w->X1 w σ) (e:a d w) (k:Sl 4 Uh σ v xs)
 (g: ∀s x cs (w1:World) (K:Value->World->Prop),x∈xs->Kpt D w w1->a s w1->Uh σ x cs->cs.length=4->(∀w',Kpt D w w'->a (b s x).2 w'->K (.bool (b s x).1) w')->Y8 P f [.agg cs.toArray] w1 K)
 (h: ∀w',Kpt D w w'->a (U1 b d xs 0).2 w'->K (.bool (U1 b d xs 0).1.isSome) w'):Q0 P F.l [v,f] w K:=Xx (by
 unfold B9 X5;refine Kt b d a D c e k g fun w1 j i=>?_
 (try simp only[↓M1,M1,Mb,reduceIte])
 rw[Hb];exact h w1 j i)
theorem Sx {xs:List Cat} {v f:Value} (p:Cat->Bool) (hs:X1 w σ) (hv:Sl 4 Uh σ v xs)
 (hf: ∀x cs (w1:World) (K:Value->World->Prop),x∈xs->X1 w1 σ->Uh σ x cs->cs.length=4->(∀w',Below w1.heap.size w1 w'->K (.bool (p x)) w')->Y8 P f [.agg cs.toArray] w1 K)
 (h: ∀w',Below w.heap.size w w'->K (.bool (xs.any p)) w'):Q0 P F.l [v,f] w K:=by
 refine Bi (fun (_:Unit) x=>(p x,())) () (fun _ w'=>Below w.heap.size w w') (fun _=>False) (fun _ w' hb=>hs.below hb) (Below.refl _ _) hv (fun s x cs w1 K hx hk hi hr hl hK=>hf x cs w1 K hx (hs.below hi) hr hl fun w' hb=>hK w' (.of_below (bt hi hb)) (bt hi hb)) fun w' hk hi=>?_;rw[I8]
 simpa using h w' hi
theorem Ku {β:Type} {xs:List Cla} {v f:Value} (b:β->Cla->Bool×β) (m:β) (a:β->World->Prop) (D:Nat->Prop) (l: ∀s w,a s w->X1 w σ) (y:a m w) (u:Sl 8 W8 σ v xs)
 (z: ∀s x cs (w1:World) (K:Value->World->Prop),x∈xs->Kpt D w w1->a s w1->W8 σ x cs->cs.length=8->(∀w',Kpt D w w'->a (b s x).2 w'->K (.bool (b s x).1) w')->Y8 P f [.agg cs.toArray] w1 K)
 (h: ∀w',Kpt D w w'->a (U1 b m xs 0).2 w'->K (I (M9 (U1 b m xs 0).1)) w'):Q0 P F.p [v,f] w K:=Zz (by
 unfold G6 Z5 U4 X7 X2
 ((try simp only[↓M1,M1,Mb,reduceIte]);repeat ((first | refine ld Q7 Q7 rfl ?_ | refine Y4 Q7 Q7 rfl ?_ | refine Q6 Q7 ?_);(try simp only[↓M1,M1,Mb,reduceIte])))
 refine U8 xs.length (fun n w'=>Kpt D w w'/\ ∃s,a s w'/\U1 b m xs 0=U1 b s (xs.drop n) n) ⟨Kpt.refl,m,y,rfl⟩ fun n w1 d E i=>?_;obtain ⟨t,s,i,e⟩:=i;have r:=l s w1 i
 ((try simp only[↓M1,M1,Mb,reduceIte]);repeat ((first | refine ld Q7 Q7 rfl ?_ | refine Y4 Q7 Q7 rfl ?_ | refine Q6 Q7 ?_);(try simp only[↓M1,M1,Mb,reduceIte])))
 refine Q3 (fun q=>?_) (fun q=>?_)
 .have c:n<xs.length:=by simpa using q
  refine N0 u c fun p cs A g B=>?_;refine Z8 r A g ?_;refine z s xs[n] cs w1 _ (List.getElem_mem c) t i B g fun C k j=>?_;rw[List.drop_eq_getElem_cons c] at e;simp only[U1] at e;refine Q3 (fun o=>?_) (fun o=>?_)
  .rw[o] at e
   have:=h C k;rw[e] at this;exact this j
  .rw[o] at e
   ((try simp only[↓M1,M1,Mb,reduceIte]);repeat ((first | refine ld Q7 Q7 rfl ?_ | refine Y4 Q7 Q7 rfl ?_ | refine Q6 Q7 ?_);(try simp only[↓M1,M1,Mb,reduceIte])))
   exact Y9 u.max c ⟨k,_,j,by simpa using e⟩
 .have c: ¬n<xs.length:=by simpa using q
  rw[List.drop_eq_nil_of_le Q4] at e;have:=h w1 t;rw[e] at this;exact this i)
theorem Ic {xs:List Cla} {v f:Value} (p:Cla->Bool) (hs:X1 w σ) (hv:Sl 8 W8 σ v xs)
 (hf: ∀x cs (w1:World) (K:Value->World->Prop),x∈xs->X1 w1 σ->W8 σ x cs->cs.length=8->(∀w',Below w1.heap.size w1 w'->K (.bool (p x)) w')->Y8 P f [.agg cs.toArray] w1 K)
 (h: ∀w',Below w.heap.size w w'->K (I (M9 (xs.findIdx? p))) w'):Q0 P F.p [v,f] w K:=by
 refine Ku (fun (_:Unit) x=>(p x,())) () (fun _ w'=>Below w.heap.size w w') (fun _=>False) (fun _ w' hb=>hs.below hb) (Below.refl _ _) hv (fun s x cs w1 K hx hk hi hr hl hK=>hf x cs w1 K hx (hs.below hi) hr hl fun w' hb=>hK w' (.of_below (bt hi hb)) (bt hi hb)) fun w' hk hi=>?_;rw[I8]
 simpa using h w' hi
theorem Q25 {β:Type} {xs:List Q8} {v f:Value} (b:β->Q8->Bool×β) (m:β) (a:β->World->Prop) (D:Nat->Prop) (l: ∀s w,a s w->X1 w σ) (z:a m w) (y:Sl 1 V3 σ v xs)
 (A: ∀s x (w1:World) (K:Value->World->Prop),x∈xs->Kpt D w w1->a s w1->x.length<=U9->(∀w',Kpt D w w'->a (b s x).2 w'->K (.bool (b s x).1) w')->Y8 P f [S x] w1 K)
 (h: ∀w',Kpt D w w'->a (U1 b m xs 0).2 w'->K (I (M9 (U1 b m xs 0).1)) w'):Q0 P F.x [v,f] w K:=Wq (by
 unfold T9 Z5 U4 X7 X2
 ((try simp only[↓M1,M1,Mb,reduceIte]);repeat ((first | refine ld Q7 Q7 rfl ?_ | refine Y4 Q7 Q7 rfl ?_ | refine Q6 Q7 ?_);(try simp only[↓M1,M1,Mb,reduceIte])))
 refine U8 xs.length (fun n w'=>Kpt D w w'/\ ∃s,a s w'/\U1 b m xs 0=U1 b s (xs.drop n) n) ⟨Kpt.refl,m,z,rfl⟩ fun n w1 d H i=>?_;obtain ⟨t,s,i,e⟩:=i;have r:=l s w1 i
 ((try simp only[↓M1,M1,Mb,reduceIte]);repeat ((first | refine ld Q7 Q7 rfl ?_ | refine Y4 Q7 Q7 rfl ?_ | refine Q6 Q7 ?_);(try simp only[↓M1,M1,Mb,reduceIte])))
 refine Q3 (fun q=>?_) (fun q=>?_)
 .have c:n<xs.length:=by simpa using q
  refine N0 y c fun p cs B u C=>?_;obtain ⟨rfl,g⟩:=C;refine Y4 r B rfl ?_;refine A s xs[n] w1 _ (List.getElem_mem c) t i g fun E k j=>?_;rw[List.drop_eq_getElem_cons c] at e;simp only[U1] at e;refine Q3 (fun o=>?_) (fun o=>?_)
  .rw[o] at e
   have:=h E k;rw[e] at this;exact this j
  .rw[o] at e
   ((try simp only[↓M1,M1,Mb,reduceIte]);repeat ((first | refine ld Q7 Q7 rfl ?_ | refine Y4 Q7 Q7 rfl ?_ | refine Q6 Q7 ?_);(try simp only[↓M1,M1,Mb,reduceIte])))
   exact Y9 y.max c ⟨k,_,j,by simpa using e⟩
 .have c: ¬n<xs.length:=by simpa using q
  rw[List.drop_eq_nil_of_le Q4] at e;have:=h w1 t;rw[e] at this;exact this i)
theorem Q15 {xs:List Q8} {v f:Value} (p:Q8->Bool) (hs:X1 w σ) (hv:Sl 1 V3 σ v xs)
 (hf: ∀x (w1:World) (K:Value->World->Prop),x∈xs->X1 w1 σ->x.length<=U9->(∀w',Below w1.heap.size w1 w'->K (.bool (p x)) w')->Y8 P f [S x] w1 K)
 (h: ∀w',Below w.heap.size w w'->K (I (M9 (xs.findIdx? p))) w'):Q0 P F.x [v,f] w K:=by
 refine Q25 (fun (_:Unit) x=>(p x,())) () (fun _ w'=>Below w.heap.size w w') (fun _=>False) (fun _ w' hb=>hs.below hb) (Below.refl _ _) hv (fun s x w1 K hx hk hi hr hK=>hf x w1 K hx (hs.below hi) hr fun w' hb=>hK w' (.of_below (bt hi hb)) (bt hi hb)) fun w' hk hi=>?_;rw[I8]
 simpa using h w' hi
theorem Q7q {α:Type} (p:α->Bool) (xs:List α):decide ((0:Int)<=M9 (xs.findIdx? p))=xs.any p:=by
 rw[Bool.eq_iff_iff,List.any_eq_true];simp only[decide_eq_true_eq];cases h:xs.findIdx? p with
 | none=>
  simp only[M9];constructor
  .intro h;omega
  .rintro ⟨x,c,a⟩;have:=List.findIdx?_eq_none_iff.1 h x c;rw[a] at this;cases this
 | some i=>
  simp only[M9];obtain ⟨b,a,_⟩:=List.findIdx?_eq_some_iff_getElem.1 h;exact ⟨fun _=>⟨xs[i],List.getElem_mem b,a⟩,fun _=>by omega⟩
theorem T4 {xs:List Q8} {v f:Value} (p:Q8->Bool) (c:X1 w σ) (d:Sl 1 V3 σ v xs)
 (b: ∀x (w1:World) (K:Value->World->Prop),x∈xs->X1 w1 σ->x.length<=U9->(∀w',Below w1.heap.size w1 w'->K (.bool (p x)) w')->Y8 P f [S x] w1 K)
 (h: ∀w',Below w.heap.size w w'->K (.bool (xs.any p)) w'):Q0 P F.c [v,f] w K:=Ug (by
 unfold P4 X5;refine Q15 p c d b fun w1 a=>?_
 (try simp only[↓M1,M1,Mb,reduceIte])
 rw[Q7q];exact h w1 a)
theorem Q52 {xs:List Q8} {v:Value} {x:Q8} (r:X1 w σ) (i:Sl 1 V3 σ v xs)
 (h:K (I (M9 (xs.findIdx? fun y=>decide (x=y)))) w):Q0 P F.ar [v,S x] w K:=Dh (by
 unfold Xf Z5 U4 X7 X2
 ((try simp only[↓M1,M1,Mb,reduceIte]);repeat ((first | refine ld Q7 Q7 rfl ?_ | refine Y4 Q7 Q7 rfl ?_ | refine Q6 Q7 ?_);(try simp only[↓M1,M1,Mb,reduceIte])))
 refine U8 xs.length (fun n w'=>w=w'/\(xs.take n).any (fun y=>decide (x=y))=false) ⟨rfl,rfl⟩ fun n w1 d q b=>?_;obtain ⟨rfl,b⟩:=b
 ((try simp only[↓M1,M1,Mb,reduceIte]);repeat ((first | refine ld Q7 Q7 rfl ?_ | refine Y4 Q7 Q7 rfl ?_ | refine Q6 Q7 ?_);(try simp only[↓M1,M1,Mb,reduceIte])))
 refine Q3 (fun e=>?_) (fun e=>?_)
 .have a:n<xs.length:=by simpa using e
  refine N0 i a fun p cs o g k=>?_;obtain ⟨rfl,f⟩:=k
  ((try simp only[↓M1,M1,Mb,reduceIte]);repeat ((first | refine ld Q7 Q7 rfl ?_ | refine Y4 Q7 Q7 rfl ?_ | refine Q6 Q7 ?_);(try simp only[↓M1,M1,Mb,reduceIte])))
  refine Q3 (fun c=>?_) (fun c=>?_)
  .have:xs.findIdx? (fun y=>decide (x=y))=some n:=by
    rw[List.findIdx?_eq_some_iff_getElem];refine ⟨a,c,fun j m=>?_⟩;have:=List.any_eq_false.1 b (xs[j]) (List.mem_take_iff_getElem.2 ⟨j,by omega,rfl⟩)
    exact this
   rw[this] at h;exact h
  ·((try simp only[↓M1,M1,Mb,reduceIte]);repeat ((first | refine ld Q7 Q7 rfl ?_ | refine Y4 Q7 Q7 rfl ?_ | refine Q6 Q7 ?_);(try simp only[↓M1,M1,Mb,reduceIte])))
   exact Y9 i.max a ⟨rfl,by rw[D6 a,b,c];rfl⟩
 .have a: ¬n<xs.length:=by simpa using e
  rw[C0 a] at b
  have:xs.findIdx? (fun y=>decide (x=y))=none:=by
   rw[List.findIdx?_eq_none_iff];intro y l;simpa using List.any_eq_false.1 b y l
  rw[this] at h;exact h)
theorem Q2H {xs:List Q8} {v:Value} {x:Q8} (a:X1 w σ) (b:Sl 1 V3 σ v xs)
 (h:K (.bool (xs.any fun y=>decide (x=y))) w):Q0 P F.ad [v,S x] w K:=Li (by
 unfold Qa X5;refine Q52 a b ?_
 (try simp only[↓M1,M1,Mb,reduceIte])
 rw[Q7q];exact h)
end Go.Proofs.Y
namespace Go.Emb
abbrev Q2.Le (σ σ':Q2):Prop:= ∀b o,σ b=some o->σ' b=some o
def I2 {α:Type} (f:α->List UInt8):List α->List α->Bool
 | _,[]=>true
 | seen,x::r=> !(seen.any fun y=>decide (f y=f x))&&I2 f (seen++[x]) r
theorem Ww {α:Type} (p:α->Bool) (xs:List α):(!xs.any fun x=> !p x)=xs.all p:=by
 rw[List.all_eq_not_any_not]
end Go.Emb
namespace Go.Proofs.Y
open Go.Emb Go.RowKit Go.Kd Go.Hm
variable {w : World} {K : Value -> World -> Prop} {σ : Q2}
theorem Q17 {xs:List Hm.Met} {v:Value} {fn:Fn} {k d:Array Value} (p:Hm.Met->Bool) (u:X1 w σ) (y:Sl 7 E6 σ v xs)
 (s: ∀(σ1:Q2) x cs (w1:World) (K:Value->World->Prop),σ.Le σ1->x∈xs->X1 w1 σ1->E6 σ1 x cs->cs.length=7->(∀w',Below w1.heap.size w1 w'->K (.bool (p x)) w')->Y8 P (.func fn k d) [.agg cs.toArray] w1 K)
 (h: ∀w',Below w.heap.size w w'->K (.bool (xs.all p)) w'):Q0 P F.ak [v, .func fn k d] w K:=Bb (by
 unfold Us;refine E5 u fun a w1 σ1 f l=>?_;simp only[Value.cells] at l
 ((try simp only[↓M1,M1,Mb,reduceIte]);repeat ((first | refine ld Q7 Q7 rfl ?_ | refine Y4 Q7 Q7 rfl ?_ | refine Q6 Q7 ?_);(try simp only[↓M1,M1,Mb,reduceIte])))
 refine F9 (fun x=> !p x) f.sat (y.up f) (fun x cs n K z j t m q=>?_) fun n r=>?_
 .refine Z6 (Rs ?_)
  unfold Jh;refine E5 j fun b A C c g=>?_;refine Y4 c.sat (l.up c) rfl ?_;refine Z8 c.sat g m ?_;refine s C x _ A _ (fun b o e=>c.le b o (f.le b o e)) z c.sat (Rep.up c.le t) m fun B i=>?_
  (try simp only[↓M1,M1,Mb,reduceIte])
  exact q B (bt c.bel i)
 ·(try simp only[↓M1,M1,Mb,reduceIte])
  rw[Ww];exact h n (bt f.bel r))
theorem Q2J {xs:List Fld} {v:Value} {fn:Fn} {k d:Array Value} (p:Fld->Bool) (u:X1 w σ) (y:Sl 3 C5 σ v xs)
 (s: ∀(σ1:Q2) x cs (w1:World) (K:Value->World->Prop),σ.Le σ1->x∈xs->X1 w1 σ1->C5 σ1 x cs->cs.length=3->(∀w',Below w1.heap.size w1 w'->K (.bool (p x)) w')->Y8 P (.func fn k d) [.agg cs.toArray] w1 K)
 (h: ∀w',Below w.heap.size w w'->K (.bool (xs.all p)) w'):Q0 P F.ao [v, .func fn k d] w K:=Bv (by
 unfold We;refine E5 u fun a w1 σ1 f l=>?_;simp only[Value.cells] at l
 ((try simp only[↓M1,M1,Mb,reduceIte]);repeat ((first | refine ld Q7 Q7 rfl ?_ | refine Y4 Q7 Q7 rfl ?_ | refine Q6 Q7 ?_);(try simp only[↓M1,M1,Mb,reduceIte])))
 refine Ui (fun x=> !p x) f.sat (y.up f) (fun x cs n K z j t m q=>?_) fun n r=>?_
 .refine Z6 (Sj ?_)
  unfold Jz;refine E5 j fun b A C c g=>?_;refine Y4 c.sat (l.up c) rfl ?_;refine Z8 c.sat g m ?_;refine s C x _ A _ (fun b o e=>c.le b o (f.le b o e)) z c.sat (Rep.up c.le t) m fun B i=>?_
  (try simp only[↓M1,M1,Mb,reduceIte])
  exact q B (bt c.bel i)
 ·(try simp only[↓M1,M1,Mb,reduceIte])
  rw[Ww];exact h n (bt f.bel r))
theorem Q2K {xs:List Ins} {v:Value} {fn:Fn} {k d:Array Value} (p:Ins->Bool) (u:X1 w σ) (y:Sl 3 Qx σ v xs)
 (s: ∀(σ1:Q2) x cs (w1:World) (K:Value->World->Prop),σ.Le σ1->x∈xs->X1 w1 σ1->Qx σ1 x cs->cs.length=3->(∀w',Below w1.heap.size w1 w'->K (.bool (p x)) w')->Y8 P (.func fn k d) [.agg cs.toArray] w1 K)
 (h: ∀w',Below w.heap.size w w'->K (.bool (xs.all p)) w'):Q0 P F.ap [v, .func fn k d] w K:=Bw (by
 unfold Wg;refine E5 u fun a w1 σ1 f l=>?_;simp only[Value.cells] at l
 ((try simp only[↓M1,M1,Mb,reduceIte]);repeat ((first | refine ld Q7 Q7 rfl ?_ | refine Y4 Q7 Q7 rfl ?_ | refine Q6 Q7 ?_);(try simp only[↓M1,M1,Mb,reduceIte])))
 refine Sy (fun x=> !p x) f.sat (y.up f) (fun x cs n K z j t m q=>?_) fun n r=>?_
 .refine Z6 (Sk ?_)
  unfold Ua;refine E5 j fun b A C c g=>?_;refine Y4 c.sat (l.up c) rfl ?_;refine Z8 c.sat g m ?_;refine s C x _ A _ (fun b o e=>c.le b o (f.le b o e)) z c.sat (Rep.up c.le t) m fun B i=>?_
  (try simp only[↓M1,M1,Mb,reduceIte])
  exact q B (bt c.bel i)
 ·(try simp only[↓M1,M1,Mb,reduceIte])
  rw[Ww];exact h n (bt f.bel r))
theorem Q2I {xs:List Cat} {v:Value} {fn:Fn} {k d:Array Value} (p:Cat->Bool) (u:X1 w σ) (y:Sl 4 Uh σ v xs)
 (s: ∀(σ1:Q2) x cs (w1:World) (K:Value->World->Prop),σ.Le σ1->x∈xs->X1 w1 σ1->Uh σ1 x cs->cs.length=4->(∀w',Below w1.heap.size w1 w'->K (.bool (p x)) w')->Y8 P (.func fn k d) [.agg cs.toArray] w1 K)
 (h: ∀w',Below w.heap.size w w'->K (.bool (xs.all p)) w'):Q0 P F.an [v, .func fn k d] w K:=Bu (by
 unfold Wd;refine E5 u fun a w1 σ1 f l=>?_;simp only[Value.cells] at l
 ((try simp only[↓M1,M1,Mb,reduceIte]);repeat ((first | refine ld Q7 Q7 rfl ?_ | refine Y4 Q7 Q7 rfl ?_ | refine Q6 Q7 ?_);(try simp only[↓M1,M1,Mb,reduceIte])))
 refine Sx (fun x=> !p x) f.sat (y.up f) (fun x cs n K z j t m q=>?_) fun n r=>?_
 .refine Z6 (Si ?_)
  unfold Jy;refine E5 j fun b A C c g=>?_;refine Y4 c.sat (l.up c) rfl ?_;refine Z8 c.sat g m ?_;refine s C x _ A _ (fun b o e=>c.le b o (f.le b o e)) z c.sat (Rep.up c.le t) m fun B i=>?_
  (try simp only[↓M1,M1,Mb,reduceIte])
  exact q B (bt c.bel i)
 ·(try simp only[↓M1,M1,Mb,reduceIte])
  rw[Ww];exact h n (bt f.bel r))
theorem Ig {xs:List Q8} {v:Value} {fn:Fn} {g b:Array Value} (p:Q8->Bool) (n:X1 w σ) (o:Sl 1 V3 σ v xs)
 (l: ∀(σ1:Q2) x (w1:World) (K:Value->World->Prop),σ.Le σ1->x∈xs->X1 w1 σ1->x.length<=U9->(∀w',Below w1.heap.size w1 w'->K (.bool (p x)) w')->Y8 P (.func fn g b) [S x] w1 K)
 (h: ∀w',Below w.heap.size w w'->K (.bool (xs.all p)) w'):Q0 P F.a6 [v, .func fn g b] w K:=Af (by
 unfold Nv;refine E5 n fun a w1 σ1 d i=>?_;simp only[Value.cells] at i
 ((try simp only[↓M1,M1,Mb,reduceIte]);repeat ((first | refine ld Q7 Q7 rfl ?_ | refine Y4 Q7 Q7 rfl ?_ | refine Q6 Q7 ?_);(try simp only[↓M1,M1,Mb,reduceIte])))
 refine T4 (fun x=> !p x) d.sat (o.up d) (fun x f K q c m j=>?_) fun f k=>?_
 .refine Z6 (Gu ?_)
  unfold Lc;refine Y4 c i rfl ?_;refine l σ1 x f _ d.le q c m fun r e=>?_
  (try simp only[↓M1,M1,Mb,reduceIte])
  exact j r e
 ·(try simp only[↓M1,M1,Mb,reduceIte])
  rw[Ww];exact h f (bt d.bel k))
theorem Q2L {xs:List Hm.Met} {v:Value} {fn:Fn} {E l:Array Value} (f:Hm.Met->Q8) (hs:X1 w σ) (C:Sl 7 E6 σ v xs)
 (Y: ∀(σ1:Q2) x cs (w1:World) (K:Value->World->Prop),σ.Le σ1->X1 w1 σ1->E6 σ1 x cs->cs.length=7->(∀w',Below w1.heap.size w1 w'->K (S (f x)) w')->Y8 P (.func fn E l) [.agg cs.toArray] w1 K)
 (h: ∀w',Below w.heap.size w w'->K (.bool (I2 f [] xs)) w'):Q0 P F.aq [v, .func fn E l] w K:=Bx (by
 unfold Wh;simp only[M4];unfold Z5 U4 X7 X2;refine E5 hs fun a w1 σ1 A X=>?_;simp only[Value.cells] at X;have R:=A.sat;replace C:=C.up A
 ((try simp only[↓M1,M1,Mb,reduceIte]);repeat ((first | refine ld Q7 Q7 rfl ?_ | refine Y4 Q7 Q7 rfl ?_ | refine Q6 Q7 ?_);(try simp only[↓M1,M1,Mb,reduceIte])))
 refine U8 xs.length (fun n w'=>Below w1.heap.size w1 w'/\I2 f [] xs=I2 f (xs.take n) (xs.drop n)) ⟨Below.refl _ _,rfl⟩ fun n w2 d hn hi=>?_;obtain ⟨i,r⟩:=hi;have B:=R.below i
 ((try simp only[↓M1,M1,Mb,reduceIte]);repeat ((first | refine ld Q7 Q7 rfl ?_ | refine Y4 Q7 Q7 rfl ?_ | refine Q6 Q7 ?_);(try simp only[↓M1,M1,Mb,reduceIte])))
 refine Q3 (fun N=>?_) (fun N=>?_)
 .have k:n<xs.length:=by simpa using N
  rw[List.drop_eq_getElem_cons k] at r;simp only[I2] at r;refine N0 C k fun p cs hl g Z=>?_;refine Z8 B hl g ?_;refine Z0 B (by rfl) g (Rep.one Z) fun q w3 σ3 j hq=>?_
  refine Ky (C.up j) none (some (I n)) 0 n (.inl ⟨rfl,rfl⟩) (.inr rfl) Q4 Q4 fun v' V=>?_
  ((try simp only[↓M1,M1,Mb,reduceIte]);repeat ((first | refine ld Q7 Q7 rfl ?_ | refine Y4 Q7 Q7 rfl ?_ | refine Q6 Q7 ?_);(try simp only[↓M1,M1,Mb,reduceIte])))
  refine F9 (fun y=>decide (f y=f xs[n])) j.sat V (fun y ys w4 K hy U Q D hK=>?_) fun w4 J=>?_
  .refine Z6 (Sm ?_)
   unfold Ub;simp only[Z1,D0];unfold X2;refine E5 U fun b w5 W c L=>?_;have u:=(X.up j).up c;have O:=hq.up c;have s:σ.Le W:=fun b o e=>c.le b o (j.le b o (A.le b o e));refine Er (Below.refl _ _) ?_;refine X4 (.func fn E l) (fun w i=>Y4 (c.sat.below i) u rfl (X9 rfl)) ?_;refine X4 (.agg ys.toArray) (fun w i=>Z8 (c.sat.below i) L D (X9 rfl)) ?_;refine X4 (S (f y)) (fun t t' w i e e'=>by rw[e,e'];exact Y W y ys w _ s (c.sat.below i) (Rep.up c.le Q) D fun w' H=>Q41 H rfl) ?_
   refine X4 (.func fn E l) (fun w i=>Y4 (c.sat.below i) u rfl (X9 rfl)) ?_;refine X4 (.agg cs.toArray) (fun w i=>Z8 (c.sat.below i) O g (X9 rfl)) ?_;rintro _ _ _ _ _ w6 z rfl rfl rfl rfl rfl;refine Y W xs[n] cs w6 _ s (c.sat.below z) (Rep.up (fun b o e=>c.le b o (j.le b o e)) Z) g fun w7 M=>?_
   (try simp only[↓M1,M1,Mb,reduceIte])
   exact hK w7 (bt (bt c.bel z) M)
  .have m:=bt i (bt j.bel J)
   simp only[List.drop_zero,Nat.sub_zero] at*;refine Q3 (fun hh=>?_) (fun hh=>?_)
   .rw[hh] at r
    have:=h w4 (bt A.bel m);rw[r] at this;exact this
   .rw[hh] at r
    ((try simp only[↓M1,M1,Mb,reduceIte]);repeat ((first | refine ld Q7 Q7 rfl ?_ | refine Y4 Q7 Q7 rfl ?_ | refine Q6 Q7 ?_);(try simp only[↓M1,M1,Mb,reduceIte])))
    refine Y9 C.max k ⟨m,?_⟩;rw[r,List.take_add_one,List.getElem?_eq_getElem k];rfl
 .have k: ¬n<xs.length:=by simpa using N
  rw[List.drop_eq_nil_of_le Q4] at r;have:=h w2 (bt A.bel i);rw[r] at this;exact this)
theorem Q3r {xs:List Fld} {v:Value} {fn:Fn} {E l:Array Value} (f:Fld->Q8) (hs:X1 w σ) (C:Sl 3 C5 σ v xs)
 (Y: ∀(σ1:Q2) x cs (w1:World) (K:Value->World->Prop),σ.Le σ1->X1 w1 σ1->C5 σ1 x cs->cs.length=3->(∀w',Below w1.heap.size w1 w'->K (S (f x)) w')->Y8 P (.func fn E l) [.agg cs.toArray] w1 K)
 (h: ∀w',Below w.heap.size w w'->K (.bool (I2 f [] xs)) w'):Q0 P F.aw [v, .func fn E l] w K:=Gv (by
 unfold Ld;simp only[M4];unfold Z5 U4 X7 X2;refine E5 hs fun a w1 σ1 A X=>?_;simp only[Value.cells] at X;have R:=A.sat;replace C:=C.up A
 ((try simp only[↓M1,M1,Mb,reduceIte]);repeat ((first | refine ld Q7 Q7 rfl ?_ | refine Y4 Q7 Q7 rfl ?_ | refine Q6 Q7 ?_);(try simp only[↓M1,M1,Mb,reduceIte])))
 refine U8 xs.length (fun n w'=>Below w1.heap.size w1 w'/\I2 f [] xs=I2 f (xs.take n) (xs.drop n)) ⟨Below.refl _ _,rfl⟩ fun n w2 d hn hi=>?_;obtain ⟨i,r⟩:=hi;have B:=R.below i
 ((try simp only[↓M1,M1,Mb,reduceIte]);repeat ((first | refine ld Q7 Q7 rfl ?_ | refine Y4 Q7 Q7 rfl ?_ | refine Q6 Q7 ?_);(try simp only[↓M1,M1,Mb,reduceIte])))
 refine Q3 (fun N=>?_) (fun N=>?_)
 .have k:n<xs.length:=by simpa using N
  rw[List.drop_eq_getElem_cons k] at r;simp only[I2] at r;refine N0 C k fun p cs hl g Z=>?_;refine Z8 B hl g ?_;refine Z0 B (by rfl) g (Rep.one Z) fun q w3 σ3 j hq=>?_
  refine Ky (C.up j) none (some (I n)) 0 n (.inl ⟨rfl,rfl⟩) (.inr rfl) Q4 Q4 fun v' V=>?_
  ((try simp only[↓M1,M1,Mb,reduceIte]);repeat ((first | refine ld Q7 Q7 rfl ?_ | refine Y4 Q7 Q7 rfl ?_ | refine Q6 Q7 ?_);(try simp only[↓M1,M1,Mb,reduceIte])))
  refine Ui (fun y=>decide (f y=f xs[n])) j.sat V (fun y ys w4 K hy U Q D hK=>?_) fun w4 J=>?_
  .refine Z6 (Bc ?_)
   unfold Ut;simp only[Z1,D0];unfold X2;refine E5 U fun b w5 W c L=>?_;have u:=(X.up j).up c;have O:=hq.up c;have s:σ.Le W:=fun b o e=>c.le b o (j.le b o (A.le b o e));refine Er (Below.refl _ _) ?_;refine X4 (.func fn E l) (fun w i=>Y4 (c.sat.below i) u rfl (X9 rfl)) ?_;refine X4 (.agg ys.toArray) (fun w i=>Z8 (c.sat.below i) L D (X9 rfl)) ?_;refine X4 (S (f y)) (fun t t' w i e e'=>by rw[e,e'];exact Y W y ys w _ s (c.sat.below i) (Rep.up c.le Q) D fun w' H=>Q41 H rfl) ?_
   refine X4 (.func fn E l) (fun w i=>Y4 (c.sat.below i) u rfl (X9 rfl)) ?_;refine X4 (.agg cs.toArray) (fun w i=>Z8 (c.sat.below i) O g (X9 rfl)) ?_;rintro _ _ _ _ _ w6 z rfl rfl rfl rfl rfl;refine Y W xs[n] cs w6 _ s (c.sat.below z) (Rep.up (fun b o e=>c.le b o (j.le b o e)) Z) g fun w7 M=>?_
   (try simp only[↓M1,M1,Mb,reduceIte])
   exact hK w7 (bt (bt c.bel z) M)
  .have m:=bt i (bt j.bel J)
   simp only[List.drop_zero,Nat.sub_zero] at*;refine Q3 (fun hh=>?_) (fun hh=>?_)
   .rw[hh] at r
    have:=h w4 (bt A.bel m);rw[r] at this;exact this
   .rw[hh] at r
    ((try simp only[↓M1,M1,Mb,reduceIte]);repeat ((first | refine ld Q7 Q7 rfl ?_ | refine Y4 Q7 Q7 rfl ?_ | refine Q6 Q7 ?_);(try simp only[↓M1,M1,Mb,reduceIte])))
    refine Y9 C.max k ⟨m,?_⟩;rw[r,List.take_add_one,List.getElem?_eq_getElem k];rfl
 .have k: ¬n<xs.length:=by simpa using N
  rw[List.drop_eq_nil_of_le Q4] at r;have:=h w2 (bt A.bel i);rw[r] at this;exact this)
theorem Q6p {xs:List Q8} {v:Value} {fn:Fn} {D k:Array Value} (f:Q8->Q8) (hs:X1 w σ) (C:Sl 1 V3 σ v xs)
 (U: ∀(σ1:Q2) x (w1:World) (K:Value->World->Prop),σ.Le σ1->X1 w1 σ1->x.length<=U9->(∀w',Below w1.heap.size w1 w'->K (S (f x)) w')->Y8 P (.func fn D k) [S x] w1 K)
 (h: ∀w',Below w.heap.size w w'->K (.bool (I2 f [] xs)) w'):Q0 P F.aM [v, .func fn D k] w K:=Q0I (by
 unfold Du;simp only[M4];unfold Z5 U4 X7 X2;refine E5 hs fun a w1 σ1 A R=>?_;simp only[Value.cells] at R;have N:=A.sat;replace C:=C.up A
 ((try simp only[↓M1,M1,Mb,reduceIte]);repeat ((first | refine ld Q7 Q7 rfl ?_ | refine Y4 Q7 Q7 rfl ?_ | refine Q6 Q7 ?_);(try simp only[↓M1,M1,Mb,reduceIte])))
 refine U8 xs.length (fun n w'=>Below w1.heap.size w1 w'/\I2 f [] xs=I2 f (xs.take n) (xs.drop n)) ⟨Below.refl _ _,rfl⟩ fun n w2 d hn Y=>?_;obtain ⟨c,m⟩:=Y;have B:=N.below c
 ((try simp only[↓M1,M1,Mb,reduceIte]);repeat ((first | refine ld Q7 Q7 rfl ?_ | refine Y4 Q7 Q7 rfl ?_ | refine Q6 Q7 ?_);(try simp only[↓M1,M1,Mb,reduceIte])))
 refine Q3 (fun L=>?_) (fun L=>?_)
 .have i:n<xs.length:=by simpa using L
  rw[List.drop_eq_getElem_cons i] at m;simp only[I2] at m;refine N0 C i fun p cs Z V hr=>?_;obtain ⟨rfl,z⟩:=hr;refine Y4 B Z rfl ?_;refine U7 B (by rfl) rfl rfl fun q w3 Q g hq=>?_
  refine Ky (C.up g) none (some (I n)) 0 n (.inl ⟨rfl,rfl⟩) (.inr rfl) Q4 Q4 fun v' O=>?_
  ((try simp only[↓M1,M1,Mb,reduceIte]);repeat ((first | refine ld Q7 Q7 rfl ?_ | refine Y4 Q7 Q7 rfl ?_ | refine Q6 Q7 ?_);(try simp only[↓M1,M1,Mb,reduceIte])))
  refine T4 (fun y=>decide (f y=f xs[n])) g.sat O (fun y W K hy j M X=>?_) fun W H=>?_
  .refine Z6 (Kk ?_)
   unfold Mk;simp only[Z1,Y1];unfold X2;have s:=R.up g;have r:σ.Le Q:=fun b o e=>g.le b o (A.le b o e);refine Er (Below.refl _ _) ?_;refine X4 (.func fn D k) (fun w c=>Y4 (j.below c) s rfl (X9 rfl)) ?_;refine X4 (S (f y)) (fun t w c e=>by rw[e];exact U Q y w _ r (j.below c) M fun w' E=>Q41 E rfl) ?_
   refine X4 (.func fn D k) (fun w c=>Y4 (j.below c) s rfl (X9 rfl)) ?_;refine X4 (S xs[n]) (fun w c=>Y4 (j.below c) hq rfl (X9 rfl)) ?_;rintro _ _ _ _ w6 u rfl rfl rfl rfl;refine U Q xs[n] w6 _ r (j.below u) z fun w7 J=>?_
   (try simp only[↓M1,M1,Mb,reduceIte])
   exact X w7 (bt u J)
  .have l:=bt c (bt g.bel H)
   simp only[List.drop_zero,Nat.sub_zero] at*;refine Q3 (fun hh=>?_) (fun hh=>?_)
   .rw[hh] at m
    have:=h W (bt A.bel l);rw[m] at this;exact this
   .rw[hh] at m
    ((try simp only[↓M1,M1,Mb,reduceIte]);repeat ((first | refine ld Q7 Q7 rfl ?_ | refine Y4 Q7 Q7 rfl ?_ | refine Q6 Q7 ?_);(try simp only[↓M1,M1,Mb,reduceIte])))
    refine Y9 C.max i ⟨l,?_⟩;rw[m,List.take_add_one,List.getElem?_eq_getElem i];rfl
 .have i: ¬n<xs.length:=by simpa using L
  rw[List.drop_eq_nil_of_le Q4] at m;have:=h w2 (bt A.bel c);rw[m] at this;exact this)
theorem Q8F {P:Program} {w:World} (d:Nat) (t e:TypeId) (a:Option Addr) (n c:Nat) (h:P.underlying t=some (.slice e)):
 (Op.equalIn (d+1) t (.slice a n c) (.slice none 0 0)).run P w= .ok a.isNone w:=by
 cases a<;>simp[Op.equalIn,run_underlying h]
theorem Ik {t e:TypeId} {i j:Operand} [ts:TS P t e] {a:Option Addr} {n c:Nat} {b:Bool} (f:a.isNone=b) (g:K (.bool b) w):Y5 P .eql t i j (.slice a n c) (.slice none 0 0) w K:=by
 have d:(Op.equal t (.slice a n c) (.slice none 0 0)).run P w= .ok b w:=by
  have:=Q8F (P:=P) (w:=w) 9999 t e a n c ts.h;rw[f] at this;exact this
 unfold Y5;rw[Y3 (v:= .bool b) (w':=w) (by simp[eqGuard,Go.binOp,d])]
 exact g
theorem Ma {xs:List Q8} {v:Value} (f:X1 w σ) (g:Sl 1 V3 σ v xs) (A:xs.length<=1000000)
 (h: ∀i w' b,Stp w σ w' b->Sl 1 V3 b i xs->K i w'):Q0 P F.a4 [v] w K:=Dg (by
 unfold Xe;have d:=g;obtain ⟨a,j,rfl,t,u,k,y⟩:=g;refine Ik rfl ?_;refine Q3 (fun e=>?_) (fun e=>?_)
 .have:a=none:=by simpa using e
  have s:=k this;have o:xs=[]:=List.eq_nil_of_length_eq_zero Q4;subst o;exact h _ w σ (Stp.refl f) Sl.nil
 .refine Yh (R:=V3) (sz:=1) (Stp.refl f) [] [] rfl rfl U5 (by rfl) trivial fun B w1 n m _=>?_
  refine app n m d (by rfl) (by simp only[List.length_nil];omega) (by simp only[List.length_nil];omega) fun C r z l c _=>?_
  obtain ⟨b,p,q,_⟩:=c.keep l;exact h _ r b p q)
theorem Hr {xs:List Fld} {v:Value} (f:X1 w σ) (g:Sl 3 C5 σ v xs) (A:xs.length<=1000000)
 (h: ∀i w' b,Stp w σ w' b->Sl 3 C5 b i xs->K i w'):Q0 P F.aa [v] w K:=Vh (by
 unfold P9;have d:=g;obtain ⟨a,j,rfl,t,u,k,y⟩:=g;refine Ik rfl ?_;refine Q3 (fun e=>?_) (fun e=>?_)
 .have:a=none:=by simpa using e
  have s:=k this;have o:xs=[]:=List.eq_nil_of_length_eq_zero Q4;subst o;exact h _ w σ (Stp.refl f) Sl.nil
 .refine Yh (R:=C5) (sz:=3) (Stp.refl f) [] [] rfl rfl U5 (by rfl) trivial fun B w1 n m _=>?_
  refine app n m d (by rfl) (by simp only[List.length_nil];omega) (by simp only[List.length_nil];omega) fun C r z l c _=>?_
  obtain ⟨b,p,q,_⟩:=c.keep l;exact h _ r b p q)
theorem Hs {xs:List Ins} {v:Value} (f:X1 w σ) (g:Sl 3 Qx σ v xs) (A:xs.length<=1000000)
 (h: ∀i w' b,Stp w σ w' b->Sl 3 Qx b i xs->K i w'):Q0 P F.ab [v] w K:=Vi (by
 unfold T0;have d:=g;obtain ⟨a,j,rfl,t,u,k,y⟩:=g;refine Ik rfl ?_;refine Q3 (fun e=>?_) (fun e=>?_)
 .have:a=none:=by simpa using e
  have s:=k this;have o:xs=[]:=List.eq_nil_of_length_eq_zero Q4;subst o;exact h _ w σ (Stp.refl f) Sl.nil
 .refine Yh (R:=Qx) (sz:=3) (Stp.refl f) [] [] rfl rfl U5 (by rfl) trivial fun B w1 n m _=>?_
  refine app n m d (by rfl) (by simp only[List.length_nil];omega) (by simp only[List.length_nil];omega) fun C r z l c _=>?_
  obtain ⟨b,p,q,_⟩:=c.keep l;exact h _ r b p q)
theorem Hq {xs:List Cat} {v:Value} (f:X1 w σ) (g:Sl 4 Uh σ v xs) (A:xs.length<=1000000)
 (h: ∀i w' b,Stp w σ w' b->Sl 4 Uh b i xs->K i w'):Q0 P F.a9 [v] w K:=Vg (by
 unfold P8;have d:=g;obtain ⟨a,j,rfl,t,u,k,y⟩:=g;refine Ik rfl ?_;refine Q3 (fun e=>?_) (fun e=>?_)
 .have:a=none:=by simpa using e
  have s:=k this;have o:xs=[]:=List.eq_nil_of_length_eq_zero Q4;subst o;exact h _ w σ (Stp.refl f) Sl.nil
 .refine Yh (R:=Uh) (sz:=4) (Stp.refl f) [] [] rfl rfl U5 (by rfl) trivial fun B w1 n m _=>?_
  refine app n m d (by rfl) (by simp only[List.length_nil];omega) (by simp only[List.length_nil];omega) fun C r z l c _=>?_
  obtain ⟨b,p,q,_⟩:=c.keep l;exact h _ r b p q)
end Go.Proofs.Y
namespace Go.Hm
open Go.Kd
structure Opr where
  name : Q8
  number : Bool
  text : Bool
deriving DecidableEq
def Ve:List Opr:=[
 ⟨[105,110,116],true,false⟩,
 ⟨[116,114,117,101],false,false⟩,
 ⟨[102,97,108,115,101],false,false⟩,
 ⟨[119,111,114,100],false,true⟩,
 ⟨[110,117,108,108],false,false⟩,
 ⟨[108,111,97,100],true,false⟩,
 ⟨[115,116,111,114,101],true,false⟩,
 ⟨[112,111,112],false,false⟩,
 ⟨[100,117,112],false,false⟩,
 ⟨[115,119,97,112],false,false⟩,
 ⟨[97,100,100],false,false⟩,
 ⟨[115,117,98],false,false⟩,
 ⟨[109,117,108],false,false⟩,
 ⟨[100,105,118],false,false⟩,
 ⟨[114,101,109],false,false⟩,
 ⟨[110,101,103],false,false⟩,
 ⟨[108,101,115,115],false,false⟩,
 ⟨[115,97,109,101],false,false⟩,
 ⟨[110,111,116],false,false⟩,
 ⟨[98,111,116,104],false,false⟩,
 ⟨[106,111,105,110],false,false⟩,
 ⟨[115,105,122,101],false,false⟩,
 ⟨[106,117,109,112],true,false⟩,
 ⟨[98,114,97,110,99,104],true,false⟩,
 ⟨[110,101,119],false,true⟩,
 ⟨[103,101,116],false,true⟩,
 ⟨[112,117,116],false,true⟩,
 ⟨[99,97,108,108],false,true⟩,
 ⟨[97,114,114,97,121],false,true⟩,
 ⟨[97,116],false,false⟩,
 ⟨[115,101,116],false,false⟩,
 ⟨[105,115],false,true⟩,
 ⟨[99,97,115,116],false,true⟩,
 ⟨[114,101,116,117,114,110],false,false⟩,
 ⟨[116,104,114,111,119],false,false⟩,
 ⟨[111,117,116],false,false⟩,
 ⟨[101,113,117,97,108],false,false⟩,
 ⟨[97,110,100],false,false⟩,
 ⟨[111,114],false,false⟩,
 ⟨[120,111,114],false,false⟩,
 ⟨[115,104,108],false,false⟩,
 ⟨[115,104,114],false,false⟩]
end Go.Hm
namespace Go.Emb
open Go.Hm
def ROp (_:Q2) (o:Opr) (cs:List Value):Prop:=cs=[S o.name, .bool o.number, .bool o.text]
def cOp (o:Opr):List Value:=[S o.name, .bool o.number, .bool o.text]
instance:Rep ROp:=⟨fun _ h=>h,fun h u hu=>by rw[h] at hu;simp at hu;rcases hu with rfl | rfl | rfl<;>rfl⟩
end Go.Emb
namespace Go.Proofs.Y
open Go.Emb Go.RowKit Go.Kd Go.Hm
variable {w : World} {K : Value -> World -> Prop} {σ : Q2}
theorem Q73 {a:Q8} (k:a.length<=U9) (h: ∀w',Below w.heap.size w w'->K (.bool (D3 a)) w'):Q0 P F.bH [S a] w K:=Q5p (by
 unfold Ip Y0;have b:a.length<=140737488355328:=by simp only[U9] at k;omega
 refine Q7v a b fun w1 e=>?_;cases d:name a
 ·(try simp only[↓M1,M1,Mb,reduceIte])
  have:=h w1 e
  rwa [show D3 a=false by cases a with | nil=>rfl | cons c r=>simp[D3,d]] at this
 ·(try simp only[↓M1,M1,Mb,reduceIte])
  refine St a b fun m j=>?_
  (try simp only[↓M1,M1,Mb,reduceIte])
  have:=h m (bt e j)
  rwa [show D3 a= !O6 a by
   cases a with
   | nil=>simp[name] at d
   | cons c r=>
    obtain ⟨i,l⟩:=Pq d;simp only[O6,D3,d,Bool.true_and];simp only[C8,l,Bool.or_false] at i;cases f:Yc c.toNat<;>cases g:Qq c.toNat
    .simp[f,g] at i
    .rfl
    .rfl
    .exfalso
     simp only[Yc,Qq,Bool.and_eq_true,decide_eq_true_eq] at f g;omega] at this)
theorem X55 {t e:TypeId} {n sz b:Nat} {z:Value} [ta:TA P t n e] [tz:TZ P e sz b z] {a:Addr} (d:K (.slice (some a) n n) w):I9 P t (.pointer (some a)) none none none w K:=by
 unfold I9
 have:(Instr.sliceAt t (.pointer (some a)) none none none).run P w= .ok (.slice (some (if n=0 then a else a.add (0*sz))) (n-0) (n-0)) w:=by
  simp[Instr.sliceAt,run_underlying ta.h,Instr.sureAddr,Instr.sliceBounds,O3 tz]
 rw[Y3 this]
 have c:(if n=0 then a else a.add (0*sz))=a:=by
  by_cases h:n=0
  .rw[if_pos h]
  .rw[if_neg h,Nat.zero_mul,add_zero]
 rw[c];exact d
def Q3n (σ:Q2):Prop:=J7 σ ⟨G.a,0,none⟩ (Ve.flatMap cOp)
theorem Q9x (i:Nat) (o:Opr) (h:Ve[i]? =some o):((Ve.flatMap cOp).drop (i*3)).take 3=cOp o:=by
 have c:i<42:=(List.getElem?_eq_some_iff.1 h).1
 have key: ∀l:List Opr,∀i o,l[i]? =some o->((l.flatMap cOp).drop (i*3)).take 3=cOp o:=by
  intro l
  induction l with
  | nil=>intro i o h;simp at h
  | cons a r b=>
   intro i o h;cases i with
   | zero=>simp at h;subst h;rfl
   | succ i=>
    have:=b i o (by simpa using h)
    rw[List.flatMap_cons,show (i+1)*3=(cOp a).length+i*3 by simp[cOp];omega,List.drop_append]
    simpa [List.drop_eq_nil_of_le] using this
 exact key _ i o h
theorem Q4m {σ:Q2} {a:Addr} {cs:List Value} (h:J7 σ a cs) (i n:Nat):J7 σ (a.add i) ((cs.drop i).take n):=by
 obtain ⟨d,P7,e,c,f,g⟩:=h;refine ⟨Qf d _,P7,e,c,by rw[P6];exact f,fun j v b=>?_⟩
 rw[List.getElem?_take] at b
 split at b
 .rw[List.getElem?_drop] at b
  rw[Vm,Nat.add_assoc];exact g _ _ b
 .cases b
theorem X65 (h:Q3n σ):Sl 3 ROp σ (.slice (some ⟨G.a,0,none⟩) 42 42) Ve:=by
 refine ⟨_,42,rfl,by decide,by decide,by simp,?_⟩
 rintro _ ⟨⟩;refine ⟨fun _=>rfl,fun i x a=>⟨cOp x,?_,rfl,rfl⟩⟩;rw[<-Q9x i x a];exact Q4m h (i*3) 3
theorem Q0Y {β:Type} {xs:List Opr} {v f:Value} (b:β->Opr->Bool×β) (m:β) (a:β->World->Prop) (D:Nat->Prop) (l: ∀s w,a s w->X1 w σ) (y:a m w) (u:Sl 3 ROp σ v xs)
 (z: ∀s x cs (w1:World) (K:Value->World->Prop),x∈xs->Kpt D w w1->a s w1->ROp σ x cs->cs.length=3->(∀w',Kpt D w w'->a (b s x).2 w'->K (.bool (b s x).1) w')->Y8 P f [.agg cs.toArray] w1 K)
 (h: ∀w',Kpt D w w'->a (U1 b m xs 0).2 w'->K (I (M9 (U1 b m xs 0).1)) w'):Q0 P F.t [v,f] w K:=Vj (by
 unfold T1 Z5 U4 X7 X2
 ((try simp only[↓M1,M1,Mb,reduceIte]);repeat ((first | refine ld Q7 Q7 rfl ?_ | refine Y4 Q7 Q7 rfl ?_ | refine Q6 Q7 ?_);(try simp only[↓M1,M1,Mb,reduceIte])))
 refine U8 xs.length (fun n w'=>Kpt D w w'/\ ∃s,a s w'/\U1 b m xs 0=U1 b s (xs.drop n) n) ⟨Kpt.refl,m,y,rfl⟩ fun n w1 d E i=>?_;obtain ⟨t,s,i,e⟩:=i;have r:=l s w1 i
 ((try simp only[↓M1,M1,Mb,reduceIte]);repeat ((first | refine ld Q7 Q7 rfl ?_ | refine Y4 Q7 Q7 rfl ?_ | refine Q6 Q7 ?_);(try simp only[↓M1,M1,Mb,reduceIte])))
 refine Q3 (fun q=>?_) (fun q=>?_)
 .have c:n<xs.length:=by simpa using q
  refine N0 u c fun p cs A g B=>?_;refine Z8 r A g ?_;refine z s xs[n] cs w1 _ (List.getElem_mem c) t i B g fun C k j=>?_;rw[List.drop_eq_getElem_cons c] at e;simp only[U1] at e;refine Q3 (fun o=>?_) (fun o=>?_)
  .rw[o] at e
   have:=h C k;rw[e] at this;exact this j
  .rw[o] at e
   ((try simp only[↓M1,M1,Mb,reduceIte]);repeat ((first | refine ld Q7 Q7 rfl ?_ | refine Y4 Q7 Q7 rfl ?_ | refine Q6 Q7 ?_);(try simp only[↓M1,M1,Mb,reduceIte])))
   exact Y9 u.max c ⟨k,_,j,by simpa using e⟩
 .have c: ¬n<xs.length:=by simpa using q
  rw[List.drop_eq_nil_of_le Q4] at e;have:=h w1 t;rw[e] at this;exact this i)
theorem Q0n {xs:List Opr} {v f:Value} (p:Opr->Bool) (hs:X1 w σ) (hv:Sl 3 ROp σ v xs)
 (hf: ∀x cs (w1:World) (K:Value->World->Prop),x∈xs->X1 w1 σ->ROp σ x cs->cs.length=3->(∀w',Below w1.heap.size w1 w'->K (.bool (p x)) w')->Y8 P f [.agg cs.toArray] w1 K)
 (h: ∀w',Below w.heap.size w w'->K (I (M9 (xs.findIdx? p))) w'):Q0 P F.t [v,f] w K:=by
 refine Q0Y (fun (_:Unit) x=>(p x,())) () (fun _ w'=>Below w.heap.size w w') (fun _=>False) (fun _ w' hb=>hs.below hb) (Below.refl _ _) hv (fun s x cs w1 K hx hk hi hr hl hK=>hf x cs w1 K hx (hs.below hi) hr hl fun w' hb=>hK w' (.of_below (bt hi hb)) (bt hi hb)) fun w' hk hi=>?_;rw[I8]
 simpa using h w' hi
theorem Q3n.le {σ a:Q2} (h:Q3n σ) (c: ∀b o,σ b=some o->a b=some o):Q3n a:=J7.le h c
def Xb (n:Q8):Option Nat:=Ve.findIdx? fun o=>decide (o.name=n)
theorem X5s {a:Q8} (r:X1 w σ) (k:Q3n σ) (h: ∀w',Below w.heap.size w w'->K (I (M9 (Xb a))) w'):Q0 P F.cI [S a] w K:=Q8X (by
 unfold Q34;refine E5 r fun p w1 σ1 c f=>?_;simp only[Value.cells] at f;refine X55 ?_
 ((try simp only[↓M1,M1,Mb,reduceIte]);repeat ((first | refine ld Q7 Q7 rfl ?_ | refine Y4 Q7 Q7 rfl ?_ | refine Q6 Q7 ?_);(try simp only[↓M1,M1,Mb,reduceIte])))
 refine Q0n (fun o=>decide (o.name=a)) c.sat (X65 (k.le c.le)) (fun x cs g K v e n u i=>?_) fun g j=>?_
 .refine Z6 (Q6w ?_)
  unfold Q0e Y2 X2;refine E5 e fun q t y b m=>?_;have d:cs=[S x.name, .bool x.number, .bool x.text]:=n;subst d;have s:=b.sat;have l:=f.up b;simp only[Value.cells] at m
  ((try simp only[↓M1,M1,Mb,reduceIte]);repeat ((first | refine ld Q7 Q7 rfl ?_ | refine Y4 Q7 Q7 rfl ?_ | refine Q6 Q7 ?_);(try simp only[↓M1,M1,Mb,reduceIte])))
  exact i t b.bel
 ·(try simp only[↓M1,M1,Mb,reduceIte])
  exact h g (bt c.bel j))
def C4 (n:Q8):Bool×Bool×Bool:=match Xb n with
 | none=>(false,false,false)
 | some i=>((Ve.getD i ⟨[],false,false⟩).number,(Ve.getD i ⟨[],false,false⟩).text,true)
theorem X4a {a:Q8} (l:X1 w σ) (j:Q3n σ) (h: ∀w',Below w.heap.size w w'->K (.tuple #[.bool (C4 a).1, .bool (C4 a).2.1, .bool (C4 a).2.2]) w'):Q0 P F.c6 [S a] w K:=Q7S (by
 unfold Q1k;simp only[Z1,Y1];unfold X5;refine X5s l j fun w1 b=>?_;have c:=l.below b;unfold C4 at h;cases f:Xb a with
 | none=>
  rw[f] at h;simp only[M9]
  (try simp only[↓M1,M1,Mb,reduceIte])
  simp only[show decide ((-1:Int)<0)=true from rfl,↓M1,M1,Mb,reduceIte]
  exact h w1 b
 | some i=>
  rw[f] at h;simp only at h;have n:i<42:=(List.findIdx?_eq_some_iff_getElem.1 f).1
  have k:Ve[i]? =some (Ve.getD i ⟨[],false,false⟩):=by
   rw[List.getD,List.getElem?_eq_getElem (by exact n)];rfl
  generalize Ve.getD i ⟨[],false,false⟩=o at h k;have g:=Q4m j (i*3) 3;rw[Q9x i o k] at g;simp only[M9];have m:decide ((i:Int)<0)=false:=by simp
  simp only[m,↓M1,M1,Mb,reduceIte]
  have A: ∀{w:World} {K:Value->World->Prop},K (.pointer (some ((⟨G.a,0,none⟩:Addr).add (i*3)))) w->indexAddr P T.an (.pointer (some ⟨G.a,0,none⟩)) (I i) w K:=by
   intro w K h;rw[Q7t Q4 Q4]
   simpa using h
  refine Er (Below.refl _ _) ?_;refine X4 (.pointer (some ((⟨G.a,0,none⟩:Addr).add (i*3)))) (fun w b=>A (X9 rfl)) ?_;refine X4 (.pointer (some (((⟨G.a,0,none⟩:Addr).add (i*3)).add 1))) (fun t w b e=>by rw[e,fa];exact X9 rfl) ?_
  refine X4 (.pointer (some ((⟨G.a,0,none⟩:Addr).add (i*3)))) (fun w b=>A (X9 rfl)) ?_;refine X4 (.pointer (some (((⟨G.a,0,none⟩:Addr).add (i*3)).add 2))) (fun t w b e=>by rw[e,fa];exact X9 rfl) ?_
  refine X4 (.bool o.number) (fun t w b e=>by rw[e];exact ld (c.below b) g rfl (X9 rfl)) ?_
  refine X4 (.bool o.text) (fun t w b e=>by rw[e];exact ld (c.below b) g rfl (X9 rfl)) ?_
  rintro _ _ _ _ _ _ p d rfl rfl rfl rfl rfl rfl;exact h p (bt b d))
end Go.Proofs.Y
namespace Go.Emb
open Go.RowKit Go.Hm
variable {P : Program} {w w' : World} {K : Value -> World -> Prop} {σ σ0 σ' : Q2}
structure SLe (σ σ' : Q2) : Prop where
  le : ∀ b o, σ b = some o -> σ' b = some o
theorem SLe.refl (σ:Q2):SLe σ σ:=⟨fun _ _ h=>h⟩
theorem SLe.step {w w':World} (h:SLe σ0 σ) (k:Stp w σ w' σ'):SLe σ0 σ':=⟨fun b o e=>k.le b o (h.le b o e)⟩
theorem SLe.more (h:SLe σ0 σ) (k:SLe σ σ'):SLe σ0 σ':=⟨fun b o e=>k.le b o (h.le b o e)⟩
structure Hst (w : World) (σ : Q2) (w' : World) (σ' : Q2) : Prop where
  stp : Stp w σ w' σ'
theorem Hst.sat (h:Hst w σ w' σ'):X1 w' σ':=h.stp.sat
variable {α : Type} {R : Q2 -> α -> List Value -> Prop} {sz : Nat} {v : Value} {xs : List α} {a : Addr} {cs : List Value}
theorem Sl.lift [Rep R] (h:Sl sz R σ0 v xs) (k:SLe σ0 σ):Sl sz R σ v xs:=h.le k.le
theorem J7.lift (h:J7 σ0 a cs) (k:SLe σ0 σ):J7 σ a cs:=h.le k.le
theorem Yb.lift {r:Nat} {m:List (List UInt8×Value)} (h:Yb σ0 r m) (k:SLe σ0 σ):Yb σ r m:=h.le k.le
theorem RMe_lift {x:Hm.Met} (h:E6 σ0 x cs) (k:SLe σ0 σ):E6 σ x cs:=Rep.up k.le h
theorem RCl_lift {x:Cla} (h:W8 σ0 x cs) (k:SLe σ0 σ):W8 σ x cs:=Rep.up k.le h
theorem RFd_any {x:Fld} (h:C5 σ0 x cs):C5 σ x cs:=h
theorem RIn_any {x:Ins} (h:Qx σ0 x cs):Qx σ x cs:=h
theorem RCa_any {x:Cat} (h:Uh σ0 x cs):Uh σ x cs:=h
theorem U6.step {b:Nat} (h:U6 σ w b cs) (k:Stp w σ w' σ'):U6 σ' w' b cs:=h.up k
theorem W1.step [Rep R] {B:Nat} {e:TypeId} (h:W1 B e sz R σ w v xs) (k:Stp w σ w' σ'):W1 B e sz R σ' w' v xs:=h.up k
theorem N1 {Q:World->Prop} (d:X1 w σ) (h: ∀w' σ',Stp w σ w' σ'->Q w'): ∀w',Below w.heap.size w w'->Q w':=fun w' c=>h w' σ (Stp.of_below d c)
variable {k : IntKind} {t : TypeId} {ox oy : Operand} {a b : Int} {x : Bool} {s u : List UInt8}
theorem H8 (h:K (.int k (k.wrap (a+b))) w):Y5 P .add t ox oy (.int k a) (.int k b) w K:=by rw[Ia];exact h
theorem Wb (c: -9223372036854775808<=a+b/\a+b<=9223372036854775807) (h:K (I (a+b)) w):Y5 P .add t ox oy (I a) (I b) w K:=by rw[Ia,K9 c.1 c.2];exact h
theorem Hf (c: -9223372036854775808<=a-b/\a-b<=9223372036854775807) (h:K (I (a-b)) w):Y5 P .sub t ox oy (I a) (I b) w K:=by rw[Q50,K9 c.1 c.2];exact h
theorem X41 (h:K (.int k (k.wrap (a*b))) w):Y5 P .mul t ox oy (.int k a) (.int k b) w K:=by rw[Q4Y];exact h
theorem Z4 (h:K (.bool (decide (a<b))) w):Y5 P .lss t ox oy (.int k a) (.int k b) w K:=by rw[Q4X];exact h
theorem X6J (h:K (.bool (decide (a<=b))) w):Y5 P .leq t ox oy (.int k a) (.int k b) w K:=by rw[Q4W];exact h
theorem Gb (h:K (.bool (decide (b<a))) w):Y5 P .gtr t ox oy (.int k a) (.int k b) w K:=by rw[Q2i];exact h
theorem Yg (h:K (.bool (decide (b<=a))) w):Y5 P .geq t ox oy (.int k a) (.int k b) w K:=by rw[Q2h];exact h
theorem Qr (h:K (.bool (decide (a=b))) w):Y5 P .eql t ox oy (.int k a) (.int k b) w K:=by rw[Q2g];exact h
theorem Sr (h:K (.bool (!decide (a=b))) w):Y5 P .neq t ox oy (.int k a) (.int k b) w K:=by rw[Q4Z];exact h
theorem Ss (h:K (.bool (!x)) w):V1 P .not (.bool x) w K:=by rw[Q5y];exact h
theorem X6M (h:K (.int k (k.wrap (0-a))) w):V1 P .neg (.int k a) w K:=by rw[X57];exact h
theorem Qs (h:K (.bool (decide (s=u))) w):Y5 P .eql t ox oy (S s) (S u) w K:=by rw[Ge];exact h
theorem Hl (h:K (.bool (!decide (s=u))) w):Y5 P .neq t ox oy (S s) (S u) w K:=by rw[Gf];exact h
theorem K4 (c:s.length+u.length<=9223372036854775807) (h:K (S (s++u)) w):Y5 P .add t ox oy (S s) (S u) w K:=by rw[Q8r c];exact h
theorem Pc {cs:List Bool} {r:TypeId} (c:P.underlying t=some .string) (h:K (I s.length) w):V9 P .len [t] r cs [S s] w K:=by rw[C1 c];exact h
theorem X5f {v u:Value} (h:K v w):pick P (.bool true) v u w K:=by rw[Mw];exact h
theorem X5e {v u:Value} (h:K u w):pick P (.bool false) v u w K:=by rw[Vy];exact h
theorem Lm {v u:Value} (h:K (if x=true then v else u) w):pick P (.bool x) v u w K:=by rw[Rk];exact h
theorem Pb {f:Fn} {first caps:List Value} (h:K (.func f first.toArray caps.toArray) w):O8 P f first caps w K:=by rw[Yq];exact h
theorem J0 {vs:List Value} {i:Nat} {v:Value} (c:vs[i]? =some v) (h:K v w):ext P (.tuple vs.toArray) i w K:=by rw[Ul c];exact h
theorem Q4S {a:Addr} (h:K (.pointer (some a)) w):nilCheck P (.pointer (some a)) w K:=by rw[E0];exact h
theorem W7 {t e:Prop} (h:t):X0 (.bool true) t e:=by rw[Eo];exact h
theorem L1 {t e:Prop} (h:e):X0 (.bool false) t e:=by rw[Mc];exact h
theorem X6f {c:World->(Value->World->Prop)->Prop} (h:c w K):Q1 (.bool true) true w c K:=by rw[P1];exact h
theorem X6e {c:World->(Value->World->Prop)->Prop} (h:c w K):Q1 (.bool false) false w c K:=by rw[Zg];exact h
theorem X5d {c:World->(Value->World->Prop)->Prop} (h:K undef w):Q1 (.bool true) false w c K:=by rw[Cm];exact h
theorem X5a {c:World->(Value->World->Prop)->Prop} (h:K undef w):Q1 (.bool false) true w c K:=by rw[Jj];exact h
variable {a : Addr}
theorem J1 {t:TypeId} (f:X1 w σ) (h: ∀a w' σ',Stp w σ w' σ'->J7 σ' a cs->K (.pointer (some a)) w'):box P t (.agg cs.toArray) w K:=
 E5 f fun a w' σ' c d=>h a w' σ' c (by simpa [Value.cells] using d)
theorem V4 {t:TypeId} (g:X1 w σ) (d:v.cells= #[v]) (h: ∀a w' σ',Stp w σ w' σ'->J7 σ' a [v]->K (.pointer (some a)) w'):box P t v w K:=
 E5 g fun a w' σ' f c=>h a w' σ' f (by rw[d] at c;exact c)
theorem Lv (h:Sl sz R σ v xs):v.cells= #[v]:=by
 obtain ⟨a,c,rfl,_⟩:=h;rfl
theorem Xt {t:TypeId} {k c:Nat} {d:TypeId} {sz by_:Nat} {z:Value} [tf:TF P t k c d] [tz:TZ P d sz by_ z] [nz:NZ sz] (h:K (.pointer (some (a.add c))) w):fieldAddr P t (.pointer (some a)) k w K:=by
 rw[fa];exact h
theorem L6 {t:TypeId} {k c:Nat} {d:TypeId} [tf:TF P t k c d] [tg:TG P d false] {cs:List Value} {v:Value} (f:cs[c]? =some v) (h:K v w):Nk P t (.agg cs.toArray) k w K:=by
 rw[X4B (v:=v) (by simpa using f)];exact h
theorem L9 {A:(World->World->Prop)->(World->Prop)->Prop} (f:X1 w σ) (h:A (fun w w'=>Below w.heap.size w w') (fun w'=>Hst w σ w' σ)):dr w A:=
 Q43 _ _ ⟨Stp.of_below f (Below.refl _ _).drew⟩ (fun _ _ c d=>⟨c.stp.trans (Stp.of_below c.sat d)⟩) h
theorem N4 {α:Type} {R:Q2->α->List Value->Prop} {sz:Nat} {v:Value} {xs:List α} {t:TypeId} (c:X1 w σ) (d:Sl sz R σ v xs) (h: ∀a w' σ',Stp w σ w' σ'->J7 σ' a [v]->K (.pointer (some a)) w'):box P t v w K:=
 V4 c (Lv d) h
variable {e : TypeId} {by_ : Nat} {z : Value} {n : Nat}
theorem Q7s {xs:List Kd.Q8} [TS P t e] [TZ P e 1 by_ z] (h:Sl 1 V3 σ v xs) (i:n<xs.length) (g: ∀a,J7 σ a [S xs[n]]->xs[n].length<=U9->K (.pointer (some a)) w):indexAddr P t v (I n) w K:=
 N0 h i fun a cs c j d=>by obtain ⟨rfl,f⟩:=d;exact g a c f
theorem Q4l {xs:List Fld} [TS P t e] [TZ P e 3 by_ z] (h:Sl 3 C5 σ v xs) (i:n<xs.length) (g: ∀a,J7 σ a [S xs[n].name,S xs[n].kind, .bool xs[n].tr]->C5 σ xs[n] [S xs[n].name,S xs[n].kind, .bool xs[n].tr]->K (.pointer (some a)) w):indexAddr P t v (I n) w K:=
 N0 h i fun a cs c j d=>by obtain ⟨rfl,f⟩:=d;exact g a c ⟨rfl,f⟩
end Go.Emb
namespace Go.Hm
open Go.Kd
abbrev Wm:=Q8->Option Cla
def Z7 (l:List Cla) (n:Q8):Option Nat:=l.findIdx? fun c=>decide (c.name=n)
def lk (l:List Cla):Wm:=fun n=>(Z7 l n).bind (l[·]?)
def V8 (c:Cla):List Q8:=c.super::c.like
def L8:Q8:=[79,98,106,101,99,116]
def E8:Q8:=[70,97,117,108,116]
def Yf:Q8:=[110,117,108,108]
def B7:Q8:=[116,101,120,116]
def Lr:Q8:=[119,104,97,116]
def V6:List Q8:=[[78,117,108,108,70,97,117,108,116],[73,110,100,101,120,70,97,117,108,116],[67,97,115,116,70,97,117,108,116],[90,101,114,111,70,97,117,108,116],[82,111,111,109,70,97,117,108,116],[67,97,108,108,70,97,117,108,116]]
def T6:List Cla:=[⟨L8,[],[],false,false,false,[],[]⟩,⟨E8,L8,[],false,false,false,[⟨Lr,B7,false⟩],[]⟩]++V6.map fun n=>⟨n,E8,[],false,false,true,[],[]⟩
def Wc (L:Wm):Nat->List Q8->List Q8->List Q8
 | 0,_,a=>a
 | _,[],a=>a
 | f+1,n::b,a=>match L n with
  | none=>Wc L f b a
  | some c=>if n∈a then Wc L f b a else Wc L f (b++V8 c) (a++[n])
def weigh (l:List Cla) (a:List Q8):Nat:=(l.map fun c=>if c.name∈a then 0 else (V8 c).length).sum
def Zp:Q8:=[105,110,116]
def Hj:Q8:=[98,111,111,108]
def K8 (l:List Cla) (n:Q8):List Q8:=Wc (lk l) (1+weigh l []) [n] []
def Q3A (l:List Cla) (n:Q8):Bool:=(Z7 l n).isSome
def K3 (l:List Cla) (s:Q8):Bool:=decide (s=Yf)||(right s&&(plain (base s).1||Q3A l (base s).1))
def Q26 (l:List Cla) (a b:Q8):Bool:=
 if !K3 l a|| !K3 l b then false else if a=b then true else if plain a||plain b then false else if a=Yf then true
 else if elem a≠[] then decide (b=L8) else (K8 l a).contains b
def K6 (L:Wm):Nat->Q8->List Cla
 | 0,_=>[]
 | f+1,n=>match L n with
  | none=>[]
  | some c=>c::K6 L f c.super
def chain (l:List Cla) (n:Q8):List Cla:=K6 (lk l) (l.length+1) n
def W9 (l:List Cla) (n:Q8):List Fld:=(chain l n).reverse.flatMap (·.fields)
def De (l:List Cla) (n f:Q8):Option Nat:=(W9 l n).findIdx? fun x=>decide (x.name=f)
def G2 (c:Cla) (n:Q8):Option Hm.Met:=c.methods.find? fun m=>decide (m.name=n)
def Cn (L:Wm):Nat->Cla->Q8->Option (Q8×Hm.Met)
 | 0,_,_=>none
 | f+1,c,n=>c.like.findSome? fun u=>match L u with
  | none=>none
  | some d=>match G2 d n with
   | some m=>some (u,m)
   | none=>Cn L f d n
def W5 (l:List Cla) (k n:Q8):Option (Q8×Hm.Met):=
 match (chain l k).findSome? fun c=>(G2 c n).map (c.name,·) with
 | some r=>some r
 | none=>(chain l k).findSome? fun c=>Cn (lk l) (l.length+1) c n
def Vd (l:List Cla) (n:Q8):Bool:=match lk l n with
 | some c=> !c.abs
 | none=>false
def Qc (f:Fld):Q8:=if f.tr then [] else [32]++f.name++[58]++f.kind
def T3 (L:Wm):Nat->Q8->Q8
 | 0,_=>[]
 | f+1,n=>match L n with
  | none=>[]
  | some c=>if n=L8 then [] else n++[40]++T3 L f c.super++[41]++c.fields.flatMap Qc++[46]
def E7 (l:List Cla) (n:Q8):Q8:=T3 (lk l) (l.length+1) n
def H3:List Q8->Q8
 | []=>[]
 | [a]=>a
 | a::b::r=>a++[44]++H3 (b::r)
def Xs (m:Hm.Met):Q8:=[40]++H3 m.params++[41]++m.result
def E3 (l:List Cla) (s:Q8):Bool:= !decide (s=Yf)&&K3 l s
def Zq (l:List Cla) (c:Cla):Bool:=c.fields.any fun f=>(De l c.super f.name).isSome
def F7 (l:List Cla) (c:Cla):Bool:=c.fields.any (fun f=> !E3 l f.kind)||c.methods.any fun m=>(!E3 l m.result&& !decide (m.result=[]))||m.params.any fun s=> !E3 l s
def Ly (l:List Cla) (n:Q8):List Hm.Met:=(K8 l n).flatMap fun u=>((lk l u).map (·.methods)).getD []
def Dc (a:List Hm.Met):Bool:=a.any fun x=>a.any fun y=>decide (x.name=y.name)&& !decide (Xs x=Xs y)
def Jq (l:List Cla) (c:Cla):Bool:=Dc (Ly l c.name)
def Jk (l:List Cla) (k n:Q8):Bool:=match W5 l k n with
 | none=>true
 | some r=>r.2.abs
def Ew (l:List Cla) (c:Cla):Bool:= !c.abs&&(Ly l c.name).any fun m=>Jk l c.name m.name
def L2 (l:List Cla) (c:Cla):Nat:=if Zq l c then 64 else if F7 l c then 65 else if Jq l c then 66 else if Ew l c then 67 else 0
def Jd (l:List Cla) (n:Q8):Bool:=match lk l n with
 | none=>true
 | some d=>d.iface||d.fin
def C2 (l:List Cla) (n:Q8):Bool:=match lk l n with
 | none=>true
 | some d=> !d.iface
def E4 (l:List Cla) (c:Cla):Nat:=if Jd l c.super then 61 else if c.like.any (C2 l) then 62 else 0
def A0 (l:List Cla) (c:Cla):Bool:=(V8 c).any fun n=>(K8 l n).contains c.name
def Ql (l:List Cla) (frm:Nat):Nat->List Nat->Nat->List Nat
 | 0,out,_=>out
 | f+1,out,i=>if i<frm then out else if i∈out then out else ((V8 (l.getD i Cla.zero)).foldl (fun out n=>Ql l frm f out ((Z7 l n).getD 0)) out)++[i]
def L3 (l:List Cla) (frm:Nat):List Nat:=((List.range l.length).drop frm).foldl (fun out i=>Ql l frm (l.length+1) out i) []
end Go.Hm
namespace Go.Emb
open Go.RowKit Go.Hm
variable {P : Program} {w w0 w1 w' w'' : World} {K : Value -> World -> Prop} {σ σ0 σ1 σ' : Q2}
def U0 {α:Type} (B:Nat) (e:TypeId) (sz:Nat) (R:Q2->α->List Value->Prop) (σ:Q2) (w:World) (v:Value) (xs:List α):Prop:=
 ∃a c,v= .slice a xs.length c/\xs.length<=c/\c<=maxLen/\(∀b,a=some b->b.spot=none/\B<=b.block/\b.block<w.heap.size/\σ b.block=none)/\(0<c-> ∃g f d,a=some ⟨g,f,none⟩/\B<=g/\σ g=none/\w.heap[g]? =some (.cells d e (0,0))/\f+c*sz<=d.size/\ ∀i x,xs[i]? =some x->R σ x ((d.toList.drop (f+i*sz)).take sz))
variable {α : Type} {R : Q2 -> α -> List Value -> Prop} {B sz : Nat} {e : TypeId} {v u : Value} {xs ys : List α}
theorem U0.of_acc (h:W1 B e sz R σ w v xs):U0 B e sz R σ w v xs:=by
 obtain ⟨cells,o,j,p⟩:=h
 rcases o.2 with ⟨rfl,n⟩ | ⟨g,b,c,rfl,k,l,d,a,r,f⟩
 .exact ⟨none,0,by rw[n],by omega,by simp,by simp,fun h=>by omega⟩
 .refine ⟨_,b,rfl,d,a,by rintro _ ⟨⟩;exact ⟨rfl,k,(Array.getElem?_eq_some_iff.1 l).1,j g rfl⟩,fun _=>⟨g,0,c,rfl,k,j g rfl,l,by omega,fun i x m=>?_⟩⟩
  have q:i<xs.length:=(List.getElem?_eq_some_iff.1 m).1;have hh:i*sz+sz<=xs.length*sz:=by rw[<-Nat.succ_mul];exact Nat.mul_le_mul_right _ q
  have:=p i x m;rw[<-f,List.drop_take,List.take_take] at this;rw[Nat.zero_add]
  rwa [show min sz (xs.length*sz-i*sz)=sz by omega] at this
theorem U0.mem (h:U0 B e sz R σ w v xs) {k:Nat} (c:v.ownBlock=some k):B<=k/\k<w.heap.size/\σ k=none:=by
 obtain ⟨a,d,rfl,f,g,b,i⟩:=h;cases a with
 | none=>cases c
 | some a=>cases c;exact (b a rfl).2
theorem U0.up [hr:Rep R] (h:U0 B e sz R σ w v xs) (f:Stp w σ w' σ'):U0 B e sz R σ' w' v xs:=by
 obtain ⟨a,j,rfl,o,p,c,q⟩:=h;refine ⟨a,j,rfl,o,p,fun b d=>⟨(c b d).1,(c b d).2.1,Nat.lt_of_lt_of_le (c b d).2.2.1 f.bel.size,(f.old _ (c b d).2.2.1).trans (c b d).2.2.2⟩,fun r=>?_⟩;obtain ⟨g,l,k,rfl,t,y,n,z,A⟩:=q r;have m:=(Array.getElem?_eq_some_iff.1 n).1;exact ⟨g,l,k,rfl,t,(f.old g m).trans y,(f.bel.block g m).trans n,z,fun i x s=>hr.up f.le (A i x s)⟩
theorem U0.step [hr:Rep R] (h:U0 B e sz R σ w v xs) (a:Stp w σ w' σ'):U0 B e sz R σ' w' v xs:=h.up a
theorem U0.kp {D:Nat->Prop} (h:U0 B e sz R σ w v xs) (m:Kpt D w w') (j: ∀k,v.ownBlock=some k-> ¬D k):U0 B e sz R σ w' v xs:=by
 obtain ⟨a,f,rfl,o,p,c,q⟩:=h;refine ⟨a,f,rfl,o,p,fun b d=>⟨(c b d).1,(c b d).2.1,Nat.lt_of_lt_of_le (c b d).2.2.1 m.size,(c b d).2.2.2⟩,fun r=>?_⟩;obtain ⟨g,l,i,rfl,t,y,n,z,A⟩:=q r;have s:=(Array.getElem?_eq_some_iff.1 n).1;exact ⟨g,l,i,rfl,t,y,(m.block g s (j g rfl)).trans n,z,A⟩
theorem Sh {b t:TypeId} {cs:List Bool} [ts:TS P b e] (h:U0 B e sz R σ w v xs) (d:K (I xs.length) w):V9 P .len [b] t cs [v] w K:=by
 obtain ⟨a,c,rfl,_⟩:=h;rw[Q5j];exact d
theorem Q7O {t:TypeId} {c:Nat} {z:Value} [TS P t e] [TZ P e sz c z] (h:U0 B e sz R σ w v xs) {n:Nat} (m:n<xs.length)
 (l: ∀a cs,(∀j u,cs[j]? =some u->w.cell? (a.add j)=some u)->cs.length=sz->R σ xs[n] cs->K (.pointer (some a)) w):indexAddr P t v (I n) w K:=by
 obtain ⟨a,d,rfl,r,s,o,k⟩:=h;obtain ⟨g,i,f,rfl,y,A,p,C,q⟩:=k Q4;rw[Ix Q4 Q4];have hh:n*sz+sz<=d*sz:=by rw[<-Nat.succ_mul];exact Nat.mul_le_mul_right _ Q4
 refine l _ ((f.toList.drop (i+n*sz)).take sz) ?_ ?_ (q n _ (by simp[m]))
 .intro j u b
  rw[List.getElem?_take] at b
  split at b
  .rw[List.getElem?_drop] at b
   unfold World.cell?;rw[P6,P6,Vm,Vm,Qf (Qf rfl _)];simp only[p]
   simpa using b
  .cases b
 .rw[List.length_take,List.length_drop,Array.length_toList];omega
theorem X6C {t:TypeId} {m:Nat} {z:Value} [ts:TS P t e] [tz:TZ P e sz m z] (h:U0 B e sz R σ w v xs) (l:Nat) (M:l<=xs.length)
 (A: ∀k,U0 B e sz R σ w k (xs.drop l)->(k.ownBlock=v.ownBlock\/k.ownBlock=none)->K k w):I9 P t v (some (I l)) none none w K:=by
 obtain ⟨a,c,rfl,s,J,d,p⟩:=h
 have hh: ∀w:World,(Instr.sliceBounds true xs.length c (some (I l)) none none).run P w= .ok (l,xs.length,c) w:=by
  intro w;have r:(l:Int)<=xs.length:=by omega
  simp[Instr.sliceBounds,Instr.sliceBound,asIntOf,s,r]
  intros;omega
 unfold I9
 have:(Instr.sliceAt t (.slice a xs.length c) (some (I l)) none none).run P w= .ok (.slice (if c=l then a else a.map (·.add (l*sz))) (xs.length-l) (c-l)) w:=by
  simp[Instr.sliceAt,run_underlying ts.h,Instr.slice,hh,O3 tz]
 rw[Y3 this];refine A _ ⟨_,c-l,by rw[List.length_drop],by rw[List.length_drop];omega,by omega,?_,fun L=>?_⟩ ?_
 .intro b j
  split at j
  .exact d b j
  .cases a with
   | none=>cases j
   | some a=>cases j;exact ⟨Qf (d a rfl).1 _,by rw[P6];exact (d a rfl).2⟩
 .have y:=p Q4
  clear p;obtain ⟨g,o,n,rfl,C,D,E,N,H⟩:=y;refine ⟨g,o+l*sz,n,?_,C,D,E,?_,fun i x q=>?_⟩
  .rw[if_neg Q4];simp only[Option.map_some];congr 1;unfold Addr.add;split<;>simp_all
  .have:l*sz+(c-l)*sz=c*sz:=by rw[<-Nat.add_mul];congr 1;omega
   omega
  .rw[List.getElem?_drop] at q
   have:=H _ _ q
   rwa [Nat.add_mul,<-Nat.add_assoc] at this
 .left
  by_cases f:c=l
  .rw[if_pos f];cases a<;>rfl
  .rw[if_neg f]
   cases a with
   | none=>rfl
   | some a=>simp only[Option.map_some,Value.ownBlock,P6]
theorem X1Y {t Q ty:TypeId} {W:Nat} {z:Value} {cs:List Bool} {news:List Value} [ts:TS P t e] [tz:TZ P e sz W z] [hr:Rep R] (hs:X1 w σ) (hB:B<=w.heap.size) (ha:U0 B e sz R σ w v xs) (q:Src P sz Q u ys.length news w) (n5: ∀j y,ys[j]? =some y->R σ y ((news.drop (j*sz)).take sz)) (hz:(z.cells.size==sz&&decide (0<sz))=true)
 (U:(xs.length+ys.length)*W<=140737488355328) (hm:xs.length+ys.length<=1000000000000)
 (h: ∀r w',Kpt (fun k=>v.ownBlock=some k/\B<=k/\σ k=none) w w'->X1 w' σ->U0 B e sz R σ w' r (xs++ys)->((∃a A,v= .slice a xs.length A/\r= .slice a (xs.length+ys.length) A)\/(Below w.heap.size w w'/\ ∀k,r.ownBlock=some k->w.heap.size<=k))->K r w'):V9 P .append [t,Q] ty cs [v,u] w K:=by
 obtain ⟨s,c,rfl,c1,c2,C,c3⟩:=ha;obtain ⟨i,hi,H,aj,O⟩:=tz.info;simp only[Bool.and_eq_true,beq_iff_eq,decide_eq_true_eq] at hz;obtain ⟨ap,be⟩:=hz
 have J: ∀r w',(Builtin.append_ #[t,Q] ty #[.slice s xs.length c,u]).run P w= .ok r w'->Kpt (fun k=>(Value.slice s xs.length c).ownBlock=some k/\B<=k/\σ k=none) w w'->U0 B e sz R σ w' r (xs++ys)->((∃a A,(Value.slice s xs.length c)= .slice a xs.length A/\r= .slice a (xs.length+ys.length) A)\/(Below w.heap.size w w'/\ ∀k,r.ownBlock=some k->w.heap.size<=k))->V9 P .append [t,Q] ty cs [.slice s xs.length c,u] w K:=by
  intro r w' E hk hq ai
  have N:(builtin .append #[t,Q] ty cs.toArray #[.slice s xs.length c,u]).run P w= .ok (.value r) w':=by
   simp[builtin,E]
  unfold V9;rw[Zw];unfold Ye;rw[N];exact h r w' hk (fun k o ho=>by rw[hk.block k (hs.lt ho) fun e=>by rw[e.2.2] at ho;cases ho];exact hs k o ho) hq ai
 have n2:=q.newsLen;have n4:=q.one;have m:Src P i.size Q u ys.length news w:=by rw[H];exact q
 by_cases p:xs.length+ys.length<=c
 .by_cases L:c=0
  ·-- nothing at all
   subst L;have n:xs=[]:=List.eq_nil_of_length_eq_zero Q4;have hy:ys=[]:=List.eq_nil_of_length_eq_zero Q4;subst n hy;have hn:news=[]:=List.eq_nil_of_length_eq_zero (by simpa using n2)
   subst hn;refine J (.slice s 0 0) w ?_ Kpt.refl ⟨s,0,rfl,by simp,by simp,C,fun h=>by omega⟩ (.inl ⟨_,_,rfl,rfl⟩)
   have hl:=m.len w;have D:=m.cells;simp only[List.length_nil] at hl D⊢
   rcases m.kind with ⟨e',hk⟩ | hk<;>cases s<;>simp[Builtin.append_,run_underlying ts.h,run_underlying hk,sizeOf,typeInfo,hi,hl,D,storeCells]
  .obtain ⟨g,f,d,rfl,q1,q2,q3,q4,q5⟩:=c3 Q4
   have e1:(xs.length+ys.length)*sz<=c*sz:=Nat.mul_le_mul_right _ p;rw[Nat.add_mul] at e1;have Y:=run_storeCells_at P g (f+xs.length*sz) e news 0 d w q3 Q4 n4;simp only[Nat.add_zero] at Y;obtain ⟨aa,ao⟩:=Sq (cs:=(d.toList.take (f+xs.length*sz)++news++d.toList.drop (f+xs.length*sz+news.length)).toArray) q3;refine J (.slice (some ⟨g,f,none⟩) (xs.length+ys.length) c) _ ?_ (Kpt.of_upd aa ⟨rfl,q1,q2⟩) ?_ (.inl ⟨_,_,rfl,rfl⟩)
   .have hl:=m.len w
    have D:=m.cells;rw[H] at D
    rcases m.kind with ⟨e',hk⟩ | hk<;>simp[Builtin.append_,run_underlying ts.h,run_underlying hk,sizeOf,typeInfo,hi,hl,D,H,p,Addr.add_lit,Y]
   .refine ⟨_,c,by rw[List.length_append],by rw[List.length_append];exact p,c2,fun b U=>⟨(C b U).1,(C b U).2.1,by rw[aa.size];exact (C b U).2.2.1,(C b U).2.2.2⟩,fun _=>⟨g,f,_,rfl,q1,q2,ao,?_,fun j x n=>?_⟩⟩
    .simp;omega
    .by_cases V:j<xs.length
     .rw[List.getElem?_append_left V] at n
      have:=q5 j x n;have hh:j*sz+sz<=xs.length*sz:=by rw[<-Nat.succ_mul];exact Nat.mul_le_mul_right _ V
      have e2:((d.toList.take (f+xs.length*sz)++news++d.toList.drop (f+xs.length*sz+news.length)).toArray.toList.drop (f+j*sz)).take sz=(d.toList.drop (f+j*sz)).take sz:=by
       rw[List.toList_toArray,List.append_assoc];rw[List.drop_append_of_le_length (by rw[List.length_take,Array.length_toList (xs:=d)];omega),List.take_append_of_le_length (by rw[List.length_drop,List.length_take,Array.length_toList (xs:=d)];omega),List.drop_take,List.take_take]
       congr 1;omega
      rw[e2];exact this
     .rw[List.getElem?_append_right Q4] at n
      have:=n5 _ _ n;have an:j-xs.length<ys.length:=(List.getElem?_eq_some_iff.1 n).1;have hh:(j-xs.length)*sz+sz<=ys.length*sz:=by rw[<-Nat.succ_mul];exact Nat.mul_le_mul_right _ an
      have ba:j*sz=xs.length*sz+(j-xs.length)*sz:=by rw[<-Nat.add_mul];congr 1;omega
      have e2:((d.toList.take (f+xs.length*sz)++news++d.toList.drop (f+xs.length*sz+news.length)).toArray.toList.drop (f+j*sz)).take sz=(news.drop ((j-xs.length)*sz)).take sz:=by
       rw[List.toList_toArray,List.append_assoc]
       rw[List.drop_append,List.drop_eq_nil_of_le (by rw[List.length_take,Array.length_toList (xs:=d)];omega),List.nil_append,List.length_take,Array.length_toList (xs:=d),
        show f+j*sz-min (f+xs.length*sz) d.size=(j-xs.length)*sz by omega,
        List.drop_append_of_le_length Q4,List.take_append_of_le_length (by rw[List.length_drop];omega)]
      rw[e2];exact this
 ·-- a new row
  have M: ∃l:List Value,l.length=xs.length*sz/\(Builtin.firstCells i.size xs.length (.slice s xs.length c)).run P w.drew= .ok l.toArray w.drew/\ ∀j x,xs[j]? =some x->R σ x ((l.drop (j*sz)).take sz):=by
   by_cases L:c=0
   .subst L
    have n:xs=[]:=List.eq_nil_of_length_eq_zero Q4;subst n;refine ⟨[],by simp,?_,by simp⟩
    cases s with
    | none=>exact run_firstCells_none w.drew i.size 0 0 0
    | some a'=>exact run_firstCells_some w.drew i.size 0 a' 0 0 [] U5 (by intro _ _ h';simp at h')
   .obtain ⟨g,f,d,rfl,q1,q2,q3,q4,q5⟩:=c3 Q4
    have e1:xs.length*sz<=c*sz:=Nat.mul_le_mul_right _ c1;refine ⟨(d.toList.drop f).take (xs.length*sz),by rw[List.length_take,List.length_drop,Array.length_toList (xs:=d)];omega,?_,fun j x n=>?_⟩
    .refine run_firstCells_some w.drew i.size xs.length ⟨g,f,none⟩ xs.length c _ (by rw[List.length_take,List.length_drop,Array.length_toList (xs:=d),H];omega) (fun j u Z=>?_)
     rw[List.getElem?_take] at Z
     split at Z
     .rw[List.getElem?_drop] at Z
      have av:w.drew.heap[g]? =some (.cells d e (0,0)):=q3;unfold World.cell?;rw[P6,Vm,Qf rfl];simp only[av]
      simpa using Z
     .cases Z
    .have V:j<xs.length:=(List.getElem?_eq_some_iff.1 n).1
     have hh:j*sz+sz<=xs.length*sz:=by rw[<-Nat.succ_mul];exact Nat.mul_le_mul_right _ V
     have:=q5 j x n;rw[List.drop_take,List.take_take,List.drop_drop,show min sz (xs.length*sz-j*sz)=sz by omega]
     exact this
  obtain ⟨l,o1,o2,o3⟩:=M;have hg:c<xs.length+ys.length:=by omega
  have E:=run_append_grow_src (P:=P) w t Q ty e i z ts.h hi O s xs.length c l o2 (u) ys.length news m hg Q4 (growslice_fits hg (by rw[aj];exact U))
  have ak:=grownCap_le_maxLen w (xs.length+ys.length) c e (by simp only[maxLen];omega)
  have al:=grownCap_ge w (xs.length+ys.length) c e;have hL:(l++news).length=(xs.length+ys.length)*sz:=by rw[List.length_append,o1,n2,Nat.add_mul]
  refine J _ _ E ?_ ?_ (.inr ⟨(Below.refl _ _).drew.alloc (Nat.le_refl _) _,by intro k hk;cases hk;exact Nat.le_refl _⟩)
  .exact Kpt.of_below ((Below.refl _ _).drew.alloc (Nat.le_refl _) _)
  .refine ⟨_,_,by rw[List.length_append],by rw[List.length_append];exact al,ak,by rintro _ ⟨⟩;exact ⟨rfl,hB,(Array.getElem?_eq_some_iff.1 (heap_alloc_new w.drew _)).1,hs.none (Nat.le_refl _)⟩,fun _=>⟨w.heap.size,0,_,rfl,hB,hs.none (Nat.le_refl _),heap_alloc_new w.drew _,?_,fun j x n=>?_⟩⟩
   .rw[Array.size_append,List.size_toArray,hL,size_zeroCells,ap,<-Nat.add_mul]
    rw[Nat.zero_add];exact Nat.mul_le_mul_right _ Q4
   .rw[Nat.zero_add,Array.toList_append]
    have V:j<xs.length+ys.length:=by have:=(List.getElem?_eq_some_iff.1 n).1;rwa [List.length_append] at this
    have hh:j*sz+sz<=(xs.length+ys.length)*sz:=by rw[<-Nat.succ_mul];exact Nat.mul_le_mul_right _ V
    rw[List.drop_append_of_le_length (by simp only[List.toList_toArray];omega),List.take_append_of_le_length (by rw[List.length_drop];simp only[List.toList_toArray];omega)]
    simp only[List.toList_toArray]
    by_cases X:j<xs.length
    .rw[List.getElem?_append_left X] at n
     rw[Cc l news xs.length j o1 X];exact o3 j x n
    .rw[List.getElem?_append_right Q4] at n
     have:=n5 _ _ n;rw[show j*sz=l.length+(j-xs.length)*sz by rw[o1,<-Nat.add_mul];congr 1;omega,List.drop_append]
     simpa [List.drop_eq_nil_of_le] using this
theorem Tw {t E:TypeId} {d:Nat} {z:Value} {cs:List Bool} [ts:TS P t e] [tz:TZ P e sz d z] [hr:Rep R] (i:X1 w σ) (hB:B<=w.heap.size) (o:U0 B e sz R σ w v xs) (j:Sl sz R σ u ys) (s:(z.cells.size==sz&&decide (0<sz))=true)
 (p:(xs.length+ys.length)*d<=140737488355328) (q:xs.length+ys.length<=1000000000000)
 (h: ∀f w',Kpt (fun k=>v.ownBlock=some k/\B<=k/\σ k=none) w w'->X1 w' σ->U0 B e sz R σ w' f (xs++ys)->((∃a c,v= .slice a xs.length c/\f= .slice a (xs.length+ys.length) c)\/(Below w.heap.size w w'/\ ∀k,f.ownBlock=some k->w.heap.size<=k))->K f w'):V9 P .append [t,t] E cs [v,u] w K:=by
 obtain ⟨a,c,news,rfl,y,m,A,C,D⟩:=j.cells i;refine X1Y i hB o (news:=news) ?_ D s p q h;cases a with
 | some b=>exact Src.ofSlice w ts.h b ys.length c news m (A b rfl) C
 | none=>
  have l:ys.length=0:=by
   obtain ⟨H,g,n,J,_,L,_⟩:=j;injection n with e1 e2 e3;have:=y rfl;omega
  have r:news=[]:=List.eq_nil_of_length_eq_zero (by rw[m,l];simp)
  subst r;rw[l];exact Src.ofNil w ts.h c
theorem Qk {b:Nat} (h:w1.heap.size<=b) (k:Stp w σ w1 σ1):w.heap.size<=b:=Nat.le_trans k.bel.size h
theorem I4 {t:TypeId} {sz a:Nat} {z:Value} [tz:TZ P t sz a z] (g:X1 w σ) (h: ∀b w' σ',w.heap.size<=b->Stp w σ w' σ'->U6 σ' w' b z.cells.toList->K (.pointer (some ⟨b,0,none⟩)) w'):Qh P t w K:=
 Pe g fun b w' c d f=>h b w' σ c d f
theorem Q2c {t:TypeId} {cs:List Value} (f:X1 w σ) (h: ∀b w' σ',w.heap.size<=b->Stp w σ w' σ'->U6 σ' w' b cs->K (.pointer (some ⟨b,0,none⟩)) w'):box P t (.agg cs.toArray) w K:=
 X2r f fun b w' a c d=>h b w' σ a c (by simpa [Value.cells] using d)
theorem Qt {t:TypeId} {sz a:Nat} {z:Value} [tz:TZ P t sz a z] {b:Nat} {cs ds:List Value} (d:U6 σ w b cs) (g:Stp w0 σ0 w σ) (i:w0.heap.size<=b) (k:cs.length=sz) (j:ds.length=sz) (f: ∀u∈ds,u.oneCell'=true)
 (h: ∀w',Hst w0 σ0 w' σ->U6 σ w' b ds->K undef w'):M3 P t (.pointer (some ⟨b,0,none⟩)) (.agg ds.toArray) w K:=
 sta d k j (by rw[List.all_toArray];exact List.all_eq_true.2 f) fun w' l c=>h w' ⟨l.stp g i d.1⟩ c
structure Nxt (D : Nat -> Prop) (w : World) (σ : Q2) (w' : World) (σ' : Q2) : Prop where
  kp : Kpt D w w'
  le : SLe σ σ'
  old : ∀ k, k < w.heap.size -> σ' k = σ k
  sat : X1 w' σ'
theorem Nxt.of_stp {D:Nat->Prop} (h:Stp w σ w' σ'):Nxt D w σ w' σ':=⟨Kpt.of_below h.bel,⟨h.le⟩,h.old,h.sat⟩
theorem Nxt.mono {D D':Nat->Prop} (h:Nxt D w σ w' σ') (a: ∀k,k<w.heap.size->D k->D' k):Nxt D' w σ w' σ':=⟨h.kp.mono a,h.le,h.old,h.sat⟩
theorem Nxt.trans {D:Nat->Prop} (h:Nxt D w σ w' σ') (k:Nxt D w' σ' w'' σ1):Nxt D w σ w'' σ1:=
 ⟨h.kp.trans k.kp,h.le.more k.le,fun i a=>(k.old i (Nat.lt_of_lt_of_le a h.kp.size)).trans (h.old i a),k.sat⟩
theorem U6.nx {D:Nat->Prop} {b:Nat} {cs:List Value} (h:U6 σ w b cs) (k:Nxt D w σ w' σ') (f: ¬D b):U6 σ' w' b cs:=by
 have a:=h.lt;obtain ⟨c,e,d⟩:=h;exact ⟨(k.old b a).trans c,e,(k.kp.block b a f).trans d⟩
theorem B4.nx {D:Nat->Prop} {r:Nat} {m:List (List UInt8×Value)} (h:B4 σ w r m) (k:Nxt D w σ w' σ') (a: ¬D r):B4 σ' w' r m:=
 ⟨(k.old r h.lt).trans h.1,(k.kp.block r h.lt a).symm▸h.2⟩
variable {x : α}
theorem W1.nx [hr:Rep R] {D:Nat->Prop} (h:W1 B e sz R σ w v xs) (k:Nxt D w σ w' σ') (g: ∀k,v.ownBlock=some k-> ¬D k):W1 B e sz R σ' w' v xs:=by
 have b:=h.kp k.kp g;obtain ⟨cells,c,d,f⟩:=b;refine ⟨cells,c,fun i a=>(k.old i (h.mem i a).2.1).trans (d i a),fun i x j=>hr.up k.le.le (f i x j)⟩
theorem U0.nx [hr:Rep R] {D:Nat->Prop} (h:U0 B e sz R σ w v xs) (k:Nxt D w σ w' σ') (s: ∀k,v.ownBlock=some k-> ¬D k):U0 B e sz R σ' w' v xs:=by
 obtain ⟨a,f,rfl,o,p,c,q⟩:=h;refine ⟨a,f,rfl,o,p,fun b d=>⟨(c b d).1,(c b d).2.1,Nat.lt_of_lt_of_le (c b d).2.2.1 k.kp.size,(k.old _ (c b d).2.2.1).trans (c b d).2.2.2⟩,fun r=>?_⟩;obtain ⟨g,l,j,rfl,y,z,n,A,C⟩:=q r;have m:=(Array.getElem?_eq_some_iff.1 n).1;exact ⟨g,l,j,rfl,y,(k.old g m).trans z,(k.kp.block g m (s g rfl)).trans n,A,fun i x t=>hr.up k.le.le (C i x t)⟩
theorem Za {t E:TypeId} {c:Nat} {z:Value} {cs:List Bool} {A:Value->Value->World->Prop} [ts:TS P t e] [tz:TZ P e sz c z] [hr:Rep R] (m:Stp w0 σ0 w σ) (o:W1 w0.heap.size e sz R σ w v xs) (C:R σ x u.cells.toList) (q:u.cells.size=sz) (D:(z.cells.size==sz&&decide (0<sz))=true) (l:(decide (0<sz)&&decide ([u].length*sz<=16777216))=true)
 (p:(xs.length+1)*c<=140737488355328) (y:xs.length+1<=9223372036854775807)
 (h: ∀s b w' σ',Nxt (fun k=>v.ownBlock=some k) w σ w' σ'->Stp w0 σ0 w' σ'->W1 w0.heap.size e sz R σ' w' b (xs++[x])->(b.ownBlock=v.ownBlock\/ ∀k,b.ownBlock=some k->w.heap.size<=k)->A s b w'):
 buildSlice P t 1 [(0,u)] w (fun s w=>V9 P .append [t,t] E cs [v,s] w (fun b w=>A s b w)):=by
 refine H0 m.sat [u] [x] rfl rfl (by simpa using q) l ⟨C,trivial⟩ fun s w1 σ1 a j=>?_
 refine app (m.trans a) (o.up a) j D (by simpa using p) (by simpa using y) fun b n r d f hat=>?_
 have i:Kpt (fun k=>v.ownBlock=some k) w n:=(Kpt.of_below a.bel).trans (Kpt.of_grown r fun k a=>a);refine h s b n σ1 ⟨i,⟨a.le⟩,a.old,d.sat⟩ d f ?_
 rcases hat with hat | hat
 .exact .inl hat
 .exact .inr fun k g=>Nat.le_trans a.bel.size (hat k g)
theorem Hk {t q:TypeId} {b:Nat} {z:Value} {cs:List Bool} {ys:List α} [ts:TS P t e] [tz:TZ P e sz b z] [hr:Rep R] (g:Stp w0 σ0 w σ) (i:W1 w0.heap.size e sz R σ w v xs) (o:Sl sz R σ u ys) (p:(z.cells.size==sz&&decide (0<sz))=true)
 (j:(xs.length+ys.length)*b<=140737488355328) (n:xs.length+ys.length<=9223372036854775807)
 (h: ∀a w',Nxt (fun k=>v.ownBlock=some k) w σ w' σ->Stp w0 σ0 w' σ->W1 w0.heap.size e sz R σ w' a (xs++ys)->(a.ownBlock=v.ownBlock\/ ∀k,a.ownBlock=some k->w.heap.size<=k)->K a w'):V9 P .append [t,t] q cs [v,u] w K:=
 app g i o p j n fun a r l c d f=>h a r ⟨Kpt.of_grown l fun k m=>m,SLe.refl _,fun _ _=>rfl,c.sat⟩ c d f
theorem U0.mono {B':Nat} (h:U0 B e sz R σ w v xs) (k:B'<=B):U0 B' e sz R σ w v xs:=by
 obtain ⟨a,f,rfl,l,m,d,n⟩:=h;refine ⟨a,f,rfl,l,m,fun b c=>⟨(d b c).1,Nat.le_trans k (d b c).2.1,(d b c).2.2⟩,fun o=>?_⟩;obtain ⟨g,j,i,rfl,p,q⟩:=n o;exact ⟨g,j,i,rfl,Nat.le_trans k p,q⟩
theorem U0.own (h:U0 B e sz R σ w v xs) {k:Nat} (a:v.ownBlock=some k):B<=k:=(h.mem a).1
theorem U0.keep [hr:Rep R] (h:U0 w0.heap.size e sz R σ w v xs) (n:Stp w0 σ0 w σ): ∃σ',Stp w0 σ0 w σ'/\Sl sz R σ' v xs/\SLe σ σ'/\(∀k,some k≠v.ownBlock->σ' k=σ k):=by
 obtain ⟨a,f,rfl,r,s,o,t⟩:=h
 by_cases z:f=0
 .have m:xs=[]:=List.eq_nil_of_length_eq_zero Q4
  subst z m;exact ⟨σ,n,⟨a,0,rfl,by simp,by simp,fun _=>rfl,fun b y=>⟨fun _=>(o b y).1,by simp⟩⟩,SLe.refl _,fun _ _=>rfl⟩
 .obtain ⟨g,p,c,rfl,C,q,D,J,E⟩:=t Q4
  have d:=Q2.put_le n.sat q (.cells c e (0,0));refine ⟨σ.put g (.cells c e (0,0)),n.put q C D,⟨_,f,rfl,r,s,by simp,?_⟩,⟨d⟩,?_⟩
  .rintro _ ⟨⟩
   refine ⟨fun _=>rfl,fun i x m=>⟨(c.toList.drop (p+i*sz)).take sz,⟨Qf rfl _,c,e,(0,0),by rw[P6];simp[Q2.put],?_⟩,?_,hr.up d (E i x m)⟩⟩
   .intro j u l
    rw[Vm];rw[List.getElem?_take] at l
    split at l
    .rw[List.getElem?_drop] at l;simpa using l
    .cases l
   .have H:i<xs.length:=(List.getElem?_eq_some_iff.1 m).1
    have h:i*sz+sz<=f*sz:=by rw[<-Nat.succ_mul];exact Nat.mul_le_mul_right _ Q4
    rw[List.length_take,List.length_drop,Array.length_toList (xs:=c)];omega
  .intro k A
   have:k≠g:=by intro e;subst e;exact A rfl
   simp only[Q2.put,if_neg this]
theorem X3V {t U:TypeId} {C:Nat} {z:Value} {A:Value->Value->World->Prop} {ds:List Value} [ts:TS P t e] [tz:TZ P e sz C z] {s:Nat} {z':Value} [tz':TZ P U sz s z'] (Z:Stp w0 σ0 w σ) (ha:U0 w0.heap.size e sz R σ w v xs) {n:Nat} (hn:n<xs.length) (D:ds.length=sz) (hx:R σ x ds) (Y: ∀u∈ds,u.oneCell'=true)
 (h: ∀p u w',Kpt (fun k=>v.ownBlock=some k) w w'->Hst w0 σ0 w' σ->U0 w0.heap.size e sz R σ w' v (xs.set n x)->A p u w'):
 indexAddr P t v (I n) w (fun p w=>M3 P U p (.agg ds.toArray) w (fun u w=>A p u w)):=by
 obtain ⟨a,f,rfl,V,W,i,X⟩:=ha;obtain ⟨g,c,d,rfl,N,O,Q,q4,q5⟩:=X Q4;rw[Ix Q4 Q4];have hh:n*sz+sz<=f*sz:=by rw[<-Nat.succ_mul];exact Nat.mul_le_mul_right _ Q4
 have m:(⟨g,c,none⟩:Addr).add ((n:Int).toNat*sz)=⟨g,c+n*sz,none⟩:=by unfold Addr.add;split<;>simp_all
 rw[m];have o:=run_storeCells_at P g (c+n*sz) e ds 0 d w Q Q4 Y;simp only[Nat.add_zero] at o;obtain ⟨l,L⟩:=Sq (cs:=(d.toList.take (c+n*sz)++ds++d.toList.drop (c+n*sz+ds.length)).toArray) Q;unfold M3
 rw[Vw (w':=w.setRow g (d.toList.take (c+n*sz)++ds++d.toList.drop (c+n*sz+ds.length)).toArray) (by
  simp[Instr.storeAt,Instr.sureAddr,storeVar,O3 tz',Value.cells,D]
  simpa [D] using o)]
 have hk:Kpt (fun k=>(Value.slice (some ⟨g,c,none⟩) xs.length f).ownBlock=some k) w (w.setRow g (d.toList.take (c+n*sz)++ds++d.toList.drop (c+n*sz+ds.length)).toArray):=Kpt.of_upd l rfl;refine h _ _ _ hk ⟨l.stp Z N O⟩ ⟨_,f,by rw[List.length_set],by rw[List.length_set];exact V,W,fun b r=>⟨(i b r).1,(i b r).2.1,by rw[l.size];exact (i b r).2.2.1,(i b r).2.2.2⟩,fun _=>⟨g,c,_,rfl,N,O,L,?_,fun j y q=>?_⟩⟩
 .simp;omega
 .rw[List.toList_toArray]
  have ab:=Array.length_toList (xs:=d);have H:j<xs.length:=by have:=(List.getElem?_eq_some_iff.1 q).1;simpa using this
  have ac:j*sz+sz<=f*sz:=by rw[<-Nat.succ_mul];exact Nat.mul_le_mul_right _ Q4
  by_cases M:j=n
  .subst M
   rw[List.getElem?_set_self H] at q;cases q;rw[List.append_assoc,List.drop_append,List.drop_eq_nil_of_le (by rw[List.length_take];omega),List.nil_append,List.length_take,show c+j*sz-min (c+j*sz) d.toList.length=0 by omega,List.drop_zero,List.take_append_of_le_length Q4,List.take_of_length_le Q4]
   exact hx
  .rw[List.getElem?_set_ne Q4] at q
   have:=q5 j y q
   rcases Nat.lt_or_gt_of_ne M with J | hgt
   .have E:j*sz+sz<=n*sz:=by rw[<-Nat.succ_mul];exact Nat.mul_le_mul_right _ J
    rw[List.append_assoc,List.drop_append_of_le_length (by rw[List.length_take];omega),List.take_append_of_le_length (by rw[List.length_drop,List.length_take];omega),List.drop_take,List.take_take]
    rwa [show min sz (c+n*sz-(c+j*sz))=sz by omega]
   .have E:n*sz+sz<=j*sz:=by rw[<-Nat.succ_mul];exact Nat.mul_le_mul_right _ hgt
    rw[List.drop_append,List.drop_eq_nil_of_le (by rw[List.length_append,List.length_take];omega),List.nil_append,List.length_append,List.length_take,List.drop_drop,D]
    rwa [show c+n*sz+sz+(c+j*sz-(min (c+n*sz) d.toList.length+sz))=c+j*sz by omega]
theorem Q7k (p:Nat->Prop): ∀n,p n-> ∃m,p m/\ ∀k,p k->m<=k:=by
 intro n
 induction n using Nat.strongRecOn with
 | _ n g=>
  intro h
  by_cases b: ∃k,k<n/\p k
  .obtain ⟨k,c,d⟩:=b;exact g k c d
  .exact ⟨n,h,fun k f=>Nat.le_of_not_lt fun a=>b ⟨k,a,f⟩⟩
noncomputable def Q2r (p:Nat->Prop):Nat:=open Classical in if h: ∃m,p m/\ ∀k,p k->m<=k then Classical.choose h else 0
theorem Q1D {p:Nat->Prop} {n:Nat} (h:p n):p (Q2r p)/\Q2r p<=n:=by
 have a:=Q7k p n h;unfold Q2r;rw[dif_pos a];exact ⟨(Classical.choose_spec a).1,(Classical.choose_spec a).2 n h⟩
theorem Q2s {α:Type} {x0:α} {A:(α->World->Prop)->α->(Nat->Value)->World->Prop} (I:Nat->α->World->Prop) (n:Nat) (h:I n x0 w)
 (k: ∀a n x d w,I n x w->(∀b c w',b<n->I b c w'->a c w')->A a x d w):lp x0 w A:=by
 refine Uc (fun x w=> ∃n,I n x w) (fun x w=>Q2r fun n=>I n x w) ⟨n,h⟩ ?_;rintro x d w ⟨n,j⟩;obtain ⟨i,l⟩:=Q1D (p:=fun n=>I n x w) j;refine k _ _ x d w i fun b c w' f g=>⟨⟨b,g⟩,?_⟩;exact Nat.lt_of_le_of_lt (Q1D (p:=fun n=>I n c w') g).2 f
theorem U0.below (h:U0 B e sz R σ w v xs) (a:Below w.heap.size w w'):U0 B e sz R σ w' v xs:=h.kp (D:=fun _=>False) (.of_below a) fun _ _=>id
theorem U0.pre {a:Option Addr} {n m b:Nat} (h:U0 B e sz R σ w (.slice a m b) (xs++ys)) (y:n=xs.length):U0 B e sz R σ w (.slice a n b) xs:=by
 obtain ⟨J,j,t,p,q,d,r⟩:=h
 injection t with l e2 o
 subst l o y;rw[List.length_append] at p;refine ⟨a,b,rfl,by omega,q,d,fun s=>?_⟩
 obtain ⟨g,f,c,z,A,C,D,E,H⟩:=r s;exact ⟨g,f,c,z,A,C,D,E,fun i x k=>H i x (by rw[List.getElem?_append_left (List.getElem?_eq_some_iff.1 k).1];exact k)⟩
def Gz (B:Nat) (e:TypeId) (sz:Nat) (R:Q2->α->List Value->Prop) (σ:Q2) (v:Value) (xs:List α) (x:α) (w1 c:World):Prop:=
 Kpt (fun k=>v.ownBlock=some k) w1 c/\(U0 B e sz R σ w1 v xs->U0 B e sz R σ c v xs)/\
  ∀a b,v= .slice a xs.length b->U0 B e sz R σ w1 (.slice a (xs.length+1) b) (xs++[x])->U0 B e sz R σ c (.slice a (xs.length+1) b) (xs++[x])
theorem Gz.below (a:Below w.heap.size w w'):Gz B e sz R σ v xs x w w':=⟨.of_below a,fun h=>h.below a,fun _ _ _ h=>h.below a⟩
theorem Gz.refl:Gz B e sz R σ v xs x w w:=Gz.below (Below.refl _ _)
def VQa (N B:Nat) (e:TypeId) (sz:Nat) (R:Q2->α->List Value->Prop) (σ:Q2) (v:Value) (xs:List α) (x:α) (c:Value) (w:World):Prop:=
 U0 B e sz R σ w c (xs++[x])/\((∃a b,v= .slice a xs.length b/\c= .slice a (xs.length+1) b)\/((∀k,c.ownBlock=some k->N<=k)/\ ∀k,v.ownBlock=some k->k<N))
theorem VQa.stable {N:Nat} {j:Value} (h:VQa N B e sz R σ v xs x j w) (i:Gz B e sz R σ v xs x w w'):VQa N B e sz R σ v xs x j w':=by
 obtain ⟨g,b⟩:=h;refine ⟨?_,b⟩
 rcases b with ⟨a,c,d,rfl⟩ | ⟨b,d⟩
 .exact i.2.2 a c d g
 .exact g.kp i.1 fun k l f=>by have:=b k l;have:=d k f;omega
theorem Kpt.more {D E:Nat->Prop} (h:Kpt D w w') (k:Kpt E w' w'') (hE: ∀j,E j->w.heap.size<=j):Kpt D w w'':=
 ⟨k.os.trans h.os,k.tape.trans h.tape,k.output.trans h.output,Nat.le_trans h.size k.size,fun i a b=>(k.block i (Nat.lt_of_lt_of_le a h.size) fun e=>by have:=hE i e;omega).trans (h.block i a b)⟩
end Go.Emb
