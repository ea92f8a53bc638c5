/- Parts of a proof about the given program: its functions as texts of their own, what each computes, plain laws of that. The conditions of each stand in its statement. -/
import Derived.Test.YtlfdfcejjgidpaaGreatDoorB1
import Derived.Below
import Derived.Maps.AppendAt
import Derived.ChangeArms
import Derived.DataReads
import Derived.SizedLaws
set_option linter.unnecessarySimpa false
set_option linter.defProp false
set_option linter.unusedSectionVars false
set_option linter.unusedVariables false
set_option linter.unusedSimpArgs false
namespace Go.Proofs.Y
open Go.Emb
set_option maxRecDepth 100000
variable {w : World} {K : Value -> World -> Prop} {a0 a1 a2 a3 a4 a5 a6 a7 : Value}
def Q2U:W5:=[none,none,some ([],[2,4,5,9,10,11,12,13,14,15,16,17,18,19,20,21,22,23,24,25,26,27,28,29,30,31,32,33,34,35,36,37,38,39,40,41,42,43,44,45,46,47,48,49,50,51,52,53,54,55,56,57,58,59,60,61,62,63,64,65,66,67,68,69,70,71,72,73,74,75,76,77,78,79,80,81,82,83,84,85,86,87,88,89,90,91,92,93,94,95,96,97,98,99,100,101,102,103,104,105,106])]++Y0 13
def Sv:D6:=fun c w K=>P7 P T.b c (.int .i64 0) w fun t7 w=>conv P T.a2 T.e t7 w fun f w=>jn (α:=Unit) w (fun J2 w=>X2 .lss T.e 10 f 128 w fun a3 w=>X0 a3 (K (.int .i64 1) w) (X2 .geq T.e 13 f 194 w fun h w=>X8 h true f w fun a4 w=>Q1 h true w (X2 .lss T.e 16 a4 224) fun a5 w=>pick P h a5 (.bool false) w fun i w=>X8 i true c w fun a6 w=>Q1 i true w (Q0 P F.s [a6,(.int .i64 1)]) fun a7 w=>pick P i a7 (.bool false) w fun a8 w=>X0 a8 (K (.int .i64 2) w) (X2 .geq T.e 24 f 224 w fun j w=>X8 j true f w fun a9 w=>Q1 j true w (X2 .lss T.e 27 a9 240) fun ba w=>pick P j ba (.bool false) w fun k w=>X8 k true c w fun bb w=>Q1 k true w (Q0 P F.s [bb,(.int .i64 1)]) fun bc w=>pick P k bc (.bool false) w fun l w=>X8 l true c w fun bd w=>Q1 l true w (Q0 P F.s [bd,(.int .i64 2)]) fun be w=>pick P l be (.bool false) w fun bf w=>X0 bf (dr w fun b a=>Y5 b a (X2 .rem T.e 38 f 16) fun ad=>X5 b a ad (fun m=>X2 .mul T.e 39 m 4096) fun ae=>Y5 b a (P7 P T.b c (.int .i64 1)) fun af=>X5 b a af (fun o=>Z2 P .rem T.a2 (.tmp 42) (.const (.int .u8 64)) o (.int .u8 64)) fun ag=>Y5 b a (P7 P T.b c (.int .i64 2)) fun aj=>X5 b a aj (fun s=>Z2 P .rem T.a2 (.tmp 48) (.const (.int .u8 64)) s (.int .u8 64)) fun ak=>X5 b a ag (fun p=>conv P T.a2 T.e p) fun ah=>X5 b a ah (fun q=>X2 .mul T.e 44 q 64) fun ai=>N2 b a ae ai (fun n r=>X1 .add T.e 40 45 n r) fun bw=>X5 b a ak (fun t=>conv P T.a2 T.e t) fun bx=> ∀m n o p s t q r Z aa w,a w->ad m w->ae n w->af o w->ag p w->aj s w->ak t w->ah q w->ai r w->bw Z w->bx aa w->X1 .add T.e 46 50 Z aa w fun u w=>X2 .geq T.e 52 u 2048 w fun e w=>X8 e true u w fun bg w=>Q1 e true w (X2 .lss T.e 55 bg 55296) fun bh w=>X8 e true bh w fun v w=>X8 v false u w fun bi w=>Q1 v false w (X2 .gtr T.e 58 bi 57343) fun bj w=>Q1 e true w (pick P v (.bool true) bj) fun bk w=>pick P e bk (.bool false) w fun bl w=>X0 bl (K (.int .i64 3) w) (J2 () w)) (X2 .geq T.e 63 f 240 w fun y w=>X8 y true f w fun bm w=>Q1 y true w (X2 .lss T.e 66 bm 245) fun bn w=>pick P y bn (.bool false) w fun z w=>X8 z true c w fun bo w=>Q1 z true w (Q0 P F.s [bo,(.int .i64 1)]) fun bp w=>pick P z bp (.bool false) w fun A w=>X8 A true c w fun bq w=>Q1 A true w (Q0 P F.s [bq,(.int .i64 2)]) fun br w=>pick P A br (.bool false) w fun B w=>X8 B true c w fun bs w=>Q1 B true w (Q0 P F.s [bs,(.int .i64 3)]) fun bu w=>pick P B bu (.bool false) w fun bv w=>X0 bv (dr w fun b a=>Y5 b a (X2 .rem T.e 81 f 8) fun al=>X5 b a al (fun C=>X2 .mul T.e 82 C 262144) fun am=>Y5 b a (P7 P T.b c (.int .i64 1)) fun an=>X5 b a an (fun E=>Z2 P .rem T.a2 (.tmp 85) (.const (.int .u8 64)) E (.int .u8 64)) fun ao=>Y5 b a (P7 P T.b c (.int .i64 2)) fun av=>X5 b a av (fun N=>Z2 P .rem T.a2 (.tmp 91) (.const (.int .u8 64)) N (.int .u8 64)) fun aw=>Y5 b a (P7 P T.b c (.int .i64 3)) fun az=>X5 b a az (fun U=>Z2 P .rem T.a2 (.tmp 97) (.const (.int .u8 64)) U (.int .u8 64)) fun a1=>X5 b a ao (fun H=>conv P T.a2 T.e H) fun ap=>X5 b a ap (fun J=>X2 .mul T.e 87 J 4096) fun aq=>N2 b a am aq (fun D L=>X1 .add T.e 83 88 D L) fun ar=>X5 b a aw (fun O=>conv P T.a2 T.e O) fun ax=>X5 b a ax (fun Q=>X2 .mul T.e 93 Q 64) fun ay=>N2 b a ar ay (fun M R=>X1 .add T.e 89 94 M R) fun bz=>X5 b a a1 (fun V=>conv P T.a2 T.e V) fun b0=> ∀C D E H N O U V J L M Q R ab ac w,a w->al C w->am D w->an E w->ao H w->av N w->aw O w->az U w->a1 V w->ap J w->aq L w->ar M w->ax Q w->ay R w->bz ab w->b0 ac w->X1 .add T.e 95 99 ab ac w fun g w=>X2 .geq T.e 101 g 65536 w fun d w=>X8 d true g w fun W w=>Q1 d true w (X2 .leq T.e 104 W 1114111) fun X w=>pick P d X (.bool false) w fun Y w=>X0 Y (K (.int .i64 4) w) (J2 () w)) (J2 () w))))) fun z2 d_ w=>K (.int .i64 0) w
theorem Q3i (h:Sv a0 w K):Q0 P F.c3 [a0] w K:=zr Q2U Tryz.func32 h
def Q1o:W5:=[none,none,some ([0],[0,2,3,4,5,6,7,8,9,10,11,12])]++Y0 7
def Hl:D6:=fun e w K=>lp (α:=Value) e w fun a c h w=>J9 .neq T.b 4 c #[] w fun f w=>X0 f (Q0 P F.c3 [c] w fun d w=>X2 .eql T.e 8 d 0 w fun g w=>X0 g (K (.bool false) w) (I7 P T.b c (some d) none none w fun b w=>a b w)) (K (.bool true) w)
theorem Q21 (h:Hl a0 w K):Q0 P F.aQ [a0] w K:=zr Q1o Tryz.func10 h
def Fg:zV0:=fun w K=>buildSlice P T.h 42 [(0,(.string ⟨#[105,110,116]⟩)),(1,(.string ⟨#[116,114,117,101]⟩)),(2,(.string ⟨#[102,97,108,115,101]⟩)),(3,(.string ⟨#[119,111,114,100]⟩)),(4,(.string ⟨#[110,117,108,108]⟩)),(5,(.string ⟨#[108,111,97,100]⟩)),(6,(.string ⟨#[115,116,111,114,101]⟩)),(7,(.string ⟨#[112,111,112]⟩)),(8,(.string ⟨#[100,117,112]⟩)),(9,(.string ⟨#[115,119,97,112]⟩)),(10,(.string ⟨#[97,100,100]⟩)),(11,(.string ⟨#[115,117,98]⟩)),(12,(.string ⟨#[109,117,108]⟩)),(13,(.string ⟨#[100,105,118]⟩)),(14,(.string ⟨#[114,101,109]⟩)),(15,(.string ⟨#[110,101,103]⟩)),(16,(.string ⟨#[108,101,115,115]⟩)),(17,(.string ⟨#[115,97,109,101]⟩)),(18,(.string ⟨#[110,111,116]⟩)),(19,(.string ⟨#[98,111,116,104]⟩)),(20,(.string ⟨#[106,111,105,110]⟩)),(21,(.string ⟨#[115,105,122,101]⟩)),(22,(.string ⟨#[106,117,109,112]⟩)),(23,(.string ⟨#[98,114,97,110,99,104]⟩)),(24,(.string ⟨#[110,101,119]⟩)),(25,(.string ⟨#[103,101,116]⟩)),(26,(.string ⟨#[112,117,116]⟩)),(27,(.string ⟨#[99,97,108,108]⟩)),(28,(.string ⟨#[97,114,114,97,121]⟩)),(29,(.string ⟨#[97,116]⟩)),(30,(.string ⟨#[115,101,116]⟩)),(31,(.string ⟨#[105,115]⟩)),(32,(.string ⟨#[99,97,115,116]⟩)),(33,(.string ⟨#[114,101,116,117,114,110]⟩)),(34,(.string ⟨#[116,104,114,111,119]⟩)),(35,(.string ⟨#[111,117,116]⟩)),(36,(.string ⟨#[101,113,117,97,108]⟩)),(37,(.string ⟨#[97,110,100]⟩)),(38,(.string ⟨#[111,114]⟩)),(39,(.string ⟨#[120,111,114]⟩)),(40,(.string ⟨#[115,104,108]⟩)),(41,(.string ⟨#[115,104,114]⟩))] w fun a w=>K a w
theorem Q4H (h:Fg w K):Q0 P F.ck [] w K:=zr (Y0 2) Tryz.func270 h
def Q0s:W5:=[none,none,none,none,some ([4],[2,4,6,7,8,9,10,11,12,13,14,15,16,17,18])]++Y0 6
def Dw:D6:=fun f w K=>Q0 P F.ck [] w fun e w=>lp (α:=Value) (.int .i64 0) w fun a b i w=>X4 T.h e w fun g w=>X1 .lss T.e 6 8 b g w fun h w=>X0 h (J3 T.h T.b e b w fun c w=>X1 .eql T.b 15 16 c f w fun d w=>X0 d (K b w) (V1 10 b w a)) (K (.int .i64 (-1)) w)
theorem Q0D (h:Dw a0 w K):Q0 P F.bw [a0] w K:=zr Q0s Tryz.func266 h
def Q1s:W5:=[none,none,none,some ([4],[4,5,6,7,8,9])]++Y0 5++[some ([10],[10,11,12,13,14,15,16,17,18])]++Y0 12
def Ht:D6:=fun a w K=>jn (α:=Value) w (fun c w=>J9 .eql T.b 3 a #[105,110,116] w fun n w=>X0 n (c n w) (J9 .eql T.b 3 a #[108,111,97,100] w fun o w=>X0 o (c o w) (J9 .eql T.b 3 a #[115,116,111,114,101] w fun p w=>X0 p (c p w) (J9 .eql T.b 3 a #[106,117,109,112] w fun q w=>X0 q (c q w) (J9 .eql T.b 3 a #[98,114,97,110,99,104] w fun s w=>c s w))))) fun t r w=>X0 t (K (.int .i64 1) w) (jn (α:=Value) w (fun b w=>J9 .eql T.b 3 a #[119,111,114,100] w fun d w=>X0 d (b d w) (J9 .eql T.b 3 a #[110,101,119] w fun e w=>X0 e (b e w) (J9 .eql T.b 3 a #[103,101,116] w fun f w=>X0 f (b f w) (J9 .eql T.b 3 a #[112,117,116] w fun g w=>X0 g (b g w) (J9 .eql T.b 3 a #[99,97,108,108] w fun h w=>X0 h (b h w) (J9 .eql T.b 3 a #[97,114,114,97,121] w fun i w=>X0 i (b i w) (J9 .eql T.b 3 a #[105,115] w fun j w=>X0 j (b j w) (J9 .eql T.b 3 a #[99,97,115,116] w fun k w=>b k w)))))))) fun u r w=>X0 u (K (.int .i64 2) w) (Q0 P F.bw [a] w fun l w=>X2 .lss T.e 20 l 0 w fun m w=>X0 m (K (.int .i64 (-1)) w) (K (.int .i64 0) w)))
theorem Q28 (h:Ht a0 w K):Q0 P F.bN [a0] w K:=zr Q1s Tryz.func255 h
def Q1p:W5:=[none,none,none,some ([5],[2,3,4,5,6,7,8,9,10,11,12,13,14,15,16,17,18,19,20,21,22,23,24,25,26,27,28,29,30,31,32,33])]++Y0 6
def Hp:D6:=fun n w K=>lp (α:=Value) (.int .i64 0) w fun e m M w=>X4 T.b n w fun H w=>X1 .lss T.e 6 8 m H w fun L w=>X0 L (P7 P T.b n m w fun A w=>Z2 P .eql T.a2 (.tmp 14) (.const (.int .u8 46)) A (.int .u8 46) w fun B w=>X0 B (dr w fun d c=>Y5 d c (I7 P T.b n none (some m) none) fun C=>Y5 d c (X2 .add T.e 20 m 1) fun r=>X5 d c r (fun f=>I7 P T.b n (some f) none none) fun D=>Y5 d c (I7 P T.b n none (some m) none) fun s=>X5 d c s (fun g=>Q0 P F.d [g]) fun b=>X5 d c b (fun a=>W9 a (fun w J=>J n w)) fun t=>X5 d c b (fun a=>W9 a (fun w J=>J m w)) fun u=>N2 d c b u (fun a i=>W9 a (X2 .add T.e 29 i 1)) fun v=>Jn d c b t v (fun a h j=>W9 a (I7 P T.b h (some j) none none)) fun y=>N2 d c b y (fun a k=>W9 a (Q0 P F.w [k])) fun z=>N2 d c b z (fun a l=>pick P a l (.bool false)) fun E=> ∀o f p g a h i j k l q w,c w->C o w->r f w->D p w->s g w->b a w->t h w->u i w->v j w->y k w->z l w->E q w->K (.tuple #[o,p,q]) w) (V1 10 m w e)) (K (.tuple #[(.string ⟨#[]⟩),(.string ⟨#[]⟩),(.bool false)]) w)
theorem Q24 (h:Hp a0 w K):Q0 P F.bL [a0] w K:=zr Q1p Tryz.func256 h
def Q1r:W5:=Y0 6++[some ([4],[4,5,6,7,8,30,31,32,33,34,35,36,37,38,39,40,41,42,43,44,45,46,47,48,49,50,51,52,53,54,55,56,57,58,59,60,61,62,63,64,65,66,67,68,69,70,71,72,73,74,75,76,77,78,79,80,81,82,83,84,85,86,87,88,89,90,91,92,93,94,95,96,97,98,99,100,101,102,103,104,105,106,107,108,109,110])]++Y0 5++[some ([4,5],[4,5,59,60,61,62,63,64,65,66,67,68,69,70,71,72,73]),none,none,none,none,some ([82],[82,83,84])]++Y0 7
def Hs:D6:=fun a0 w K=>box P T.y a0 w fun c w=>X6 T.y T.b c 0 w fun z w=>Q0 P F.bN [z] w fun h w=>X2 .lss T.e 12 h 0 w fun A w=>X0 A (K (.int .i64 40) w) (X2 .eql T.e 14 h 1 w fun j w=>J1 j false w T.y T.a1 c 1 fun B w=>Q1 j false w (X2 .eql T.a1 18 B 0) fun C w=>pick P j (.bool true) C w fun f w=>X8 f true h w fun D w=>Q1 f true w (X2 .eql T.e 22 D 2) fun E w=>X8 f true E w fun k w=>J1 k false w T.y T.b c 2 fun H w=>Q1 k false w (J9 .eql T.b 26 H #[]) fun J w=>Q1 f true w (pick P k (.bool true) J) fun L w=>pick P f L (.bool false) w fun a w=>jn (α:=Value) w (fun m w=>X2 .eql T.e 30 h 2 w fun M w=>X0 M (X6 T.y T.b c 0 w fun g w=>J9 .eql T.b 33 g #[119,111,114,100] w fun U w=>X0 U (J1 a true w T.y T.b c 2 fun V w=>Q1 a true w (X4 T.b V) fun W w=>Q1 a true w (X2 .leq T.e 51 W 64) fun X w=>pick P a X (.bool false) w fun l w=>J1 l true w T.y T.b c 2 fun Y w=>Q1 l true w (Q0 P F.aQ [Y]) fun Z w=>pick P l Z (.bool false) w fun aa w=>lp (α:=Value×Value) (aa,(.int .i64 0)) w fun e b d_ w=>X6 T.y T.b c 2 w fun ab w=>X4 T.b ab w fun ac w=>X1 .lss T.e 59 62 b.2 ac w fun ad w=>X0 ad (J1 b.1 true w T.y T.b c 2 fun af w=>X8 b.1 true b.2 w fun ag w=>Q1 b.1 true w (P7 P T.b af ag) fun ah w=>Q1 b.1 true w (Z2 P .neq T.a2 (.tmp 71) (.const (.int .u8 10)) ah (.int .u8 10)) fun ai w=>pick P b.1 ai (.bool false) w fun aj w=>X2 .add T.e 64 b.2 1 w fun ae w=>e (aj,ae) w) (m b.1 w)) (J9 .eql T.b 33 g #[110,101,119] w fun ak w=>X0 ak (J1 a true w T.y T.b c 2 fun al w=>Q1 a true w (Q0 P F.d [al]) fun am w=>pick P a am (.bool false) w fun an w=>m an w) (jn (α:=Value) w (fun n w=>J9 .eql T.b 33 g #[105,115] w fun y w=>X0 y (n y w) (J9 .eql T.b 33 g #[99,97,115,116] w fun ao w=>n ao w)) fun az d_ w=>X0 az (J1 a true w T.y T.b c 2 fun ap w=>Q1 a true w (Q0 P F.f [ap]) fun aq w=>pick P a aq (.bool false) w fun i w=>J1 i true w T.y T.b c 2 fun ar w=>Q1 i true w (Q0 P F.a0 [ar]) fun av w=>Q1 i true w (W2 P .not av) fun aw w=>pick P i aw (.bool false) w fun ax w=>m ax w) (J9 .eql T.b 33 g #[97,114,114,97,121] w fun ay w=>X0 ay (J1 a true w T.y T.b c 2 fun o w=>Q1 a true w (Q0 P F.f [o]) fun p w=>pick P a p (.bool false) w fun d w=>J1 d true w T.y T.b c 2 fun q w=>Q1 d true w (Q0 P F.a3 [q]) fun r w=>Q1 d true w (X2 .lss T.e 108 r 3) fun s w=>pick P d s (.bool false) w fun t w=>m t w) (X6 T.y T.b c 2 w fun N w=>Q0 P F.bL [N] w fun v w=>D0 v w fun a3 a4 w=>ext P v 2 w fun O w=>X8 a true O w fun Q w=>pick P a Q (.bool false) w fun R w=>m R w))))) (m a w)) fun z6 d_ w=>W2 P .not z6 w fun u w=>X0 u (K (.int .i64 41) w) (K (.int .i64 0) w))
theorem Q27 (h:Hs a0 w K):Q0 P F.bM [a0] w K:=zr Q1r Tryz.func243 h
def Q4o:W5:=[none,none,none,some ([3],[2,3,4,5,6,7,8,9,10,11,12,13,14,15,16,17,18])]++Y0 7
def Ff:D6:=fun f w K=>lp (α:=Value) (.int .i64 0) w fun a e i w=>X4 T.q f w fun g w=>X1 .lss T.e 5 7 e g w fun h w=>X0 h (J3 T.q T.y f e w fun c w=>Q0 P F.bM [c] w fun b w=>X2 .neq T.w 16 b 0 w fun d w=>X0 d (K b w) (V1 9 e w a)) (K (.int .i64 0) w)
theorem Q4G (h:Ff a0 w K):Q0 P F.bc [a0] w K:=zr Q4o Tryz.func224 h
def Q0t:W5:=[none,none,none,none,some ([3,4],[3,4,21,22,23,24,25,26,27,28,29,30,31,32,33,34,35,36])]++Y0 9++[some ([3,6],[3,6,7,60,61,62,63,64,65,66,67,68,69,70,71,72,73,74,75,76,77,78,79,80,81,82,83,84,85,86,87,88,89,90,91,92,93,94,95,96,97,98,99,100,101,102,103,104,105,106])]++Y0 5
def Dx:D6:=fun a0 w K=>box P T.d a0 w fun c w=>X6 T.d T.b c 0 w fun t9 w=>Q0 P F.w [t9] w fun g w=>J1 g true w T.d T.b c 2 fun M w=>Q1 g true w (J9 .eql T.b 13 M #[]) fun N w=>X8 g true N w fun o w=>J1 o false w T.d T.b c 2 fun O w=>Q1 o false w (Q0 P F.f [O]) fun Q w=>Q1 g true w (pick P o (.bool true) Q) fun R w=>pick P g R (.bool false) w fun U w=>lp (α:=Value×Value) (U,(.int .i64 0)) w fun i e d_ w=>X6 T.d T.h c 1 w fun V w=>X4 T.h V w fun W w=>X1 .lss T.e 21 24 e.2 W w fun X w=>X0 X (J1 e.1 true w T.d T.h c 1 fun Z w=>X8 e.1 true e.2 w fun aa w=>zhi e.1 true w T.h T.b Z aa fun ab w=>Q1 e.1 true w (Q0 P F.f [ab]) fun ac w=>pick P e.1 ac (.bool false) w fun ad w=>X2 .add T.e 26 e.2 1 w fun Y w=>i (ad,Y) w) (X6 T.d T.s c 3 w fun ae w=>X0 ae (J1 e.1 true w T.d T.e c 4 fun af w=>Q1 e.1 true w (X2 .eql T.e 42 af 0) fun ag w=>pick P e.1 ag (.bool false) w fun j w=>J1 j true w T.d T.q c 5 fun ah w=>Q1 j true w (X4 T.q ah) fun ai w=>Q1 j true w (X2 .eql T.e 48 ai 0) fun aj w=>pick P j aj (.bool false) w fun k w=>J1 k true w T.d T.u c 6 fun ak w=>Q1 k true w (X4 T.u ak) fun al w=>Q1 k true w (X2 .eql T.e 54 al 0) fun am w=>pick P k am (.bool false) w fun an w=>K an w) (X6 T.d T.q c 5 w fun ao w=>X4 T.q ao w fun p w=>lp (α:=Value×Value) (e.1,(.int .i64 0)) w fun f a d_ w=>X6 T.d T.u c 6 w fun ap w=>X4 T.u ap w fun aq w=>X1 .lss T.e 60 63 a.2 aq w fun ar w=>X0 ar (X6 T.d T.u c 6 w fun aw w=>J3 T.u T.v aw a.2 w fun ax w=>L9 T.v ax w fun q w=>J1 a.1 true w T.v T.e q 0 fun ay w=>Q1 a.1 true w (X2 .geq T.e 75 ay 0) fun az w=>pick P a.1 az (.bool false) w fun l w=>J1 l true w T.v T.e q 0 fun a1 w=>J1 l true w T.v T.e q 1 fun a2 w=>Q1 l true w (X1 .lss T.e 80 82 a1 a2) fun a3 w=>pick P l a3 (.bool false) w fun m w=>J1 m true w T.v T.e q 1 fun a4 w=>X8 m true p w fun a5 w=>Q1 m true w (X1 .leq T.e 87 88 a4 a5) fun a6 w=>pick P m a6 (.bool false) w fun r w=>J1 r true w T.v T.e q 2 fun a7 w=>Q1 r true w (X2 .geq T.e 93 a7 0) fun a8 w=>pick P r a8 (.bool false) w fun n w=>J1 n true w T.v T.e q 2 fun a9 w=>X8 n true p w fun ba w=>Q1 n true w (X1 .lss T.e 98 99 a9 ba) fun s w=>pick P n s (.bool false) w fun h w=>J1 h true w T.v T.b q 3 fun t w=>Q1 h true w (Q0 P F.d [t]) fun u w=>pick P h u (.bool false) w fun v w=>X2 .add T.e 65 a.2 1 w fun av w=>f (v,av) w) (X8 a.1 true p w fun y w=>Q1 a.1 true w (X2 .gtr T.e 109 y 0) fun z w=>pick P a.1 z (.bool false) w fun b w=>J1 b true w T.d T.e c 4 fun A w=>J1 b true w T.d T.h c 1 fun B w=>Q1 b true w (X4 T.h B) fun C w=>Q1 b true w (X1 .gtr T.e 114 117 A C) fun D w=>pick P b D (.bool false) w fun d w=>J1 d true w T.d T.q c 5 fun E w=>Q1 d true w (Q0 P F.bc [E]) fun H w=>Q1 d true w (X2 .eql T.w 123 H 0) fun J w=>pick P d J (.bool false) w fun L w=>K L w)))
theorem Q0E (h:Dx a0 w K):Q0 P F.a9 [a0] w K:=zr Q0t Tryz.func190 h
def Q1t:W5:=[none,none,none,none,some ([3,4],[3,4,5,26,27,28,29,30,31,32,33,34,35,36,37,38,39,40,41,42,43,44,45,46,47,48,49,50,51,52,53,54,55,56,57,58,59,60,61,62,63,64,65,66,67,68,69,70])]++Y0 5++[some ([3,5],[3,5,52,53,54,55,56,57,58,59,60,61,62,63,64,65,66,67,68,69,70])]++Y0 5++[some ([3,6],[3,6,7,71,72,73,74,75,76,77,78,79,80,81,82,83,84,85,86,87,88,89,90,91,92,93,94,95,96,97,98,99,100,101,102,103,104,105,106,107,108,109,110,111,112,113,114,115,116,117,118,119,120,121,122])]++Y0 5++[some ([3,7],[3,7,102,103,104,105,106,107,108,109,110,111,112,113,114,115,116,117,118,119,120,121,122])]++Y0 5++[some ([3,8],[3,8,9,10,123,124,125,126,127,128,129,130,131,132,133,134,135,136,137,138,139,140,141,142,143,144,145,146,147,148,149,150,151,152,153,154,155,156,157,158,159,160,161,162,163,164,165,166,167,168,169,170,171,172,173,174])]++Y0 6++[some ([3,10],[3,10,158,159,160,161,162,163,164,165,166,167,168,169,170,171,172,173,174]),none,none,none,none]
def Hv:D6:=fun a0 w K=>box P T.c a0 w fun h w=>X6 T.c T.b h 0 w fun di w=>Q0 P F.d [di] w fun ay w=>J1 ay true w T.c T.b h 1 fun dj w=>Q1 ay true w (Q0 P F.d [dj]) fun dl w=>pick P ay dl (.bool false) w fun X w=>J1 X true w T.c T.b h 0 fun dm w=>J1 X true w T.c T.b h 1 fun dn w=>Q1 X true w (X1 .neq T.b 21 23 dm dn) fun dp w=>pick P X dp (.bool false) w fun dq w=>lp (α:=Value×Value) (dq,(.int .i64 0)) w fun W o d_ w=>X6 T.c T.h h 2 w fun ds w=>X4 T.h ds w fun dt w=>X1 .lss T.e 26 29 o.2 dt w fun du w=>X0 du (dr w fun b a=>Y5 b a (W9 o.1 (fieldAddr P T.c h 2)) fun cy=>Y5 b a (W9 o.1 (fun w J=>J o.2 w)) fun c0=>X5 b a cy (fun az=>W9 o.1 (Q7 P T.h az)) fun cz=>N2 b a cz c0 (fun a1 a2=>W9 o.1 (indexAddr P T.h a1 a2)) fun c1=>X5 b a c1 (fun a3=>W9 o.1 (Q7 P T.b a3)) fun c2=>X5 b a c2 (fun a4=>W9 o.1 (Q0 P F.d [a4])) fun c3=>X5 b a c3 (fun a5=>pick P o.1 a5 (.bool false)) fun m=>X5 b a m (fun d=>W9 d (fieldAddr P T.c h 2)) fun c4=>X5 b a m (fun d=>W9 d (fun w J=>J o.2 w)) fun c6=>X5 b a m (fun d=>W9 d (fieldAddr P T.c h 0)) fun c8=>N2 b a m c4 (fun d a6=>W9 d (Q7 P T.h a6)) fun c5=>Jn b a m c5 c6 (fun d a7 a8=>W9 d (indexAddr P T.h a7 a8)) fun c7=>N2 b a m c7 (fun d a9=>W9 d (Q7 P T.b a9)) fun eh=>N2 b a m c8 (fun d ba=>W9 d (Q7 P T.b ba)) fun ei=> ∀az a2 a1 a3 a4 a5 d a6 a8 ba a7 a9 cq cr w,a w->cy az w->c0 a2 w->cz a1 w->c1 a3 w->c2 a4 w->c3 a5 w->m d w->c4 a6 w->c6 a8 w->c8 ba w->c5 a7 w->c7 a9 w->eh cq w->ei cr w->Q1 d true w (X1 .neq T.b 47 49 cq cr) fun dw w=>pick P d dw (.bool false) w fun dx w=>lp (α:=Value×Value) (dx,(.int .i64 0)) w fun q e d_ w=>X1 .lss T.e 52 53 e.2 o.2 w fun dy w=>X0 dy (dr w fun b a=>Y5 b a (W9 e.1 (fieldAddr P T.c h 2)) fun c9=>Y5 b a (W9 e.1 (fun w J=>J e.2 w)) fun db=>Y5 b a (W9 e.1 (fieldAddr P T.c h 2)) fun dd=>Y5 b a (W9 e.1 (fun w J=>J o.2 w)) fun df=>X5 b a c9 (fun bb=>W9 e.1 (Q7 P T.h bb)) fun da=>N2 b a da db (fun bc bd=>W9 e.1 (indexAddr P T.h bc bd)) fun dc=>X5 b a dc (fun be=>W9 e.1 (Q7 P T.b be)) fun ej=>X5 b a dd (fun bf=>W9 e.1 (Q7 P T.h bf)) fun de=>N2 b a de df (fun bg bh=>W9 e.1 (indexAddr P T.h bg bh)) fun dg=>X5 b a dg (fun bi=>W9 e.1 (Q7 P T.b bi)) fun ek=> ∀bb bd bf bh bc be cs bg bi ct w,a w->c9 bb w->db bd w->dd bf w->df bh w->da bc w->dc be w->ej cs w->de bg w->dg bi w->ek ct w->Q1 e.1 true w (X1 .neq T.b 63 68 cs ct) fun d0 w=>pick P e.1 d0 (.bool false) w fun d1 w=>X2 .add T.e 55 e.2 1 w fun dz w=>q (d1,dz) w) (X2 .add T.e 31 o.2 1 w fun dv w=>W (e.1,dv) w)) (lp (α:=Value×Value) (o.1,(.int .i64 0)) w fun r g d_ w=>X6 T.c T.j h 6 w fun d2 w=>X4 T.j d2 w fun d3 w=>X1 .lss T.e 71 74 g.2 d3 w fun d4 w=>X0 d4 (J1 g.1 true w T.c T.j h 6 fun d6 w=>X8 g.1 true g.2 w fun d7 w=>Q1 g.1 true w (indexAddr P T.j d6 d7) fun d8 w=>J1 g.1 true w T.m T.b d8 0 fun d9 w=>Q1 g.1 true w (Q0 P F.w [d9]) fun ea w=>pick P g.1 ea (.bool false) w fun p w=>J1 p true w T.c T.j h 6 fun eb w=>X8 p true g.2 w fun ec w=>Q1 p true w (indexAddr P T.j eb ec) fun ed w=>J1 p true w T.m T.b ed 1 fun ee w=>Q1 p true w (Q0 P F.f [ee]) fun ef w=>pick P p ef (.bool false) w fun bj w=>J1 bj true w T.c T.s h 3 fun eg w=>Q1 bj true w (W2 P .not eg) fun bl w=>pick P bj bl (.bool false) w fun bm w=>lp (α:=Value×Value) (bm,(.int .i64 0)) w fun s c d_ w=>X1 .lss T.e 102 103 c.2 g.2 w fun bn w=>X0 bn (dr w fun b a=>Y5 b a (W9 c.1 (fieldAddr P T.c h 6)) fun af=>Y5 b a (W9 c.1 (fun w J=>J c.2 w)) fun ah=>Y5 b a (W9 c.1 (fieldAddr P T.c h 6)) fun ak=>Y5 b a (W9 c.1 (fun w J=>J g.2 w)) fun am=>X5 b a af (fun v=>W9 c.1 (Q7 P T.j v)) fun ag=>N2 b a ag ah (fun y z=>W9 c.1 (indexAddr P T.j y z)) fun ai=>X5 b a ai (fun A=>W9 c.1 (fieldAddr P T.m A 0)) fun aj=>X5 b a aj (fun B=>W9 c.1 (Q7 P T.b B)) fun cu=>X5 b a ak (fun C=>W9 c.1 (Q7 P T.j C)) fun al=>N2 b a al am (fun D E=>W9 c.1 (indexAddr P T.j D E)) fun an=>X5 b a an (fun H=>W9 c.1 (fieldAddr P T.m H 0)) fun ao=>X5 b a ao (fun L=>W9 c.1 (Q7 P T.b L)) fun cv=> ∀v z C E y A B Y D H L Z w,a w->af v w->ah z w->ak C w->am E w->ag y w->ai A w->aj B w->cu Y w->al D w->an H w->ao L w->cv Z w->Q1 c.1 true w (X1 .neq T.b 114 120 Y Z) fun bp w=>pick P c.1 bp (.bool false) w fun bq w=>X2 .add T.e 105 c.2 1 w fun bo w=>s (bq,bo) w) (X2 .add T.e 76 g.2 1 w fun d5 w=>r (c.1,d5) w)) (lp (α:=Value×Value) (g.1,(.int .i64 0)) w fun t i d_ w=>X6 T.c T.k h 7 w fun br w=>X4 T.k br w fun bs w=>X1 .lss T.e 123 126 i.2 bs w fun bu w=>X0 bu (X6 T.c T.k h 7 w fun bw w=>J3 T.k T.d bw i.2 w fun bx w=>L9 T.d bx w fun t9 w=>Q1 i.1 true w (Q7 P T.d t9) fun bz w=>Q1 i.1 true w (Q0 P F.a9 [bz]) fun b0 w=>pick P i.1 b0 (.bool false) w fun j w=>J1 j true w T.d T.s t9 3 fun b1 w=>Q1 j true w (W2 P .not b1) fun b2 w=>X8 j true b2 w fun aa w=>J1 aa false w T.c T.s h 4 fun b3 w=>Q1 j true w (pick P aa (.bool true) b3) fun b4 w=>pick P j b4 (.bool false) w fun k w=>J1 k true w T.c T.s h 3 fun b5 w=>Q1 k true w (W2 P .not b5) fun b6 w=>X8 k true b6 w fun ab w=>J1 ab false w T.d T.s t9 3 fun b7 w=>Q1 k true w (pick P ab (.bool true) b7) fun b8 w=>pick P k b8 (.bool false) w fun b9 w=>lp (α:=Value×Value) (b9,(.int .i64 0)) w fun u f d_ w=>X1 .lss T.e 158 159 f.2 i.2 w fun ca w=>X0 ca (dr w fun b a=>Y5 b a (W9 f.1 (fieldAddr P T.c h 7)) fun ap=>Y5 b a (W9 f.1 (fun w J=>J f.2 w)) fun ar=>Y5 b a (W9 f.1 (fieldAddr P T.d t9 0)) fun ax=>X5 b a ap (fun M=>W9 f.1 (Q7 P T.k M)) fun aq=>N2 b a aq ar (fun N O=>W9 f.1 (indexAddr P T.k N O)) fun av=>X5 b a av (fun Q=>W9 f.1 (fieldAddr P T.d Q 0)) fun aw=>X5 b a aw (fun R=>W9 f.1 (Q7 P T.b R)) fun cw=>X5 b a ax (fun U=>W9 f.1 (Q7 P T.b U)) fun cx=> ∀M O U N Q R ac ad w,a w->ap M w->ar O w->ax U w->aq N w->av Q w->aw R w->cw ac w->cx ad w->Q1 f.1 true w (X1 .neq T.b 170 172 ac ad) fun cc w=>pick P f.1 cc (.bool false) w fun cd w=>X2 .add T.e 161 f.2 1 w fun cb w=>u (cd,cb) w) (X2 .add T.e 128 i.2 1 w fun bv w=>t (f.1,bv) w)) (J1 i.1 true w T.c T.s h 3 fun ce w=>Q1 i.1 true w (W2 P .not ce) fun cf w=>X8 i.1 true cf w fun n w=>J1 n false w T.c T.s h 4 fun cg w=>X8 n false cg w fun V w=>J1 V true w T.c T.b h 1 fun ch w=>Q1 V true w (J9 .eql T.b 185 ch #[79,98,106,101,99,116]) fun ci w=>Q1 n false w (pick P V ci (.bool false)) fun cj w=>Q1 i.1 true w (pick P n (.bool true) cj) fun ck w=>pick P i.1 ck (.bool false) w fun l w=>J1 l true w T.c T.s h 4 fun cl w=>X8 l true cl w fun ae w=>J1 ae true w T.c T.s h 5 fun cm w=>Q1 l true w (pick P ae cm (.bool false)) fun cn w=>Q1 l true w (W2 P .not cn) fun co w=>pick P l co (.bool false) w fun cp w=>K cp w)))
theorem Q2a (h:Hv a0 w K):Q0 P F.bP [a0] w K:=zr Q1t Tryz.func126 h
def Hu:D6:=fun b w K=>box P T.c b w fun a w=>Q7 P T.c a w fun c w=>Q0 P F.c4 [c] w fun d w=>X0 d (K (.int .i64 51) w) (Q7 P T.c a w fun e w=>Q0 P F.bP [e] w fun f w=>W2 P .not f w fun g w=>X0 g (K (.int .i64 50) w) (K (.int .i64 0) w))
theorem Q29 (h:Hu a0 w K):Q0 P F.bO [a0] w K:=zr (Y0 8) Tryz.func63 h
def Q2Z:W5:=[none,none,none,some ([5],[4,5,6,7,8,9,10,11,12,13,14,15,16,17,18,19])]++Y0 6
def Cb:V9:=fun f g w K=>lp (α:=Value) (.int .i64 0) w fun a b j w=>X4 T.i f w fun h w=>X1 .lss T.e 6 8 b h w fun i w=>X0 i (indexAddr P T.i f b w fun c w=>X6 T.c T.b c 0 w fun d w=>X1 .eql T.b 16 17 d g w fun e w=>X0 e (K b w) (V1 10 b w a)) (K (.int .i64 (-1)) w)
theorem Q3o (h:Cb a0 a1 w K):Q0 P F.b [a0,a1] w K:=zr Q2Z Tryz.func64 h
def Q0v:W5:=Y0 7++[some ([6],[4,6,7,28,29,30,31,32,33,34,35,36,37,38,39,40,41,42,43,44,45,46,47,48,49,50,51])]++Y0 7
def Dz:V9:=fun g J w K=>box P T.c J w fun a w=>X6 T.c T.b a 1 w fun i w=>Q0 P F.b [g,i] w fun f w=>X2 .lss T.e 12 f 0 w fun c w=>X8 c false g w fun j w=>X8 c false f w fun k w=>Q1 c false w (indexAddr P T.i j k) fun l w=>J1 c false w T.c T.s l 3 fun m w=>pick P c (.bool true) m w fun d w=>X8 d false g w fun n w=>X8 d false f w fun o w=>Q1 d false w (indexAddr P T.i n o) fun p w=>J1 d false w T.c T.s p 5 fun q w=>pick P d (.bool true) q w fun r w=>X0 r (K (.int .i64 61) w) (lp (α:=Value) (.int .i64 0) w fun e H L w=>X6 T.c T.h a 2 w fun s w=>X4 T.h s w fun t w=>X1 .lss T.e 28 31 H t w fun u w=>X0 u (X6 T.c T.h a 2 w fun v w=>J3 T.h T.b v H w fun y w=>Q0 P F.b [g,y] w fun h w=>X2 .lss T.e 42 h 0 w fun b w=>X8 b false g w fun z w=>X8 b false h w fun A w=>Q1 b false w (indexAddr P T.i z A) fun B w=>J1 b false w T.c T.s B 3 fun C w=>Q1 b false w (W2 P .not C) fun D w=>pick P b (.bool true) D w fun E w=>X0 E (K (.int .i64 62) w) (V1 33 H w e)) (K (.int .i64 0) w))
theorem Q0G (h:Dz a0 a1 w K):Q0 P F.bz [a0,a1] w K:=zr Q0v Tryz.func65 h
def Q1u:W5:=[none,none,none,none,some ([3,4],[3,4,5,6,7,8,13,14,15,16,17,18,19,20,21,22,23,24,25,26,27,28,29,30,31,32,33,34,35,36,37,38,39,40,41,42,43,44,45,46,47,48,49,50,51,52,53,54])]++Y0 7++[some ([7],[7,8,34,35,36,37,38,39,40,41,42,43,44,45,46,47,48,49,50]),none,none,some ([],[8,40,41,42,43,44,45,46,47,48,49,50]),none,none,none,none,some ([9],[9,10,11,55,56,57,58,59,60,61,62,63,64,65,66,67,68,69,70,71,72,73,74,75,76,77,78,79,80,81,82,83,84,85,86,87,88,89,90,91,92,93,94,95,96,97,98,99,100,101,102,103]),none,none,none,none,some ([10],[10,11,61,62,63,64,65,66,67,68,69,70,71,72,73,74,75,76,77,78,79,80,81,82,83,84,85,86,87,88,89,90,91,92,93,94,95,96,97,98,99,100,101,102,103]),none,none,none,none,some ([11],[11,67,68,69,70,71,72,73,74,75,76,77,78,79,80,81,82,83,84,85,86,87,88,89,90,91,92,93,94,95,96,97,98,99,100,101,102,103]),none,none,none,none]
def Hw:D6:=fun r w K=>buildSlice P T.af 0 [] w fun bd w=>lp (α:=Value×Value) (bd,(.int .i64 0)) w fun p o d_ w=>X4 T.i r w fun be w=>X1 .lss T.e 13 15 o.2 be w fun bf w=>X0 bf (X4 T.i r w fun af w=>Cx P T.ab af af w fun ag w=>dr w fun d c=>Y5 d c (indexAddr P T.i r o.2) fun an=>X5 d c an (fun v=>fieldAddr P T.c v 1) fun ao=>Y5 d c (indexAddr P T.i r o.2) fun aq=>X5 d c aq (fun A=>fieldAddr P T.c A 2) fun ar=>X5 d c ao (fun y=>Q7 P T.b y) fun ap=>X5 d c ap (fun z=>buildSlice P T.h 1 [(0,z)]) fun bv=>X5 d c ar (fun B=>Q7 P T.h B) fun bw=> ∀v y A B z ah ai w,c w->an v w->ao y w->aq A w->ar B w->ap z w->bv ah w->bw ai w->U4 P .append [T.h,T.h] T.h [false,false] [ah,ai] w fun aj w=>lp (α:=Value) (.int .i64 0) w fun g ab d_ w=>X4 T.h aj w fun bh w=>X1 .lss T.e 34 36 ab bh w fun bi w=>X0 bi (jn (α:=Unit) w (fun ac w=>J3 T.h T.b aj ab w fun bj w=>Q0 P F.b [r,bj] w fun ak w=>X2 .geq T.e 46 ak 0 w fun bk w=>X0 bk (indexAddr P T.ab ag ak w fun bl w=>U8 P T.s bl (.bool true) w fun _u w=>ac () w) (ac () w)) fun bz d_ w=>V1 38 ab w g) (buildSlice P T.af 1 [(0,ag)] w fun bm w=>U4 P .append [T.af,T.af] T.af [false,false] [o.1,bm] w fun bn w=>X2 .add T.e 17 o.2 1 w fun bg w=>p (bn,bg) w)) (lp (α:=Value) (.int .i64 0) w fun h q d_ w=>X4 T.i r w fun bo w=>X1 .lss T.e 55 57 q bo w fun bp w=>X0 bp (lp (α:=Value) (.int .i64 0) w fun i m d_ w=>X4 T.i r w fun bq w=>X1 .lss T.e 61 63 m bq w fun br w=>X0 br (lp (α:=Value) (.int .i64 0) w fun j n d_ w=>X4 T.i r w fun bs w=>X1 .lss T.e 67 69 n bs w fun bu w=>X0 bu (dr w fun d c=>Y5 d c (indexAddr P T.af o.1 m) fun av=>Y5 d c (indexAddr P T.af o.1 m) fun aw=>X5 d c av (fun C=>Q7 P T.ab C) fun bx=>X5 d c aw (fun D=>Q7 P T.ab D) fun ax=>X5 d c ax (fun E=>indexAddr P T.ab E n) fun ay=>X5 d c ay (fun H=>Q7 P T.s H) fun e=>X5 d c e (fun a=>Se a (fun w J=>J o.1 w)) fun az=>X5 d c e (fun a=>Se a (fun w J=>J m w)) fun a1=>Jn d c e az a1 (fun a L M=>Se a (indexAddr P T.af L M)) fun a2=>X5 d c e (fun a=>Se a (fun w J=>J q w)) fun a4=>N2 d c e a2 (fun a N=>Se a (Q7 P T.ab N)) fun a3=>Jn d c e a3 a4 (fun a O Q=>Se a (indexAddr P T.ab O Q)) fun a5=>N2 d c e a5 (fun a R=>Se a (Q7 P T.s R)) fun a6=>N2 d c e a6 (fun a U=>Se a (fun w J=>J U w)) fun f=>X5 d c f (fun b=>W9 b (fun w J=>J o.1 w)) fun a7=>X5 d c f (fun b=>W9 b (fun w J=>J q w)) fun a8=>Jn d c f a7 a8 (fun b V W=>W9 b (indexAddr P T.af V W)) fun a9=>X5 d c f (fun b=>W9 b (fun w J=>J n w)) fun bb=>N2 d c f a9 (fun b X=>W9 b (Q7 P T.ab X)) fun ba=>Jn d c f ba bb (fun b Y Z=>W9 b (indexAddr P T.ab Y Z)) fun bc=>N2 d c f bc (fun b aa=>W9 b (Q7 P T.s aa)) fun t=>Jn d c e f t (fun a b k=>Se a (pick P b k (.bool false))) fun u=>N2 d c e u (fun a l=>pick P a (.bool true) l) fun am=> ∀C D al E H a L M N Q O R U b V W X Z Y aa k l s w,c w->av C w->aw D w->bx al w->ax E w->ay H w->e a w->az L w->a1 M w->a2 N w->a4 Q w->a3 O w->a5 R w->a6 U w->f b w->a7 V w->a8 W w->a9 X w->bb Z w->ba Y w->bc aa w->t k w->u l w->am s w->indexAddr P T.ab al n w fun ae w=>U8 P T.s ae s w fun _u w=>V1 71 n w j) (V1 65 m w i)) (V1 59 q w h)) (K o.1 w))
theorem Q2b (h:Hw a0 w K):Q0 P F.an [a0] w K:=zr Q1u Tryz.func66 h
def Q4r:W5:=Y0 6++[some ([9],[8,9,16,17,18,19,20,21,22,23,24,25,26,27,28])]++Y0 8++[some ([1,11],[1,11,41,42,43,44,45,46,47,48,49,50,51,52,53,54,55,56]),none,none,none,none]
def Fk:zV4:=fun u k U l w K=>X1 .lss T.e 12 13 l U w fun v w=>X0 v (K k w) (lp (α:=Value) (.int .i64 0) w fun c O V w=>X4 T.o k w fun y w=>X1 .lss T.e 16 18 O y w fun z w=>X0 z (J3 T.o T.e k O w fun A w=>X1 .eql T.e 25 26 A l w fun B w=>X0 B (K k w) (V1 20 O w c)) (dr w fun e d=>Y5 e d (indexAddr P T.i u l) fun p=>X5 e d p (fun f=>fieldAddr P T.c f 1) fun q=>Y5 e d (indexAddr P T.i u l) fun s=>X5 e d s (fun i=>fieldAddr P T.c i 2) fun t=>X5 e d q (fun g=>Q7 P T.b g) fun r=>X5 e d r (fun h=>buildSlice P T.h 1 [(0,h)]) fun Q=>X5 e d t (fun j=>Q7 P T.h j) fun R=> ∀f g i j h m n w,d w->p f w->q g w->s i w->t j w->r h w->Q m w->R n w->U4 P .append [T.h,T.h] T.h [false,false] [m,n] w fun o w=>lp (α:=Value×Value) (k,(.int .i64 0)) w fun a b V w=>X4 T.h o w fun C w=>X1 .lss T.e 41 43 b.2 C w fun D w=>X0 D (J3 T.h T.b o b.2 w fun H w=>Q0 P F.b [u,H] w fun J w=>Q0 P F.be [u,b.1,U,J] w fun L w=>X2 .add T.e 45 b.2 1 w fun E w=>a (L,E) w) (buildSlice P T.o 1 [(0,l)] w fun M w=>U4 P .append [T.o,T.o] T.o [false,false] [b.1,M] w fun N w=>K N w)))
theorem Q4L (h:Fk a0 a1 a2 a3 w K):Q0 P F.be [a0,a1,a2,a3] w K:=zr Q4r Tryz.func67 h
def Ub:V9:=fun s A w K=>Q0 P F.b [s,A] w fun v w=>X2 .lss T.e 9 v 0 w fun t w=>X0 t (K (.slice none 0 0) w) (dr w fun b a=>Y5 b a (indexAddr P T.i s v) fun m=>X5 b a m (fun d=>fieldAddr P T.c d 1) fun n=>Y5 b a (indexAddr P T.i s v) fun q=>X5 b a q (fun h=>fieldAddr P T.c h 6) fun r=>Y5 b a (buildSlice P T.j 0 []) fun l=>X5 b a n (fun e=>Q7 P T.b e) fun o=>X5 b a o (fun f=>Q0 P F.m [s,f]) fun p=>N2 b a l p (fun c g=>U4 P .append [T.j,T.j] T.j [false,false] [c,g]) fun y=>X5 b a r (fun i=>Q7 P T.j i) fun z=> ∀d e h i c f g j k w,a w->m d w->n e w->q h w->r i w->l c w->o f w->p g w->y j w->z k w->U4 P .append [T.j,T.j] T.j [false,false] [j,k] w fun u w=>K u w)
theorem Ef (h:Ub a0 a1 w K):Q0 P F.m [a0,a1] w K:=zr (Y0 6) Tryz.func103 h
def Q1w:W5:=[none,none,none,none,some ([8],[6,8,12,13,14,15,16,17,18,19,20,21,22,23,24,25])]++Y0 6
def Hy:Yn:=fun i j k w K=>Q0 P F.m [i,j] w fun b w=>lp (α:=Value) (.int .i64 0) w fun a c l w=>X4 T.j b w fun d w=>X1 .lss T.e 12 14 c d w fun e w=>X0 e (indexAddr P T.j b c w fun f w=>X6 T.m T.b f 0 w fun g w=>X1 .eql T.b 22 23 g k w fun h w=>X0 h (K c w) (V1 16 c w a)) (K (.int .i64 (-1)) w)
theorem Q2d (h:Hy a0 a1 a2 w K):Q0 P F.bR [a0,a1,a2] w K:=zr Q1w Tryz.func127 h
def Cd:D6:=fun a w K=>X4 T.b a w fun c w=>Q0 P F.a3 [a] w fun d w=>Z2 P .mul T.e (.const (.int .i64 2)) (.tmp 7) (.int .i64 2) d w fun e w=>X1 .sub T.e 5 8 c e w fun f w=>I7 P T.b a none (some f) none w fun b w=>K b w
theorem Q3q (h:Cd a0 w K):Q0 P F.b4 [a0] w K:=zr (Y0 2) Tryz.func193 h
def Cc:V9:=fun p d w K=>J9 .eql T.b 5 d #[110,117,108,108] w fun c w=>X8 c false d w fun q w=>Q1 c false w (Q0 P F.f [q]) fun r w=>X8 c false r w fun a w=>X8 a true d w fun e w=>Q1 a true w (Q0 P F.b4 [e]) fun f w=>Q1 a true w (Q0 P F.a0 [f]) fun g w=>X8 a true g w fun b w=>X8 b false p w fun h w=>X8 b false d w fun i w=>Q1 b false w (Q0 P F.b4 [i]) fun j w=>Q1 b false w (Q0 P F.b [h,j]) fun k w=>Q1 b false w (X2 .geq T.e 18 k 0) fun l w=>Q1 a true w (pick P b (.bool true) l) fun m w=>Q1 c false w (pick P a m (.bool false)) fun n w=>pick P c (.bool true) n w fun o w=>K o w
theorem Q3p (h:Cc a0 a1 w K):Q0 P F.a4 [a0,a1] w K:=zr (Y0 2) Tryz.func139 h
def Ra:V9:=fun e d w K=>J9 .neq T.b 5 d #[110,117,108,108] w fun a w=>X8 a true e w fun f w=>X8 a true d w fun g w=>Q1 a true w (Q0 P F.a4 [f,g]) fun b w=>pick P a b (.bool false) w fun c w=>K c w
theorem Q2f (h:Ra a0 a1 w K):Q0 P F.bS [a0,a1] w K:=zr (Y0 2) Tryz.func128 h
def Q2X:W5:=[none,none,none,none,some ([3,4],[3,4,5,6,7,8,9,10,11,12,13,14,15,16,17,18,19,20,21,22]),none,none,none,some ([3],[3,12,13,14,15]),none,none]
def Sz:D6:=fun n w K=>box P T.d n w fun a w=>lp (α:=Value×Value) ((.string ⟨#[40]⟩),(.int .i64 0)) w fun b c o w=>X6 T.d T.h a 1 w fun p w=>X4 T.h p w fun q w=>X1 .lss T.e 5 8 c.2 q w fun r w=>X0 r (jn (α:=Value) w (fun m w=>X2 .gtr T.e 12 c.2 0 w fun e w=>X0 e (J9 .add T.b 14 c.1 #[44] w fun f w=>m f w) (m c.1 w)) fun s o w=>X6 T.d T.h a 1 w fun g w=>J3 T.h T.b g c.2 w fun h w=>X1 .add T.b 16 21 s h w fun i w=>X2 .add T.e 10 c.2 1 w fun d w=>b (i,d) w) (J9 .add T.b 23 c.1 #[41] w fun j w=>X6 T.d T.b a 2 w fun k w=>X1 .add T.b 24 26 j k w fun l w=>K l w)
theorem Q3m (h:Sz a0 w K):Q0 P F.b3 [a0] w K:=zr Q2X Tryz.func129 h
def Q4q:W5:=[none,none,none,some ([5],[4,5,6,7,8,9,10,11,12,13,14,15,16,17,18,19,20,21])]++Y0 6
def Fj:V9:=fun i j w K=>box P T.c i w fun a w=>lp (α:=Value) (.int .i64 0) w fun b c m w=>X6 T.c T.k a 7 w fun k w=>X4 T.k k w fun l w=>X1 .lss T.e 6 9 c l w fun d w=>X0 d (X6 T.c T.k a 7 w fun e w=>indexAddr P T.k e c w fun f w=>X6 T.d T.b f 0 w fun g w=>X1 .eql T.b 18 19 g j w fun h w=>X0 h (K c w) (V1 11 c w b)) (K (.int .i64 (-1)) w)
theorem Q4K (h:Fj a0 a1 w K):Q0 P F.bd [a0,a1] w K:=zr Q4q Tryz.func191 h
def Q1y:W5:=[none,none,none,some ([9],[6,8,9,10,11,12,13,14,15,16,17,18,19,20,21,22,23,24,25,26,27,28,29,30,31,32,33,34,35,36,37,38,39,40,41,42,43,44,45,46,47,48,49,50,51,52,53,54])]++Y0 12
def Hz:Yn:=fun v Y X w K=>box P T.c Y w fun b w=>Qa P T.d w fun k w=>lp (α:=Value) (.int .i64 0) w fun d R Z w=>X6 T.c T.h b 2 w fun y w=>X4 T.h y w fun z w=>X1 .lss T.e 15 18 R z w fun A w=>X0 A (X6 T.c T.h b 2 w fun B w=>J3 T.h T.b B R w fun C w=>Q0 P F.b [v,C] w fun D w=>J3 T.i T.c v D w fun E w=>L9 T.c E w fun a w=>Q7 P T.c a w fun H w=>Q0 P F.bd [H,X] w fun m w=>X2 .geq T.e 35 m 0 w fun J w=>X0 J (dr w fun f c=>Y5 f c (fieldAddr P T.c a 0) fun r=>Y5 f c (fieldAddr P T.c a 7) fun s=>X5 f c r (fun g=>Q7 P T.b g) fun U=>X5 f c s (fun h=>Q7 P T.k h) fun t=>X5 f c t (fun i=>indexAddr P T.k i m) fun u=>X5 f c u (fun j=>Q7 P T.d j) fun V=> ∀g h n i j o w,c w->r g w->s h w->U n w->t i w->u j w->V o w->U8 P T.d k o w fun _u w=>J4 P T.d k w fun l=>K (.tuple #[n,l,(.bool true)]) w) (Q7 P T.c a w fun L w=>Q0 P F.aR [v,L,X] w fun p w=>D0 p w fun M N w=>ext P p 2 w fun O w=>L9 T.d N w fun e w=>X0 O (dr w fun f c=>Y5 f c (Q7 P T.d e) fun W=> ∀q w,c w->W q w->U8 P T.d k q w fun _u w=>J4 P T.d k w fun l=>K (.tuple #[M,l,(.bool true)]) w) (V1 20 R w d))) (B6 P T.d [] w fun Q w=>U8 P T.d k Q w fun _u w=>J4 P T.d k w fun l=>K (.tuple #[(.string ⟨#[]⟩),l,(.bool false)]) w)
theorem Q2e (h:Hz a0 a1 a2 w K):Q0 P F.aR [a0,a1,a2] w K:=zr Q1y Tryz.func192 h
def Q0u:W5:=[none,none,none,some ([9],[6,8,9,10,18,19,20,21,22,23,24,25,26,27,28,29,30,31,32,33,34,35,36,37,38,39,40,41,42,43,44,45,46,47])]++Y0 8++[some ([11],[6,8,11,12,13,14,51,52,53,54,55,56,57,58,59,60,61,62,63,64,65,66,67,68,69,70,71,72,73])]++Y0 7
def Dy:Yn:=fun b a1 a2 w K=>Qa P T.d w fun m w=>Q0 P F.b [b,a1] w fun D w=>lp (α:=Value) D w fun e t d_ w=>X2 .geq T.e 18 t 0 w fun E w=>X0 E (J3 T.i T.c b t w fun M w=>Q0 P F.bd [M,a2] w fun o w=>X2 .geq T.e 33 o 0 w fun N w=>X0 N (dr w fun d a=>Y5 d a (indexAddr P T.i b t) fun u=>X5 d a u (fun f=>fieldAddr P T.c f 0) fun v=>Y5 d a (indexAddr P T.i b t) fun y=>X5 d a y (fun h=>fieldAddr P T.c h 7) fun z=>X5 d a v (fun g=>Q7 P T.b g) fun ab=>X5 d a z (fun i=>Q7 P T.k i) fun A=>X5 d a A (fun j=>indexAddr P T.k j o) fun B=>X5 d a B (fun k=>Q7 P T.d k) fun ac=> ∀f g h i p j k q w,a w->u f w->v g w->y h w->z i w->ab p w->A j w->B k w->ac q w->U8 P T.d m q w fun _u w=>J4 P T.d m w fun n=>K (.tuple #[p,n,(.bool true)]) w) (indexAddr P T.i b t w fun H w=>X6 T.c T.b H 1 w fun J w=>Q0 P F.b [b,J] w fun L w=>e L w)) (Q0 P F.b [b,a1] w fun O w=>lp (α:=Value) O w fun c l d_ w=>X2 .geq T.e 51 l 0 w fun Q w=>X0 Q (J3 T.i T.c b l w fun W w=>Q0 P F.aR [b,W,a2] w fun r w=>D0 r w fun X Y w=>ext P r 2 w fun Z w=>L9 T.d Y w fun C w=>X0 Z (dr w fun d a=>Y5 d a (Q7 P T.d C) fun ad=> ∀s w,a w->ad s w->U8 P T.d m s w fun _u w=>J4 P T.d m w fun n=>K (.tuple #[X,n,(.bool true)]) w) (indexAddr P T.i b l w fun R w=>X6 T.c T.b R 1 w fun U w=>Q0 P F.b [b,U] w fun V w=>c V w)) (B6 P T.d [] w fun aa w=>U8 P T.d m aa w fun _u w=>J4 P T.d m w fun n=>K (.tuple #[(.string ⟨#[]⟩),n,(.bool false)]) w))
theorem Q0F (h:Dy a0 a1 a2 w K):Q0 P F.bx [a0,a1,a2] w K:=zr Q0u Tryz.func130 h
def Au:W5:=[none,none,none,none,some ([6],[4,6,24,25,26,27,28,29,30,31,32,33,34,35,36,37,38,39,40,41])]++Y0 8++[some ([7,8],[7,8,43,44,45,46,47,48,49,50,51,52,53,54,55,56,57,58])]++Y0 5++[some ([7,9],[7,9,59,60,61,62,63,64,65,66,67,68,69,70,71,72,73,74,75,76,77,78,79,80,81,82,83,84,85,86,87,88,89]),none,none,some ([7],[7,66,67,68,69,70,71,72,73,74,75,76,77,78,79,80,81,82,83,84,85,86,87,88,89]),none,none,none,none,some ([10],[4,10,90,91,92,93,94,95,96,97,98,99,100,101,102])]++Y0 9++[some ([12,13],[12,13,106,107,108,109,110,111,112,113,114,115,116,117,118,119,120,121,122,123,124,125,126,127,128,129,130]),none,none,some ([12],[12,112,113,114,115,116,117,118,119,120,121,122,123,124,125,126,127,128,129,130]),none,none,none,some ([14],[4,14,15,131,132,133,134,135,136,137,138,139,140,141,142,143,144,145,146,147,148,149,150,151,152,153,154,155,156,157,158,159,160,161,162,163,164,165]),none,none,none,none,some ([15],[4,15,137,138,139,140,141,142,143,144,145,146,147,148,149,150,151,152,153,154,155,156,157,158,159,160,161,162,163,164,165])]++Y0 7++[some ([16],[4,16,17,18,19,166,167,168,169,170,171,172,173,174,175,176,177,178,179,180,181,182,183,184,185,186,187,188,189,190,191,192,193,194,195])]++Y0 7
def Oo:V9:=fun a0 a1 w K=>J3 T.i T.c a0 a1 w fun co w=>L9 T.c co w fun V w=>lp (α:=Value) (.int .i64 0) w fun Z x4 d_ w=>X6 T.c T.j V 6 w fun cp w=>X4 T.j cp w fun cq w=>X1 .lss T.e 24 27 x4 cq w fun cr w=>X0 cr (dr w fun c b=>Y5 c b (fieldAddr P T.c V 1) fun ci=>Y5 c b (fieldAddr P T.c V 6) fun cj=>X5 c b ci (fun a5=>Q7 P T.b a5) fun dt=>X5 c b cj (fun a6=>Q7 P T.j a6) fun ck=>X5 c b ck (fun a7=>indexAddr P T.j a7 x4) fun cl=>X5 c b cl (fun a8=>fieldAddr P T.m a8 0) fun cm=>X5 c b cm (fun a9=>Q7 P T.b a9) fun du=> ∀a5 a6 ca a7 a8 a9 cb w,b w->ci a5 w->cj a6 w->dt ca w->ck a7 w->cl a8 w->cm a9 w->du cb w->Q0 P F.bR [a0,ca,cb] w fun cs w=>X2 .geq T.e 40 cs 0 w fun ct w=>X0 ct (K (.int .i64 64) w) (V1 29 x4 w Z)) (buildSlice P T.h 0 [] w fun cu w=>lp (α:=Value×Value) (cu,(.int .i64 0)) w fun l W d_ w=>X6 T.c T.j V 6 w fun cv w=>X4 T.j cv w fun cw w=>X1 .lss T.e 43 46 W.2 cw w fun cx w=>X0 cx (X6 T.c T.j V 6 w fun cz w=>indexAddr P T.j cz W.2 w fun c0 w=>X6 T.m T.b c0 1 w fun c1 w=>buildSlice P T.h 1 [(0,c1)] w fun c2 w=>U4 P .append [T.h,T.h] T.h [false,false] [W.1,c2] w fun c3 w=>X2 .add T.e 48 W.2 1 w fun cy w=>l (c3,cy) w) (lp (α:=Value×Value) (W.1,(.int .i64 0)) w fun m i d_ w=>X6 T.c T.k V 7 w fun c4 w=>X4 T.k c4 w fun c5 w=>X1 .lss T.e 59 62 i.2 c5 w fun c6 w=>X0 c6 (jn (α:=Value) w (fun bc w=>X6 T.c T.k V 7 w fun c8 w=>indexAddr P T.k c8 i.2 w fun c9 w=>X6 T.d T.h c9 1 w fun da w=>U4 P .append [T.h,T.h] T.h [false,false] [i.1,da] w fun cc w=>X6 T.c T.k V 7 w fun db w=>indexAddr P T.k db i.2 w fun dc w=>X6 T.d T.b dc 2 w fun dd w=>J9 .neq T.b 79 dd #[] w fun de w=>X0 de (X6 T.c T.k V 7 w fun df w=>indexAddr P T.k df i.2 w fun dg w=>X6 T.d T.b dg 2 w fun dh w=>buildSlice P T.h 1 [(0,dh)] w fun di w=>U4 P .append [T.h,T.h] T.h [false,false] [cc,di] w fun dj w=>bc dj w) (bc cc w)) fun dq d_ w=>X2 .add T.e 64 i.2 1 w fun c7 w=>m (dq,c7) w) (lp (α:=Value) (.int .i64 0) w fun n ba d_ w=>X4 T.h i.1 w fun dl w=>X1 .lss T.e 90 92 ba dl w fun dm w=>X0 dm (J3 T.h T.b i.1 ba w fun be w=>Q0 P F.bS [a0,be] w fun bf w=>W2 P .not bf w fun bg w=>X0 bg (K (.int .i64 65) w) (V1 94 ba w n)) (Q0 P F.an [a0] w fun bh w=>buildSlice P T.k 0 [] w fun bi w=>lp (α:=Value×Value) (bi,(.int .i64 0)) w fun o e d_ w=>X4 T.i a0 w fun bj w=>X1 .lss T.e 106 108 e.2 bj w fun bk w=>X0 bk (jn (α:=Value) w (fun bd w=>X1 .eql T.e 112 113 e.2 a1 w fun g w=>X8 g false bh w fun bm w=>X8 g false a1 w fun bn w=>zhi g false w T.af T.ab bm bn fun bo w=>X8 g false e.2 w fun bp w=>zhi g false w T.ab T.s bo bp fun bq w=>pick P g (.bool true) bq w fun br w=>X0 br (indexAddr P T.i a0 e.2 w fun bs w=>X6 T.c T.k bs 7 w fun bu w=>U4 P .append [T.k,T.k] T.k [false,false] [e.1,bu] w fun bv w=>bd bv w) (bd e.1 w)) fun ds d_ w=>X2 .add T.e 110 e.2 1 w fun bl w=>o (ds,bl) w) (lp (α:=Value) (.int .i64 0) w fun p X d_ w=>X4 T.k e.1 w fun bw w=>X1 .lss T.e 131 133 X bw w fun bx w=>X0 bx (lp (α:=Value) (.int .i64 0) w fun q ab d_ w=>X1 .lss T.e 137 138 ab X w fun bz w=>X0 bz (dr w fun c b=>Y5 c b (indexAddr P T.k e.1 X) fun ag=>X5 c b ag (fun s=>fieldAddr P T.d s 0) fun ah=>Y5 c b (indexAddr P T.k e.1 ab) fun aj=>X5 c b aj (fun v=>fieldAddr P T.d v 0) fun ak=>X5 c b ah (fun t=>Q7 P T.b t) fun ai=>X5 c b ak (fun y=>Q7 P T.b y) fun al=>N2 c b ai al (fun u z=>X1 .eql T.b 146 151 u z) fun d=>X5 c b d (fun a=>W9 a (fun w J=>J e.1 w)) fun am=>X5 c b d (fun a=>W9 a (fun w J=>J X w)) fun an=>Jn c b d am an (fun a A B=>W9 a (indexAddr P T.k A B)) fun ao=>X5 c b d (fun a=>W9 a (fun w J=>J e.1 w)) fun aq=>X5 c b d (fun a=>W9 a (fun w J=>J ab w)) fun ar=>Jn c b d aq ar (fun a E H=>W9 a (indexAddr P T.k E H)) fun av=>N2 c b d ao (fun a C=>W9 a (Q7 P T.d C)) fun ap=>N2 c b d ap (fun a D=>W9 a (Q0 P F.b3 [D])) fun cd=>N2 c b d av (fun a L=>W9 a (Q7 P T.d L)) fun ce=> ∀s t v y u z a A B C E H L D ac ad w,b w->ag s w->ah t w->aj v w->ak y w->ai u w->al z w->d a w->am A w->an B w->ao C w->aq E w->ar H w->av L w->ap D w->cd ac w->ce ad w->Q1 a true w (Q0 P F.b3 [ad]) fun b0 w=>Q1 a true w (X1 .neq T.b 158 163 ac b0) fun b1 w=>pick P a b1 (.bool false) w fun b2 w=>X0 b2 (K (.int .i64 66) w) (V1 140 ab w q)) (V1 135 X w p)) (lp (α:=Value) (.int .i64 0) w fun r bb d_ w=>X4 T.k e.1 w fun b3 w=>X1 .lss T.e 166 168 bb b3 w fun M w=>J1 M true w T.c T.s V 4 fun b4 w=>Q1 M true w (W2 P .not b4) fun b5 w=>pick P M b5 (.bool false) w fun b6 w=>X0 b6 (dr w fun c b=>Y5 c b (fieldAddr P T.c V 0) fun aw=>Y5 c b (indexAddr P T.k e.1 bb) fun ay=>X5 c b ay (fun Q=>fieldAddr P T.d Q 0) fun az=>X5 c b aw (fun N=>Q7 P T.b N) fun ax=>X5 c b az (fun R=>Q7 P T.b R) fun a2=>N2 c b ax a2 (fun O U=>Q0 P F.bx [a0,O,U]) fun k=>X5 c b k (fun f=>ext P f 0) fun cg=>X5 c b k (fun f=>ext P f 1) fun a3=>X5 c b k (fun f=>ext P f 2) fun ch=>Y5 c b (Qa P T.d) fun cf=>Ko c (fun Y=> ∀j h w,b w->cf j w->a3 h w->U8 P T.d j h w (dk c (Y [j,h]) w)) fun Y=> ∀N Q R O U f b7 h ae j dn w,b w->aw N w->ay Q w->az R w->ax O w->a2 U w->k f w->cg b7 w->a3 h w->ch ae w->cf j w->Y [j,h] dn w->W2 P .not ae w fun af w=>J1 af false w T.d T.s j 3 fun b8 w=>pick P af (.bool true) b8 w fun b9 w=>X0 b9 (K (.int .i64 67) w) (V1 175 bb w r)) (K (.int .i64 0) w)))))))
theorem Q04 (h:Oo a0 a1 w K):Q0 P F.bo [a0,a1] w K:=zr Au Tryz.func68 h
def Q4p:W5:=Y0 5++[some ([5,7],[2,3,4,5,7,8,21,22,23,24,25,26,27,28,29,30,31,32,33,34,35,36,37,38,39,40,41,42])]++Y0 9++[some ([9],[2,3,4,9,43,44,45,46,47,48,49,50,51,52,53,54,55,56,57,58,59,60])]++Y0 7++[some ([10],[2,3,4,10,11,61,62,63,64,65,66,67,68,69,70,71,72,73,74,75,76])]++Y0 9++[some ([13],[2,3,4,13,79,80,81,82,83,84,85,86,87,88,89,90,91,92,93,94,95,96])]++Y0 8++[some ([14,15],[14,15,98,99,100,101,102,103,104,105,106,107,108,109,110])]++Y0 5++[some ([16],[2,3,4,16,17,111,112,113,114,115,116,117,118,119,120,121,122,123,124,125,126,127,128,129,130,131])]++Y0 7
def Fh:D6:=fun k w K=>Q0 P F.bQ [] w fun E w=>X4 T.i E w fun b w=>lp (α:=Value×Value) (E,(.int .i64 0)) w fun l c q w=>X4 T.i k w fun M w=>X1 .lss T.e 21 23 c.2 M w fun N w=>X0 N (J3 T.i T.c k c.2 w fun Q w=>Q0 P F.bO [Q] w fun H w=>X2 .neq T.w 32 H 0 w fun R w=>X0 R (K (.tuple #[(.slice none 0 0),c.2,H]) w) (J3 T.i T.c k c.2 w fun U w=>buildSlice P T.i 1 [(0,U)] w fun V w=>U4 P .append [T.i,T.i] T.i [false,false] [c.1,V] w fun W w=>X2 .add T.e 25 c.2 1 w fun O w=>l (W,O) w)) (lp (α:=Value) (.int .i64 0) w fun d i q w=>X4 T.i k w fun X w=>X1 .lss T.e 43 45 i X w fun Y w=>X0 Y (indexAddr P T.i k i w fun Z w=>X6 T.c T.b Z 0 w fun aa w=>Q0 P F.b [c.1,aa] w fun ab w=>X1 .add T.e 56 57 b i w fun ac w=>X1 .neq T.e 55 58 ab ac w fun ad w=>X0 ad (K (.tuple #[(.slice none 0 0),i,(.int .i64 60)]) w) (V1 47 i w d)) (lp (α:=Value) (.int .i64 0) w fun e m q w=>X4 T.i k w fun ae w=>X1 .lss T.e 61 63 m ae w fun af w=>X0 af (J3 T.i T.c k m w fun ag w=>Q0 P F.bz [c.1,ag] w fun J w=>X2 .neq T.w 73 J 0 w fun ah w=>X0 ah (K (.tuple #[(.slice none 0 0),m,J]) w) (V1 65 m w e)) (Q0 P F.an [c.1] w fun ai w=>lp (α:=Value) (.int .i64 0) w fun f j q w=>X4 T.i k w fun aj w=>X1 .lss T.e 79 81 j aj w fun ak w=>X0 ak (X1 .add T.e 86 87 b j w fun al w=>J3 T.af T.ab ai al w fun am w=>X1 .add T.e 91 92 b j w fun an w=>J3 T.ab T.s am an w fun ao w=>X0 ao (K (.tuple #[(.slice none 0 0),j,(.int .i64 63)]) w) (V1 83 j w f)) (buildSlice P T.o 0 [] w fun ap w=>lp (α:=Value×Value) (ap,(.int .i64 0)) w fun g a q w=>X4 T.i k w fun r w=>X1 .lss T.e 98 100 a.2 r w fun s w=>X0 s (X1 .add T.e 107 108 b a.2 w fun u w=>Q0 P F.be [c.1,a.1,b,u] w fun v w=>X2 .add T.e 102 a.2 1 w fun t w=>g (v,t) w) (lp (α:=Value) (.int .i64 0) w fun h n q w=>X4 T.o a.1 w fun y w=>X1 .lss T.e 111 113 n y w fun z w=>X0 z (J3 T.o T.e a.1 n w fun A w=>Q0 P F.bo [c.1,A] w fun o w=>X2 .neq T.w 123 o 0 w fun B w=>X0 B (dr w fun Tr Br=>Y5 Tr Br (indexAddr P T.o a.1 n) fun L=> ∀p w,Br w->L p w->Q7 P T.e p w fun C w=>X1 .sub T.e 128 129 C b w fun D w=>K (.tuple #[(.slice none 0 0),D,o]) w) (V1 115 n w h)) (K (.tuple #[c.1,(.int .i64 0),(.int .i64 0)]) w))))))
theorem Q4I (h:Fh a0 w K):Q0 P F.cl [a0] w K:=zr Q4p Tryz.func27 h
def Q71:V9:=fun g a w K=>X2 .lss T.e 6 a 0 w fun f w=>X8 f false a w fun h w=>Q1 f false w (X2 .gtr T.e 9 h 1048576) fun b w=>pick P f (.bool true) b w fun c w=>X0 c (K (.tuple #[(.pointer none),(.int .i64 90)]) w) (B6 P T.t [(0,g),(1,a)] w fun d w=>box P T.t d w fun e w=>K (.tuple #[e,(.int .i64 0)]) w)
theorem X4h (h:Q71 a0 a1 w K):Q0 P F.ds [a0,a1] w K:=zr (Y0 5) Tryz.func28 h
def Hh:D6:=fun C w K=>Qa P T.a w fun c w=>Q0 P F.aG [] w fun i w=>Q0 P F.dt [i] w fun e w=>D0 e w fun f D w=>ext P e 2 w fun j w=>Q0 P F.aG [] w fun k w=>Q0 P F.cl [k] w fun g w=>D0 g w fun l E w=>ext P g 2 w fun m w=>Z2 P .rem T.aC (.tmp 25) (.const (.int .u16 301)) C (.int .u16 301) w fun n w=>conv P T.aC T.e n w fun h w=>X2 .neq T.w 28 j 0 w fun a w=>X8 a false m w fun o w=>Q1 a false w (X2 .neq T.w 31 o 0) fun p w=>pick P a (.bool true) p w fun b w=>X8 b false f w fun q w=>Q1 b false w (Z2 P .eql T.z (.tmp 35) (.const (.pointer none)) q (.pointer none)) fun r w=>pick P b (.bool true) r w fun s w=>X0 s (B6 P T.a [] w fun t w=>U8 P T.a c t w fun _u w=>J4 P T.a c w fun d=>K (.tuple #[(.pointer none),d]) w) (Q0 P F.ds [f,h] w fun u w=>D0 u w fun v y w=>X2 .neq T.w 45 y 0 w fun z w=>X0 z (B6 P T.a [] w fun A w=>U8 P T.a c A w fun _u w=>J4 P T.a c w fun d=>K (.tuple #[(.pointer none),d]) w) (B6 P T.a [(0,l),(1,h)] w fun B w=>U8 P T.a c B w fun _u w=>J4 P T.a c w fun d=>K (.tuple #[v,d]) w))
theorem Q1X (h:Hh a0 w K):Q0 P F.aO [a0] w K:=zr (Y0 12) Tryz.func8 h
def Ve:W5:=[none,none,none,some ([8],[4,5,8,9,10,11,12,13,14,15,16,17,18])]++Y0 7
def Qr:V9:=fun e f w K=>X4 T.l e w fun g w=>lp (α:=Value) (.int .i64 0) w fun a b i w=>X1 .lss T.e 8 7 b g w fun h w=>X0 h (J3 T.l T.f e b w fun c w=>J6 P f [c] w fun d w=>X0 d (K b w) (V1 8 b w a)) (K (.int .i64 (-1)) w)
theorem Vl (h:Qr a0 a1 w K):Q0 P F.a8 [a0,a1] w K:=zr Ve Tryz.func85 h
def T6:V9:=fun a b w K=>Q0 P F.a8 [a,b] w fun c w=>X2 .geq T.e 7 c 0 w fun d w=>K d w
theorem Jr (h:T6 a0 a1 w K):Q0 P F.h [a0,a1] w K:=zr (Y0 2) Tryz.func37 h
def Gr:V9:=fun h g w K=>X2 .geq T.e 5 g 0 w fun a w=>X8 a true g w fun i w=>X8 a true h w fun j w=>Q1 a true w (nilCheck P j) fun b w=>J1 a true w T.t T.g b 3 fun c w=>Q1 a true w (X4 T.g c) fun d w=>Q1 a true w (X1 .lss T.e 8 13 i d) fun e w=>pick P a e (.bool false) w fun f w=>K f w
theorem Q5G (h:Gr a0 a1 w K):Q0 P F.aI [a0,a1] w K:=zr (Y0 2) Tryz.func149 h
def Bv:V9:=fun e f w K=>Q0 P F.aI [e,f] w fun g w=>W2 P .not g w fun h w=>X0 h (K (.string ⟨#[]⟩) w) (nilCheck P e w fun a w=>X6 T.t T.g a 3 w fun b w=>indexAddr P T.g b f w fun c w=>X6 T.p T.b c 0 w fun d w=>K d w)
theorem Q4x (h:Bv a0 a1 w K):Q0 P F.x [a0,a1] w K:=zr (Y0 5) Tryz.func87 h
def Kv:V9:=fun D E w K=>box P T.f E w fun a w=>Q7 P T.f a w fun H w=>B6 P T.f [] w fun J w=>X1 .eql T.f 6 7 H J w fun L w=>X0 L (K (.string ⟨#[110,117,108,108]⟩) w) (Q7 P T.f a w fun d w=>X6 T.f T.a1 a 1 w fun e w=>B6 P T.f [(0,(.int .i64 1)),(1,e)] w fun f w=>X1 .eql T.f 10 13 d f w fun g w=>X0 g (K (.string ⟨#[105,110,116]⟩) w) (Q7 P T.f a w fun h w=>X6 T.f T.a1 a 1 w fun i w=>X2 .and T.a1 18 i 1 w fun j w=>B6 P T.f [(0,(.int .i64 2)),(1,j)] w fun k w=>X1 .eql T.f 16 20 h k w fun l w=>X0 l (K (.string ⟨#[98,111,111,108]⟩) w) (Q7 P T.f a w fun m w=>X6 T.f T.b a 2 w fun n w=>B6 P T.f [(0,(.int .i64 3)),(2,n)] w fun o w=>X1 .eql T.f 23 26 m o w fun b w=>J1 b true w T.f T.b a 2 fun p w=>Q1 b true w (X4 T.b p) fun q w=>Q1 b true w (X2 .leq T.e 31 q 4096) fun r w=>pick P b r (.bool false) w fun c w=>J1 c true w T.f T.b a 2 fun s w=>Q1 c true w (Q0 P F.bg [s]) fun t w=>pick P c t (.bool false) w fun u w=>X0 u (K (.string ⟨#[116,101,120,116]⟩) w) (Q7 P T.f a w fun v w=>X6 T.f T.e a 3 w fun y w=>B6 P T.f [(0,(.int .i64 4)),(3,y)] w fun z w=>X1 .eql T.f 40 43 v z w fun A w=>X0 A (X6 T.f T.e a 3 w fun B w=>Q0 P F.x [D,B] w fun C w=>K C w) (K (.string ⟨#[]⟩) w)))))
theorem Q6x (h:Kv a0 a1 w K):Q0 P F.bB [a0,a1] w K:=zr (Y0 13) Tryz.func39 h
def Q2J:V9:=fun b c w K=>box P T.f b w fun a w=>Q7 P T.a5 c w fun d w=>Q7 P T.f a w fun e w=>Q0 P F.bB [d,e] w fun f w=>J9 .eql T.b 6 f #[] w fun g w=>K g w
theorem Q9I (h:Q2J a0 a1 w K):Q0 P F.db [a0,a1] w K:=zr (Y0 2) Tryz.func38 h
def Q70:V9:=fun g h w K=>box P T.f h w fun a w=>X6 T.f T.e a 0 w fun i w=>X2 .eql T.e 6 i 4 w fun b w=>X8 b true g w fun j w=>J1 b true w T.f T.e a 3 fun c w=>Q1 b true w (Q0 P F.x [j,c]) fun d w=>Q1 b true w (J9 .neq T.b 12 d #[]) fun e w=>pick P b e (.bool false) w fun f w=>K f w
theorem X4g (h:Q70 a0 a1 w K):Q0 P F.dr [a0,a1] w K:=zr (Y0 2) Tryz.func51 h
def Ac:zV4:=fun s q t r w K=>box P T.f s w fun a w=>Q7 P T.ad q w fun v w=>X6 T.f T.e a 3 w fun c w=>lookup P T.ad v c true w fun d w=>D0 d w fun u e w=>Q7 P T.a5 t w fun f w=>Q7 P T.f a w fun g w=>Q0 P F.dr [f,g] w fun b w=>X8 b true e w fun h w=>Q1 b true w (W2 P .not h) fun i w=>pick P b i (.bool false) w fun j w=>X0 j (Q7 P T.ad q w fun k w=>X6 T.f T.e a 3 w fun l w=>mapUpdate P T.ad k l (.int .i64 1) w fun _u w=>Q7 P T.o r w fun m w=>X6 T.f T.e a 3 w fun n w=>buildSlice P T.o 1 [(0,n)] w fun o w=>U4 P .append [T.o,T.o] T.o [false,false] [m,o] w fun p w=>U8 P T.o r p w fun _u w=>K (.tuple #[]) w) (K (.tuple #[]) w)
theorem Q7w (h:Ac a0 a1 a2 a3 w K):Q0 P F.cW [a0,a1,a2,a3] w K:=zr (Y0 4) Tryz.func50 h
def Sk:Yn:=fun n o p w K=>Q0 P F.aI [n,o] w fun b w=>W2 P .not b w fun c w=>X0 c (K (.int .i64 92) w) (X2 .lss T.a1 13 p 0 w fun a w=>X8 a false p w fun d w=>X8 a false n w fun e w=>Q1 a false w (nilCheck P e) fun f w=>J1 a false w T.t T.g f 3 fun g w=>X8 a false o w fun h w=>Q1 a false w (indexAddr P T.g g h) fun i w=>J1 a false w T.p T.l i 1 fun j w=>Q1 a false w (X4 T.l j) fun k w=>Q1 a false w (X1 .geq T.a1 16 25 d k) fun l w=>pick P a (.bool true) l w fun m w=>X0 m (K (.int .i64 93) w) (K (.int .i64 0) w))
theorem Q38 (h:Sk a0 a1 a2 w K):Q0 P F.aY [a0,a1,a2] w K:=zr (Y0 7) Tryz.func144 h
def Gp:Yn:=fun k l m w K=>Qa P T.f w fun b w=>Q0 P F.aY [k,l,m] w fun a w=>X2 .neq T.w 13 a 0 w fun d w=>X0 d (B6 P T.f [] w fun e w=>U8 P T.f b e w fun _u w=>J4 P T.f b w fun c=>K (.tuple #[c,a]) w) (nilCheck P k w fun f w=>X6 T.t T.g f 3 w fun g w=>indexAddr P T.g g l w fun h w=>X6 T.p T.l h 1 w fun i w=>J3 T.l T.f i m w fun j w=>U8 P T.f b j w fun _u w=>J4 P T.f b w fun c=>K (.tuple #[c,(.int .i64 0)]) w)
theorem Q5E (h:Gp a0 a1 a2 w K):Q0 P F.aj [a0,a1,a2] w K:=zr (Y0 6) Tryz.func82 h
def Nr:V9:=fun a f w K=>Q0 P F.ad [a,f] w fun g w=>W2 P .not g w fun h w=>X0 h (K (.tuple #[a,(.bool false)]) w) (X4 T.b a w fun b w=>X4 T.b f w fun c w=>X1 .sub T.e 13 15 b c w fun d w=>I7 P T.b a none (some d) none w fun e w=>K (.tuple #[e,(.bool true)]) w)
theorem Ti (h:Nr a0 a1 w K):Q0 P F.cH [a0,a1] w K:=zr (Y0 5) Tryz.func197 h
def Ck:V9:=fun b c w K=>Q0 P F.cH [b,c] w fun d w=>D0 d w fun e a w=>K (.tuple #[e,a]) w
theorem Q3x (h:Ck a0 a1 w K):Q0 P F.c7 [a0,a1] w K:=zr (Y0 2) Tryz.func151 h
def Q62:D6:=fun f w K=>Q0 P F.c7 [f,(.string ⟨#[91,93]⟩)] w fun g w=>D0 g w fun h i w=>W2 P .not i w fun a w=>X8 a false f w fun b w=>Q1 a false w (Q0 P F.a2 [b]) fun c w=>Q1 a false w (W2 P .not c) fun d w=>pick P a (.bool true) d w fun e w=>X0 e (K (.string ⟨#[]⟩) w) (K h w)
theorem X2t (h:Q62 a0 w K):Q0 P F.bJ [a0] w K:=zr (Y0 6) Tryz.func94 h
def Bx:V9:=fun f g w K=>Q0 P F.aI [f,g] w fun h w=>W2 P .not h w fun i w=>X0 i (K (.int .i64 0) w) (nilCheck P f w fun a w=>X6 T.t T.g a 3 w fun b w=>indexAddr P T.g b g w fun c w=>X6 T.p T.l c 1 w fun d w=>X4 T.l d w fun e w=>K e w)
theorem Q4z (h:Bx a0 a1 w K):Q0 P F.ba [a0,a1] w K:=zr (Y0 5) Tryz.func95 h
def Sj:D6:=fun a w K=>nilCheck P a w fun b w=>X6 T.t T.z b 0 w fun c w=>K c w
theorem Q37 (h:Sj a0 w K):Q0 P F.aX [a0] w K:=zr (Y0 2) Tryz.func134 h
def X0Q:W5:=Y0 6++[some ([7,19],[7,8,19,20,21,22,23,24,25,26,27,28,29,30,31,32,33,34,35,36,37]),none,none,some ([7],[7,8,21,22,23,24,25,26,27,28,29,30,31,32,33,34,35,36]),none,none,none]
def Q3Z:V9:=fun e u w K=>Q0 P F.x [e,u] w fun d w=>Q0 P F.aX [e] w fun f w=>Q0 P F.a5 [f,d] w fun g w=>Q0 P F.ba [e,u] w fun h w=>lp (α:=Value×Value) ((.slice none 0 0),(.int .i64 0)) w fun b c v w=>X1 .lss T.e 19 18 c.2 h w fun i w=>X0 i (jn (α:=Value) w (fun t w=>Q0 P F.bJ [d] w fun j w=>J9 .neq T.b 23 j #[] w fun a w=>X8 a false g w fun k w=>X8 a false c.2 w fun l w=>Q1 a false w (indexAddr P T.j k l) fun m w=>J1 a false w T.m T.s m 2 fun n w=>Q1 a false w (W2 P .not n) fun o w=>pick P a (.bool true) o w fun p w=>X0 p (buildSlice P T.o 1 [(0,c.2)] w fun q w=>U4 P .append [T.o,T.o] T.o [false,false] [c.1,q] w fun r w=>t r w) (t c.1 w)) fun y v w=>X2 .add T.e 19 c.2 1 w fun s w=>b (y,s) w) (K c.1 w)
theorem X1a (h:Q3Z a0 a1 w K):Q0 P F.cM [a0,a1] w K:=zr X0Q Tryz.func96 h
def Q8k:W5:=[none,some ([14],[7,8,9,14,15,16,17,18,19,20,21,22,23,24,25,26,27,28])]++Y0 5
def Q0l:Yn:=fun k l m w K=>Q0 P F.cM [k,l] w fun c w=>X4 T.o c w fun d w=>lp (α:=Value) (.int .i64 0) w fun a j p w=>X1 .lss T.e 14 13 j d w fun e w=>X0 e (J3 T.o T.e c j w fun f w=>Q0 P F.aj [k,l,f] w fun g w=>D0 g w fun h n w=>L9 T.f h w fun b w=>Q7 P T.f b w fun i w=>J6 P m [i] w fun o w=>V1 14 j w a) (K (.tuple #[]) w)
theorem Q8r (h:Q0l a0 a1 a2 w K):Q0 P F.d0 [a0,a1,a2] w K:=zr Q8k Tryz.func52 h
def Q9x:W5:=Y0 7++[some ([8],[8,14,15,16,17,18,19,20,21,22,23,24,25,26]),none,none,none,none]
def Q2E:V9:=fun y z w K=>box P T.a5 y w fun c w=>box P T.f z w fun g w=>Qa P T.o w fun a w=>Rr P T.ad none w fun C w=>L9 T.ad C w fun b w=>S1 P (.func F.cW) [] [b,c,a] w fun i w=>Q7 P T.f g w fun o w=>J6 P i [o] w fun A w=>lp (α:=Value) (.int .i64 0) w fun d t D w=>Q7 P T.o a w fun p w=>X4 T.o p w fun q w=>X1 .lss T.e 14 16 t q w fun r w=>X0 r (dr w fun n h=>Y5 n h (Q7 P T.a5 c) fun u=>Y5 n h (Q7 P T.o a) fun l=>X5 n h l (fun e=>indexAddr P T.o e t) fun m=>X5 n h m (fun f=>Q7 P T.e f) fun v=> ∀j e f k w,h w->u j w->l e w->m f w->v k w->Q0 P F.d0 [j,k,i] w fun B w=>V1 18 t w d) (Q7 P T.o a w fun s w=>K s w)
theorem Q9D (h:Q2E a0 a1 w K):Q0 P F.d8 [a0,a1] w K:=zr Q9x Tryz.func22 h
def X0S:W5:=Y0 5++[some ([6,17],[6,9,11,12,13,17,18,19,20,21,22,23,24,25,26,27,28,29,30,31,32,33,34,35,36,37,38,39,40,41,42,43,44,45,46])]++Y0 5++[some ([6,25],[6,11,12,13,25,26,27,28,29,30,31,32,33,34,35,36,37,38,39,40,41,42,43,44,45]),none,none,some ([6],[6,11,12,13,27,28,29,30,31,32,33,34,35,36,37,38,39,40,41,42,43,44])]++Y0 5
def Q49:V9:=fun C A w K=>Rr P T.ad none w fun d w=>X4 T.l A w fun j w=>lp (α:=Value×Value) ((.slice none 0 0),(.int .i64 0)) w fun c i B w=>X1 .lss T.e 17 16 i.2 j w fun k w=>X0 k (J3 T.l T.f A i.2 w fun l w=>L9 T.f l w fun f w=>Q7 P T.f f w fun m w=>Q0 P F.d8 [C,m] w fun h w=>X4 T.o h w fun n w=>lp (α:=Value×Value) (i.1,(.int .i64 0)) w fun b a B w=>X1 .lss T.e 25 24 a.2 n w fun o w=>X0 o (jn (α:=Value) w (fun g w=>J3 T.o T.e h a.2 w fun e w=>lookup P T.ad d e true w fun p w=>D0 p w fun D q w=>W2 P .not q w fun r w=>X0 r (X4 T.o a.1 w fun s w=>mapUpdate P T.ad d e s w fun _u w=>buildSlice P T.o 1 [(0,e)] w fun t w=>U4 P .append [T.o,T.o] T.o [false,false] [a.1,t] w fun u w=>g u w) (g a.1 w)) fun z B w=>X2 .add T.e 25 a.2 1 w fun v w=>b (z,v) w) (X2 .add T.e 17 i.2 1 w fun y w=>c (a.1,y) w)) (K (.tuple #[i.1,d]) w)
theorem X1k (h:Q49 a0 a1 w K):Q0 P F.cP [a0,a1] w K:=zr X0S Tryz.func40 h
def Vw:W5:=[none,none,none,some ([8],[4,5,8,9,10,11,12,13,14,15,16,17,18])]++Y0 7
def Xa:V9:=fun e f w K=>X4 T.ac e w fun g w=>lp (α:=Value) (.int .i64 0) w fun a b i w=>X1 .lss T.e 8 7 b g w fun h w=>X0 h (J3 T.ac T.aa e b w fun c w=>J6 P f [c] w fun d w=>X0 d (K b w) (V1 8 b w a)) (K (.int .i64 (-1)) w)
theorem Vx (h:Xa a0 a1 w K):Q0 P F.l [a0,a1] w K:=zr Vw Tryz.func92 h
def Qb:V9:=fun a b w K=>Q0 P F.l [a,b] w fun c w=>X2 .geq T.e 7 c 0 w fun d w=>K d w
theorem Ui (h:Qb a0 a1 w K):Q0 P F.p [a0,a1] w K:=zr (Y0 2) Tryz.func132 h
def Ad:V9:=fun b c w K=>box P T.aa b w fun a w=>J3 T.aa T.b a (.int .i64 0) w fun d w=>Q7 P T.b c w fun e w=>X1 .eql T.b 5 6 d e w fun f w=>K f w
theorem Q7x (h:Ad a0 a1 w K):Q0 P F.cX [a0,a1] w K:=zr (Y0 2) Tryz.func133 h
def Q1h:W5:=Y0 8++[some ([6,31],[6,8,31,32,33,34,35,36,37,38,39,40,41,42,43,44,45,46,47]),none,none,some ([6],[6,8,33,34,35,36,37,38,39,40,41,42,43,44,45,46]),none,none,none]
def Ux:V9:=fun i h w K=>Q0 P F.j [i,h] w fun j w=>W2 P .not j w fun d w=>X8 d false h w fun k w=>Q1 d false w (J9 .eql T.b 14 k #[79,98,106,101,99,116]) fun l w=>pick P d (.bool true) l w fun m w=>X0 m (K (.string ⟨#[]⟩) w) (Q0 P F.e [i,h] w fun n w=>L9 T.c n w fun b w=>J9 .add T.b 20 h #[40] w fun o w=>X6 T.c T.b b 1 w fun p w=>Q0 P F.ak [i,p] w fun q w=>X1 .add T.b 21 25 o q w fun r w=>J9 .add T.b 26 r #[41] w fun s w=>X6 T.c T.j b 6 w fun g w=>X4 T.j g w fun t w=>lp (α:=Value×Value) (s,(.int .i64 0)) w fun c e N w=>X1 .lss T.e 31 30 e.2 t w fun u w=>X0 u (jn (α:=Value) w (fun f w=>J3 T.j T.m g e.2 w fun v w=>L9 T.m v w fun a w=>X6 T.m T.s a 2 w fun y w=>W2 P .not y w fun z w=>X0 z (X6 T.m T.b a 0 w fun A w=>Z2 P .add T.b (.const (.string ⟨#[32]⟩)) (.tmp 40) (.string ⟨#[32]⟩) A w fun B w=>J9 .add T.b 41 B #[58] w fun C w=>X6 T.m T.b a 1 w fun D w=>X1 .add T.b 42 44 C D w fun E w=>X1 .add T.b 38 45 e.1 E w fun H w=>f H w) (f e.1 w)) fun M N w=>X2 .add T.e 31 e.2 1 w fun J w=>c (M,J) w) (J9 .add T.b 48 e.1 #[46] w fun L w=>K L w))
theorem Rx (h:Ux a0 a1 w K):Q0 P F.ak [a0,a1] w K:=zr Q1h Tryz.func135 h
def Q9z:W5:=[none,none,none,none,some ([5,11],[5,7,8,11,12,13,14,15,16,17,18,19,20,21,22,23,24,25,26,27,28,29,30,31]),none,none,some ([5],[5,7,8,13,14,15,16,17,18,19,20,21,22,23,24,25,26,27,28,29,30]),none,none,none,none]
def Q2K:V9:=fun D E w K=>X4 T.o E w fun q w=>lp (α:=Value×Value) ((.slice none 0 0),(.int .i64 0)) w fun b i H w=>X1 .lss T.e 11 10 i.2 q w fun r w=>X0 r (jn (α:=Value) w (fun C w=>J3 T.o T.e E i.2 w fun s w=>Q0 P F.x [D,s] w fun t w=>L9 T.b t w fun a w=>S1 P (.func F.cX) [] [a] w fun u w=>Q0 P F.p [i.1,u] w fun v w=>W2 P .not v w fun y w=>X0 y (dr w fun j c=>Y5 j c (Q7 P T.b a) fun l=>Y5 j c (Q0 P F.aX [D]) fun m=>Y5 j c (Q7 P T.b a) fun n=>N2 j c m n (fun e f=>Q0 P F.ak [e,f]) fun o=>N2 j c l o (fun d g=>B6 P T.aa [(0,d),(1,g)]) fun p=>X5 j c p (fun h=>buildSlice P T.ac 1 [(0,h)]) fun B=> ∀d e f g h k w,c w->l d w->m e w->n f w->o g w->p h w->B k w->U4 P .append [T.ac,T.ac] T.ac [false,false] [i.1,k] w fun z w=>C z w) (C i.1 w)) fun J H w=>X2 .add T.e 11 i.2 1 w fun A w=>b (J,A) w) (K i.1 w)
theorem Q9J (h:Q2K a0 a1 w K):Q0 P F.cD [a0,a1] w K:=zr Q9z Tryz.func74 h
def Q48:zV0:=fun w K=>B6 P T.a9 [] w fun a w=>box P T.a9 a w fun b w=>K b w
theorem X1j (h:Q48 w K):Q0 P F.dk [] w K:=zr (Y0 2) Tryz.func88 h
def X47:W5:=[none,none,none,some ([0,3],[0,3,4,5,6,7,8,9,10,11,12,13]),none,none,none,none]
def Q75:D6:=fun j w K=>lp (α:=Value×Value) (j,(.slice none 0 0)) w fun a b m w=>Z2 P .geq T.a8 (.tmp 4) (.const (.int .u64 128)) b.1 (.int .u64 128) w fun k w=>X0 k (conv P T.a8 T.a2 b.1 w fun c w=>Z2 P .or T.a2 (.tmp 10) (.const (.int .u8 128)) c (.int .u8 128) w fun d w=>buildSlice P T.r 1 [(0,d)] w fun e w=>U4 P .append [T.r,T.r] T.r [false,false] [b.2,e] w fun f w=>Z2 P .shr T.a8 (.tmp 6) (.const (.int .u64 7)) b.1 (.int .u64 7) w fun l w=>a (l,f) w) (conv P T.a8 T.a2 b.1 w fun g w=>buildSlice P T.r 1 [(0,g)] w fun h w=>U4 P .append [T.r,T.r] T.r [false,false] [b.2,h] w fun i w=>K i w)
theorem X4l (h:Q75 a0 w K):Q0 P F.du [a0] w K:=zr X47 Tryz.func150 h
def Q2S:W5:=[none,some ([8],[5,8,9,10,11,12,13,14,15,16,17,18,19,20,21,22]),none,none,none,none]
def Sq:V9:=fun q r w K=>X4 T.ak r w fun s w=>lp (α:=Value) (.int .i64 0) w fun a n u w=>X1 .lss T.e 8 7 n s w fun t w=>X0 t (J3 T.ak T.a8 r n w fun j w=>dr w fun i d=>Y5 i d (nilCheck P q) fun g=>X5 i d g (fun b=>fieldAddr P T.a9 b 0) fun h=>X5 i d h (fun c=>Q7 P T.r c) fun o=>Y5 i d (Q0 P F.du [j]) fun p=> ∀b c e f w,d w->g b w->h c w->o e w->p f w->U4 P .append [T.r,T.r] T.r [false,false] [e,f] w fun k w=>nilCheck P q w fun l w=>fieldAddr P T.a9 l 0 w fun m w=>U8 P T.r m k w fun _u w=>V1 8 n w a) (K (.tuple #[]) w)
theorem Q3d (h:Sq a0 a1 w K):Q0 P F.u [a0,a1] w K:=zr Q2S Tryz.func90 h
def Q0m:V9:=fun a b w K=>Q7 P T.ag b w fun c w=>conv P T.e T.a8 a w fun d w=>buildSlice P T.ak 1 [(0,d)] w fun e w=>Q0 P F.u [c,e] w fun f w=>K (.tuple #[]) w
theorem Q8s (h:Q0m a0 a1 w K):Q0 P F.d4 [a0,a1] w K:=zr [] Tryz.func89 h
def Q1l:W5:=[none,some ([8],[5,8,9,10,11,12,13,14,15,16,17,18,19,20,21,22,23,24,25,26,27])]++Y0 5
def Hf:V9:=fun c m w K=>X4 T.h m w fun o w=>lp (α:=Value) (.int .i64 0) w fun a l q w=>X1 .lss T.e 8 7 l o w fun p w=>X0 p (J3 T.h T.b m l w fun b w=>X4 T.b b w fun d w=>conv P T.e T.a8 d w fun e w=>buildSlice P T.ak 1 [(0,e)] w fun f w=>Q0 P F.u [c,f] w fun n w=>nilCheck P c w fun g w=>X6 T.a9 T.r g 0 w fun h w=>U4 P .append [T.r,T.b] T.r [false,false] [h,b] w fun i w=>nilCheck P c w fun j w=>fieldAddr P T.a9 j 0 w fun k w=>U8 P T.r k i w fun _u w=>V1 8 l w a) (K (.tuple #[]) w)
theorem Q1V (h:Hf a0 a1 w K):Q0 P F.aM [a0,a1] w K:=zr Q1l Tryz.func91 h
def Q0n:V9:=fun b c w K=>box P T.aa b w fun a w=>J3 T.aa T.b a (.int .i64 0) w fun d w=>Q7 P T.b c w fun e w=>X1 .eql T.b 5 6 d e w fun f w=>K f w
theorem Q8t (h:Q0n a0 a1 w K):Q0 P F.d5 [a0,a1] w K:=zr (Y0 2) Tryz.func93 h
def Q76:D6:=fun a w K=>Z2 P .shl T.a1 (.tmp 3) (.const (.int .u64 1)) a (.int .u64 1) w fun b w=>conv P T.a1 T.a8 b w fun c w=>Z2 P .shr T.a1 (.tmp 6) (.const (.int .u64 63)) a (.int .u64 63) w fun d w=>conv P T.a1 T.a8 d w fun e w=>X1 .xor T.a8 5 8 c e w fun f w=>K f w
theorem X4m (h:Q76 a0 w K):Q0 P F.dv [a0] w K:=zr (Y0 2) Tryz.func199 h
def Q2R:W5:=[none,some ([8],[5,8,9,10,11,12,13,14,15,16,17]),none,none,none,none]
def Sp:V9:=fun g f w K=>X4 T.aB f w fun i w=>lp (α:=Value) (.int .i64 0) w fun a e k w=>X1 .lss T.e 8 7 e i w fun j w=>X0 j (J3 T.aB T.a1 f e w fun b w=>Q0 P F.dv [b] w fun c w=>buildSlice P T.ak 1 [(0,c)] w fun d w=>Q0 P F.u [g,d] w fun h w=>V1 8 e w a) (K (.tuple #[]) w)
theorem Q3c (h:Sp a0 a1 w K):Q0 P F.c1 [a0,a1] w K:=zr Q2R Tryz.func153 h
def Q1k:W5:=[none,some ([9],[5,6,9,10,11,12,13,14,15,16,17,18,19,20,21,22,23,24])]++Y0 5++[some ([6],[6,13]),none]
def He:V9:=fun l m w K=>X4 T.ab m w fun o w=>lp (α:=Value) (.int .i64 0) w fun a j n w=>X1 .lss T.e 9 8 j o w fun b w=>X0 b (J3 T.ab T.s m j w fun c w=>jn (α:=Value) w (fun k w=>X0 c (k (.int .u8 1) w) (k (.int .u8 0) w)) fun p n w=>nilCheck P l w fun d w=>X6 T.a9 T.r d 0 w fun e w=>buildSlice P T.r 1 [(0,p)] w fun f w=>U4 P .append [T.r,T.r] T.r [false,false] [e,f] w fun g w=>nilCheck P l w fun h w=>fieldAddr P T.a9 h 0 w fun i w=>U8 P T.r i g w fun _u w=>V1 9 j w a) (K (.tuple #[]) w)
theorem Q1U (h:He a0 a1 w K):Q0 P F.bI [a0,a1] w K:=zr Q1k Tryz.func154 h
def Q4a:Yn:=fun c t u w K=>box P T.f t w fun a w=>X6 T.f T.e a 0 w fun C w=>conv P T.e T.a8 C w fun D w=>buildSlice P T.ak 1 [(0,D)] w fun d w=>Q0 P F.u [c,d] w fun v w=>X6 T.f T.e a 0 w fun b w=>X2 .eql T.e 13 b 1 w fun e w=>X0 e (X6 T.f T.a1 a 1 w fun f w=>buildSlice P T.aB 1 [(0,f)] w fun g w=>Q0 P F.c1 [c,g] w fun y w=>K (.tuple #[]) w) (X2 .eql T.e 13 b 2 w fun h w=>X0 h (X6 T.f T.a1 a 1 w fun i w=>X2 .eql T.a1 25 i 1 w fun j w=>buildSlice P T.ab 1 [(0,j)] w fun k w=>Q0 P F.bI [c,k] w fun z w=>K (.tuple #[]) w) (X2 .eql T.e 13 b 3 w fun l w=>X0 l (X6 T.f T.b a 2 w fun m w=>buildSlice P T.h 1 [(0,m)] w fun n w=>Q0 P F.aM [c,n] w fun A w=>K (.tuple #[]) w) (X2 .eql T.e 13 b 4 w fun o w=>X0 o (X6 T.f T.e a 3 w fun p w=>lookup P T.ad u p false w fun q w=>conv P T.e T.a8 q w fun r w=>buildSlice P T.ak 1 [(0,r)] w fun s w=>Q0 P F.u [c,s] w fun B w=>K (.tuple #[]) w) (K (.tuple #[]) w))))
theorem X1l (h:Q4a a0 a1 a2 w K):Q0 P F.cb [a0,a1,a2] w K:=zr (Y0 7) Tryz.func97 h
def Vt:D6:=fun a w K=>Z2 P .eql T.r (.tmp 3) (.const (.slice none 0 0)) a (.slice none 0 0) w fun b w=>X0 b (K (.slice none 0 0) w) (buildSlice P T.r 0 [] w fun c w=>U4 P .append [T.r,T.r] T.r [false,false] [c,a] w fun d w=>K d w)
theorem Gl (h:Vt a0 w K):Q0 P F.aN [a0] w K:=zr (Y0 5) Tryz.func155 h
def Dt:D6:=fun a w K=>nilCheck P a w fun b w=>X6 T.a9 T.r b 0 w fun c w=>Q0 P F.aN [c] w fun d w=>K d w
theorem Q0A (h:Dt a0 w K):Q0 P F.bv [a0] w K:=zr (Y0 2) Tryz.func98 h
def X0T:W5:=Y0 8++[some ([39],[14,39,40,41,42,43,44,45,46,47,48,49,50])]++Y0 7++[some ([57],[16,17,57,58,59,60,61,62,63,64,65,66,67,68,69,70,71,72,73,74,75,76,77]),none,none,some ([],[16,17,59,60,61,62,63,64,65,66,67,68,69,70,71,72,73,74,75,76])]++Y0 6++[some ([80],[19,21,22,23,80,81,82,83,84,85,86,87,88,89,90,91,92,93,94,95,96,97,98,99,100,101,102,103,104])]++Y0 5++[some ([88],[21,22,23,88,89,90,91,92,93,94,95,96,97,98,99,100,101,102,103])]++Y0 8++[some ([111],[25,111,112,113,114,115,116,117,118,119])]++Y0 5
def Q4b:zV4:=fun n J l a3 w K=>Q0 P F.dk [] w fun N w=>L9 T.ag N w fun H w=>S1 P (.func F.d4) [] [H] w fun e w=>Q7 P T.ag H w fun O w=>S1 P (.func F.aM) [O] [] w fun Q w=>Q0 P F.cD [n,l] w fun g w=>X4 T.ac g w fun R w=>J6 P e [R] w fun a4 w=>X4 T.ac g w fun U w=>lp (α:=Value) (.int .i64 0) w fun f x8 o w=>X1 .lss T.e 39 38 x8 U w fun V w=>X0 V (J3 T.ac T.aa g x8 w fun W w=>L9 T.aa W w fun A w=>J3 T.aa T.b A (.int .i64 0) w fun X w=>J3 T.aa T.b A (.int .i64 1) w fun Y w=>buildSlice P T.h 2 [(0,X),(1,Y)] w fun Z w=>J6 P Q [Z] w fun a5 w=>V1 39 x8 w f) (X4 T.o l w fun aa w=>J6 P e [aa] w fun a6 w=>X4 T.o l w fun ab w=>lp (α:=Value) (.int .i64 0) w fun a h o w=>X1 .lss T.e 57 56 h ab w fun ac w=>X0 ac (jn (α:=Unit) w (fun m w=>J3 T.o T.e l h w fun C w=>Q0 P F.x [n,C] w fun ad w=>L9 T.b ad w fun B w=>S1 P (.func F.d5) [] [B] w fun ae w=>Q0 P F.l [g,ae] w fun af w=>J6 P e [af] w fun a7 w=>Q7 P T.b B w fun ag w=>Q0 P F.bJ [ag] w fun ah w=>J9 .neq T.b 70 ah #[] w fun ai w=>X0 ai (Q0 P F.ba [n,C] w fun aj w=>J6 P e [aj] w fun a8 w=>m () w) (m () w)) fun ba o w=>V1 57 h w a) (X4 T.o l w fun ak w=>lp (α:=Value) (.int .i64 0) w fun b i o w=>X1 .lss T.e 80 79 i ak w fun al w=>X0 al (J3 T.o T.e l i w fun D w=>Q0 P F.cM [n,D] w fun E w=>X4 T.o E w fun am w=>lp (α:=Value) (.int .i64 0) w fun c j o w=>X1 .lss T.e 88 87 j am w fun an w=>X0 an (J3 T.o T.e E j w fun ao w=>Q0 P F.aj [n,D,ao] w fun ap w=>D0 ap w fun aq a9 w=>L9 T.f aq w fun L w=>Q7 P T.ag H w fun ar w=>Q7 P T.f L w fun p w=>Q0 P F.cb [ar,p,a3] w fun ax w=>V1 88 j w c) (V1 80 i w b)) (X4 T.l J w fun q w=>J6 P e [q] w fun ay w=>X4 T.l J w fun r w=>lp (α:=Value) (.int .i64 0) w fun d k o w=>X1 .lss T.e 111 110 k r w fun s w=>X0 s (J3 T.l T.f J k w fun t w=>L9 T.f t w fun M w=>Q7 P T.ag H w fun u w=>Q7 P T.f M w fun v w=>Q0 P F.cb [u,v,a3] w fun az w=>V1 111 k w d) (Q7 P T.ag H w fun y w=>Q0 P F.bv [y] w fun z w=>K z w))))
theorem X1m (h:Q4b a0 a1 a2 a3 w K):Q0 P F.dl [a0,a1,a2,a3] w K:=zr X0T Tryz.func41 h
def Q65:Yn:=fun v f y w K=>box P T.a5 v w fun b w=>box P T.a3 y w fun a w=>X4 T.l f w fun g w=>X2 .gtr T.e 12 g 64 w fun c w=>X8 c false f w fun h w=>Q1 c false w (S1 P (.func F.db) [] [b]) fun i w=>Q1 c false w (Q0 P F.h [h,i]) fun j w=>pick P c (.bool true) j w fun k w=>X0 k (K (.tuple #[(.slice none 0 0),(.int .i64 120)]) w) (Q7 P T.a5 b w fun l w=>Q0 P F.cP [l,f] w fun m w=>D0 m w fun d n w=>X4 T.o d w fun o w=>X6 T.a3 T.e a 0 w fun p w=>X1 .gtr T.e 26 28 o p w fun q w=>X0 q (K (.tuple #[(.slice none 0 0),(.int .i64 121)]) w) (Q7 P T.a5 b w fun r w=>Q0 P F.dl [r,f,d,n] w fun e w=>X4 T.r e w fun s w=>X6 T.a3 T.e a 1 w fun t w=>X1 .gtr T.e 36 38 s t w fun u w=>X0 u (K (.tuple #[(.slice none 0 0),(.int .i64 122)]) w) (K (.tuple #[e,(.int .i64 0)]) w)))
theorem X2w (h:Q65 a0 a1 a2 w K):Q0 P F.cy [a0,a1,a2] w K:=zr (Y0 13) Tryz.func18 h
def Q77:Yn:=fun h i j w K=>box P T.f i w fun b w=>box P T.a3 j w fun a w=>Q7 P T.f b w fun k w=>buildSlice P T.l 1 [(0,k)] w fun c w=>Q7 P T.a3 a w fun d w=>Q0 P F.cy [h,c,d] w fun e w=>D0 e w fun f g w=>K (.tuple #[f,g]) w
theorem X4n (h:Q77 a0 a1 a2 w K):Q0 P F.ch [a0,a1,a2] w K:=zr (Y0 2) Tryz.func11 h
def Ss:zV0:=fun w K=>Qa P T.a3 w fun a w=>B6 P T.a3 [(0,(.int .i64 1000)),(1,(.int .i64 1048576))] w fun c w=>U8 P T.a3 a c w fun _u w=>J4 P T.a3 a w fun b=>K b w
theorem Q3f (h:Ss w K):Q0 P F.au [] w K:=zr (Y0 2) Tryz.func12 h
def Og:V9:=fun g h w K=>Q0 P F.j [g,h] w fun a w=>X8 a true g w fun i w=>X8 a true h w fun b w=>Q1 a true w (Q0 P F.e [i,b]) fun c w=>Q1 a true w (Xv P T.c c 4) fun d w=>Q1 a true w (W2 P .not d) fun e w=>pick P a e (.bool false) w fun f w=>K f w
theorem Ax (h:Og a0 a1 w K):Q0 P F.bj [a0,a1] w K:=zr (Y0 2) Tryz.func69 h
def Bw:D6:=fun j w K=>dr w fun b a=>Y5 b a (nilCheck P j) fun l=>X5 b a l (fun e=>fieldAddr P T.t e 1) fun m=>Y5 b a (nilCheck P j) fun n=>X5 b a n (fun g=>fieldAddr P T.t g 2) fun o=>X5 b a m (fun f=>Q7 P T.e f) fun p=>X5 b a o (fun h=>Q7 P T.e h) fun i=> ∀e f g h k c w,a w->l e w->m f w->n g w->o h w->p k w->i c w->X1 .sub T.e 6 10 k c w fun d w=>K d w
theorem Q4y (h:Bw a0 w K):Q0 P F.aE [a0] w K:=zr (Y0 2) Tryz.func71 h
def Q60:D6:=fun c w K=>Qa P T.f w fun a w=>J9 .eql T.b 3 c #[105,110,116] w fun g w=>X0 g (B6 P T.f [(0,(.int .i64 1))] w fun h w=>U8 P T.f a h w fun _u w=>J4 P T.f a w fun b=>K b w) (J9 .eql T.b 3 c #[98,111,111,108] w fun i w=>X0 i (B6 P T.f [(0,(.int .i64 2))] w fun j w=>U8 P T.f a j w fun _u w=>J4 P T.f a w fun b=>K b w) (J9 .eql T.b 3 c #[116,101,120,116] w fun d w=>X0 d (B6 P T.f [(0,(.int .i64 3))] w fun e w=>U8 P T.f a e w fun _u w=>J4 P T.f a w fun b=>K b w) (B6 P T.f [] w fun f w=>U8 P T.f a f w fun _u w=>J4 P T.f a w fun b=>K b w)))
theorem X2r (h:Q60 a0 w K):Q0 P F.d1 [a0] w K:=zr (Y0 10) Tryz.func72 h
def Gs:Yn:=fun a t s w K=>nilCheck P a w fun u w=>X6 T.t T.e u 2 w fun b w=>X4 T.l s w fun c w=>Z2 P .add T.e (.const (.int .i64 1)) (.tmp 13) (.int .i64 1) c w fun d w=>X1 .add T.e 11 14 b d w fun e w=>nilCheck P a w fun f w=>fieldAddr P T.t f 2 w fun g w=>U8 P T.e g e w fun _u w=>nilCheck P a w fun h w=>X6 T.t T.g h 3 w fun i w=>B6 P T.p [(0,t),(1,s)] w fun j w=>buildSlice P T.g 1 [(0,j)] w fun k w=>U4 P .append [T.g,T.g] T.g [false,false] [i,k] w fun l w=>nilCheck P a w fun m w=>fieldAddr P T.t m 3 w fun n w=>U8 P T.g n l w fun _u w=>nilCheck P a w fun o w=>X6 T.t T.g o 3 w fun p w=>X4 T.g p w fun q w=>X2 .sub T.e 34 q 1 w fun r w=>K (.tuple #[r,(.int .i64 0)]) w
theorem Q5H (h:Gs a0 a1 a2 w K):Q0 P F.bi [a0,a1,a2] w K:=zr (Y0 4) Tryz.func73 h
def Q1g:W5:=Y0 11++[some ([7,31],[7,9,31,32,33,34,35,36,37,38,39,40,41])]++Y0 5
def Ew:V9:=fun e f w K=>nilCheck P e w fun g w=>X6 T.t T.z g 0 w fun h w=>Q0 P F.bj [h,f] w fun i w=>W2 P .not i w fun j w=>X0 j (K (.tuple #[(.int .i64 0),(.int .i64 91)]) w) (nilCheck P e w fun k w=>X6 T.t T.z k 0 w fun l w=>Q0 P F.a5 [l,f] w fun c w=>X4 T.j c w fun m w=>Z2 P .add T.e (.const (.int .i64 1)) (.tmp 24) (.int .i64 1) m w fun n w=>Q0 P F.aE [e] w fun o w=>X1 .gtr T.e 25 27 n o w fun p w=>X0 p (K (.tuple #[(.int .i64 0),(.int .i64 90)]) w) (X4 T.j c w fun q w=>lp (α:=Value×Value) ((.slice none 0 0),(.int .i64 0)) w fun a b D w=>X1 .lss T.e 31 30 b.2 q w fun r w=>X0 r (J3 T.j T.m c b.2 w fun s w=>L9 T.m s w fun d w=>X6 T.m T.b d 1 w fun t w=>Q0 P F.d1 [t] w fun u w=>buildSlice P T.l 1 [(0,u)] w fun v w=>U4 P .append [T.l,T.l] T.l [false,false] [b.1,v] w fun y w=>X2 .add T.e 31 b.2 1 w fun z w=>a (y,z) w) (Q0 P F.bi [e,f,b.1] w fun A w=>D0 A w fun B C w=>K (.tuple #[B,C]) w)))
theorem Q1N (h:Ew a0 a1 w K):Q0 P F.aK [a0,a1] w K:=zr Q1g Tryz.func29 h
def Fa:D6:=fun b w K=>Qa P T.f w fun a w=>B6 P T.f [(0,(.int .i64 4)),(3,b)] w fun d w=>U8 P T.f a d w fun _u w=>J4 P T.f a w fun c=>K c w
theorem Q4C (h:Fa a0 w K):Q0 P F.bb [a0] w K:=zr (Y0 2) Tryz.func30 h
def Q2I:V9:=fun d e w K=>Q0 P F.cP [d,e] w fun a w=>D0 a w fun b f w=>Q0 P F.cD [d,b] w fun c w=>K c w
theorem Q9H (h:Q2I a0 a1 w K):Q0 P F.da [a0,a1] w K:=zr (Y0 3) Tryz.func31 h
def Hj:zV0:=fun w K=>Q0 P F.aO [(.int .u16 50)] w fun j w=>D0 j w fun b k w=>L9 T.a k w fun t2 w=>Z2 P .eql T.a5 (.tmp 15) (.const (.pointer none)) b (.pointer none) w fun l w=>X0 l (K (.bool false) w) (B6 P T.f [(0,(.int .i64 1)),(1,(.int .i64 5))] w fun m w=>Q0 P F.au [] w fun n w=>Q0 P F.ch [b,m,n] w fun o w=>D0 o w fun p q w=>B6 P T.f [] w fun r w=>Q0 P F.au [] w fun s w=>Q0 P F.ch [b,r,s] w fun t w=>D0 t w fun u v w=>Q0 P F.aK [b,(.string ⟨#[65]⟩)] w fun y w=>D0 y w fun i z w=>Q0 P F.bb [i] w fun A w=>Q0 P F.au [] w fun B w=>Q0 P F.ch [b,A,B] w fun C w=>D0 C w fun D E w=>conv P T.r T.b p w fun H w=>J9 .eql T.b 45 H #[0,0,1,1,10] w fun e w=>X8 e true q w fun J w=>Q1 e true w (X2 .eql T.w 48 J 0) fun L w=>pick P e L (.bool false) w fun c w=>X8 c true u w fun M w=>Q1 c true w (conv P T.r T.b M) fun N w=>Q1 c true w (J9 .eql T.b 53 N #[0,0,1,0]) fun O w=>pick P c O (.bool false) w fun f w=>X8 f true v w fun Q w=>Q1 f true w (X2 .eql T.w 57 Q 0) fun R w=>pick P f R (.bool false) w fun g w=>X8 g true z w fun U w=>Q1 g true w (X2 .eql T.w 61 U 0) fun V w=>pick P g V (.bool false) w fun h w=>X8 h true E w fun W w=>Q1 h true w (X2 .eql T.w 65 W 0) fun X w=>pick P h X (.bool false) w fun d w=>X8 d true D w fun Y w=>Q1 d true w (X4 T.r Y) fun Z w=>Q1 d true w (X2 .gtr T.e 70 Z 10) fun aa w=>pick P d aa (.bool false) w fun a w=>X8 a true b w fun ab w=>X8 a true i w fun ac w=>Q1 a true w (Q0 P F.bb [ac]) fun ad w=>Q1 a true w (buildSlice P T.l 1 [(0,ad)]) fun ae w=>Q1 a true w (Q0 P F.da [ab,ae]) fun af w=>Q1 a true w (X4 T.ac af) fun ag w=>Q1 a true w (X2 .eql T.e 79 ag 1) fun ah w=>pick P a ah (.bool false) w fun ai w=>K ai w)
theorem Q1Z (h:Hj w K):Q0 P F.am [] w K:=zr (Y0 10) Tryz.func9 h
def Q4n:W5:=[none,none,none,some ([0,3],[0,3,4,5,6,7,8,9,10,11,12,13,14,15]),none,none,none,none]
def Fc:D6:=fun l w K=>lp (α:=Value×Value) (l,(.string ⟨#[]⟩)) w fun a b p w=>Z2 P .geq T.a8 (.tmp 4) (.const (.int .u64 128)) b.1 (.int .u64 128) w fun m w=>X0 m (Z2 P .rem T.a8 (.tmp 7) (.const (.int .u64 128)) b.1 (.int .u64 128) w fun n w=>Z2 P .add T.a8 (.tmp 8) (.const (.int .u64 128)) n (.int .u64 128) w fun o w=>conv P T.a8 T.a2 o w fun c w=>buildSlice P T.r 1 [(0,c)] w fun d w=>conv P T.r T.b d w fun e w=>X1 .add T.b 6 12 b.2 e w fun f w=>Z2 P .quo T.a8 (.tmp 14) (.const (.int .u64 128)) b.1 (.int .u64 128) w fun g w=>a (g,f) w) (conv P T.a8 T.a2 b.1 w fun h w=>buildSlice P T.r 1 [(0,h)] w fun i w=>conv P T.r T.b i w fun j w=>X1 .add T.b 16 20 b.2 j w fun k w=>K k w)
theorem Q4E (h:Fc a0 w K):Q0 P F.aH [a0] w K:=zr Q4n Tryz.func33 h
def Fe:D6:=fun a w K=>X2 .geq T.a1 3 a 0 w fun f w=>X0 f (conv P T.a1 T.a8 a w fun g w=>Z2 P .mul T.a8 (.const (.int .u64 2)) (.tmp 6) (.int .u64 2) g w fun h w=>K h w) (X2 .add T.a1 8 a 1 w fun i w=>W2 P .neg i w fun b w=>conv P T.a1 T.a8 b w fun c w=>Z2 P .mul T.a8 (.const (.int .u64 2)) (.tmp 11) (.int .u64 2) c w fun d w=>Z2 P .add T.a8 (.tmp 12) (.const (.int .u64 1)) d (.int .u64 1) w fun e w=>K e w)
theorem Q4F (h:Fe a0 w K):Q0 P F.cj [a0] w K:=zr (Y0 5) Tryz.func34 h
def Fb:D6:=fun a w K=>Q0 P F.cj [a] w fun b w=>Q0 P F.aH [b] w fun c w=>K c w
theorem Q4D (h:Fb a0 w K):Q0 P F.ci [a0] w K:=zr (Y0 2) Tryz.func13 h
def Su:D6:=fun a w K=>X4 T.b a w fun b w=>conv P T.e T.a8 b w fun c w=>Q0 P F.aH [c] w fun d w=>X1 .add T.b 6 7 d a w fun e w=>K e w
theorem Q3h (h:Su a0 w K):Q0 P F.av [a0] w K:=zr (Y0 2) Tryz.func14 h
def St:D6:=fun a w K=>X0 a (K (.string ⟨#[1]⟩) w) (K (.string ⟨#[0]⟩) w)
theorem Q3g (h:St a0 w K):Q0 P F.c2 [a0] w K:=zr (Y0 5) Tryz.func15 h
def Fm:D6:=fun g w K=>box P T.n g w fun a w=>X6 T.n T.b a 1 w fun h w=>X4 T.b h w fun i w=>X2 .leq T.e 5 i 100 w fun b w=>Q1 b true w (fieldAddr P T.n a 4) fun j w=>J1 b true w T.f T.b j 2 fun c w=>Q1 b true w (X4 T.b c) fun d w=>Q1 b true w (X2 .leq T.e 11 d 5000) fun e w=>pick P b e (.bool false) w fun f w=>K f w
theorem Q4N (h:Fm a0 w K):Q0 P F.co [a0] w K:=zr (Y0 2) Tryz.func35 h
def Oq:V9:=fun h j w K=>Q0 P F.b [h,j] w fun i w=>X2 .geq T.e 9 i 0 w fun a w=>X8 a true h w fun b w=>X8 a true i w fun c w=>Q1 a true w (indexAddr P T.i b c) fun d w=>J1 a true w T.c T.s d 4 fun e w=>Q1 a true w (W2 P .not e) fun f w=>pick P a f (.bool false) w fun g w=>K g w
theorem Q05 (h:Oq a0 a1 w K):Q0 P F.bp [a0,a1] w K:=zr (Y0 3) Tryz.func136 h
def Q30:W5:=[none,none,none,none,some ([3,4],[3,4,7,8,9,10,11,12,13,14,15,16,17,18,19,20,21,22,23]),none,none,none,none]
def Cf:D6:=fun m w K=>box P T.a m w fun a w=>X6 T.a T.e a 1 w fun n w=>lp (α:=Value×Value) (n,(.int .i64 0)) w fun b c p w=>X6 T.a T.g a 2 w fun o w=>X4 T.g o w fun d w=>X1 .lss T.e 7 10 c.2 d w fun e w=>X0 e (X6 T.a T.g a 2 w fun g w=>indexAddr P T.g g c.2 w fun h w=>X6 T.p T.l h 1 w fun i w=>X4 T.l i w fun j w=>Z2 P .add T.e (.const (.int .i64 1)) (.tmp 21) (.int .i64 1) j w fun k w=>X1 .sub T.e 14 22 c.1 k w fun l w=>X2 .add T.e 12 c.2 1 w fun f w=>b (l,f) w) (K c.1 w)
theorem Q3s (h:Cf a0 w K):Q0 P F.b5 [a0] w K:=zr Q30 Tryz.func137 h
def Q31:W5:=[none,none,some ([],[5,6,7]),none,some ([],[8,9,10]),none,some ([],[11,12,13]),none,none]
def Cg:D6:=fun b w K=>Qa P T.f w fun k w=>B6 P T.f [] w fun m w=>L9 T.f m w fun a w=>jn (α:=Unit) w (fun g w=>J9 .eql T.b 5 b #[105,110,116] w fun n w=>X0 n (fieldAddr P T.f a 0 w fun o w=>U8 P T.e o (.int .i64 1) w fun _u w=>g () w) (g () w)) fun q j w=>jn (α:=Unit) w (fun h w=>J9 .eql T.b 8 b #[98,111,111,108] w fun p w=>X0 p (fieldAddr P T.f a 0 w fun c w=>U8 P T.e c (.int .i64 2) w fun _u w=>h () w) (h () w)) fun r j w=>jn (α:=Unit) w (fun i w=>J9 .eql T.b 11 b #[116,101,120,116] w fun d w=>X0 d (fieldAddr P T.f a 0 w fun e w=>U8 P T.e e (.int .i64 3) w fun _u w=>i () w) (i () w)) fun s j w=>Q7 P T.f a w fun f w=>U8 P T.f k f w fun _u w=>J4 P T.f k w fun l=>K l w
theorem Q3t (h:Cg a0 w K):Q0 P F.b6 [a0] w K:=zr Q31 Tryz.func138 h
def Q0w:W5:=Y0 11++[some ([8],[8,28,29,30,31,32,33,34,35,36,37,38,39,40,41,42,43,44])]++Y0 5
def Ea:V9:=fun a0 L w K=>box P T.a a0 w fun a w=>Qa P T.a w fun q w=>X6 T.a T.i a 0 w fun M w=>Q0 P F.bp [M,L] w fun N w=>W2 P .not N w fun O w=>X0 O (Q7 P T.a a w fun Q w=>U8 P T.a q Q w fun _u w=>J4 P T.a q w fun r=>K (.tuple #[r,(.int .i64 91)]) w) (X6 T.a T.i a 0 w fun R w=>Q0 P F.m [R,L] w fun f w=>X4 T.j f w fun U w=>Z2 P .add T.e (.const (.int .i64 1)) (.tmp 20) (.int .i64 1) U w fun V w=>Q7 P T.a a w fun W w=>Q0 P F.b5 [W] w fun X w=>X1 .gtr T.e 21 23 V X w fun Y w=>X0 Y (Q7 P T.a a w fun Z w=>U8 P T.a q Z w fun _u w=>J4 P T.a q w fun r=>K (.tuple #[r,(.int .i64 90)]) w) (B6 P T.p [(0,L)] w fun aa w=>L9 T.p aa w fun c w=>lp (α:=Value) (.int .i64 0) w fun e p d_ w=>X4 T.j f w fun ab w=>X1 .lss T.e 28 30 p ab w fun ac w=>X0 ac (dr w fun d b=>Y5 d b (fieldAddr P T.p c 1) fun y=>Y5 d b (indexAddr P T.j f p) fun z=>X5 d b z (fun h=>fieldAddr P T.m h 1) fun A=>X5 d b y (fun g=>Q7 P T.l g) fun ai=>X5 d b A (fun i=>Q7 P T.b i) fun B=>X5 d b B (fun j=>Q0 P F.b6 [j]) fun C=>X5 d b C (fun k=>buildSlice P T.l 1 [(0,k)]) fun aj=> ∀g h i s j k t w,b w->y g w->z h w->A i w->ai s w->B j w->C k w->aj t w->U4 P .append [T.l,T.l] T.l [false,false] [s,t] w fun ad w=>fieldAddr P T.p c 1 w fun ae w=>U8 P T.l ae ad w fun _u w=>V1 32 p w e) (dr w fun d b=>Y5 d b (fieldAddr P T.a a 2) fun E=>Y5 d b (buildSlice P T.g 0 []) fun D=>X5 d b E (fun m=>Q7 P T.g m) fun H=>N2 d b D H (fun l n=>U4 P .append [T.g,T.g] T.g [false,false] [l,n]) fun ak=>Y5 d b (Q7 P T.p c) fun J=>X5 d b J (fun o=>buildSlice P T.g 1 [(0,o)]) fun al=> ∀m l n u o v w,b w->E m w->D l w->H n w->ak u w->J o w->al v w->U4 P .append [T.g,T.g] T.g [false,false] [u,v] w fun af w=>fieldAddr P T.a a 2 w fun ag w=>U8 P T.g ag af w fun _u w=>Q7 P T.a a w fun ah w=>U8 P T.a q ah w fun _u w=>J4 P T.a q w fun r=>K (.tuple #[r,(.int .i64 0)]) w)))
theorem Q0H (h:Ea a0 a1 w K):Q0 P F.bA [a0,a1] w K:=zr Q0w Tryz.func76 h
def Q1z:W5:=Y0 13++[some ([9],[9,41,42,43,44,45,46,47,48,49,50,51,52])]++Y0 5
def Rb:Yn:=fun a0 q E w K=>box P T.a a0 w fun a w=>Qa P T.a w fun i w=>J9 .eql T.b 10 q #[110,117,108,108] w fun g w=>J1 g false w T.a T.i a 0 fun H w=>X8 g false q w fun J w=>Q1 g false w (Q0 P F.a4 [H,J]) fun L w=>Q1 g false w (W2 P .not L) fun M w=>pick P g (.bool true) M w fun h w=>X8 h false q w fun N w=>Q1 h false w (Q0 P F.a3 [N]) fun O w=>Q1 h false w (X2 .gtr T.e 21 O 2) fun Q w=>pick P h (.bool true) Q w fun R w=>X0 R (Q7 P T.a a w fun U w=>U8 P T.a i U w fun _u w=>J4 P T.a i w fun j=>K (.tuple #[j,(.int .i64 91)]) w) (X2 .lss T.a1 25 E 0 w fun V w=>X0 V (Q7 P T.a a w fun W w=>U8 P T.a i W w fun _u w=>J4 P T.a i w fun j=>K (.tuple #[j,(.int .i64 93)]) w) (X2 .gtr T.a1 28 E 1048576 w fun d w=>X8 d false E w fun X w=>Q1 d false w (Z2 P .add T.e (.const (.int .i64 1)) (.tmp 31) (.int .i64 1) X) fun Y w=>Q1 d false w (Q7 P T.a a) fun Z w=>Q1 d false w (Q0 P F.b5 [Z]) fun aa w=>Q1 d false w (X1 .gtr T.e 32 34 Y aa) fun ab w=>pick P d (.bool true) ab w fun ac w=>X0 ac (Q7 P T.a a w fun ad w=>U8 P T.a i ad w fun _u w=>J4 P T.a i w fun j=>K (.tuple #[j,(.int .i64 90)]) w) (J9 .add T.b 38 q #[91,93] w fun ae w=>B6 P T.p [(0,ae)] w fun af w=>L9 T.p af w fun b w=>lp (α:=Value) (.int .i64 0) w fun f v d_ w=>X1 .lss T.a1 41 42 v E w fun ag w=>X0 ag (dr w fun e c=>Y5 e c (fieldAddr P T.p b 1) fun y=>X5 e c y (fun k=>Q7 P T.l k) fun an=>Y5 e c (Q0 P F.b6 [q]) fun z=>X5 e c z (fun l=>buildSlice P T.l 1 [(0,l)]) fun ao=> ∀k r l s w,c w->y k w->an r w->z l w->ao s w->U4 P .append [T.l,T.l] T.l [false,false] [r,s] w fun ai w=>fieldAddr P T.p b 1 w fun aj w=>U8 P T.l aj ai w fun _u w=>X2 .add T.a1 44 v 1 w fun ah w=>f ah w) (dr w fun e c=>Y5 e c (fieldAddr P T.a a 2) fun B=>Y5 e c (buildSlice P T.g 0 []) fun A=>X5 e c B (fun n=>Q7 P T.g n) fun C=>N2 e c A C (fun m o=>U4 P .append [T.g,T.g] T.g [false,false] [m,o]) fun ap=>Y5 e c (Q7 P T.p b) fun D=>X5 e c D (fun p=>buildSlice P T.g 1 [(0,p)]) fun aq=> ∀n m o t p u w,c w->B n w->A m w->C o w->ap t w->D p w->aq u w->U4 P .append [T.g,T.g] T.g [false,false] [t,u] w fun ak w=>fieldAddr P T.a a 2 w fun al w=>U8 P T.g al ak w fun _u w=>Q7 P T.a a w fun am w=>U8 P T.a i am w fun _u w=>J4 P T.a i w fun j=>K (.tuple #[j,(.int .i64 0)]) w))))
theorem Q2g (h:Rb a0 a1 a2 w K):Q0 P F.bT [a0,a1,a2] w K:=zr Q1z Tryz.func77 h
def Q8Y:D6:=fun b w K=>Q0 P F.a2 [b] w fun f w=>W2 P .not f w fun a w=>X8 a false b w fun g w=>Q1 a false w (Q0 P F.d2 [g]) fun h w=>Q1 a false w (X2 .eql T.e 9 h 3) fun c w=>pick P a (.bool true) c w fun d w=>X0 d (K (.tuple #[(.string ⟨#[]⟩),(.int .i64 30)]) w) (J9 .add T.b 12 b #[91,93] w fun e w=>K (.tuple #[e,(.int .i64 0)]) w)
theorem X5P (h:Q8Y a0 w K):Q0 P F.dz [a0] w K:=zr (Y0 5) Tryz.func140 h
def Q2O:W5:=Y0 12++[some ([45],[11,45,46,47,48,49,50,51,52,53])]++Y0 5
def Sh:Yn:=fun h f g w K=>Q0 P F.dz [f] w fun i w=>D0 i w fun j k w=>X2 .neq T.w 18 k 0 w fun a w=>X8 a false h w fun l w=>Q1 a false w (nilCheck P l) fun m w=>J1 a false w T.t T.z m 0 fun n w=>X8 a false f w fun o w=>Q1 a false w (Q0 P F.ae [n,o]) fun p w=>Q1 a false w (W2 P .not p) fun q w=>pick P a (.bool true) q w fun c w=>X8 c false f w fun r w=>Q1 c false w (J9 .eql T.b 30 r #[110,117,108,108]) fun s w=>pick P c (.bool true) s w fun t w=>X0 t (K (.tuple #[(.int .i64 0),(.int .i64 91)]) w) (X2 .lss T.a1 34 g 0 w fun u w=>X0 u (K (.tuple #[(.int .i64 0),(.int .i64 93)]) w) (Q0 P F.aE [h] w fun v w=>X1 .geq T.a1 37 39 g v w fun y w=>X0 y (K (.tuple #[(.int .i64 0),(.int .i64 90)]) w) (Cx P T.l g g w fun d w=>X4 T.l d w fun z w=>lp (α:=Value) (.int .i64 0) w fun b e J w=>X1 .lss T.e 45 44 e z w fun A w=>X0 A (Q0 P F.d1 [f] w fun B w=>indexAddr P T.l d e w fun C w=>U8 P T.f C B w fun _u w=>V1 45 e w b) (Q0 P F.bi [h,j,d] w fun D w=>D0 D w fun E H w=>K (.tuple #[E,H]) w))))
theorem Q35 (h:Sh a0 a1 a2 w K):Q0 P F.bZ [a0,a1,a2] w K:=zr Q2O Tryz.func78 h
def Rc:Yn:=fun s d r w K=>box P T.a s w fun b w=>X2 .lss T.e 7 d 0 w fun c w=>X8 c false d w fun e w=>J1 c false w T.a T.g b 2 fun f w=>Q1 c false w (X4 T.g f) fun g w=>Q1 c false w (X1 .geq T.e 10 13 e g) fun h w=>pick P c (.bool true) h w fun i w=>X0 i (K (.int .i64 92) w) (X2 .lss T.a1 16 r 0 w fun a w=>X8 a false r w fun j w=>J1 a false w T.a T.g b 2 fun k w=>X8 a false d w fun l w=>Q1 a false w (indexAddr P T.g k l) fun m w=>J1 a false w T.p T.l m 1 fun n w=>Q1 a false w (X4 T.l n) fun o w=>Q1 a false w (X1 .geq T.a1 19 26 j o) fun p w=>pick P a (.bool true) p w fun q w=>X0 q (K (.int .i64 93) w) (K (.int .i64 0) w))
theorem Q2h (h:Rc a0 a1 a2 w K):Q0 P F.aS [a0,a1,a2] w K:=zr (Y0 8) Tryz.func141 h
def Q5B:W5:=[none,none,some ([],[4,14,15,16,17,18,19,20,21,22,23,24,25,26,27,28,29,30,31,32,33,34,35,36,37,38,39,40,41,42,43,44,45,46,47,48,49,50,51,52,53,54,55,56,57,58,59,60,61,62,63,64,65,66,67,68,69,70,71,72,73,74,75,76,77,78,79,80,81,82,83,84,85,86,87,88,89,90])]++Y0 17
def Gu:V9:=fun a0 a1 w K=>box P T.a a0 w fun t2 w=>box P T.f a1 w fun b w=>X6 T.f T.e b 3 w fun t7 w=>X2 .eql T.e 7 t7 0 w fun Z w=>J1 Z true w T.f T.b b 2 fun l w=>Q1 Z true w (J9 .eql T.b 11 l #[]) fun m w=>pick P Z m (.bool false) w fun a w=>jn (α:=Unit) w (fun k w=>X6 T.f T.e b 0 w fun c w=>X2 .eql T.e 15 c 0 w fun n w=>X0 n (J1 a true w T.f T.a1 b 1 fun o w=>Q1 a true w (X2 .eql T.a1 21 o 0) fun p w=>pick P a p (.bool false) w fun q w=>X0 q (K (.string ⟨#[110,117,108,108]⟩) w) (k () w)) (X2 .eql T.e 15 c 1 w fun r w=>X0 r (X0 a (K (.string ⟨#[105,110,116]⟩) w) (k () w)) (X2 .eql T.e 15 c 2 w fun s w=>X0 s (J1 a true w T.f T.a1 b 1 fun t w=>Q1 a true w (X2 .eql T.a1 32 t 0) fun u w=>X8 a true u w fun f w=>J1 f false w T.f T.a1 b 1 fun v w=>Q1 f false w (X2 .eql T.a1 36 v 1) fun y w=>Q1 a true w (pick P f (.bool true) y) fun z w=>pick P a z (.bool false) w fun A w=>X0 A (K (.string ⟨#[98,111,111,108]⟩) w) (k () w)) (X2 .eql T.e 15 c 3 w fun B w=>X0 B (X6 T.f T.a1 b 1 w fun C w=>X2 .eql T.a1 43 C 0 w fun g w=>J1 g true w T.f T.e b 3 fun D w=>Q1 g true w (X2 .eql T.e 47 D 0) fun E w=>pick P g E (.bool false) w fun e w=>J1 e true w T.f T.b b 2 fun H w=>Q1 e true w (X4 T.b H) fun J w=>Q1 e true w (X2 .leq T.e 53 J 4096) fun L w=>pick P e L (.bool false) w fun h w=>J1 h true w T.f T.b b 2 fun M w=>Q1 h true w (Q0 P F.aQ [M]) fun N w=>pick P h N (.bool false) w fun O w=>X0 O (K (.string ⟨#[116,101,120,116]⟩) w) (k () w)) (X2 .eql T.e 15 c 4 w fun Q w=>X0 Q (X6 T.f T.a1 b 1 w fun R w=>X2 .eql T.a1 64 R 0 w fun i w=>J1 i true w T.f T.b b 2 fun U w=>Q1 i true w (J9 .eql T.b 68 U #[]) fun V w=>pick P i V (.bool false) w fun j w=>J1 j true w T.f T.e b 3 fun W w=>Q1 j true w (X2 .geq T.e 73 W 0) fun X w=>pick P j X (.bool false) w fun d w=>J1 d true w T.f T.e b 3 fun Y w=>J1 d true w T.a T.g t2 2 fun aa w=>Q1 d true w (X4 T.g aa) fun ab w=>Q1 d true w (X1 .lss T.e 78 81 Y ab) fun ac w=>pick P d ac (.bool false) w fun ad w=>X0 ad (X6 T.a T.g t2 2 w fun ae w=>X6 T.f T.e b 3 w fun af w=>indexAddr P T.g ae af w fun ag w=>X6 T.p T.b ag 0 w fun ah w=>K ah w) (k () w)) (k () w)))))) fun z2 d_ w=>K (.string ⟨#[]⟩) w
theorem Q5J (h:Gu a0 a1 w K):Q0 P F.bq [a0,a1] w K:=zr Q5B Tryz.func21 h
def Fi:Yn:=fun k e f w K=>Q0 P F.a4 [k,e] w fun n w=>W2 P .not n w fun b w=>X8 b false k w fun o w=>X8 b false f w fun p w=>Q1 b false w (Q0 P F.a4 [o,p]) fun q w=>Q1 b false w (W2 P .not q) fun r w=>pick P b (.bool true) r w fun c w=>X8 c false e w fun s w=>X8 c false f w fun t w=>Q1 c false w (X1 .eql T.b 20 21 s t) fun u w=>pick P c (.bool true) u w fun v w=>X0 v (X1 .eql T.b 24 25 e f w fun d w=>X8 d true k w fun y w=>X8 d true e w fun z w=>Q1 d true w (Q0 P F.a4 [y,z]) fun A w=>pick P d A (.bool false) w fun B w=>K B w) (Q0 P F.a0 [e] w fun g w=>X8 g false f w fun C w=>Q1 g false w (Q0 P F.a0 [C]) fun D w=>pick P g (.bool true) D w fun h w=>X8 h false f w fun E w=>Q1 h false w (J9 .eql T.b 39 E #[110,117,108,108]) fun H w=>pick P h (.bool true) H w fun J w=>X0 J (K (.bool false) w) (J9 .eql T.b 42 e #[110,117,108,108] w fun i w=>X8 i false f w fun L w=>Q1 i false w (J9 .eql T.b 45 L #[79,98,106,101,99,116]) fun M w=>pick P i (.bool true) M w fun N w=>X0 N (K (.bool true) w) (Q0 P F.b [k,e] w fun l w=>Q0 P F.b [k,f] w fun m w=>X2 .geq T.e 54 l 0 w fun j w=>X8 j true m w fun O w=>Q1 j true w (X2 .geq T.e 57 O 0) fun Q w=>pick P j Q (.bool false) w fun a w=>X8 a true k w fun R w=>Q1 a true w (Q0 P F.an [R]) fun U w=>X8 a true l w fun V w=>zhi a true w T.af T.ab U V fun W w=>X8 a true m w fun X w=>zhi a true w T.ab T.s W X fun Y w=>pick P a Y (.bool false) w fun Z w=>K Z w)))
theorem Q4J (h:Fi a0 a1 a2 w K):Q0 P F.cm [a0,a1,a2] w K:=zr (Y0 12) Tryz.func195 h
def Ce:Yn:=fun j k l w K=>box P T.a j w fun b w=>box P T.f k w fun c w=>Q7 P T.a b w fun m w=>Q7 P T.f c w fun n w=>Q0 P F.bq [m,n] w fun d w=>J9 .neq T.b 11 d #[] w fun a w=>J1 a true w T.a T.i b 0 fun e w=>X8 a true d w fun f w=>X8 a true l w fun g w=>Q1 a true w (Q0 P F.cm [e,f,g]) fun h w=>pick P a h (.bool false) w fun i w=>K i w
theorem Q3r (h:Ce a0 a1 a2 w K):Q0 P F.c5 [a0,a1,a2] w K:=zr (Y0 3) Tryz.func142 h
def Sx:D6:=fun d w K=>X4 T.b d w fun r w=>X2 .lss T.e 6 r 3 w fun c w=>X8 c false d w fun s w=>X8 c false r w fun e w=>Q1 c false w (X2 .sub T.e 10 e 2) fun f w=>Q1 c false w (I7 P T.b s (some f) none none) fun g w=>Q1 c false w (J9 .neq T.b 12 g #[91,93]) fun h w=>pick P c (.bool true) h w fun a w=>X8 a false d w fun i w=>Q1 a false w (Q0 P F.a3 [i]) fun j w=>Q1 a false w (X2 .gtr T.e 17 j 3) fun k w=>pick P a (.bool true) k w fun b w=>X8 b false d w fun l w=>Q1 b false w (Q0 P F.f [l]) fun m w=>Q1 b false w (W2 P .not m) fun n w=>pick P b (.bool true) n w fun o w=>X0 o (K (.string ⟨#[]⟩) w) (X2 .sub T.e 26 r 2 w fun p w=>I7 P T.b d none (some p) none w fun q w=>K q w)
theorem Q3k (h:Sx a0 w K):Q0 P F.aw [a0] w K:=zr (Y0 6) Tryz.func47 h
def Ch:Yn:=fun j k l w K=>box P T.a j w fun b w=>box P T.p k w fun a w=>X6 T.p T.b a 0 w fun m w=>Q0 P F.aw [m] w fun c w=>J9 .neq T.b 11 c #[] w fun d w=>X0 d (K c w) (X6 T.a T.i b 0 w fun e w=>X6 T.p T.b a 0 w fun f w=>Q0 P F.m [e,f] w fun g w=>indexAddr P T.j g l w fun h w=>X6 T.m T.b h 1 w fun i w=>K i w)
theorem Q3u (h:Ch a0 a1 a2 w K):Q0 P F.c6 [a0,a1,a2] w K:=zr (Y0 6) Tryz.func143 h
def Fp:zV4:=fun a0 y z a3 w K=>box P T.a a0 w fun a w=>box P T.f a3 w fun b w=>Qa P T.a w fun k w=>Q7 P T.a a w fun A w=>Q0 P F.aS [A,y,z] w fun m w=>X2 .neq T.w 17 m 0 w fun B w=>X0 B (Q7 P T.a a w fun C w=>U8 P T.a k C w fun _u w=>J4 P T.a k w fun l=>K (.tuple #[l,m]) w) (dr w fun d c=>Y5 d c (fieldAddr P T.a a 2) fun s=>Y5 d c (Q7 P T.a a) fun Y=>Y5 d c (Q7 P T.f b) fun Z=>Y5 d c (Q7 P T.a a) fun r=>X5 d c s (fun f=>Q7 P T.g f) fun t=>X5 d c t (fun g=>indexAddr P T.g g y) fun u=>X5 d c u (fun h=>Q7 P T.p h) fun v=>N2 d c r v (fun e i=>Q0 P F.c6 [e,i,z]) fun aa=> ∀f n o e g h i p w,c w->s f w->Y n w->Z o w->r e w->t g w->u h w->v i w->aa p w->Q0 P F.c5 [n,o,p] w fun D w=>W2 P .not D w fun E w=>X0 E (Q7 P T.a a w fun H w=>U8 P T.a k H w fun _u w=>J4 P T.a k w fun l=>K (.tuple #[l,(.int .i64 91)]) w) (buildSlice P T.g 0 [] w fun J w=>X6 T.a T.g a 2 w fun L w=>U4 P .append [T.g,T.g] T.g [false,false] [J,L] w fun j w=>buildSlice P T.l 0 [] w fun M w=>indexAddr P T.g j y w fun N w=>X6 T.p T.l N 1 w fun O w=>U4 P .append [T.l,T.l] T.l [false,false] [M,O] w fun q w=>Q7 P T.f b w fun Q w=>indexAddr P T.l q z w fun R w=>U8 P T.f R Q w fun _u w=>indexAddr P T.g j y w fun U w=>fieldAddr P T.p U 1 w fun V w=>U8 P T.l V q w fun _u w=>fieldAddr P T.a a 2 w fun W w=>U8 P T.g W j w fun _u w=>Q7 P T.a a w fun X w=>U8 P T.a k X w fun _u w=>J4 P T.a k w fun l=>K (.tuple #[l,(.int .i64 0)]) w))
theorem Q4P (h:Fp a0 a1 a2 a3 w K):Q0 P F.cq [a0,a1,a2,a3] w K:=zr (Y0 14) Tryz.func79 h
def Ey:V9:=fun b c w K=>box P T.c b w fun a w=>X6 T.c T.b a 0 w fun d w=>Q7 P T.b c w fun e w=>X1 .eql T.b 5 6 d e w fun f w=>K f w
theorem Q1P (h:Ey a0 a1 w K):Q0 P F.bF [a0,a1] w K:=zr (Y0 2) Tryz.func225 h
def Bz:Yn:=fun e d z w K=>box P T.b z w fun a w=>Q0 P F.ae [e,d] w fun f w=>W2 P .not f w fun b w=>X8 b false e w fun g w=>Q1 b false w (Q7 P T.b a) fun h w=>Q1 b false w (Q0 P F.ae [g,h]) fun i w=>Q1 b false w (W2 P .not i) fun j w=>pick P b (.bool true) j w fun k w=>X0 k (K (.bool false) w) (Q7 P T.b a w fun l w=>X1 .eql T.b 19 20 d l w fun m w=>X0 m (K (.bool true) w) (Q0 P F.aW [d] w fun c w=>Q1 c false w (Q7 P T.b a) fun n w=>Q1 c false w (Q0 P F.aW [n]) fun o w=>pick P c (.bool true) o w fun p w=>X0 p (K (.bool false) w) (J9 .eql T.b 30 d #[110,117,108,108] w fun q w=>X0 q (K (.bool true) w) (Q0 P F.bJ [d] w fun r w=>J9 .neq T.b 34 r #[] w fun s w=>X0 s (Q7 P T.b a w fun t w=>J9 .eql T.b 36 t #[79,98,106,101,99,116] w fun u w=>K u w) (S1 P (.func F.bF) [] [a] w fun v w=>Q0 P F.z [e,d,v] w fun y w=>K y w)))))
theorem Q4B (h:Bz a0 a1 a2 w K):Q0 P F.ce [a0,a1,a2] w K:=zr (Y0 13) Tryz.func196 h
def Bu:Yn:=fun k l m w K=>box P T.f l w fun b w=>Q7 P T.f b w fun n w=>Q0 P F.bB [k,n] w fun c w=>J9 .neq T.b 11 c #[] w fun a w=>X8 a true k w fun d w=>Q1 a true w (nilCheck P d) fun e w=>J1 a true w T.t T.z e 0 fun f w=>X8 a true c w fun g w=>X8 a true m w fun h w=>Q1 a true w (Q0 P F.ce [f,g,h]) fun i w=>pick P a i (.bool false) w fun j w=>K j w
theorem Q4w (h:Bu a0 a1 a2 w K):Q0 P F.cc [a0,a1,a2] w K:=zr (Y0 3) Tryz.func145 h
def By:Yn:=fun s t u w K=>box P T.p t w fun a w=>X6 T.p T.b a 0 w fun v w=>Q0 P F.bJ [v] w fun g w=>J9 .neq T.b 11 g #[] w fun m w=>X0 m (K g w) (dr w fun f e=>Y5 f e (nilCheck P s) fun j=>X5 f e j (fun b=>fieldAddr P T.t b 0) fun k=>Y5 f e (fieldAddr P T.p a 0) fun l=>X5 f e k (fun c=>Q7 P T.z c) fun q=>X5 f e l (fun d=>Q7 P T.b d) fun r=> ∀b c d h i w,e w->j b w->k c w->l d w->q h w->r i w->Q0 P F.a5 [h,i] w fun n w=>indexAddr P T.j n u w fun o w=>X6 T.m T.b o 1 w fun p w=>K p w)
theorem Q4A (h:By a0 a1 a2 w K):Q0 P F.cd [a0,a1,a2] w K:=zr (Y0 6) Tryz.func146 h
def Gq:zV4:=fun n H J W w K=>box P T.f W w fun c w=>Q0 P F.aY [n,H,J] w fun o w=>X2 .neq T.w 14 o 0 w fun L w=>X0 L (K o w) (dr w fun b a=>Y5 b a (nilCheck P n) fun t=>X5 b a t (fun d=>fieldAddr P T.t d 3) fun u=>Y5 b a (Q7 P T.f c) fun Q=>X5 b a u (fun e=>Q7 P T.g e) fun v=>X5 b a v (fun f=>indexAddr P T.g f H) fun y=>X5 b a y (fun g=>Q7 P T.p g) fun z=>X5 b a z (fun h=>Q0 P F.cd [n,h,J]) fun R=> ∀d e p f g h q w,a w->t d w->u e w->Q p w->v f w->y g w->z h w->R q w->Q0 P F.cc [n,p,q] w fun M w=>W2 P .not M w fun N w=>X0 N (K (.int .i64 91) w) (dr w fun b a=>Y5 b a (nilCheck P n) fun A=>X5 b a A (fun i=>fieldAddr P T.t i 3) fun B=>X5 b a B (fun j=>Q7 P T.g j) fun C=>X5 b a C (fun k=>indexAddr P T.g k H) fun D=>X5 b a D (fun l=>fieldAddr P T.p l 1) fun E=>X5 b a E (fun m=>Q7 P T.l m) fun U=>Y5 b a (Q7 P T.f c) fun V=> ∀i j k l m r s w,a w->A i w->B j w->C k w->D l w->E m w->U r w->V s w->indexAddr P T.l r J w fun O w=>U8 P T.f O s w fun _u w=>K (.int .i64 0) w))
theorem Q5F (h:Gq a0 a1 a2 a3 w K):Q0 P F.bh [a0,a1,a2,a3] w K:=zr (Y0 10) Tryz.func80 h
def Fo:Yn:=fun m k l w K=>box P T.a m w fun a w=>Qa P T.f w fun c w=>Q7 P T.a a w fun n w=>Q0 P F.aS [n,k,l] w fun b w=>X2 .neq T.w 13 b 0 w fun e w=>X0 e (B6 P T.f [] w fun f w=>U8 P T.f c f w fun _u w=>J4 P T.f c w fun d=>K (.tuple #[d,b]) w) (X6 T.a T.g a 2 w fun g w=>indexAddr P T.g g k w fun h w=>X6 T.p T.l h 1 w fun i w=>J3 T.l T.f i l w fun j w=>U8 P T.f c j w fun _u w=>J4 P T.f c w fun d=>K (.tuple #[d,(.int .i64 0)]) w)
theorem Q4O (h:Fo a0 a1 a2 w K):Q0 P F.cp [a0,a1,a2] w K:=zr (Y0 6) Tryz.func81 h
def Si:V9:=fun f g w K=>box P T.f f w fun a w=>X6 T.f T.e a 0 w fun h w=>X2 .eql T.e 5 h 4 w fun b w=>J1 b true w T.f T.e a 3 fun i w=>Q1 b true w (Q7 P T.e g) fun c w=>Q1 b true w (X1 .geq T.e 9 10 i c) fun d w=>pick P b d (.bool false) w fun e w=>K e w
theorem Q36 (h:Si a0 a1 w K):Q0 P F.c0 [a0,a1] w K:=zr (Y0 2) Tryz.func147 h
def Q5A:W5:=[none,none,none,none,some ([22],[5,22,23,24,25,26,27,28,29,30])]++Y0 5++[some ([],[6,31,32,33,34,35,36,37,38,39,40,41,42,43,44,45,46,47,48,49,50,51,52,53,54,55,56,57,58,59,60,61,62,63,64,65,66,67,68,69]),none,none,none,none]
def Gn:V9:=fun d a1 w K=>box P T.e a1 w fun D w=>Q7 P T.e D w fun t7 w=>U4 P .max [T.e,T.e] T.e [false,true] [t7,(.int .i64 0)] w fun t8 w=>U8 P T.e D t8 w fun _u w=>dr w fun b a=>Y5 b a (nilCheck P d) fun N=>X5 b a N (fun f=>fieldAddr P T.t f 3) fun O=>Y5 b a (nilCheck P d) fun R=>X5 b a R (fun i=>fieldAddr P T.t i 3) fun U=>X5 b a O (fun g=>Q7 P T.g g) fun a7=>Y5 b a (Q7 P T.e D) fun Q=>X5 b a U (fun j=>Q7 P T.g j) fun V=>X5 b a V (fun k=>X4 T.g k) fun W=>N2 b a Q W (fun h l=>U4 P .min [T.e,T.e] T.e [false,false] [h,l]) fun a8=> ∀f g i j A h k l B w,a w->N f w->O g w->R i w->U j w->a7 A w->Q h w->V k w->W l w->a8 B w->I7 P T.g A none (some B) none w fun C w=>X4 T.g C w fun aj w=>lp (α:=Value) (.int .i64 0) w fun e x4 d_ w=>X1 .lss T.e 22 21 x4 aj w fun ak w=>X0 ak (J3 T.g T.p C x4 w fun al w=>L9 T.p al w fun t5 w=>X6 T.p T.l t5 1 w fun am w=>S1 P (.func F.c0) [] [D] w fun an w=>Q0 P F.h [am,an] w fun ao w=>X0 ao (K (.tuple #[]) w) (V1 22 x4 w e)) (lp (α:=Unit) () w fun c bi d_ w=>dr w fun b a=>Y5 b a (nilCheck P d) fun X=>X5 b a X (fun m=>fieldAddr P T.t m 3) fun Y=>X5 b a Y (fun n=>Q7 P T.g n) fun Z=>X5 b a Z (fun o=>X4 T.g o) fun a9=>Y5 b a (Q7 P T.e D) fun ba=> ∀m n o E H w,a w->X m w->Y n w->Z o w->a9 E w->ba H w->X1 .gtr T.e 35 36 E H w fun ap w=>X0 ap (nilCheck P d w fun aq w=>X6 T.t T.g aq 3 w fun ar w=>X4 T.g ar w fun av w=>X2 .sub T.e 42 av 1 w fun J w=>dr w fun b a=>Y5 b a (nilCheck P d) fun aa=>X5 b a aa (fun p=>fieldAddr P T.t p 2) fun ab=>Y5 b a (nilCheck P d) fun ac=>X5 b a ac (fun r=>fieldAddr P T.t r 3) fun ad=>X5 b a ab (fun q=>Q7 P T.e q) fun bb=>X5 b a ad (fun s=>Q7 P T.g s) fun ae=>X5 b a ae (fun t=>indexAddr P T.g t J) fun af=>X5 b a af (fun u=>fieldAddr P T.p u 1) fun ag=>X5 b a ag (fun v=>Q7 P T.l v) fun ah=>X5 b a ah (fun y=>X4 T.l y) fun ai=>X5 b a ai (fun z=>Z2 P .add T.e (.const (.int .i64 1)) (.tmp 56) (.int .i64 1) z) fun bc=> ∀p q r s L t u v y z M w,a w->aa p w->ab q w->ac r w->ad s w->bb L w->ae t w->af u w->ag v w->ah y w->ai z w->bc M w->X1 .sub T.e 47 57 L M w fun aw w=>nilCheck P d w fun ax w=>fieldAddr P T.t ax 2 w fun ay w=>U8 P T.e ay aw w fun _u w=>nilCheck P d w fun az w=>X6 T.t T.g az 3 w fun a2 w=>I7 P T.g a2 none (some J) none w fun a3 w=>nilCheck P d w fun a4 w=>fieldAddr P T.t a4 3 w fun a5 w=>U8 P T.g a5 a3 w fun _u w=>c () w) (K (.tuple #[]) w))
theorem Q5D (h:Gn a0 a1 w K):Q0 P F.cw [a0,a1] w K:=zr Q5A Tryz.func83 h
def Q4s:W5:=[none,some ([1],[1,8,9]),none,none,none,some ([5],[5,6,7,10,11,12,13,14,15,16,17,18,19,20,21,22,23,24,25,26,27,28,29,30,31,32,33,34,35,36,37,38,39,40,41,42,43,44,45,46,47,48,49,50,51]),none,none,none,none,some ([6],[6,7,22,23,24,25,26,27,28,29,30,31,32,33,34,35,36,37,38,39,40,41,42,43,44,45,46,47,48,49,50,51])]++Y0 6++[some ([],[52,53,54,55,56,57,58,59,60,61,62,63]),none,none]
def Fl:V9:=fun a0 Z w K=>box P T.a a0 w fun e w=>Qa P T.a w fun i w=>jn (α:=Value) w (fun Y w=>X2 .lss T.e 8 Z 0 w fun t9 w=>X0 t9 (Y (.int .i64 0) w) (Y Z w)) fun j k w=>lp (α:=Value) (.int .i64 0) w fun c h k w=>X1 .lss T.e 10 11 h j w fun b w=>X8 b true h w fun m w=>J1 b true w T.a T.g e 2 fun n w=>Q1 b true w (X4 T.g n) fun o w=>Q1 b true w (X1 .lss T.e 14 17 m o) fun p w=>pick P b p (.bool false) w fun q w=>X0 q (lp (α:=Value) (.int .i64 0) w fun a f k w=>X6 T.a T.g e 2 w fun r w=>indexAddr P T.g r h w fun s w=>X6 T.p T.l s 1 w fun t w=>X4 T.l t w fun u w=>X1 .lss T.e 22 29 f u w fun v w=>X0 v (X6 T.a T.g e 2 w fun y w=>indexAddr P T.g y h w fun z w=>X6 T.p T.l z 1 w fun A w=>J3 T.l T.f A f w fun B w=>L9 T.f B w fun t7 w=>X6 T.f T.e t7 0 w fun C w=>X2 .eql T.e 43 C 4 w fun d w=>J1 d true w T.f T.e t7 3 fun D w=>X8 d true j w fun E w=>Q1 d true w (X1 .geq T.e 47 48 D E) fun H w=>pick P d H (.bool false) w fun J w=>X0 J (Q7 P T.a e w fun L w=>U8 P T.a i L w fun _u w=>J4 P T.a i w fun l=>K l w) (V1 31 f w a)) (V1 20 h w c)) (jn (α:=Unit) w (fun g w=>X6 T.a T.g e 2 w fun M w=>X4 T.g M w fun N w=>X1 .lss T.e 52 55 j N w fun O w=>X0 O (buildSlice P T.g 0 [] w fun Q w=>X6 T.a T.g e 2 w fun R w=>I7 P T.g R none (some j) none w fun U w=>U4 P .append [T.g,T.g] T.g [false,false] [Q,U] w fun V w=>fieldAddr P T.a e 2 w fun W w=>U8 P T.g W V w fun _u w=>g () w) (g () w)) fun ad k w=>Q7 P T.a e w fun X w=>U8 P T.a i X w fun _u w=>J4 P T.a i w fun l=>K l w)
theorem Q4M (h:Fl a0 a1 w K):Q0 P F.cn [a0,a1] w K:=zr Q4s Tryz.func84 h
def Gt:Yn:=fun a0 a1 a2 w K=>box P T.a a1 w fun t4 w=>box P T.n a2 w fun m w=>Qa P T.a w fun A w=>X6 T.n T.e m 0 w fun ab w=>X2 .eql T.e 23 ab 0 w fun du w=>X0 du (Q7 P T.a t4 w fun dv w=>X6 T.n T.b m 1 w fun dw w=>Q0 P F.bA [dv,dw] w fun dx w=>D0 dx w fun dy a8 w=>L9 T.a dy w fun t8 w=>X6 T.n T.b m 1 w fun dz w=>Q0 P F.aK [a0,dz] w fun d0 w=>D0 d0 w fun cs d1 w=>dr w fun b a=>Y5 b a (X1 .eql T.w 41 42 a8 d1) fun o=>X5 b a o (fun c=>W9 c (fun w J=>J a8 w)) fun cz=>N2 b a o cz (fun c a9=>W9 c (X2 .neq T.w 45 a9 0)) fun c0=>N2 b a o c0 (fun c ba=>W9 c (fun w J=>J ba w)) fun ae=>X5 b a ae (fun q=>W9 q (fun w J=>J cs w)) fun c1=>N2 b a ae c1 (fun q bb=>W9 q (X2 .eql T.e 48 bb 0)) fun c2=>Jn b a o ae c2 (fun c q bc=>W9 c (pick P q bc (.bool false))) fun c3=>N2 b a o c3 (fun c bd=>W9 c (fun w J=>J bd w)) fun y=>X5 b a y (fun h=>Se h (fun w J=>J a8 w)) fun c4=>N2 b a y c4 (fun h be=>Se h (X2 .eql T.w 52 be 0)) fun c5=>N2 b a y c5 (fun h bf=>Se h (fun w J=>J bf w)) fun s=>X5 b a s (fun f=>W9 f (fun w J=>J cs w)) fun c6=>X5 b a s (fun f=>W9 f (fieldAddr P T.a t4 2)) fun c7=>Y5 b a (Q7 P T.a t8) fun cy=>N2 b a s c7 (fun f bh=>W9 f (Q7 P T.g bh)) fun c8=>N2 b a s c8 (fun f bi=>W9 f (X4 T.g bi)) fun c9=>Jn b a s c6 c9 (fun f bg bj=>W9 f (X1 .eql T.e 55 58 bg bj)) fun da=>Jn b a y s da (fun h f bk=>Se h (pick P f bk (.bool false))) fun db=>Jn b a o y db (fun c h bl=>W9 c (pick P h (.bool true) bl)) fun dc=>N2 b a o dc (fun c bm=>pick P c bm (.bool false)) fun ed=>Ko b (fun j=> ∀u w,a w->cy u w->U8 P T.a A u w (dk b (j [u]) w)) fun j=> ∀c a9 ba q bb bc bd h be bf f bg bh u bi bj bk bl bm ct bz w,a w->o c w->cz a9 w->c0 ba w->ae q w->c1 bb w->c2 bc w->c3 bd w->y h w->c4 be w->c5 bf w->s f w->c6 bg w->c7 bh w->cy u w->c8 bi w->c9 bj w->da bk w->db bl w->dc bm w->ed ct w->j [u] bz w->J4 P T.a A w fun B=>K (.tuple #[B,ct]) w) (X2 .eql T.e 23 ab 1 w fun d2 w=>X0 d2 (Q7 P T.a t4 w fun d3 w=>X6 T.n T.b m 1 w fun d4 w=>X6 T.n T.a1 m 2 w fun d5 w=>Q0 P F.bT [d3,d4,d5] w fun d6 w=>D0 d6 w fun d7 bn w=>L9 T.a d7 w fun dp w=>X6 T.n T.b m 1 w fun d8 w=>X6 T.n T.a1 m 2 w fun d9 w=>Q0 P F.bZ [a0,d8,d9] w fun ea w=>D0 ea w fun cu eb w=>dr w fun b a=>Y5 b a (X1 .eql T.w 84 85 bn eb) fun p=>X5 b a p (fun d=>W9 d (fun w J=>J bn w)) fun de=>N2 b a p de (fun d bo=>W9 d (X2 .neq T.w 88 bo 0)) fun df=>N2 b a p df (fun d bp=>W9 d (fun w J=>J bp w)) fun af=>X5 b a af (fun r=>W9 r (fun w J=>J cu w)) fun dg=>N2 b a af dg (fun r bq=>W9 r (X2 .eql T.e 91 bq 0)) fun dh=>Jn b a p af dh (fun d r br=>W9 d (pick P r br (.bool false))) fun di=>N2 b a p di (fun d bs=>W9 d (fun w J=>J bs w)) fun z=>X5 b a z (fun i=>Se i (fun w J=>J bn w)) fun dj=>N2 b a z dj (fun i bu=>Se i (X2 .eql T.w 95 bu 0)) fun dl=>N2 b a z dl (fun i bv=>Se i (fun w J=>J bv w)) fun t=>X5 b a t (fun g=>W9 g (fun w J=>J cu w)) fun dm=>X5 b a t (fun g=>W9 g (fieldAddr P T.a t4 2)) fun dn=>Y5 b a (Q7 P T.a dp) fun dd=>N2 b a t dn (fun g bx=>W9 g (Q7 P T.g bx)) fun aj=>N2 b a t aj (fun g C=>W9 g (X4 T.g C)) fun ak=>Jn b a t dm ak (fun g bw D=>W9 g (X1 .eql T.e 98 101 bw D)) fun al=>Jn b a z t al (fun i g E=>Se i (pick P g E (.bool false))) fun am=>Jn b a p z am (fun d i H=>W9 d (pick P i (.bool true) H)) fun an=>N2 b a p an (fun d L=>pick P d L (.bool false)) fun cv=>Ko b (fun j=> ∀v w,a w->dd v w->U8 P T.a A v w (dk b (j [v]) w)) fun j=> ∀d bo bp r bq br bs i bu bv g bw bx v C D E H L ag bz w,a w->p d w->de bo w->df bp w->af r w->dg bq w->dh br w->di bs w->z i w->dj bu w->dl bv w->t g w->dm bw w->dn bx w->dd v w->aj C w->ak D w->al E w->am H w->an L w->cv ag w->j [v] bz w->J4 P T.a A w fun B=>K (.tuple #[B,ag]) w) (X2 .eql T.e 23 ab 2 w fun b2 w=>X0 b2 (Q7 P T.a t4 w fun b3 w=>X6 T.n T.e m 3 w fun b4 w=>X6 T.n T.a1 m 2 w fun b5 w=>X6 T.n T.f m 4 w fun b6 w=>Q0 P F.cq [b3,b4,b5,b6] w fun b7 w=>D0 b7 w fun b8 b9 w=>L9 T.a b8 w fun dq w=>dr w fun b a=>Y5 b a (fieldAddr P T.n m 3) fun ap=>Y5 b a (fieldAddr P T.n m 2) fun ar=>Y5 b a (fieldAddr P T.n m 4) fun aw=>Y5 b a (Q7 P T.a dq) fun ao=>X5 b a ap (fun M=>Q7 P T.e M) fun aq=>X5 b a ar (fun O=>Q7 P T.a1 O) fun av=>X5 b a aw (fun R=>Q7 P T.f R) fun ax=>Jn b a aq av ax (fun N Q U=>Q0 P F.bh [a0,N,Q,U]) fun ay=>X5 b a ay (fun V=>X1 .eql T.w 127 128 V b9) fun cw=>Ko b (fun ac=> ∀k w,a w->ao k w->U8 P T.a A k w (dk b (ac [k]) w)) fun ac=> ∀M O R k N Q U V ah ec w,a w->ap M w->ar O w->aw R w->ao k w->aq N w->av Q w->ax U w->ay V w->cw ah w->ac [k] ec w->J4 P T.a A w fun B=>K (.tuple #[B,ah]) w) (X2 .eql T.e 23 ab 3 w fun ca w=>X0 ca (Q7 P T.a t4 w fun cb w=>X6 T.n T.e m 3 w fun cc w=>X6 T.n T.a1 m 2 w fun cd w=>Q0 P F.cp [cb,cc,cd] w fun ce w=>D0 ce w fun cf cg w=>L9 T.f cf w fun ds w=>X6 T.n T.e m 3 w fun ch w=>X6 T.n T.a1 m 2 w fun ci w=>Q0 P F.aj [a0,ch,ci] w fun cj w=>D0 cj w fun ck cl w=>L9 T.f ck w fun dt w=>dr w fun b a=>Y5 b a (Q7 P T.a t4) fun az=>Y5 b a (Q7 P T.f ds) fun a3=>Y5 b a (Q7 P T.f dt) fun a4=>N2 b a a3 a4 (fun W X=>X1 .eql T.f 151 152 W X) fun n=>X5 b a n (fun e=>W9 e (fun w J=>J cg w)) fun a5=>X5 b a n (fun e=>W9 e (fun w J=>J cl w)) fun a6=>Jn b a n a5 a6 (fun e Y Z=>W9 e (X1 .eql T.w 155 156 Y Z)) fun a7=>N2 b a n a7 (fun e aa=>pick P e aa (.bool false)) fun cx=>Ko b (fun b0=> ∀l w,a w->az l w->U8 P T.a A l w (dk b (b0 [l]) w)) fun b0=> ∀l W X e Y Z aa ai u9 w,a w->az l w->a3 W w->a4 X w->n e w->a5 Y w->a6 Z w->a7 aa w->cx ai w->b0 [l] u9 w->J4 P T.a A w fun B=>K (.tuple #[B,ai]) w) (X2 .eql T.e 23 ab 4 w fun cm w=>X0 cm (X6 T.n T.e m 3 w fun cn w=>Q0 P F.cw [a0,cn] w fun ee w=>Q7 P T.a t4 w fun co w=>X6 T.n T.e m 3 w fun cp w=>Q0 P F.cn [co,cp] w fun cq w=>U8 P T.a A cq w fun _u w=>J4 P T.a A w fun B=>K (.tuple #[B,(.bool true)]) w) (Q7 P T.a t4 w fun cr w=>U8 P T.a A cr w fun _u w=>J4 P T.a A w fun B=>K (.tuple #[B,(.bool true)]) w)))))
theorem Q5I (h:Gt a0 a1 a2 w K):Q0 P F.bn [a0,a1,a2] w K:=zr (Y0 22) Tryz.func36 h
def Q1m:W5:=[none,none,none,none,some ([6],[6,11,12,13,14,15,16,17,18,19,20,21,22,23,24,25,26,27,28,29,30,31,32,33,34,35,36,37,38,39]),none,none,some ([],[25,26,27,28,29,30,31,32,33,34,35,36,37,38,39]),none,none]
def Hi:D6:=fun g w K=>Qa P T.a w fun C w=>Q0 P F.aO [(.int .u16 300)] w fun L w=>D0 L w fun y h w=>L9 T.a h w fun a w=>lp (α:=Value) (.int .i64 0) w fun c f E w=>Z2 P .neq T.a5 (.tmp 11) (.const (.pointer none)) y (.pointer none) w fun b w=>X8 b true f w fun i w=>X8 b true g w fun j w=>Q1 b true w (X4 T.a7 j) fun k w=>Q1 b true w (X1 .lss T.e 14 16 i k) fun l w=>pick P b l (.bool false) w fun d w=>X8 d true f w fun m w=>Q1 d true w (X2 .lss T.e 20 m 40) fun n w=>pick P d n (.bool false) w fun o w=>X0 o (jn (α:=Unit) w (fun B w=>J3 T.a7 T.n g f w fun p w=>Q0 P F.co [p] w fun q w=>X0 q (sq w fun w=>indexAddr P T.a7 g f w fun s w=>Q7 P T.a a w fun r w=>Q7 P T.n s w fun t w=>Q0 P F.bn [y,r,t] w fun u w=>D0 u w fun v J w=>U8 P T.a a v w fun _u w=>B () w) (B () w)) fun M E w=>V1 23 f w c) (dr w fun D A=>Y5 D A (Q7 P T.a a) fun z=> ∀e w,A w->z e w->U8 P T.a C e w fun _u w=>J4 P T.a C w fun H=>K (.tuple #[y,H]) w)
theorem Q1Y (h:Hi a0 w K):Q0 P F.aP [a0] w K:=zr Q1m Tryz.func16 h
def Q1n:W5:=Y0 6++[some ([3],[2,3,7,8,9,10,11,12,13,14,15,16,17,18,19])]++Y0 6
def Hk:D6:=fun b w K=>X4 T.l b w fun i w=>X2 .gtr T.e 5 i 80 w fun j w=>X0 j (K (.bool false) w) (lp (α:=Value) (.int .i64 0) w fun a h l w=>X4 T.l b w fun k w=>X1 .lss T.e 7 9 h k w fun c w=>X0 c (indexAddr P T.l b h w fun d w=>X6 T.f T.b d 2 w fun e w=>X4 T.b e w fun f w=>X2 .gtr T.e 18 f 5000 w fun g w=>X0 g (K (.bool false) w) (V1 11 h w a)) (K (.bool true) w))
theorem Q20 (h:Hk a0 w K):Q0 P F.bK [a0] w K:=zr Q1n Tryz.func17 h
def Q32:W5:=Y0 9++[some ([5,8],[5,8,30,31,32,33,34,35,36,37,38,39,40,41,42,43,44,45,46,47,48,49,50,51,52]),none,none,some ([5],[5,37,38,39,40,41,42,43,44,45,46,47,48,49,50,51,52]),none,none]
def Ci:V9:=fun O h w K=>box P T.a O w fun b w=>buildSlice P T.o 0 [] w fun N w=>X2 .lss T.e 10 h 0 w fun d w=>X8 d false h w fun i w=>J1 d false w T.a T.g b 2 fun j w=>Q1 d false w (X4 T.g j) fun k w=>Q1 d false w (X1 .geq T.e 13 16 i k) fun l w=>pick P d (.bool true) l w fun m w=>X0 m (K N w) (X6 T.a T.g b 2 w fun n w=>J3 T.g T.p n h w fun o w=>L9 T.p o w fun a w=>X6 T.a T.i b 0 w fun p w=>X6 T.p T.b a 0 w fun q w=>Q0 P F.m [p,q] w fun r w=>lp (α:=Value×Value) (N,(.int .i64 0)) w fun e f Q w=>X6 T.p T.l a 1 w fun s w=>X4 T.l s w fun t w=>X1 .lss T.e 30 33 f.2 t w fun u w=>X0 u (jn (α:=Value) w (fun g w=>X6 T.p T.b a 0 w fun y w=>Q0 P F.aw [y] w fun z w=>J9 .neq T.b 39 z #[] w fun c w=>X8 c false r w fun A w=>X8 c false f.2 w fun B w=>Q1 c false w (indexAddr P T.j A B) fun C w=>J1 c false w T.m T.s C 2 fun D w=>Q1 c false w (W2 P .not D) fun E w=>pick P c (.bool true) E w fun H w=>X0 H (buildSlice P T.o 1 [(0,f.2)] w fun J w=>U4 P .append [T.o,T.o] T.o [false,false] [f.1,J] w fun L w=>g L w) (g f.1 w)) fun M Q w=>X2 .add T.e 35 f.2 1 w fun v w=>e (M,v) w) (K f.1 w))
theorem Q3v (h:Ci a0 a1 w K):Q0 P F.b7 [a0,a1] w K:=zr Q32 Tryz.func48 h
def Q4t:W5:=[none,none,none,some ([5],[4,5,6,7,8,9,10,11,12,13,14,15,16,17,18])]++Y0 9
def Fq:V9:=fun b c w K=>lp (α:=Value) (.int .i64 0) w fun a i l w=>X4 T.o b w fun j w=>X1 .lss T.e 6 8 i j w fun k w=>X0 k (J3 T.o T.e b i w fun d w=>X1 .eql T.e 15 16 d c w fun e w=>X0 e (K b w) (V1 10 i w a)) (X2 .lss T.e 19 c 0 w fun f w=>X0 f (K b w) (buildSlice P T.o 1 [(0,c)] w fun g w=>U4 P .append [T.o,T.o] T.o [false,false] [b,g] w fun h w=>K h w))
theorem Q4Q (h:Fq a0 a1 w K):Q0 P F.bf [a0,a1] w K:=zr Q4t Tryz.func156 h
def Gv:V9:=fun m n w K=>box P T.a m w fun c w=>box P T.f n w fun a w=>X6 T.f T.e a 0 w fun o w=>X2 .neq T.e 6 o 4 w fun l w=>J1 l false w T.f T.e a 3 fun d w=>Q1 l false w (X2 .lss T.e 10 d 0) fun e w=>pick P l (.bool true) e w fun b w=>J1 b false w T.f T.e a 3 fun f w=>J1 b false w T.a T.g c 2 fun g w=>Q1 b false w (X4 T.g g) fun h w=>Q1 b false w (X1 .geq T.e 15 18 f h) fun i w=>pick P b (.bool true) i w fun j w=>X0 j (K (.int .i64 (-1)) w) (X6 T.f T.e a 3 w fun k w=>K k w)
theorem Q5K (h:Gv a0 a1 w K):Q0 P F.br [a0,a1] w K:=zr (Y0 5) Tryz.func157 h
def Q1A:W5:=[none,none,none,none,some ([5,6],[5,6,7,8,14,15,16,17,18,19,20,21,22,23,24,25,26,27,28,29,30,31,32,33,34,35,36,37,38,39,40,41,42,43,44,45,46,47,48,49,50])]++Y0 5++[some ([5,8],[5,8,26,27,28,29,30,31,32,33,34,35,36,37,38,39,40,41,42,43,44,45,46,47,48,49,50]),none,none,none,none]
def Rd:V9:=fun a0 a1 w K=>box P T.a a0 w fun b w=>box P T.f a1 w fun u w=>buildSlice P T.o 0 [] w fun t9 w=>Q7 P T.a b w fun V w=>Q7 P T.f u w fun W w=>Q0 P F.br [V,W] w fun X w=>Q0 P F.bf [t9,X] w fun Y w=>lp (α:=Value×Value) (Y,(.int .i64 0)) w fun f g d_ w=>X4 T.o g.1 w fun Z w=>X1 .lss T.e 14 16 g.2 Z w fun aa w=>X0 aa (dr w fun c a=>Y5 c a (indexAddr P T.o g.1 g.2) fun B=>Y5 c a (Q7 P T.a b) fun ag=>X5 c a B (fun h=>Q7 P T.e h) fun ah=> ∀h v y w,a w->B h w->ag v w->ah y w->Q0 P F.b7 [v,y] w fun z w=>lp (α:=Value×Value) (g.1,(.int .i64 0)) w fun e d d_ w=>X4 T.o z w fun ac w=>X1 .lss T.e 26 28 d.2 ac w fun ad w=>X0 ad (dr w fun c a=>Y5 c a (fieldAddr P T.a b 2) fun D=>Y5 c a (indexAddr P T.o d.1 g.2) fun H=>Y5 c a (indexAddr P T.o z d.2) fun O=>Y5 c a (Q7 P T.a b) fun C=>X5 c a D (fun j=>Q7 P T.g j) fun E=>X5 c a H (fun l=>Q7 P T.e l) fun J=>N2 c a E J (fun k m=>indexAddr P T.g k m) fun L=>X5 c a L (fun n=>fieldAddr P T.p n 1) fun M=>X5 c a M (fun o=>Q7 P T.l o) fun N=>X5 c a O (fun q=>Q7 P T.e q) fun Q=>N2 c a N Q (fun p r=>indexAddr P T.l p r) fun R=>X5 c a R (fun s=>Q7 P T.f s) fun U=>N2 c a C U (fun i t=>Q0 P F.br [i,t]) fun ai=> ∀j l q i k m n o p r s t A w,a w->D j w->H l w->O q w->C i w->E k w->J m w->L n w->M o w->N p w->Q r w->R s w->U t w->ai A w->Q0 P F.bf [d.1,A] w fun af w=>X2 .add T.e 30 d.2 1 w fun ae w=>e (af,ae) w) (X2 .add T.e 18 g.2 1 w fun ab w=>f (d.1,ab) w)) (K g.1 w)
theorem Q2i (h:Rd a0 a1 w K):Q0 P F.bU [a0,a1] w K:=zr Q1A Tryz.func99 h
def Q5C:W5:=[none,none,none,some ([5],[4,5,6,7,8,9,10,11,12,13,14,15,16,17,18])]++Y0 6
def Gw:V9:=fun e f w K=>lp (α:=Value) (.int .i64 0) w fun a b i w=>X4 T.o e w fun g w=>X1 .lss T.e 6 8 b g w fun h w=>X0 h (J3 T.o T.e e b w fun c w=>X1 .eql T.e 15 16 c f w fun d w=>X0 d (K b w) (V1 10 b w a)) (K (.int .i64 (-1)) w)
theorem Q5L (h:Gw a0 a1 w K):Q0 P F.bs [a0,a1] w K:=zr Q5C Tryz.func100 h
def Q1D:W5:=[none,none,none,none,some ([5,6],[5,6,7,8,10,11,12,13,14,15,16,17,18,19,20,21,22,23,24,25,26,27,28,29,30,31,32,33,34,35,36,37,38,39,40,41])]++Y0 5++[some ([5,8],[5,8,22,23,24,25,26,27,28,29,30,31,32,33,34,35,36,37,38,39,40,41]),none,none,some ([5],[5,28,29,30,31,32,33,34,35,36,37,38,39,40,41]),none,none]
def Rh:V9:=fun J E w K=>box P T.a J w fun f w=>buildSlice P T.o 0 [] w fun L w=>lp (α:=Value×Value) (L,(.int .i64 0)) w fun c j H w=>X4 T.l E w fun n w=>X1 .lss T.e 10 12 j.2 n w fun o w=>X0 o (dr w fun m l=>Y5 m l (indexAddr P T.l E j.2) fun k=>Y5 m l (Q7 P T.a f) fun C=>X5 m l k (fun d=>Q7 P T.f d) fun D=> ∀d h i w,l w->k d w->C h w->D i w->Q0 P F.bU [h,i] w fun e w=>lp (α:=Value×Value) (j.1,(.int .i64 0)) w fun b a H w=>X4 T.o e w fun q w=>X1 .lss T.e 22 24 a.2 q w fun r w=>X0 r (jn (α:=Value) w (fun g w=>J3 T.o T.e e a.2 w fun t w=>Q0 P F.bs [a.1,t] w fun u w=>X2 .lss T.e 33 u 0 w fun v w=>X0 v (J3 T.o T.e e a.2 w fun y w=>buildSlice P T.o 1 [(0,y)] w fun z w=>U4 P .append [T.o,T.o] T.o [false,false] [a.1,z] w fun A w=>g A w) (g a.1 w)) fun B H w=>X2 .add T.e 26 a.2 1 w fun s w=>b (B,s) w) (X2 .add T.e 14 j.2 1 w fun p w=>c (a.1,p) w)) (K j.1 w)
theorem Q2l (h:Rh a0 a1 w K):Q0 P F.aT [a0,a1] w K:=zr Q1D Tryz.func42 h
def Q1E:W5:=[none,none,none,some ([5],[4,5,6,7,8,9,10,11,12,13,14,15,16,17,18])]++Y0 6
def Ri:V9:=fun e f w K=>lp (α:=Value) (.int .i64 0) w fun a b i w=>X4 T.h e w fun g w=>X1 .lss T.e 6 8 b g w fun h w=>X0 h (J3 T.h T.b e b w fun c w=>X1 .eql T.b 15 16 c f w fun d w=>X0 d (K b w) (V1 10 b w a)) (K (.int .i64 (-1)) w)
theorem Q2m (h:Ri a0 a1 w K):Q0 P F.aU [a0,a1] w K:=zr Q1E Tryz.func46 h
def Q1C:W5:=[none,none,none,none,some ([5,6],[5,6,8,9,10,11,12,13,14,15,16,17,18,19,20,21,22,23,24,25,26,27,28,29,30,31,32,33,34,35,36,37]),none,none,some ([5],[5,14,15,16,17,18,19,20,21,22,23,24,25,26,27,28,29,30,31,32,33,34,35,36,37]),none,none]
def Rf:V9:=fun W C w K=>box P T.a W w fun c w=>buildSlice P T.h 0 [] w fun Y w=>lp (α:=Value×Value) (Y,(.int .i64 0)) w fun d e X w=>X4 T.o C w fun D w=>X1 .lss T.e 8 10 e.2 D w fun E w=>X0 E (jn (α:=Value) w (fun V w=>dr w fun b a=>Y5 b a (fieldAddr P T.a c 2) fun r=>Y5 b a (indexAddr P T.o C e.2) fun s=>X5 b a r (fun f=>Q7 P T.g f) fun Q=>X5 b a s (fun g=>Q7 P T.e g) fun R=> ∀f g o p w,a w->r f w->s g w->Q o w->R p w->indexAddr P T.g o p w fun J w=>X6 T.p T.b J 0 w fun L w=>Q0 P F.aU [e.1,L] w fun M w=>X2 .lss T.e 24 M 0 w fun N w=>X0 N (dr w fun b a=>Y5 b a (fieldAddr P T.a c 2) fun t=>Y5 b a (indexAddr P T.o C e.2) fun v=>X5 b a t (fun h=>Q7 P T.g h) fun u=>X5 b a v (fun j=>Q7 P T.e j) fun y=>N2 b a u y (fun i k=>indexAddr P T.g i k) fun z=>X5 b a z (fun l=>fieldAddr P T.p l 0) fun A=>X5 b a A (fun m=>Q7 P T.b m) fun B=>X5 b a B (fun n=>buildSlice P T.h 1 [(0,n)]) fun U=> ∀h j i k l m n q w,a w->t h w->v j w->u i w->y k w->z l w->A m w->B n w->U q w->U4 P .append [T.h,T.h] T.h [false,false] [e.1,q] w fun O w=>V O w) (V e.1 w)) fun Z X w=>X2 .add T.e 12 e.2 1 w fun H w=>d (Z,H) w) (K e.1 w)
theorem Q2k (h:Rf a0 a1 w K):Q0 P F.bW [a0,a1] w K:=zr Q1C Tryz.func43 h
def Fs:D6:=fun a w K=>conv P T.e T.a8 a w fun b w=>Q0 P F.aH [b] w fun c w=>K c w
theorem Q4R (h:Fs a0 w K):Q0 P F.t [a0] w K:=zr (Y0 2) Tryz.func44 h
def Q1x:W5:=Y0 8++[some ([6,7],[6,7,8,29,30,31,32,33,34,35,36,37,38,39,40,41,42,43,44,45,46,47,48,49,50,51,52,53,54,55,56,57,58]),none,none,some ([6],[6,8,39,40,41,42,43,44,45,46,47,48,49,50,51,52,53,54,55,56,57,58]),none,none,none]
def Uy:V9:=fun g h w K=>Q0 P F.b [g,h] w fun c w=>X2 .lss T.e 12 c 0 w fun d w=>X8 d false h w fun i w=>Q1 d false w (J9 .eql T.b 15 i #[79,98,106,101,99,116]) fun j w=>pick P d (.bool true) j w fun k w=>X0 k (K (.string ⟨#[]⟩) w) (J9 .add T.b 18 h #[40] w fun l w=>indexAddr P T.i g c w fun m w=>X6 T.c T.b m 1 w fun n w=>Q0 P F.ac [g,n] w fun o w=>X1 .add T.b 19 26 l o w fun p w=>J9 .add T.b 27 p #[41] w fun q w=>lp (α:=Value×Value) (q,(.int .i64 0)) w fun b e Q w=>indexAddr P T.i g c w fun r w=>X6 T.c T.j r 6 w fun s w=>X4 T.j s w fun t w=>X1 .lss T.e 29 35 e.2 t w fun u w=>X0 u (jn (α:=Value) w (fun f w=>indexAddr P T.i g c w fun y w=>X6 T.c T.j y 6 w fun z w=>J3 T.j T.m z e.2 w fun A w=>L9 T.m A w fun a w=>X6 T.m T.s a 2 w fun B w=>W2 P .not B w fun C w=>X0 C (X6 T.m T.b a 0 w fun D w=>Z2 P .add T.b (.const (.string ⟨#[32]⟩)) (.tmp 52) (.string ⟨#[32]⟩) D w fun E w=>J9 .add T.b 53 E #[58] w fun H w=>X6 T.m T.b a 1 w fun J w=>X1 .add T.b 54 56 H J w fun L w=>X1 .add T.b 50 57 e.1 L w fun M w=>f M w) (f e.1 w)) fun O Q w=>X2 .add T.e 37 e.2 1 w fun v w=>b (O,v) w) (J9 .add T.b 59 e.1 #[46] w fun N w=>K N w))
theorem Sa (h:Uy a0 a1 w K):Q0 P F.ac [a0,a1] w K:=zr Q1x Tryz.func45 h
def Rj:V9:=fun v y w K=>box P T.f v w fun a w=>X6 T.f T.e a 0 w fun z w=>Q0 P F.t [z] w fun c w=>X6 T.f T.e a 0 w fun b w=>X2 .eql T.e 10 b 1 w fun d w=>X0 d (X6 T.f T.a1 a 1 w fun e w=>Q0 P F.ci [e] w fun f w=>X1 .add T.b 13 16 c f w fun g w=>K g w) (X2 .eql T.e 10 b 2 w fun h w=>X0 h (X6 T.f T.a1 a 1 w fun i w=>X2 .eql T.a1 22 i 1 w fun j w=>Q0 P F.c2 [j] w fun k w=>X1 .add T.b 20 24 c k w fun l w=>K l w) (X2 .eql T.e 10 b 3 w fun m w=>X0 m (X6 T.f T.b a 2 w fun n w=>Q0 P F.av [n] w fun o w=>X1 .add T.b 28 31 c o w fun p w=>K p w) (X2 .eql T.e 10 b 4 w fun q w=>X0 q (X6 T.f T.e a 3 w fun r w=>Q0 P F.bs [y,r] w fun s w=>Q0 P F.t [s] w fun t w=>X1 .add T.b 35 40 c t w fun u w=>K u w) (K c w))))
theorem Q2n (h:Rj a0 a1 w K):Q0 P F.aV [a0,a1] w K:=zr (Y0 13) Tryz.func49 h
def Q33:W5:=Y0 6++[some ([7,8],[7,8,24,25,26,27,28,29,30,31,32,33,34,35,36,37,38,39,40,41,42,43,44,45])]++Y0 6++[some ([7,9],[7,9,10,51,52,53,54,55,56,57,58,59,60,61,62,63,64,65,66,67,68,69,70,71,72,73,74,75,76,77,78,79,80,81]),none,none,some ([7],[7,10,57,58,59,60,61,62,63,64,65,66,67,68,69,70,71,72,73,74,75,76,77,78,79,80,81])]++Y0 5++[some ([7,11],[7,11,12,13,82,83,84,85,86,87,88,89,90,91,92,93,94,95,96,97,98,99,100,101,102,103,104,105,106,107,108,109,110,111,112,113,114,115,116,117,118])]++Y0 5++[some ([7,13],[7,13,94,95,96,97,98,99,100,101,102,103,104,105,106,107,108,109,110,111,112,113,114,115,116,117,118])]++Y0 6++[some ([7,14],[7,14,124,125,126,127,128,129,130,131,132,133,134,135,136,137]),none,none,none,none]
def Cj:V9:=fun a0 a1 w K=>box P T.a a0 w fun t2 w=>Q7 P T.a t2 w fun bp w=>Q0 P F.aT [bp,a1] w fun c w=>Q7 P T.a t2 w fun bq w=>Q0 P F.bW [bq,c] w fun u w=>X4 T.h u w fun br w=>Q0 P F.t [br] w fun bs w=>lp (α:=Value×Value) (bs,(.int .i64 0)) w fun A x6 d_ w=>X4 T.h u w fun bu w=>X1 .lss T.e 24 26 x6.2 bu w fun bv w=>X0 bv (dr w fun b a=>Y5 b a (indexAddr P T.h u x6.2) fun a9=>Y5 b a (fieldAddr P T.a t2 0) fun bc=>Y5 b a (indexAddr P T.h u x6.2) fun be=>X5 b a a9 (fun U=>Q7 P T.b U) fun ba=>X5 b a ba (fun V=>Q0 P F.av [V]) fun bb=>X5 b a bc (fun X=>Q7 P T.i X) fun bd=>X5 b a be (fun Z=>Q7 P T.b Z) fun bf=>N2 b a bd bf (fun Y aa=>Q0 P F.ac [Y,aa]) fun bg=>X5 b a bg (fun ab=>Q0 P F.av [ab]) fun bh=>N2 b a bb bh (fun W ac=>X1 .add T.b 35 43 W ac) fun cn=> ∀U X Z V W Y aa ab ac a2 w,a w->a9 U w->bc X w->be Z w->ba V w->bb W w->bd Y w->bf aa w->bg ab w->bh ac w->cn a2 w->X1 .add T.b 30 44 x6.1 a2 w fun bx w=>X2 .add T.e 28 x6.2 1 w fun bw w=>A (bx,bw) w) (X4 T.o c w fun bz w=>Q0 P F.t [bz] w fun b0 w=>X1 .add T.b 46 49 x6.1 b0 w fun b1 w=>lp (α:=Value×Value) (b1,(.int .i64 0)) w fun e v d_ w=>X4 T.o c w fun b2 w=>X1 .lss T.e 51 53 v.2 b2 w fun b3 w=>X0 b3 (jn (α:=Value) w (fun al w=>dr w fun b a=>Y5 b a (fieldAddr P T.a t2 2) fun bi=>Y5 b a (indexAddr P T.o c v.2) fun bk=>X5 b a bi (fun ad=>Q7 P T.g ad) fun bj=>X5 b a bk (fun af=>Q7 P T.e af) fun bl=>N2 b a bj bl (fun ae ag=>indexAddr P T.g ae ag) fun bm=>X5 b a bm (fun ah=>Q7 P T.p ah) fun co=>Y5 b a (Qa P T.p) fun cm=> ∀ad af ae ag ah a3 i w,a w->bi ad w->bk af w->bj ae w->bl ag w->bm ah w->co a3 w->cm i w->U8 P T.p i a3 w fun _u w=>X6 T.p T.b i 0 w fun b5 w=>Q0 P F.aU [u,b5] w fun b6 w=>Q0 P F.t [b6] w fun b7 w=>X1 .add T.b 65 70 v.1 b7 w fun a4 w=>X6 T.p T.b i 0 w fun b8 w=>Q0 P F.aw [b8] w fun b9 w=>J9 .neq T.b 74 b9 #[] w fun ca w=>X0 ca (X6 T.p T.l i 1 w fun cb w=>X4 T.l cb w fun cc w=>Q0 P F.t [cc] w fun cd w=>X1 .add T.b 76 80 a4 cd w fun ce w=>al ce w) (al a4 w)) fun cl d_ w=>X2 .add T.e 55 v.2 1 w fun b4 w=>e (cl,b4) w) (lp (α:=Value×Value) (v.1,(.int .i64 0)) w fun f d d_ w=>X4 T.o c w fun cf w=>X1 .lss T.e 82 84 d.2 cf w fun cg w=>X0 cg (dr w fun b a=>Y5 b a (indexAddr P T.o c d.2) fun bn=>Y5 b a (Q7 P T.a t2) fun cp=>X5 b a bn (fun ai=>Q7 P T.e ai) fun cq=> ∀ai a5 a6 w,a w->bn ai w->cp a5 w->cq a6 w->Q0 P F.b7 [a5,a6] w fun a7 w=>lp (α:=Value×Value) (d.1,(.int .i64 0)) w fun g y d_ w=>X4 T.o a7 w fun ci w=>X1 .lss T.e 94 96 y.2 ci w fun cj w=>X0 cj (dr w fun b a=>Y5 b a (fieldAddr P T.a t2 2) fun C=>Y5 b a (indexAddr P T.o c d.2) fun E=>Y5 b a (indexAddr P T.o a7 y.2) fun N=>X5 b a C (fun j=>Q7 P T.g j) fun D=>X5 b a E (fun l=>Q7 P T.e l) fun H=>N2 b a D H (fun k m=>indexAddr P T.g k m) fun J=>X5 b a J (fun n=>fieldAddr P T.p n 1) fun L=>X5 b a L (fun o=>Q7 P T.l o) fun M=>X5 b a N (fun q=>Q7 P T.e q) fun O=>N2 b a M O (fun p r=>indexAddr P T.l p r) fun Q=>X5 b a Q (fun s=>Q7 P T.f s) fun R=>X5 b a R (fun t=>Q0 P F.aV [t,c]) fun a8=> ∀j l q k m n o p r s t B w,a w->C j w->E l w->N q w->D k w->H m w->J n w->L o w->M p w->O r w->Q s w->R t w->a8 B w->X1 .add T.b 100 117 y.1 B w fun an w=>X2 .add T.e 98 y.2 1 w fun ck w=>g (an,ck) w) (X2 .add T.e 86 d.2 1 w fun ch w=>f (y.1,ch) w)) (X4 T.l a1 w fun ao w=>Q0 P F.t [ao] w fun ap w=>X1 .add T.b 119 122 d.1 ap w fun aq w=>lp (α:=Value×Value) (aq,(.int .i64 0)) w fun h z d_ w=>X4 T.l a1 w fun ar w=>X1 .lss T.e 124 126 z.2 ar w fun av w=>X0 av (J3 T.l T.f a1 z.2 w fun ax w=>Q0 P F.aV [ax,c] w fun ay w=>X1 .add T.b 130 136 z.1 ay w fun az w=>X2 .add T.e 128 z.2 1 w fun aw w=>h (az,aw) w) (K z.1 w))))
theorem Q3w (h:Cj a0 a1 w K):Q0 P F.b8 [a0,a1] w K:=zr Q33 Tryz.func20 h
def Q1B:W5:=Y0 6++[some ([7],[6,7,11,12,13,14,15,16,17,18,19,20,21,22,23])]++Y0 12
def Re:Yn:=fun X m Y w K=>box P T.a X w fun d w=>box P T.a3 Y w fun a w=>X4 T.l m w fun Z w=>X2 .gtr T.e 9 Z 64 w fun C w=>X0 C (K (.int .i64 120) w) (lp (α:=Value) (.int .i64 0) w fun e N d_ w=>X4 T.l m w fun D w=>X1 .lss T.e 11 13 N D w fun E w=>X0 E (dr w fun c b=>Y5 c b (indexAddr P T.l m N) fun t=>Y5 c b (Q7 P T.a d) fun O=>X5 c b t (fun f=>Q7 P T.f f) fun Q=> ∀f n o w,b w->t f w->O n w->Q o w->Q0 P F.bq [n,o] w fun H w=>J9 .eql T.b 22 H #[] w fun J w=>X0 J (K (.int .i64 120) w) (V1 15 N w e)) (dr w fun c b=>Y5 c b (fieldAddr P T.a3 a 0) fun y=>Y5 c b (Q7 P T.a d) fun u=>X5 c b u (fun g=>Q0 P F.aT [g,m]) fun v=>X5 c b v (fun h=>X4 T.o h) fun R=>X5 c b y (fun i=>Q7 P T.e i) fun U=> ∀i g h p q w,b w->y i w->u g w->v h w->R p w->U q w->X1 .gtr T.e 27 29 p q w fun L w=>X0 L (K (.int .i64 121) w) (dr w fun c b=>Y5 c b (fieldAddr P T.a3 a 1) fun B=>Y5 c b (Q7 P T.a d) fun z=>X5 c b z (fun j=>Q0 P F.b8 [j,m]) fun A=>X5 c b A (fun k=>X4 T.b k) fun V=>X5 c b B (fun l=>Q7 P T.e l) fun W=> ∀l j k r s w,b w->B l w->z j w->A k w->V r w->W s w->X1 .gtr T.e 34 36 r s w fun M w=>X0 M (K (.int .i64 122) w) (K (.int .i64 0) w))))
theorem Q2j (h:Re a0 a1 a2 w K):Q0 P F.bV [a0,a1,a2] w K:=zr Q1B Tryz.func19 h
def Lw:Yn:=fun a0 H a2 w K=>box P T.a3 a2 w fun b w=>Q0 P F.aP [a0] w fun L w=>D0 L w fun t M w=>L9 T.a M w fun g w=>Q0 P F.am [] w fun N w=>W2 P .not N w fun j w=>X8 j false t w fun O w=>Q1 j false w (Z2 P .eql T.a5 (.tmp 20) (.const (.pointer none)) O (.pointer none)) fun Q w=>pick P j (.bool true) Q w fun h w=>X8 h false H w fun R w=>Q1 h false w (Q0 P F.bK [R]) fun U w=>Q1 h false w (W2 P .not U) fun V w=>pick P h (.bool true) V w fun W w=>X0 W (Q0 P F.am [] w fun X w=>K X w) (dr w fun d c=>Y5 d c (buildSlice P T.l 0 []) fun z=>X5 d c z (fun k=>U4 P .append [T.l,T.l] T.l [false,false] [k,H]) fun A=>Y5 d c (Q7 P T.a3 b) fun B=>N2 d c A B (fun l m=>Q0 P F.cy [t,l,m]) fun s=>X5 d c s (fun f=>ext P f 0) fun ai=>X5 d c s (fun f=>ext P f 1) fun aj=> ∀k l m f n o w,c w->z k w->A l w->B m w->s f w->ai n w->aj o w->Q7 P T.a g w fun Y w=>Q7 P T.a3 b w fun Z w=>Q0 P F.bV [Y,H,Z] w fun u w=>X2 .neq T.w 42 u 0 w fun aa w=>X0 aa (X4 T.r n w fun ab w=>X2 .eql T.e 45 ab 0 w fun i w=>X8 i true o w fun ac w=>X8 i true u w fun ad w=>Q1 i true w (X1 .eql T.w 48 49 ac ad) fun ae w=>pick P i ae (.bool false) w fun af w=>K af w) (dr w fun d c=>Y5 d c (X2 .eql T.w 52 o 0) fun e=>X5 d c e (fun a=>W9 a (fun w J=>J n w)) fun C=>X5 d c e (fun a=>W9 a (fun w J=>J H w)) fun E=>N2 d c e C (fun a p=>W9 a (conv P T.r T.b p)) fun ak=>X5 d c e (fun a=>W9 a (Q7 P T.a g)) fun D=>Jn d c e D E (fun a q r=>W9 a (Q0 P F.b8 [q,r])) fun al=> ∀a p r v q y w,c w->e a w->C p w->E r w->ak v w->D q w->al y w->Q1 a true w (X1 .eql T.b 56 59 v y) fun ag w=>pick P a ag (.bool false) w fun ah w=>K ah w))
theorem Pq (h:Lw a0 a1 a2 w K):Q0 P F.cF [a0,a1,a2] w K:=zr (Y0 11) Tryz.func4 h
end Go.Proofs.Y
namespace Go.Emb
open Go.RowKit (Below)
variable {P : Program} {w w' : World} {K : Value -> World -> Prop}
theorem Y8 {s:Sem Value} {v:Value} (h:s.run P w= .ok v w'):op P (sv s) w K=K v w':=by
 rw[Zf];unfold Yp sv;simp[h]
theorem Wg {s:Sem Unit} (h:s.run P w= .ok () w'):op P (su s) w K=K undef w':=by
 rw[Zf];unfold Yp su;simp[h]
abbrev S (l:List UInt8):Value:= .string ⟨l.toArray⟩
abbrev I (n:Int):Value:= .int .i64 n
theorem Fw {b:Bool} {x y:Value}:pick P (.bool b) x y w K=K (if b then x else y) w:=by
 unfold pick;rw[Zf];unfold Yp;cases b<;>simp[asBool]
theorem F5 {x y:Value}:pick P (.bool true) x y w K=K x w:=by rw[Fw];rfl
theorem C8 {x y:Value}:pick P (.bool false) x y w K=K y w:=by rw[Fw];rfl
theorem X77 {a b:Bool} {u:Value}:pick P (.bool a) (if a=true then .bool b else u) (.bool false) w K=K (.bool (a&&b)) w:=by
 rw[Fw];cases a<;>rfl
theorem X8P {a b:Bool} {u:Value}:pick P (.bool a) (.bool true) (if a=false then .bool b else u) w K=K (.bool (a||b)) w:=by
 rw[Fw];cases a<;>rfl
theorem H0 {c:World->(Value->World->Prop)->Prop}:Q1 (.bool true) true w c K=c w K:=by rw[Ft];simp[Rl]
theorem C3 {c:World->(Value->World->Prop)->Prop}:Q1 (.bool false) false w c K=c w K:=by rw[Ft];simp[Rl]
theorem Qs {c:World->(Value->World->Prop)->Prop}:Q1 (.bool true) false w c K=K undef w:=by rw[Ft];simp[Rl]
theorem G8 {c:World->(Value->World->Prop)->Prop}:Q1 (.bool false) true w c K=K undef w:=by rw[Ft];simp[Rl]
theorem G3 {b:Bool} {c:World->(Value->World->Prop)->Prop}:Q1 undef b w c K=K undef w:=by rw[Ft];rfl
theorem X6N {a b:Bool} {v:Value}:Q1 (.bool a) b w (fun w J=>J v w) K=K (if a=b then v else undef) w:=by
 rw[Ft];unfold Rl;by_cases h:a=b<;>simp[h]
theorem X0m {b:Bool} {t e:Prop}:X0 (.bool b) t e=if b=true then t else e:=by rw[X0n];cases b<;>rfl
theorem I5 {t e:Prop}:X0 (.bool true) t e=t:=by rw[X0m];simp
theorem F3 {t e:Prop}:X0 (.bool false) t e=e:=by rw[X0m];simp
variable {k : IntKind} {t : TypeId} {ox oy : Operand} {a b : Int}
theorem Q09:Z2 P .add t ox oy (.int k a) (.int k b) w K=K (.int k (k.wrap (a+b))) w:=Y8 (by simp[eqGuard,Go.binOp,Op.intArith])
theorem Q7Z:Z2 P .sub t ox oy (.int k a) (.int k b) w K=K (.int k (k.wrap (a-b))) w:=Y8 (by simp[eqGuard,Go.binOp,Op.intArith])
theorem Q7X:Z2 P .mul t ox oy (.int k a) (.int k b) w K=K (.int k (k.wrap (a*b))) w:=Y8 (by simp[eqGuard,Go.binOp,Op.intArith])
theorem Q7W:Z2 P .lss t ox oy (.int k a) (.int k b) w K=K (.bool (decide (a<b))) w:=Y8 (by simp[eqGuard,Go.binOp,Op.intCmp])
theorem Q7V:Z2 P .leq t ox oy (.int k a) (.int k b) w K=K (.bool (decide (a<=b))) w:=Y8 (by simp[eqGuard,Go.binOp,Op.intCmp])
theorem Kc:Z2 P .gtr t ox oy (.int k a) (.int k b) w K=K (.bool (decide (b<a))) w:=Y8 (by simp[eqGuard,Go.binOp,Op.intCmp])
theorem Q55:Z2 P .geq t ox oy (.int k a) (.int k b) w K=K (.bool (decide (b<=a))) w:=Y8 (by simp[eqGuard,Go.binOp,Op.intCmp])
theorem Q54:Z2 P .eql t ox oy (.int k a) (.int k b) w K=K (.bool (decide (a=b))) w:=Y8 (by
 simp[eqGuard,Go.binOp,Op.intCmp];rfl)
theorem Q7Y:Z2 P .neq t ox oy (.int k a) (.int k b) w K=K (.bool (!decide (a=b))) w:=Y8 (by
 simp[eqGuard,Go.binOp,Op.intCmp];rfl)
theorem Q8y {b:Bool}:W2 P .not (.bool b) w K=K (.bool (!b)) w:=Y8 (by simp[Op.unary])
theorem X98 {k:IntKind} {n:Int}:W2 P .neg (.int k n) w K=K (.int k (k.wrap (0-n))) w:=Y8 (by simp[Op.unary,Op.intArith])
variable {a b : Bool}
theorem Q6D (d:Nat) (h:P.underlying t=some .bool):(Op.equalIn (d+1) t (.bool a) (.bool b)).run P w= .ok (a==b) w:=by
 simp[Op.equalIn,run_underlying h]
theorem Q0K (h:P.underlying t=some .bool):(Op.equal t (.bool a) (.bool b)).run P w= .ok (a==b) w:=Q6D 9999 h
theorem X06 (h:P.underlying t=some .bool):Z2 P .eql t ox oy (.bool a) (.bool b) w K=K (.bool (a==b)) w:=Y8 (by
 simp[eqGuard,Go.binOp,Q0K h])
theorem X07 (h:P.underlying t=some .bool):Z2 P .neq t ox oy (.bool a) (.bool b) w K=K (.bool (!(a==b))) w:=Y8 (by
 simp[eqGuard,Go.binOp,Q0K h])
theorem Lm {vs:List Value} {i:Nat} {v:Value} (h:vs[i]? =some v):ext P (.tuple vs.toArray) i w K=K v w:=Y8 (by
 simp[Instr.extract,h])
theorem X9L {a b:Value}:ext P (.tuple #[a,b]) 0 w K=K a w:=Lm (vs:=[a,b]) rfl
theorem X9M {a b:Value}:ext P (.tuple #[a,b]) 1 w K=K b w:=Lm (vs:=[a,b]) rfl
theorem X7B {a b c:Value}:ext P (.tuple #[a,b,c]) 0 w K=K a w:=Lm (vs:=[a,b,c]) rfl
theorem X7D {a b c:Value}:ext P (.tuple #[a,b,c]) 1 w K=K b w:=Lm (vs:=[a,b,c]) rfl
theorem X7E {a b c:Value}:ext P (.tuple #[a,b,c]) 2 w K=K c w:=Lm (vs:=[a,b,c]) rfl
theorem Qi {n:Int} (c: -9223372036854775808<=n) (d:n<=9223372036854775807):IntKind.i64.wrap n=n:=by
 have e:n % 18446744073709551616=n\/n % 18446744073709551616=n+18446744073709551616:=by omega
 show (if (true&&decide (n % 18446744073709551616>=9223372036854775808))=true then n % 18446744073709551616-18446744073709551616 else n % 18446744073709551616)=n
 simp only[Bool.true_and,decide_eq_true_eq]
 split<;>omega
theorem w32 {n:Int} (c: -2147483648<=n) (d:n<=2147483647):IntKind.i32.wrap n=n:=by
 show (if (true&&decide (n % 4294967296>=2147483648))=true then n % 4294967296-4294967296 else n % 4294967296)=n
 simp only[Bool.true_and,decide_eq_true_eq]
 split<;>omega
variable {a b : List UInt8}
theorem Q7U (a b:List UInt8):(a==b)=decide (a=b):=by rw[Bool.eq_iff_iff];simp
theorem Ak:Z2 P .eql t ox oy (S a) (S b) w K=K (.bool (decide (a=b))) w:=Y8 (by
 simp[eqGuard,Go.binOp,Op.stringOp,Q7U])
theorem Al:Z2 P .neq t ox oy (S a) (S b) w K=K (.bool (!decide (a=b))) w:=Y8 (by
 simp[eqGuard,Go.binOp,Op.stringOp,Q7U])
theorem Xn (l:List UInt8):(ByteArray.mk l.toArray).size=l.length:=by simp[ByteArray.size]
theorem X4M (a b:List UInt8):ByteArray.mk a.toArray++ByteArray.mk b.toArray=ByteArray.mk (a++b).toArray:=by
 apply ByteArray.ext;simp
theorem Y0M:IntKind.i64.max=9223372036854775807:=by decide
theorem Q5P (h:a.length+b.length<=9223372036854775807):Z2 P .add t ox oy (S a) (S b) w K=K (S (a++b)) w:=Y8 (by
 have c: ¬(((a.length+b.length:Nat):Int)>IntKind.i64.max):=by rw[Y0M];omega
 simp only[eqGuard,Go.binOp,Op.stringOp,Xn,X4M];simp only[if_neg c]
 simp)
theorem I4 {cs:List Bool} {r:TypeId} (c:P.underlying t=some .string):U4 P .len [t] r cs [S a] w K=K (I a.length) w:=by
 have h:(Builtin.len_ #[t] r #[S a]).run P w= .ok (I a.length) w:=by
  simp[Builtin.len_,run_underlying c,Xn,goInt]
 exact Y8 h
theorem Uc {i:Int} (d:P.underlying t=some .string) (c:0<=i) (h:i.toNat<a.length):P7 P t (S a) (I i) w K=K (.int .u8 (a[i.toNat]'h).toNat) w:=Y8 (by
 simp only[Instr.index,asIntOf,Sem.run_bind,Sem.run_pure,Result.andThen_ok,run_underlying d,c,if_true]
 have:(ByteArray.mk a.toArray)[i.toNat]? =some (a[i.toNat]'h):=by
  rw[getElem?_pos _ _ (by rw[Xn];exact h)]
  rfl
 rw[this];simp)
theorem Q7h (l:List UInt8) (i j:Nat):(ByteArray.mk l.toArray).extract i j=ByteArray.mk ((l.take j).drop i).toArray:=by
 apply ByteArray.ext;apply Array.ext'
 simp[List.drop_take]
theorem Nf {i:Int} (d:P.underlying t=some .string) (c:0<=i) (h:i<=a.length):I7 P t (S a) (some (I i)) none none w K=K (S (a.drop i.toNat)) w:=Y8 (by
 simp[Instr.sliceAt,Instr.slice,Instr.sliceBounds,Instr.sliceBound,asIntOf,run_underlying d,c,h,Xn,Q7h])
theorem Yq {i:Int} (d:P.underlying t=some .string) (c:0<=i) (h:i<=a.length):I7 P t (S a) none (some (I i)) none w K=K (S (a.take i.toNat)) w:=Y8 (by
 simp[Instr.sliceAt,Instr.slice,Instr.sliceBounds,Instr.sliceBound,asIntOf,run_underlying d,c,h,Xn,Q7h])
theorem Jc {s d:TypeId} {k j:IntKind} {n:Int} {ds:TypeDesc} (e:P.underlying s=some ds) (c:P.underlying d=some (.int k)):conv P s d (.int j n) w K=K (.int k (k.wrap n)) w:=Y8 (by
 simp[Go.convert,run_underlying e,run_underlying c,Conv.intToInt])
def Q4v (w:World) (r:Nat) (o:Obj):World:={w with heap:=w.heap.setIfInBounds r o}
theorem Q8H {B r:Nat} {a w:World} {o:Obj} (h:Below B a w) (d:B<=r):Below B a (Q4v w r o):=
 h.trans ⟨rfl,rfl,rfl,by simp[Q4v],fun k c=>by simp only[Q4v];rw[Array.getElem?_setIfInBounds_ne Q5]⟩
theorem X3b {w:World} {r:Nat} {o:Obj} (h:r<w.heap.size):(Q4v w r o).heap[r]? =some o:=by
 simp only[Q4v];rw[Array.getElem?_setIfInBounds_self_of_lt h]
theorem X90 {t:TypeId} {a:List UInt8} (c:P.underlying t=some .string):rng P t (S a) w K=K (.pointer (some ⟨w.heap.size,0,none⟩)) (w.alloc (.stringIter ⟨a.toArray⟩ 0)):=Y8 (by
 simp[Instr.range,run_underlying c])
theorem X8M {t:TypeId} {r pos:Nat} {s:ByteArray} (h:w.heap[r]? =some (.stringIter s pos)) (e:pos<s.size):
 L8 P (.pointer (some ⟨r,0,none⟩)) true t w K=K (.tuple #[.bool true,I pos, .int .i32 (Utf8.decode s pos).1]) (Q4v w r (.stringIter s (pos+(Utf8.decode s pos).2))):=Y8 (by
 have c: ∀(k:Obj->Sem Value),(getObj r>>=k).run P w=(k (.stringIter s pos)).run P w:=by
  intro k;rw[Sem.run_bind];simp[getObj,Sem.run,h]
 have d: ∀o,(setObj r o).run P w= .ok () (Q4v w r o):=by intro o;simp[setObj,Sem.run,h,Q4v]
 unfold Instr.next
 simp only[c,e,if_true]
 simp[d,goInt])
theorem X2l {t:TypeId} {r pos:Nat} {s:ByteArray} (h:w.heap[r]? =some (.stringIter s pos)) (d: ¬pos<s.size):
 L8 P (.pointer (some ⟨r,0,none⟩)) true t w K=K (.tuple #[.bool false]) w:=Y8 (by
 have c: ∀(k:Obj->Sem Value),(getObj r>>=k).run P w=(k (.stringIter s pos)).run P w:=by
  intro k;rw[Sem.run_bind];simp[getObj,Sem.run,h]
 unfold Instr.next
 simp only[c,d,if_false]
 simp)
theorem X7C {a:Value}:ext P (.tuple #[a]) 0 w K=K a w:=Lm (vs:=[a]) rfl
theorem X3J {s:ByteArray} {i:Nat} (h:(s.get! i).toNat<128):Utf8.decode s i=((s.get! i).toNat,1):=by
 unfold Utf8.decode;simp only[Nat.add_zero];rw[if_pos h]
theorem X24 {s:ByteArray} {i:Nat} (h: ¬(s.get! i).toNat<128):128<=(Utf8.decode s i).1:=by
 unfold Utf8.decode;simp only[Nat.add_zero];rw[if_neg h]
 repeat' split
 all_goals (simp only[Utf8.runeError] at*;try omega)
 all_goals (simp only[Bool.and_eq_true,decide_eq_true_eq,ge_iff_le] at*;omega)
theorem X0o {s:ByteArray} {i:Nat}:1<=(Utf8.decode s i).2:=by
 unfold Utf8.decode;simp only
 repeat' split
 all_goals simp
def Q0V (p:Int->Bool) (s:ByteArray):Nat->Nat->Bool
 | 0,_=>true
 | n+1,i=>if i<s.size then p (Utf8.decode s i).1&&Q0V p s n (i+(Utf8.decode s i).2) else true
theorem Q8i {a:List UInt8} {i:Nat} (h:i<a.length):(ByteArray.mk a.toArray).get! i=a[i]:=by
 show (ByteArray.mk a.toArray).data[i]! =a[i]
 simp[h]
theorem X3u (p:Int->Bool) (f: ∀c:Int,128<=c->p c=false) (a:List UInt8): ∀(n i:Nat),a.length-i<=n->Q0V p ⟨a.toArray⟩ n i=(a.drop i).all (fun b=>p b.toNat):=by
 intro n
 induction n with
 | zero=>intro i h;rw[List.drop_eq_nil_of_le Q5];rfl
 | succ n g=>
  intro i h;simp only[Q0V,Xn]
  split
  .rename_i d
   rw[List.drop_eq_getElem_cons d,List.all_cons]
   by_cases e:a[i].toNat<128
   .rw[X3J (by rw[Q8i d];exact e),Q8i d]
    simp only;rw[g (i+1) Q5]
   .have j:=X24 (s:=⟨a.toArray⟩) (i:=i) (by rw[Q8i d];exact e)
    rw[f _ Q5,f _ Q5];rfl
  .rename_i d;rw[List.drop_eq_nil_of_le Q5];rfl
theorem M0 {α:Type} {A:(α->World->Prop)->World->Prop} {B:α->(Nat->Value)->World->Prop} (h:A (fun x w=> ∀d,B x d w) w):jn w A B:=Qt _ h (fun _ d _ c=>c d)
theorem Y1 {d:World->World->Prop} {A c:(Value->World->Prop)->Prop} (V:Value) (h:A (fun v _=>v=V)) (e:c (fun v _=>v=V)):V2 d A c:=
 F4 _ (fun _ _ _ h _=>h) h e
theorem Cr {w w0:World} {A:(World->World->Prop)->(World->Prop)->Prop} (e:Below w0.heap.size w0 w)
 (h:A (fun w w'=>Below w.heap.size w w') (fun w'=>Below w0.heap.size w0 w')):dr w A:=
 Q13 _ _ e.drew (fun _ _ c d=>c.trans (d.mono c.size)) h
theorem Q6S {w w':World} {v V:Value} (c:Below w.heap.size w w') (h:v=V):dk (fun w w'=>Below w.heap.size w w') (fun v _=>v=V) w v w':=⟨c,h⟩
theorem Y4 {w:World} {v V:Value} (h:v=V):dk (fun w w'=>Below w.heap.size w w') (fun v _=>v=V) w v w:=⟨Below.refl _ _,h⟩
theorem X29 {n:Nat} {fn:Func} {e:Array Value->Sem Value} {xs:List Value} {v:Value} (g:P.funcs[n]? =some fn) (i:(fn.name== "runtime.NumGoroutine")=false) (j:fn.body.isNone=true)
 (l:(Extern.findNext fn).isNone=true) (m:Extern.find fn=some e) (o:(e xs.toArray).run P w= .ok v w) (h:K v w):Q0 P n xs w K:=by
 have f:Extern.findNext fn=none:=by simpa using l
 have c: ¬fn.name= "runtime.NumGoroutine":=by simpa using i
 have d:fn.body=none:=by simpa using j
 unfold Q0;rw[Zf];unfold Yp callFunc
 simp[g,c,d,f,m,o,h]
theorem Q6V {α:Type} (p:α->Bool) (c:Nat->Bool): ∀(l:List α),(∀i (h:i<l.length),c i=p l[i])->(List.range l.length).find? c=l.findIdx? p
 | [],_=>rfl
 | x::l,h=>by
  rw[List.length_cons,List.range_succ_eq_map,List.find?_cons,List.findIdx?_cons];have d:c 0=p x:=h 0 V5;rw[d];cases p x
  .simp only[Bool.false_eq_true,if_false]
   rw[List.find?_map];have:=Q6V p (c ∘ Nat.succ) l (fun i e=>h (i+1) (by simpa using e))
   rw[this]
  .rfl
def Mr:=And.intro @F5 <| And.intro @C8 <| And.intro @G3 <| And.intro @Q09 <| And.intro @Q7Z <| And.intro @Q7X <| And.intro @Q7W <| And.intro @Q7V <| And.intro @Kc <| And.intro @Q55 <| And.intro @Q54 <| And.intro @Q7Y <| And.intro @Q8y <| And.intro @Ak <| And.intro @Al <| And.intro @X9L <| And.intro @X9M <| And.intro @X7B <| And.intro @X7D <| And.intro @X7E <| And.intro @X7C <| And.intro @X77 <| And.intro @X8P <| And.intro @H0 <| And.intro @C3 <| And.intro @Qs <| And.intro @G8 <| And.intro @X6N <| And.intro @I5 <| @F3
def Mp:=And.intro @F5 <| And.intro @C8 <| And.intro @G3 <| And.intro @Q09 <| And.intro @Q7Z <| And.intro @Q7X <| And.intro @Q7W <| And.intro @Q7V <| And.intro @Kc <| And.intro @Q55 <| And.intro @Q54 <| And.intro @Q7Y <| And.intro @Q8y <| And.intro @Ak <| And.intro @Al <| And.intro @X9L <| And.intro @X9M <| And.intro @X7B <| And.intro @X7D <| And.intro @X7E <| And.intro @X7C <| And.intro @H0 <| And.intro @C3 <| And.intro @Qs <| And.intro @G8 <| And.intro @I5 <| @F3
def Mb:=And.intro @Bool.true_eq_false <| And.intro @Bool.false_eq_true <| And.intro @Bool.not_true <| And.intro @Bool.not_false <| And.intro @Bool.and_true <| And.intro @Bool.true_and <| And.intro @Bool.and_false <| And.intro @Bool.false_and <| And.intro @Bool.or_true <| And.intro @Bool.true_or <| And.intro @Bool.or_false <| @Bool.false_or
end Go.Emb
namespace Go.Kd
abbrev Q9:=List UInt8
def Jt (c:Int):Bool:=decide (65<=c)&&decide (c<=90)
def Zg (c:Int):Bool:=decide (97<=c)&&decide (c<=122)
def Qk (c:Int):Bool:=decide (48<=c)&&decide (c<=57)
def K9 (c:Int):Bool:=Jt c||Zg c||Qk c
def name (s:Q9):Bool:=match s with
 | []=>false
 | c::_=>decide (s.length<=32)&& !Qk c.toNat&&s.all (fun b=>K9 b.toNat)
def C6 (s:Q9):Bool:=match s with
 | []=>false
 | c::_=>name s&&Jt c.toNat
def B5 (s:Q9):Bool:=match s with
 | []=>false
 | c::_=>name s&&Zg c.toNat
def plain (s:Q9):Bool:=decide (s=[105,110,116])||decide (s=[98,111,111,108])||decide (s=[116,101,120,116])
def arr (s:Q9):Bool:=decide (2<=s.length)&&decide (s.drop (s.length-2)=[91,93])
def cutA (s:Q9):Q9:=s.take (s.length-2)
def Uv:Nat->Q9->Q9×Nat
 | 0,s=>(s,0)
 | n+1,s=>if arr s then ((Uv n (cutA s)).1,(Uv n (cutA s)).2+1) else (s,0)
def base (s:Q9):Q9×Nat:=Uv s.length s
def right (s:Q9):Bool:=decide ((base s).2<=3)&&(plain (base s).1||C6 (base s).1)
def elem (s:Q9):Q9:=if arr s&&right s then cutA s else []
def Jx (s:Q9):Nat:=if right s then (base s).2 else 0
def Jk (s:Q9):Q9×Q9×Bool:=match s with
 | []=>([],[],false)
 | c::r=>if c=46 then ([],r,true) else ((c::(Jk r).1),(Jk r).2.1,(Jk r).2.2)
def Wa (s:Q9):Bool:=(Jk s).2.2&&C6 (Jk s).1&&B5 (Jk s).2.1
def Q5a (c:UInt8) (s:Q9):Int:=match s.findIdx? (fun b=>decide (b=c)) with
 | some i=>i
 | none=> -1
def Q6T (s:Q9) (o:Option Nat):Q9×Q9×Bool:=match o with
 | some i=>(s.take i,s.drop (i+1),true)
 | none=>(s,[],false)
theorem Q12 (s:Q9):Jk s=Q6T s (s.findIdx? (fun b=>decide (b=46))):=by
 induction s with
 | nil=>rfl
 | cons c r a=>
  rw[List.findIdx?_cons];simp only[Jk]
  by_cases h:c=46
  .simp[h,Q6T]
  .simp only[h,if_false,decide_false,Bool.false_eq_true]
   rw[a];cases r.findIdx? (fun b=>decide (b=46)) with
   | none=>simp[Q6T]
   | some i=>simp[Q6T]
end Go.Kd
namespace Go.Proofs.Y
open Go.Emb Go.RowKit Go.Kd
variable {w : World} {K : Value -> World -> Prop}
theorem Z5:P.underlying T.b=some .string:=by kernel_rfl
theorem La:P.underlying T.e=some (.int .i64):=by kernel_rfl
theorem Q7N:P.underlying T.s=some .bool:=by kernel_rfl
theorem Q8x:P.underlying T.a2=some (.int .u8):=by kernel_rfl
theorem X3m:P.underlying T.ay=some (.int .i32):=by kernel_rfl
theorem X2Z (c:Int) (h:K (.bool (Jt c)) w):Q0 P F.cN [.int .i32 c] w K:=X1h (by
 unfold Q46 X8
 (try simp only[↓Mr,Mr,Mb,reduceIte])
 cases a:decide (65<=c)<;>simp only[a,↓Mr,Mr,Mb,reduceIte]<;>simpa [Jt,a] using h)
theorem X30 (c:Int) (h:K (.bool (Zg c)) w):Q0 P F.cO [.int .i32 c] w K:=X1i (by
 unfold Q47 X8
 (try simp only[↓Mr,Mr,Mb,reduceIte])
 cases a:decide (97<=c)<;>simp only[a,↓Mr,Mr,Mb,reduceIte]<;>simpa [Zg,a] using h)
theorem X8G (c:Int) (h:K (.bool (K9 c)) w):Q0 P F.cC [.int .i32 c] w K:=Q9G (by
 unfold Q2H X8;refine X2Z c ?_;cases a:Jt c
 ·(try simp only[↓Mr,Mr,Mb,reduceIte])
  refine X30 c ?_;cases b:Zg c
  ·(try simp only[↓Mr,Mr,Mb,reduceIte])
   cases d:decide (48<=c)
   ·(try simp only[↓Mr,Mr,Mb,reduceIte])
    simpa [K9,Qk,a,b,d] using h
   ·(try simp only[↓Mr,Mr,Mb,reduceIte])
    simpa [K9,Qk,a,b,d] using h
  ·(try simp only[↓Mr,Mr,Mb,reduceIte])
   simpa [K9,a,b] using h
 ·(try simp only[↓Mr,Mr,Mb,reduceIte])
  simpa [K9,a] using h)
theorem Y0G (a:List UInt8) (f:Value) (p:Int->Bool) (l: ∀(c:Int) (w:World) (K:Value->World->Prop),K (.bool (p c)) w->J6 P f [.int .i32 c] w K)
 (h: ∀w',Below w.heap.size w w'->K (.bool (Q0V p ⟨a.toArray⟩ a.length 0)) w'):Q0 P F.de [S a,f] w K:=X4k (by
 unfold Q74;rw[X90 Z5]
 refine Wv (fun _ w'=> ∃pos n:Nat,a.length-pos<=n/\Q0V p ⟨a.toArray⟩ a.length 0=Q0V p ⟨a.toArray⟩ n pos/\Below w.heap.size w w'/\w'.heap[w.heap.size]? =some (.stringIter ⟨a.toArray⟩ pos))
  (fun _ w'=>match w'.heap[w.heap.size]? with | some (.stringIter _ pos)=>a.length-pos | _=>0) ⟨0,a.length,by omega,rfl,(Below.refl _ _).alloc (Nat.le_refl _) _,heap_alloc_new w _⟩ ?_
 rintro _ _ w1 ⟨pos,n,q,b,j,e⟩
 by_cases g:pos<a.length
 .rw[X8M e (by rw[Xn];exact g)]
  (try simp only[↓Mr,Mr,Mb,reduceIte])
  refine l _ _ _ ?_;obtain ⟨n,rfl⟩: ∃m,n=m+1:=⟨n-1,by omega⟩
  simp only[Q0V,Xn,g,if_true] at b;have r:=X0o (s:=⟨a.toArray⟩) (i:=pos);have d:w.heap.size<w1.heap.size:=(Array.getElem?_eq_some_iff.1 e).1;cases k:p (Utf8.decode ⟨a.toArray⟩ pos).1
  ·(try simp only[↓Mr,Mr,Mb,reduceIte])
   rw[k] at b;have:=h _ (Q8H (o:= .stringIter ⟨a.toArray⟩ (pos+(Utf8.decode ⟨a.toArray⟩ pos).2)) j (Nat.le_refl _));rw[b] at this;exact this
  ·(try simp only[↓Mr,Mr,Mb,reduceIte])
   rw[k] at b;refine ⟨⟨_,n,?_,b,Q8H j (Nat.le_refl _),X3b d⟩,?_⟩
   .omega
   .simp only[X3b d,e];omega
 .rw[X2l e (by rw[Xn];exact g)]
  (try simp only[↓Mr,Mr,Mb,reduceIte])
  have:Q0V p ⟨a.toArray⟩ n pos=true:=by
   cases n with
   | zero=>rfl
   | succ n=>simp only[Q0V,Xn,g,if_false]
  rw[<-this,<-b];exact h _ j)
theorem X3v (c:Int) (h:128<=c):K9 c=false:=by
 simp[K9,Jt,Zg,Qk];omega
theorem X0J (a:List UInt8) (n:a.length<=140737488355328) (h: ∀w',Below w.heap.size w w'->K (.bool (name a)) w'):Q0 P F.cx [S a] w K:=X2u (by
 unfold Q63 X8 X4 X2 J9
 have d: ∀c r,a=c::r->(decide (a.length<=32)&& !Qk c.toNat)=true->Q0 P F.de [S a,(.func (.func F.cC) #[] #[])] w K:=by
  intro c r m b;refine Y0G a _ K9 (fun c w K h=>J8 (first:=[]) (caps:=[]) (X8G c h)) fun w' l=>?_
  rw[X3u _ X3v a _ _ Q5];have:=h w' l;rw[m] at this b⊢;simp only[name] at this;rw[b,Bool.true_and] at this
  simpa using this
 cases a with
 | nil=>
  simp only[↓Mr,Mr,Mb,reduceIte,decide_true];exact h w (Below.refl _ _)
 | cons c r=>
  have g:decide (c::r=[])=false:=by simp
  simp only[↓Mr,Mr,Mb,reduceIte,g,I4 Z5]
  by_cases k:(c::r).length<=32
  .have e:r.length<=31:=by simpa using k
   have b:decide ((32:Int)<((c::r).length:Int))=false:=by simp only[decide_eq_false_iff_not];omega
   simp only[↓Mr,Mr,Mb,reduceIte,b];rw[Uc Z5 Q5 V5]
   (try simp only[↓Mr,Mr,Mb,reduceIte])
   have j:(c::r)[(0:Int).toNat]'(by simp)=c:=rfl
   simp only[j];cases f:decide ((48:Int)<=(c.toNat:Int))
   ·(try simp only[↓Mr,Mr,Mb,reduceIte])
    exact d c r rfl (by simp[Qk,e,f])
   ·(try simp only[↓Mr,Mr,Mb,reduceIte])
    rw[Uc Z5 Q5 V5];simp only[↓Mr,Mr,Mb,reduceIte,j];cases i:decide ((c.toNat:Int)<=57)
    ·(try simp only[↓Mr,Mr,Mb,reduceIte])
     exact d c r rfl (by simp only[Qk,f,i];simp[e])
    ·(try simp only[↓Mr,Mr,Mb,reduceIte])
     have:name (c::r)=false:=by simp only[name,Qk,f,i];simp
     rw[<-this];exact h w (Below.refl _ _)
  .have b:decide ((32:Int)<((c::r).length:Int))=true:=by simp only[decide_eq_true_eq];omega
   simp only[↓Mr,Mr,Mb,reduceIte,b];have:name (c::r)=false:=by simp only[name];rw[decide_eq_false k];rfl
   rw[<-this];exact h w (Below.refl _ _))
theorem Ke (a:List UInt8) (e:a.length<=140737488355328) (h: ∀w',Below w.heap.size w w'->K (.bool (C6 a)) w'):Q0 P F.al [S a] w K:=X1d (by
 unfold Q42 X8;refine X0J a e fun w1 b=>?_;cases a with
 | nil=>
  simp only[name,↓Mr,Mr,Mb,reduceIte];exact h w1 b
 | cons c r=>
  cases d:name (c::r)
  ·(try simp only[↓Mr,Mr,Mb,reduceIte])
   have:=h w1 b;simp only[C6,d] at this
   simpa using this
  ·(try simp only[↓Mr,Mr,Mb,reduceIte])
   rw[Uc Z5 Q5 V5];have f:(c::r)[(0:Int).toNat]'(by simp)=c:=rfl
   simp only[f];rw[Jc Q8x X3m,w32 Q5 (by have:=c.toNat_lt;omega)]
   refine X2Z _ ?_
   (try simp only[↓Mr,Mr,Mb,reduceIte])
   have:=h w1 b;simp only[C6,d] at this
   simpa using this)
theorem Kf (a:List UInt8) (h:K (.bool (plain a)) w):Q0 P F.aW [S a] w K:=X1f (by
 unfold Q44 X8 J9
 (try simp only[↓Mr,Mr,Mb,reduceIte])
 cases b:decide (a=[105,110,116])<;>(try simp only[↓Mr,Mr,Mb,reduceIte])
 .cases c:decide (a=[98,111,111,108])<;>(try simp only[↓Mr,Mr,Mb,reduceIte])<;>simpa [plain,b,c] using h
 .simpa [plain,b] using h)
def Mc (a b:List UInt8):Bool:=decide (b.length<=a.length)&&decide (a.drop (a.length-b.length)=b)
theorem Cv (a b:List UInt8) (e:a.length<=140737488355328) (f:b.length<=140737488355328) (h:K (.bool (Mc a b)) w):Q0 P F.ad [S a,S b] w K:=Tj (by
 unfold Ns X8 X4 X1;rw[I4 Z5,I4 Z5]
 (try simp only[↓Mr,Mr,Mb,reduceIte])
 by_cases d:b.length<=a.length
 .have c:decide ((b.length:Int)<=a.length)=true:=by simp only[decide_eq_true_eq];omega
  simp only[↓Mr,Mr,Mb,reduceIte,c,I4 Z5];rw[Qi Q5 Q5,Nf Z5 Q5 Q5]
  (try simp only[↓Mr,Mr,Mb,reduceIte])
  rw[show ((a.length:Int)-b.length).toNat=a.length-b.length from by omega]
  simpa [Mc,d] using h
 .have c:decide ((b.length:Int)<=a.length)=false:=by simp only[decide_eq_false_iff_not];omega
  simp only[↓Mr,Mr,Mb,reduceIte,c]
  simpa [Mc,d] using h)
theorem X2f (a b:List UInt8) (c:a.length<=140737488355328) (d:b.length<=140737488355328) (h:K (.bool (Mc a b)) w):Q0 P F.c8 [S a,S b] w K:=Q3y (by
 unfold Cl;exact Cv a b c d h)
def Bf (a b:List UInt8):List UInt8:=if Mc a b then a.take (a.length-b.length) else a
theorem Q92 {a b:List UInt8} (h:Mc a b=true):b.length<=a.length:=by
 simp only[Mc,Bool.and_eq_true,decide_eq_true_eq] at h;exact h.1
theorem X0K (a b:List UInt8) (d:a.length<=140737488355328) (e:b.length<=140737488355328) (h:K (S (Bf a b)) w):Q0 P F.bX [S a,S b] w K:=Q2o (by
 unfold Rk;refine Ps ?_;unfold Ly X4 X1;refine Cv a b d e ?_;cases c:Mc a b
 ·(try simp only[↓Mr,Mr,Mb,reduceIte])
  simpa [Bf,c] using h
 .have f:=Q92 c
  simp only[↓Mr,Mr,Mb,reduceIte,I4 Z5];rw[Qi Q5 Q5,Yq Z5 Q5 Q5];rw[show ((a.length:Int)-b.length).toNat=a.length-b.length from by omega]
  simpa [Bf,c] using h)
theorem X2e (a b:List UInt8) (d:a.length<=140737488355328) (e:b.length<=140737488355328) (h:K (.tuple #[S (Bf a b), .bool (Mc a b)]) w):Q0 P F.c7 [S a,S b] w K:=Q3x (by
 unfold Ck;simp only[D0];refine Ti ?_;unfold Nr X4 X1;refine Cv a b d e ?_;cases c:Mc a b
 ·(try simp only[↓Mr,Mr,Mb,reduceIte])
  simpa [Bf,c] using h
 .have f:=Q92 c
  simp only[↓Mr,Mr,Mb,reduceIte,I4 Z5];rw[Qi Q5 Q5,Yq Z5 Q5 Q5];rw[show ((a.length:Int)-b.length).toNat=a.length-b.length from by omega]
  (try simp only[↓Mr,Mr,Mb,reduceIte])
  simpa [Bf,c] using h)
theorem Q79 (a:List UInt8):Mc a [91,93]=arr a:=rfl
theorem Q6h (a:List UInt8):Bf a [91,93]=if arr a then Kd.cutA a else a:=rfl
theorem Xp {a:List UInt8} (h:arr a=true):(Kd.cutA a).length+2=a.length:=by
 simp only[arr,Bool.and_eq_true,decide_eq_true_eq] at h;simp only[Kd.cutA,List.length_take];omega
theorem Q6J: ∀(n m:Nat) (a:List UInt8),a.length<=n->a.length<=m->Uv n a=Uv m a
 | 0,0,a,_,_=>rfl
 | 0,m+1,a,h,_=>by
  have:a=[]:=List.eq_nil_of_length_eq_zero Q5;subst this;rfl
 | n+1,0,a,_,h=>by
  have:a=[]:=List.eq_nil_of_length_eq_zero Q5;subst this;rfl
 | n+1,m+1,a,b,c=>by
  simp only[Uv]
  split
  .rename_i h
   have:=Xp h;rw[Q6J n m (Kd.cutA a) Q5 Q5]
  .rfl
theorem Zj (a:List UInt8):base a=if arr a then ((base (Kd.cutA a)).1,(base (Kd.cutA a)).2+1) else (a,0):=by
 unfold base;cases b:a.length with
 | zero=>
  have:a=[]:=List.eq_nil_of_length_eq_zero b;subst this;rfl
 | succ n=>
  simp only[Uv]
  split
  .rename_i h
   have:=Xp h;rw[Q6J n (Kd.cutA a).length (Kd.cutA a) Q5 (Nat.le_refl _)]
  .rfl
theorem Q52 (a:List UInt8):(base a).1.length+2*(base a).2=a.length:=by
 have key: ∀n (a:List UInt8),(Uv n a).1.length+2*(Uv n a).2=a.length:=by
  intro n
  induction n with
  | zero=>intro a;simp[Uv]
  | succ n b=>
   intro a;simp only[Uv]
   split
   .rename_i h
    have:=Xp h;have:=b (Kd.cutA a);simp only;omega
   .simp
 exact key _ a
theorem X5r (a:List UInt8) (e:a.length<=140737488355328) (h:K (.tuple #[S (base a).1,I (base a).2]) w):Q0 P F.d3 [S a] w K:=X2v (by
 unfold Q64 X2
 refine Wv (fun x w'=>w'=w/\ ∃(b:List UInt8) (n:Nat),x=(S b,I n)/\b.length+2*n=a.length/\base a=((base b).1,(base b).2+n)) (fun x _=>match x.1 with | .string s=>s.size | _=>0)
  ⟨rfl,a,0,rfl,by omega,rfl⟩ ?_
 rintro _ _ _ ⟨rfl,b,n,rfl,g,d⟩;refine X2f b _ Q5 V5 ?_;rw[Q79];cases c:arr b
 ·(try simp only[↓Mr,Mr,Mb,reduceIte])
  rw[Zj b,c] at d;simp only[Bool.false_eq_true,if_false,Nat.zero_add] at d;rw[d] at h;exact h
 ·(try simp only[↓Mr,Mr,Mb,reduceIte])
  refine X0K b _ Q5 V5 ?_;rw[Q6h,c];simp only[↓Mr,Mr,Mb,reduceIte,if_true];have f:=Xp c;rw[Qi Q5 Q5];refine ⟨⟨by first | rfl | trivial,Kd.cutA b,n+1,by simp,by omega,?_⟩,?_⟩
  .rw[d,Zj b,c];simp;omega
  .simp only[Xn];omega)
theorem Wb (a:List UInt8) (e:a.length<=140737488355328) (h: ∀w',Below w.heap.size w w'->K (.bool (right a)) w'):Q0 P F.a2 [S a] w K:=X1g (by
 unfold Q45;simp only[D0];unfold X8 X2;have g:=Q52 a;refine X5r a e ?_
 (try simp only[↓Mr,Mr,Mb,reduceIte])
 by_cases c:(base a).2<=3
 .have b:decide (((base a).2:Int)<=3)=true:=by simp only[decide_eq_true_eq];omega
  simp only[↓Mr,Mr,Mb,reduceIte,b];refine Kf _ ?_;cases d:plain (base a).1
  ·(try simp only[↓Mr,Mr,Mb,reduceIte])
   refine Ke _ Q5 fun w1 f=>?_
   (try simp only[↓Mr,Mr,Mb,reduceIte])
   have:=h w1 f;simp only[right,c,d] at this
   simpa using this
  ·(try simp only[↓Mr,Mr,Mb,reduceIte])
   have:=h w (Below.refl _ _);simp only[right,c,d] at this
   simpa using this
 .have b:decide (((base a).2:Int)<=3)=false:=by simp only[decide_eq_false_iff_not];omega
  simp only[↓Mr,Mr,Mb,reduceIte,b];have:=h w (Below.refl _ _);simp only[right,c] at this
  simpa using this)
theorem Q7c (a:List UInt8) (c:a.length<=140737488355328) (h: ∀w',Below w.heap.size w w'->K (S (elem a)) w'):Q0 P F.bJ [S a] w K:=X2t (by
 unfold Q62;simp only[D0];unfold X8;refine X2e a _ c V5 ?_;rw[Q79,Q6h]
 (try simp only[↓Mr,Mr,Mb,reduceIte])
 cases b:arr a
 ·(try simp only[↓Mr,Mr,Mb,reduceIte])
  have:=h w (Below.refl _ _);simp only[elem,b] at this;exact this
 ·(try simp only[↓Mr,Mr,Mb,reduceIte])
  refine Wb a c fun w1 e=>?_;have:=h w1 e;cases d:right a
  ·(try simp only[↓Mr,Mr,Mb,reduceIte])
   simp only[elem,b,d] at this;exact this
  .simp only[↓Mr,Mr,Mb,reduceIte,if_true]
   simp only[elem,b,d] at this;exact this)
theorem X5q (a:List UInt8) (b:a.length<=140737488355328) (h: ∀w',Below w.heap.size w w'->K (I (Jx a)) w'):Q0 P F.d2 [S a] w K:=X2s (by
 unfold Q61;simp only[D0];refine X5r a b ?_
 (try simp only[↓Mr,Mr,Mb,reduceIte])
 refine Wb a b fun w1 d=>?_;have:=h w1 d;cases c:right a<;>(try simp only[↓Mr,Mr,Mb,reduceIte])<;>simpa [Jx,c] using this)
theorem Y1v (a:List UInt8) (i:a.length<=140737488355320) (h: ∀w',Below w.heap.size w w'->K (if right a&&decide (Jx a≠3) then .tuple #[S (a++[91,93]),I 0] else .tuple #[S [],I 30]) w'):Q0 P F.dz [S a] w K:=X5P (by
 unfold Q8Y X8 X2 J9;refine Wb a Q5 fun w1 d=>?_;cases c:right a
 ·(try simp only[↓Mr,Mr,Mb,reduceIte])
  have:=h w1 d;simp only[c] at this
  simpa using this
 ·(try simp only[↓Mr,Mr,Mb,reduceIte])
  refine X5q a Q5 fun g e=>?_;have:=h g (d.trans (e.mono d.size))
  by_cases f:Jx a=3
  .have b:decide ((Jx a:Int)=3)=true:=by simp only[decide_eq_true_eq];omega
   simp only[↓Mr,Mr,Mb,reduceIte,b];simp only[c,f] at this
   simpa using this
  .have b:decide ((Jx a:Int)=3)=false:=by simp only[decide_eq_false_iff_not];omega
   simp only[↓Mr,Mr,Mb,reduceIte,b];rw[Q5P (by simp;omega)]
   simp only[c] at this
   simpa [f] using this)
theorem Q5z (a:List UInt8) (c:UInt8) (h:K (I (Q5a c a)) w):Q0 P F.cr [S a, .int .u8 c.toNat] w K:=by
 refine X29 (e:=Extern.BytealgIndexByte.indexByte) Tryz.func272 L7 rfl X7 X7 ?_ h
 have d:((List.range (ByteArray.mk a.toArray).size).find? fun i=>(ByteArray.mk a.toArray)[i]! ==c)=a.findIdx? (fun b=>decide (b=c)):=by
  rw[Xn];refine Q6V _ _ a fun i g=>?_
  have:(ByteArray.mk a.toArray)[i]! =a[i]:=by
   rw[getElem!_pos _ _ (by rw[Xn];exact g)];rfl
  rw[this,Bool.eq_iff_iff];simp
 have f:((c.toNat:Int).toNat.toUInt8)=c:=by simp
 have:=run_indexByte_string (P:=P) ⟨a.toArray⟩ c.toNat w;rw[f] at this;refine this.trans ?_;unfold firstIdx Q5a;rw[d];cases a.findIdx? (fun b=>decide (b=c))<;>rfl
theorem X6P (a:List UInt8) (c:UInt8) (h:K (I (Q5a c a)) w):Q0 P F.ca [S a,S [c]] w K:=Q3A (by
 unfold Cn X8 X4 X2 X1;simp only[I4 Z5];have f:decide ((([c]:List UInt8).length:Int)=0)=false:=rfl;have g:decide ((([c]:List UInt8).length:Int)=1)=true:=rfl;simp only[Q54,f,g];simp only[↓Mr,Mr,Mb,reduceIte]
 have b:P7 P T.b (S [c]) (I 0) w fun d w=>Q0 P F.aC [S a,d] w fun e w=>K e w:=by
  rw[Uc Z5 Q5 V5];refine Tk ?_;unfold Nt;exact Q5z a c h
 cases i:decide ([c]=a)
 ·(try simp only[↓Mr,Mr,Mb,reduceIte])
  exact b
 ·(try simp only[↓Mr,Mr,Mb,reduceIte])
  have j:[c]=a:=by simpa using i
  have:Q5a c a=0:=by rw[<-j];simp[Q5a,List.findIdx?_cons]
  rw[this] at h;exact h)
theorem X6L {c:UInt8} {a:List UInt8} {i:Nat} (h:a.findIdx? (fun b=>decide (b=c))=some i):i<a.length:=by
 have:=List.findIdx?_eq_some_iff_getElem.1 h;exact this.1
theorem Y0F (a:List UInt8) (f:a.length<=140737488355328) (h: ∀w',Below w.heap.size w w'->K (.tuple #[S (Jk a).1,S (Jk a).2.1, .bool (Jk a).2.2]) w'):Q0 P F.dc [S a,S [46]] w K:=Q9K (by
 unfold Q2L;simp only[D0];refine Q5M ?_;unfold Gx;simp only[Y5,X5];unfold X4 X2 X1;refine X6P a 46 ?_;rw[Q12] at h;unfold Q5a;cases c:a.findIdx? (fun b=>decide (b=46)) with
 | none=>
  simp only[↓Mr,Mr,Mb,reduceIte,show decide ((0:Int)<= -1)=false from rfl]
  have:=h w (Below.refl _ _);rw[c] at this;exact this
 | some i=>
  have g:=X6L c;have d:decide ((0:Int)<=(i:Int))=true:=by simp
  simp only[Q55,d];simp only[↓Mr,Mr,Mb,reduceIte];refine Cr (Below.refl _ w) ?_;refine Y1 (S (a.take i)) (fun w1 _=>?_) ?_
  .rw[Yq Z5 Q5 Q5];exact Y4 V5
  refine Y1 (I 1) (fun w1 _=>?_) ?_
  .rw[I4 Z5];exact Y4 rfl
  refine Y1 (I (i+1)) ?_ ?_
  .rintro _ w1 _ rfl
   rw[Q09,Qi Q5 Q5];exact Y4 rfl
  refine Y1 (S (a.drop (i+1))) ?_ ?_
  .rintro _ w1 _ rfl
   rw[Nf Z5 Q5 Q5];exact Y4 V5
  rintro _ _ _ _ w1 e rfl rfl rfl rfl
  (try simp only[↓Mr,Mr,Mb,reduceIte])
  have:=h w1 e;rw[c] at this;exact this)
theorem X8F (a:List UInt8) (t:a.length<=140737488355328) (h: ∀w',Below w.heap.size w w'->K (if Wa a then .tuple #[S (Jk a).1,S (Jk a).2.1,I 0] else .tuple #[S [],S [],I 30]) w'):Q0 P F.dj [S a] w K:=X1e (by
 unfold Q43;simp only[D0];unfold X8;refine Y0F a t fun w1 e=>?_
 have s:(Jk a).1.length<=a.length/\(Jk a).2.1.length<=a.length:=by
  rw[Q12];cases a.findIdx? (fun b=>decide (b=46))<;>simp[Q6T]
  omega
 generalize u:(Jk a).1=p at h s;generalize v:(Jk a).2.1=q at h s;have k:Wa a=((Jk a).2.2&&C6 p&&B5 q):=by rw[Wa,u,v]
 cases j:(Jk a).2.2
 .simp only[↓Mr,Mr,Mb,reduceIte]
  have:=h w1 e;rw[k,j] at this;simpa using this
 .simp only[↓Mr,Mr,Mb,reduceIte]
  refine Ke p Q5 fun z g=>?_;have d:=e.trans (g.mono e.size);cases o:C6 p
  ·(try simp only[↓Mr,Mr,Mb,reduceIte])
   have:=h z d;rw[k,j,o] at this;simpa using this
  ·(try simp only[↓Mr,Mr,Mb,reduceIte])
   refine X0J q Q5 fun A i=>?_;have f:=d.trans (i.mono d.size);have:=h A f;rw[k,j,o] at this;cases n:name q
   ·(try simp only[↓Mr,Mr,Mb,reduceIte])
    have m:B5 q=false:=by cases q with | nil=>rfl | cons c r=>simp[B5,n]
    rw[m] at this;simpa using this
   ·(try simp only[↓Mr,Mr,Mb,reduceIte])
    cases q with
    | nil=>simp[name] at n
    | cons c r=>
     rw[Uc Z5 Q5 V5];have l:(c::r)[(0:Int).toNat]'(by simp)=c:=rfl
     (try simp only[↓Mr,Mr,Mb,reduceIte])
     rw[l,Jc Q8x X3m,w32 Q5 (by have:=c.toNat_lt;omega)]
     refine X30 _ ?_;have m:B5 (c::r)=Zg c.toNat:=by simp[B5,n]
     rw[m] at this;cases y:Zg c.toNat<;>(try simp only[↓Mr,Mr,Mb,reduceIte])<;>rw[y] at this<;>simpa using this)
theorem Gb (a:List UInt8) (h:K (.bool (plain a)) w):Q0 P F.a0 [S a] w K:=Q25 (by
 unfold Hq J9;refine M0 ?_
 (try simp only[↓Mr,Mr,Mb,reduceIte])
 cases b:decide (a=[105,110,116])
 .cases c:decide (a=[98,111,111,108])
  .cases d:decide (a=[116,101,120,116])<;>(try simp only[↓Mr,Mr,Mb,reduceIte])<;>intro _<;>(try simp only[↓Mr,Mr,Mb,reduceIte])<;>simpa [plain,b,c,d] using h
  ·(try simp only[↓Mr,Mr,Mb,reduceIte])
   intro _
   (try simp only[↓Mr,Mr,Mb,reduceIte])
   simpa [plain,b,c] using h
 ·(try simp only[↓Mr,Mr,Mb,reduceIte])
  intro _
  (try simp only[↓Mr,Mr,Mb,reduceIte])
  simpa [plain,b] using h)
def X7s (a:List UInt8) (w:World) (x:Value) (w':World):Prop:=
 w=w'/\ ∃i:Nat,x=I i/\i<=a.length/\(0<i->(a.head?.map fun c=>Qk c.toNat)=some false)/\(a.take i).all (fun b=>K9 b.toNat)=true
def Q9N (a:List UInt8) (x:Value):Nat:=match x with | .int _ i=>a.length-i.toNat | _=>0
theorem X1r (a:List UInt8) (O:a.length<=140737488355328) (h:K (.bool (name a)) w):Q0 P F.b2 [S a] w K:=Q3l (by
 unfold Sy V1 X8 X4 X2 X1;refine Wv (X7s a w) (fun x _=>Q9N a x) ⟨rfl,0,rfl,by omega,by omega,by simp⟩ ?_
 rintro _ _ _ ⟨rfl,i,rfl,Q,M,k⟩;rw[I4 Z5]
 (try simp only[↓Mr,Mr,Mb,reduceIte])
 by_cases l:i<a.length
 .have B:decide ((i:Int)<a.length)=true:=by simp only[decide_eq_true_eq];omega
  simp only[B,↓Mr,Mr,Mb,reduceIte]
  have d: ∀z:Value->World->Prop,P7 P T.b (S a) (I i) w z=z (.int .u8 (a[i]'l).toNat) w:=fun z=>by
   rw[Uc Z5 Q5 (by simpa using l)];simp
  generalize q:a[i]=c at d
  have e:K9 c.toNat=false\/(i=0/\Qk c.toNat=true)->name a=false:=by
   intro y;cases a with
   | nil=>rfl
   | cons L r=>
    simp only[name]
    rcases y with y | ⟨rfl,y⟩
    .have:(L::r).all (fun b=>K9 b.toNat)=false:=by
      rw[List.all_eq_false];exact ⟨c,by rw[<-q];exact List.getElem_mem _,by simp[y]⟩
     rw[this];simp
    .simp only[List.getElem_cons_zero] at q
     rw[q,y];simp
  have f:K9 c.toNat=true->(i=0->Qk c.toNat=false)->X7s a w (I (IntKind.i64.wrap ((i:Int)+1))) w/\Q9N a (I (IntKind.i64.wrap ((i:Int)+1)))<Q9N a (I i):=by
   intro D H;rw[Qi Q5 Q5];refine ⟨⟨rfl,i+1,by simp,by omega,fun _=>?_,?_⟩,by simp only[Q9N];omega⟩
   .by_cases p:0<i
    .exact M p
    .obtain rfl:i=0:=by omega
     cases a with
     | nil=>simp at l
     | cons L r=>simp only[List.getElem_cons_zero] at q;subst q;simp[H rfl]
   .rw[List.take_add_one,List.getElem?_eq_getElem l,q]
    simp[k,D]
  have E:=c.toNat_lt;have t:decide ((i:Int)=0)=decide (i=0):=by rw[Bool.eq_iff_iff];simp
  by_cases n:97<=(c.toNat:Int)
  .by_cases A:(c.toNat:Int)<=122
   .simp only[d,decide_eq_true n,decide_eq_true A,↓Mr,Mr,Mb,reduceIte]
    exact f (by simp[K9,Zg,n,A]) (fun _=>by simp[Qk];omega)
   .have o:(65:Int)<=c.toNat:=by omega
    have s: ¬(c.toNat:Int)<=90:=by omega
    have g: ¬(c.toNat:Int)<48:=by omega
    have j:(57:Int)<c.toNat:=by omega
    simp only[d,decide_eq_true n,decide_eq_false A,decide_eq_true o,decide_eq_false s,decide_eq_false g,decide_eq_true j,t,↓Mr,Mr,Mb,reduceIte];have m:=e (.inl (by simp[K9,Jt,Zg,Qk];omega))
    rw[m] at h;cases decide (i=0)<;>(try simp only[d,decide_eq_false g,decide_eq_true j,↓Mr,Mr,Mb,reduceIte])<;>exact h
  .by_cases o:(65:Int)<=c.toNat
   .by_cases s:(c.toNat:Int)<=90
    .simp only[d,decide_eq_false n,decide_eq_true o,decide_eq_true s,↓Mr,Mr,Mb,reduceIte]
     exact f (by simp[K9,Jt,o,s]) (fun _=>by simp[Qk];omega)
    .have g: ¬(c.toNat:Int)<48:=by omega
     have j:(57:Int)<c.toNat:=by omega
     simp only[d,decide_eq_false n,decide_eq_true o,decide_eq_false s,decide_eq_false g,decide_eq_true j,t,↓Mr,Mr,Mb,reduceIte];have m:=e (.inl (by simp[K9,Jt,Zg,Qk];omega))
     rw[m] at h;cases decide (i=0)<;>(try simp only[d,decide_eq_false g,decide_eq_true j,↓Mr,Mr,Mb,reduceIte])<;>exact h
   .by_cases g:(c.toNat:Int)<48
    .simp only[d,decide_eq_false n,decide_eq_false o,decide_eq_true g,t,↓Mr,Mr,Mb,reduceIte]
     have m:=e (.inl (by simp[K9,Jt,Zg,Qk];omega))
     rw[m] at h;cases decide (i=0)<;>(try simp only[d,decide_eq_true g,↓Mr,Mr,Mb,reduceIte])<;>exact h
    .by_cases j:(57:Int)<c.toNat
     .simp only[d,decide_eq_false n,decide_eq_false o,decide_eq_false g,decide_eq_true j,t,↓Mr,Mr,Mb,reduceIte]
      have m:=e (.inl (by simp[K9,Jt,Zg,Qk];omega))
      rw[m] at h;cases decide (i=0)<;>(try simp only[d,decide_eq_false g,decide_eq_true j,↓Mr,Mr,Mb,reduceIte])<;>exact h
     .have v:Qk c.toNat=true:=by simp[Qk];omega
      simp only[d,decide_eq_false n,decide_eq_false o,decide_eq_false g,decide_eq_false j,t,↓Mr,Mr,Mb,reduceIte]
      by_cases p:i=0
      .have m:=e (.inr ⟨p,v⟩)
       rw[m] at h;simp only[decide_eq_true p,d,decide_eq_false g,decide_eq_false j,↓Mr,Mr,Mb,reduceIte];exact h
      .simp only[decide_eq_false p,d,decide_eq_false g,decide_eq_false j,↓Mr,Mr,Mb,reduceIte]
       exact f (by simp[K9,v]) (fun h=>absurd h p)
 .have B:decide ((i:Int)<a.length)=false:=by simp only[decide_eq_false_iff_not];omega
  obtain rfl:i=a.length:=by omega
  simp only[B,↓Mr,Mr,Mb,reduceIte];rw[I4 Z5];cases a with
  | nil=>
   have C:decide ((1:Int)<=(([]:List UInt8).length:Int))=false:=rfl;simp only[C,↓Mr,Mr,Mb,reduceIte];exact h
  | cons c r=>
   have C:decide ((1:Int)<=((c::r).length:Int))=true:=by simp only[decide_eq_true_eq,List.length_cons];omega
   have u:=M V5;simp only[List.head?_cons,Option.map_some,Option.some.injEq] at u;simp only[List.take_length] at k;have J:name (c::r)=decide ((c::r).length<=32):=by simp only[name,u,k];simp
   have N:decide (((c::r).length:Int)<=32)=decide ((c::r).length<=32):=by rw[Bool.eq_iff_iff];simp only[decide_eq_true_eq];omega
   simp only[C,I4 Z5,N,↓Mr,Mr,Mb,reduceIte];rw[<-J];exact h)
theorem Q19 {c:UInt8} {r:List UInt8} (h:name (c::r)=true):K9 c.toNat=true/\Qk c.toNat=false:=by
 simp only[name,Bool.and_eq_true,List.all_cons,Bool.not_eq_true'] at h;exact ⟨h.2.1,h.1.2⟩
theorem Ut (a:List UInt8) (g:a.length<=140737488355328) (h:K (.bool (C6 a)) w):Q0 P F.d [S a] w K:=Q23 (by
 unfold Ho X8;refine X1r a g ?_;cases a with
 | nil=>simp only[name,↓Mr,Mr,Mb,reduceIte];exact h
 | cons c r=>
  cases d:name (c::r)
  ·(try simp only[↓Mr,Mr,Mb,reduceIte])
   simpa [C6,d] using h
  ·(try simp only[↓Mr,Mr,Mb,reduceIte])
   rw[Uc Z5 Q5 V5];have b:(c::r)[(0:Int).toNat]'(by simp)=c:=rfl
   (try simp only[↓Mr,Mr,Mb,reduceIte])
   rw[b];obtain ⟨e,f⟩:=Q19 d
   have:decide ((c.toNat:Int)<=90)=Jt c.toNat:=by
    simp only[K9,Jt,Zg,Qk,Bool.or_eq_true,Bool.and_eq_true,Bool.and_eq_false_iff,decide_eq_true_eq,decide_eq_false_iff_not] at e f⊢;rw[Bool.eq_iff_iff];simp only[Bool.and_eq_true,decide_eq_true_eq];omega
   rw[this]
   simpa [C6,d] using h)
theorem Q2s (a:List UInt8) (g:a.length<=140737488355328) (h:K (.bool (B5 a)) w):Q0 P F.w [S a] w K:=Q0C (by
 unfold Dv X8;refine X1r a g ?_;cases a with
 | nil=>simp only[name,↓Mr,Mr,Mb,reduceIte];exact h
 | cons c r=>
  cases d:name (c::r)
  ·(try simp only[↓Mr,Mr,Mb,reduceIte])
   simpa [B5,d] using h
  ·(try simp only[↓Mr,Mr,Mb,reduceIte])
   rw[Uc Z5 Q5 V5];have b:(c::r)[(0:Int).toNat]'(by simp)=c:=rfl
   (try simp only[↓Mr,Mr,Mb,reduceIte])
   rw[b];obtain ⟨e,f⟩:=Q19 d
   have:decide ((97:Int)<=c.toNat)=Zg c.toNat:=by
    simp only[K9,Jt,Zg,Qk,Bool.or_eq_true,Bool.and_eq_true,Bool.and_eq_false_iff,decide_eq_true_eq,decide_eq_false_iff_not] at e f⊢;rw[Bool.eq_iff_iff];simp only[Bool.and_eq_true,decide_eq_true_eq];omega
   rw[this]
   simpa [B5,d] using h)
def Y0s (a:List UInt8) (w:World) (x:Value×Value) (w':World):Prop:=
 w=w'/\ ∃(b:List UInt8) (n:Nat),x=(S b,I n)/\b.length+2*n=a.length/\(base a).2=(base b).2+n
def X7r (x:Value×Value):Nat:=match x.1 with | .string s=>s.size | _=>0
theorem Pt (a:List UInt8) (j:a.length<=140737488355328) (h:K (I (base a).2) w):Q0 P F.a3 [S a] w K:=Q3j (by
 unfold Sw X8 X4 X2 J9;refine Wv (Y0s a w) (fun x _=>X7r x) ⟨rfl,a,0,rfl,by omega,rfl⟩ ?_
 rintro _ _ _ ⟨rfl,b,n,rfl,k,c⟩;rw[I4 Z5]
 (try simp only[↓Mr,Mr,Mb,reduceIte])
 by_cases f:2<=b.length
 .have e:decide ((2:Int)<=b.length)=true:=by simp only[decide_eq_true_eq];omega
  simp only[e,I4 Z5,↓Mr,Mr,Mb,reduceIte];rw[Qi Q5 Q5,Nf Z5 Q5 Q5];rw[show ((b.length:Int)-2).toNat=b.length-2 from by omega]
  have g:decide (b.drop (b.length-2)=[91,93])=arr b:=by simp[arr,f]
  simp only[g,↓Mr,Mr,Mb,reduceIte];cases d:arr b
  ·(try simp only[↓Mr,Mr,Mb,reduceIte])
   rw[Zj b,d] at c;simp only[Bool.false_eq_true,if_false,Nat.zero_add] at c;rw[c] at h;exact h
  ·(try simp only[I4 Z5,↓Mr,Mr,Mb,reduceIte])
   rw[Yq Z5 Q5 Q5];rw[show ((b.length:Int)-2).toNat=b.length-2 from by omega]
   have i:=Xp d;refine ⟨⟨rfl,Kd.cutA b,n+1,?_,by omega,?_⟩,?_⟩
   .simp only[Kd.cutA,Prod.mk.injEq,true_and]
    first | rfl | (rw[Qi Q5 Q5];rfl)
   .rw[c,Zj b,d];simp;omega
   .simp only[X7r,Xn,List.length_take];omega
 .have e:decide ((2:Int)<=b.length)=false:=by simp only[decide_eq_false_iff_not];omega
  simp only[e,↓Mr,Mr,Mb,reduceIte];have d:arr b=false:=by simp[arr,f]
  rw[Zj b,d] at c;simp only[Bool.false_eq_true,if_false,Nat.zero_add] at c;rw[c] at h;exact h)
theorem Q8G (a:List UInt8):a.take (a.length-2*(base a).2)=(base a).1:=by
 have key: ∀n (a:List UInt8),a.take (a.length-2*(Uv n a).2)=(Uv n a).1:=by
  intro n
  induction n with
  | zero=>intro a;simp[Uv]
  | succ n b=>
   intro a;simp only[Uv]
   split
   .rename_i h
    have c:=Xp h;simp only;rw[<-b (Kd.cutA a)];rw[Kd.cutA,List.take_take,List.length_take]
    congr 1
    omega
   .simp
 exact key _ a
theorem Mq (a:List UInt8) (e:a.length<=140737488355328) (h:K (.bool (right a)) w):Q0 P F.f [S a] w K:=Q26 (by
 unfold Hr X8 X4 X2 X1;have f:=Q52 a;refine Pt a e ?_;rw[I4 Z5]
 (try simp only[↓Mr,Mr,Mb,reduceIte])
 rw[Qi (n:=2*((base a).2:Int)) Q5 Q5,Qi Q5 Q5,Yq Z5 Q5 Q5];rw[show ((a.length:Int)-2*((base a).2:Int)).toNat=a.length-2*(base a).2 from by omega,Q8G]
 (try simp only[↓Mr,Mr,Mb,reduceIte])
 by_cases c:(base a).2<=3
 .have b:decide (((base a).2:Int)<=3)=true:=by simp only[decide_eq_true_eq];omega
  simp only[b,↓Mr,Mr,Mb,reduceIte];refine Gb _ ?_;cases d:plain (base a).1
  ·(try simp only[↓Mr,Mr,Mb,reduceIte])
   refine Ut _ Q5 ?_
   (try simp only[↓Mr,Mr,Mb,reduceIte])
   simpa [right,c,d] using h
  ·(try simp only[↓Mr,Mr,Mb,reduceIte])
   simpa [right,c,d] using h
 .have b:decide (((base a).2:Int)<=3)=false:=by simp only[decide_eq_false_iff_not];omega
  simp only[b,↓Mr,Mr,Mb,reduceIte]
  simpa [right,c] using h)
theorem X7W {a:List UInt8} (h:arr a=true):2<=a.length:=by simp only[arr,Bool.and_eq_true,decide_eq_true_eq] at h;exact h.1
theorem Q9n {a:List UInt8} (h:arr a=true) (c:right a=true):3<=a.length:=by
 have d:=X7W h;refine Nat.lt_of_le_of_ne d fun e=>?_;have f:=Xp h;have b:Kd.cutA a=[]:=List.eq_nil_of_length_eq_zero Q5;simp only[right,Zj a,h,if_true,b] at c
 revert c;decide
theorem Q6A (a:List UInt8) (e:a.length<=140737488355328) (h:K (S (elem a)) w):Q0 P F.aw [S a] w K:=Q3k (by
 unfold Sx X8 X4 X2 J9;rw[I4 Z5]
 (try simp only[↓Mr,Mr,Mb,reduceIte])
 by_cases j:a.length<3
 .have b:decide ((a.length:Int)<3)=true:=by simp only[decide_eq_true_eq];omega
  simp only[b,↓Mr,Mr,Mb,reduceIte]
  have g:elem a=[]:=by
   simp only[elem]
   split
   .rename_i hh
    simp only[Bool.and_eq_true] at hh;have:=Q9n hh.1 hh.2;omega
   .rfl
  rw[g] at h;exact h
 .have b:decide ((a.length:Int)<3)=false:=by simp only[decide_eq_false_iff_not];omega
  simp only[b,↓Mr,Mr,Mb,reduceIte];rw[Qi Q5 Q5,Nf Z5 Q5 Q5];rw[show ((a.length:Int)-2).toNat=a.length-2 from by omega]
  have f:decide (a.drop (a.length-2)=[91,93])=arr a:=by simp[arr];omega
  (try simp only[↓Mr,Mr,Mb,reduceIte])
  (try simp only[f,↓Mr,Mr,Mb,reduceIte])
  cases c:arr a
  ·(try simp only[↓Mr,Mr,Mb,reduceIte])
   simpa [elem,c] using h
  ·(try simp only[↓Mr,Mr,Mb,reduceIte])
   refine Pt a e ?_
   (try simp only[↓Mr,Mr,Mb,reduceIte])
   by_cases i:(base a).2<=3
   .have b:decide ((3:Int)<((base a).2:Int))=false:=by simp only[decide_eq_false_iff_not];omega
    simp only[b,↓Mr,Mr,Mb,reduceIte];refine Mq a e ?_;cases d:right a
    ·(try simp only[↓Mr,Mr,Mb,reduceIte])
     simpa [elem,c,d] using h
    ·(try simp only[↓Mr,Mr,Mb,reduceIte])
     try rw[Qi Q5 Q5]
     rw[Yq Z5 Q5 Q5];rw[show ((a.length:Int)-2).toNat=a.length-2 from by omega]
     simpa [elem,c,d,Kd.cutA] using h
   .have b:decide ((3:Int)<((base a).2:Int))=true:=by simp only[decide_eq_true_eq];omega
    simp only[b,↓Mr,Mr,Mb,reduceIte];have d:right a=false:=by simp[right,i]
    simpa [elem,c,d] using h)
def X9h (a:List UInt8) (w:World) (x:Value) (w':World):Prop:=
 w=w'/\ ∃n:Nat,x=I n/\n<=a.length/\(∀i,(h:i<n)->(b:i<a.length)->a[i]≠46)
def X4G (a:List UInt8) (x:Value):Nat:=match x with | .int _ n=>(a.length-n).toNat | _=>0
theorem Q9i (a:List UInt8) (L:a.length<=140737488355328) (h: ∀w',Below w.heap.size w w'->K (if (Jk a).2.2 then .tuple #[S (Jk a).1,S (Jk a).2.1, .bool (Wa a)] else .tuple #[S [],S [], .bool false]) w'):Q0 P F.bL [S a] w K:=Q24 (by
 unfold Hp;simp only[Y5,X5,N2,Jn];unfold V1 W9 X4 X2 X1;refine Wv (X9h a w) (fun x _=>X4G a x) ⟨rfl,0,rfl,by omega,by omega⟩ ?_
 rintro _ _ _ ⟨rfl,n,rfl,M,p⟩;rw[I4 Z5]
 (try simp only[↓Mr,Mr,Mb,reduceIte])
 by_cases D:n<a.length
 .have o:decide ((n:Int)<a.length)=true:=by simp only[decide_eq_true_eq];omega
  simp only[o,↓Mr,Mr,Mb,reduceIte];rw[Uc Z5 Q5 Q5]
  (try simp only[↓Mr,Mr,Mb,reduceIte])
  simp only[Int.toNat_natCast]
  have E:decide (((a[n]).toNat:Int)=46)=decide (a[n]=46):=by
   rw[Bool.eq_iff_iff];simp only[decide_eq_true_eq];constructor
   .intro e;exact UInt8.toNat_inj.1 (by have:(46:UInt8).toNat=46:=rfl;omega)
   .intro e;rw[e];rfl
  rw[E]
  by_cases m:a[n]=46
  .simp only[m,decide_true,↓Mr,Mr,Mb,reduceIte]
   have l:Jk a=(a.take n,a.drop (n+1),true):=by
    have:a.findIdx? (fun b=>decide (b=46))=some n:=by
     rw[List.findIdx?_eq_some_iff_getElem];exact ⟨D,by simpa using m,fun j H=>by simpa using p j H Q5⟩
    rw[Q12,this];rfl
   have r:Wa a=(C6 (a.take n)&&B5 (a.drop (n+1))):=by simp[Wa,l]
   rw[l,r] at h;have s:((n:Int)+1).toNat=n+1:=by omega
   have u:(a.take n).length<=140737488355328:=by simp only[List.length_take];omega
   have v:(a.drop (n+1)).length<=140737488355328:=by simp only[List.length_drop];omega
   have z: ∀{w:World} {K:Value->World->Prop},K (S (a.take n)) w->I7 P T.b (S a) none (some (I n)) none w K:=by
    intro w K h;rw[Yq Z5 Q5 Q5,show ((n:Int)).toNat=n from by omega];exact h
   have A: ∀{w:World} {K:Value->World->Prop},K (S (a.drop (n+1))) w->I7 P T.b (S a) (some (I (n+1))) none none w K:=by
    intro w K h;rw[Nf Z5 Q5 Q5,s];exact h
   refine Cr (Below.refl _ _) ?_;refine Y1 (S (a.take n)) (fun w c=>z (Y4 rfl)) ?_;refine Y1 (I (n+1)) (fun w c=>Y4 (by rw[Qi Q5 Q5])) ?_
   refine Y1 (S (a.drop (n+1))) (fun t w c e=>by rw[e];exact A (Y4 rfl)) ?_
   refine Y1 (S (a.take n)) (fun w c=>z (Y4 rfl)) ?_;refine Y1 (.bool (C6 (a.take n))) (fun t w c e=>by rw[e];exact Ut _ u (Y4 rfl)) ?_
   cases k:C6 (a.take n)
   .refine Y1 undef (fun t w c e=>by rw[e,G8];exact Y4 rfl) ?_
    refine Y1 undef (fun t w c e=>by rw[e,G8];exact Y4 rfl) ?_
    refine Y1 undef (fun t f w c e d=>by rw[e,G8];exact Y4 rfl) ?_
    refine Y1 undef (fun t f y w c e d g=>by rw[e,G8];exact Y4 rfl) ?_
    refine Y1 undef (fun t f w c e d=>by rw[e,G8];exact Y4 rfl) ?_
    refine Y1 (.bool false) (fun t f w c e d=>by rw[e,C8];exact Y4 rfl) ?_
    rintro _ _ _ _ _ _ _ _ _ _ _ w1 c rfl rfl rfl rfl rfl rfl rfl rfl rfl rfl rfl;rw[k] at h;exact h w1 (by simpa using c)
   .refine Y1 (S a) (fun t w c e=>by rw[e,H0];exact Y4 rfl) ?_
    refine Y1 (I n) (fun t w c e=>by rw[e,H0];exact Y4 rfl) ?_
    refine Y1 (I (n+1)) (fun t f w c e d=>by rw[e,d,H0];simp only[↓Mr,Mr,Mb,reduceIte];exact Y4 (by rw[Qi Q5 Q5])) ?_
    refine Y1 (S (a.drop (n+1))) (fun t f y w c e d g=>by rw[e,d,g,H0];exact A (Y4 rfl)) ?_
    refine Y1 (.bool (B5 (a.drop (n+1)))) (fun t f w c e d=>by rw[e,d,H0];exact Q2s _ v (Y4 rfl)) ?_
    refine Y1 (.bool (B5 (a.drop (n+1)))) (fun t f w c e d=>by rw[e,d,F5];exact Y4 rfl) ?_
    rintro _ _ _ _ _ _ _ _ _ _ _ w1 c rfl rfl rfl rfl rfl rfl rfl rfl rfl rfl rfl;rw[k] at h;exact h w1 (by simpa using c)
  .simp only[m,decide_false,↓Mr,Mr,Mb,reduceIte]
   rw[Qi Q5 Q5];refine ⟨⟨rfl,n+1,rfl,by omega,fun i B C=>?_⟩,?_⟩
   .by_cases q:i=n
    .subst q;exact m
    .exact p i Q5 C
   .simp only[X4G];omega
 .have o:decide ((n:Int)<a.length)=false:=by simp only[decide_eq_false_iff_not];omega
  simp only[o,↓Mr,Mr,Mb,reduceIte]
  have l:(Jk a).2.2=false/\(Jk a).1=a/\(Jk a).2.1=[]:=by
   have:a.findIdx? (fun b=>decide (b=46))=none:=by
    rw[List.findIdx?_eq_none_iff];intro x J;obtain ⟨i,B,rfl⟩:=List.getElem_of_mem J
    simpa using p i Q5 B
   rw[Q12,this];exact ⟨rfl,rfl,rfl⟩
  rw[l.1] at h;exact h w (Below.refl _ _))
end Go.Proofs.Y
namespace Go.Emb
open Go.RowKit
class TZ (P : Program) (t : TypeId) (sz b : outParam Nat) (z : outParam Value) : Prop where
  h : (P.info? t).map (fun i => (i.size, i.bytes, i.zero)) = some (sz, b, some z)
def X5p:Option TypeDesc->Bool
 | some (.struct _)=>true
 | some (.array _ _)=>true
 | none=>true
 | _=>false
class TG (P : Program) (t : TypeId) (g : outParam Bool) : Prop where
  h : (X5p (P.underlying t), (P.underlying t).isSome) = (g, true)
class TS (P : Program) (t : TypeId) (e : outParam TypeId) : Prop where
  h : P.underlying t = some (.slice e)
class TA (P : Program) (t : TypeId) (n : outParam Nat) (e : outParam TypeId) : Prop where
  h : P.underlying t = some (.array n e)
class TM (P : Program) (t : TypeId) (k e : outParam TypeId) : Prop where
  h : P.underlying t = some (.map k e)
def Q8f (d:Option TypeDesc) (k:Nat):Option (Nat×TypeId):=match d with
 | some (.struct a)=>(a[k]?).map fun f=>(f.offset,f.type)
 | _=>none
class TF (P : Program) (t : TypeId) (k : Nat) (off : outParam Nat) (ft : outParam TypeId) : Prop where
  h : Q8f (P.underlying t) k = some (off, ft)
variable {P : Program} {w w0 w' w'' : World} {K : Value -> World -> Prop}
theorem TZ.info {t:TypeId} {sz b:Nat} {z:Value} (h:TZ P t sz b z): ∃i,P.info? t=some i/\i.size=sz/\i.bytes=b/\i.zero=some z:=by
 obtain ⟨i,a,e⟩:=Option.map_eq_some_iff.1 h.h;simp only[Prod.mk.injEq] at e;exact ⟨i,a,e.1,e.2.1,e.2.2⟩
theorem H2 {t:TypeId} {sz b:Nat} {z:Value} (h:TZ P t sz b z) (w:World):(sizeOf t).run P w= .ok sz w:=by
 obtain ⟨i,a,rfl,_⟩:=h.info
 simp[sizeOf,typeInfo,a]
theorem Yu {t:TypeId} {sz b:Nat} {z:Value} (h:TZ P t sz b z) (w:World):(zeroValue t).run P w= .ok z w:=by
 obtain ⟨i,a,_,_,c⟩:=h.info
 simp[zeroValue,typeInfo,a,c]
theorem Ul {t:TypeId} {g:Bool} (h:TG P t g) (w:World):(isAgg t).run P w= .ok g w:=by
 have hh:=h.h;simp only[Prod.mk.injEq] at hh;obtain ⟨c,b⟩:=hh;cases a:P.underlying t with
 | none=>rw[a] at b;cases b
 | some d=>
  rw[a] at c;have:=run_underlying (P:=P) (w:=w) a;simp only[isAgg,Sem.run_bind,this,Result.andThen_ok];cases d<;>simp_all [X5p]
theorem Q7T (a:Addr) (i j:Nat):(a.add i).add j=a.add (i+j):=by
 unfold Addr.add
 by_cases b:i=0
 .simp[b]
 .by_cases c:j=0
  .simp[c]
  .simp[b,c,Nat.add_assoc]
theorem add_zero (a:Addr):a.add 0=a:=by simp[Addr.add]
theorem K8 (a:Addr) (i:Nat):(a.add i).block=a.block:=by unfold Addr.add;split<;>rfl
theorem Zi (a:Addr) (i:Nat):(a.add i).off=a.off+i:=by unfold Addr.add;split<;>simp_all
theorem Xj {a:Addr} (h:a.spot=none) (i:Nat):(a.add i).spot=none:=by unfold Addr.add;split<;>simp_all
abbrev Q2:=Nat->Option Obj
def X3 (w:World) (σ:Q2):Prop:= ∀b o,σ b=some o->w.heap[b]? =some o
structure Stp (w : World) (σ : Q2) (w' : World) (σ' : Q2) : Prop where
  bel : Below w.heap.size w w'
  sat : X3 w' σ'
  le : ∀ b o, σ b = some o -> σ' b = some o
  old : ∀ b, b < w.heap.size -> σ' b = σ b
theorem X3.lt {σ:Q2} (h:X3 w σ) {b:Nat} {o:Obj} (a:σ b=some o):b<w.heap.size:=(Array.getElem?_eq_some_iff.1 (h b o a)).1
theorem X3.below {σ:Q2} (h:X3 w σ) (a:Below w.heap.size w w'):X3 w' σ:=fun b o e=>(a.block b (h.lt e)).trans (h b o e)
theorem Stp.refl {σ:Q2} (h:X3 w σ):Stp w σ w σ:=⟨Below.refl _ _,h,fun _ _ e=>e,fun _ _=>rfl⟩
theorem Stp.trans {σ0 σ1 c:Q2} (h:Stp w σ0 w' σ1) (k:Stp w' σ1 w'' c):Stp w σ0 w'' c:=
 ⟨h.bel.trans (k.bel.mono h.bel.size),k.sat,fun b o e=>k.le b o (h.le b o e),fun b a=>(k.old b (Nat.lt_of_lt_of_le a h.bel.size)).trans (h.old b a)⟩
theorem Stp.of_below {σ:Q2} (h:X3 w σ) (a:Below w.heap.size w w'):Stp w σ w' σ:=⟨a,h.below a,fun _ _ e=>e,fun _ _=>rfl⟩
def Q2.put (σ:Q2) (b:Nat) (o:Obj):Q2:=fun k=>if k=b then some o else σ k
theorem X3.none {σ:Q2} (h:X3 w σ) {b:Nat} (a:w.heap.size<=b):σ b=none:=by
 cases e:σ b with
 | none=>rfl
 | some o=>have:=h.lt e;omega
theorem Stp.alloc {σ:Q2} (h:X3 w σ) (o:Obj):Stp w σ (w.alloc o) (σ.put w.heap.size o):=by
 refine ⟨(Below.refl _ _).alloc (Nat.le_refl _) o,?_,?_,?_⟩
 .intro b p e
  by_cases a:b=w.heap.size
  .subst a
   simp only[Q2.put,if_true] at e;cases e;exact heap_alloc_new w o
  .simp only[Q2.put,if_neg a] at e
   rw[Below.heap_alloc w o b (h.lt e)];exact h b p e
 .intro b p e
  have:=h.lt e;simp only[Q2.put];rw[if_neg Q5];exact e
 .intro b a
  simp only[Q2.put];rw[if_neg Q5]
theorem Stp.own {σ:Q2} (h:X3 w σ) (o:Obj):Stp w σ (w.alloc o) σ:=Stp.of_below h ((Below.refl _ _).alloc (Nat.le_refl _) o)
def U0 (σ:Q2) (a:Addr) (cs:List Value):Prop:=a.spot=none/\ ∃arr e b,σ a.block=some (.cells arr e b)/\ ∀i v,cs[i]? =some v->arr[a.off+i]? =some v
theorem U0.up {σ σ':Q2} {a:Addr} {cs:List Value} (h:U0 σ a cs) (g:Stp w σ w' σ'):U0 σ' a cs:=by
 obtain ⟨c,arr,e,b,d,f⟩:=h;exact ⟨c,arr,e,b,g.le _ _ d,f⟩
theorem U0.cell {σ:Q2} {a:Addr} {cs:List Value} (h:U0 σ a cs) (f:X3 w σ) {i:Nat} {v:Value} (g:cs[i]? =some v):w.cell? (a.add i)=some v:=by
 obtain ⟨b,arr,e,j,c,d⟩:=h;have:=f _ _ c;unfold World.cell?;rw[K8,this,Zi,Xj b];exact d i v g
def Z7 (σ:Q2) (w:World) (b:Nat) (cs:List Value):Prop:=σ b=none/\ ∃e,w.heap[b]? =some (.cells cs.toArray e (0,0))
theorem Z7.lt {σ:Q2} {b:Nat} {cs:List Value} (h:Z7 σ w b cs):b<w.heap.size:=by
 obtain ⟨_,e,h⟩:=h;exact (Array.getElem?_eq_some_iff.1 h).1
theorem Z7.up {σ σ':Q2} {b:Nat} {cs:List Value} (h:Z7 σ w b cs) (a:Stp w σ w' σ'):Z7 σ' w' b cs:=by
 have c:=h.lt;obtain ⟨d,e,f⟩:=h;exact ⟨(a.old b c).trans d,e,(a.bel.block b c).trans f⟩
theorem Z7.cell {σ:Q2} {b:Nat} {cs:List Value} (h:Z7 σ w b cs) {i:Nat} {v:Value} (c:cs[i]? =some v):w.cell? ((⟨b,0,none⟩:Addr).add i)=some v:=by
 obtain ⟨_,e,a⟩:=h;unfold World.cell?;rw[K8,Zi,Xj rfl];simp only[a]
 simpa using c
theorem Z7.keep {σ σ0:Q2} {b:Nat} {cs:List Value} (h:Z7 σ w b cs) (d:Stp w0 σ0 w σ) (m:w0.heap.size<=b): ∃σ',Stp w0 σ0 w σ'/\U0 σ' ⟨b,0,none⟩ cs/\(∀k o,σ k=some o->σ' k=some o)/\(∀k,k≠b->σ' k=σ k):=by
 obtain ⟨g,e,j⟩:=h;refine ⟨σ.put b (.cells cs.toArray e (0,0)),⟨d.bel,?_,?_,?_⟩,⟨rfl,cs.toArray,e,(0,0),by simp[Q2.put],?_⟩,?_,?_⟩
 .intro k o c
  by_cases a:k=b
  .subst a;simp only[Q2.put,if_true] at c;cases c;exact j
  .simp only[Q2.put,if_neg a] at c;exact d.sat k o c
 .intro k o c
  by_cases a:k=b
  .subst a;have:=d.le _ _ c;rw[g] at this;cases this
  .simp only[Q2.put,if_neg a];exact d.le _ _ c
 .intro k f
  simp only[Q2.put];rw[if_neg Q5];exact d.old k f
 .intro i v l;simpa using l
 .intro k o c
  by_cases a:k=b
  .subst a;rw[g] at c;cases c
  .simp only[Q2.put,if_neg a];exact c
 .intro k a;simp only[Q2.put,if_neg a]
theorem X3g (t:TypeId) (v:Value) (w:World):(Instr.box t v).run P w= .ok (.pointer (some ⟨w.heap.size,0,none⟩)) (w.alloc (.cells v.cells t)):=by
 simp[Instr.box,newVar,newRow]
theorem Q7g {σ:Q2} (a:X3 w σ) (cs:Array Value) (t:TypeId):Z7 σ (w.alloc (.cells cs t)) w.heap.size cs.toList:=
 ⟨a.none (Nat.le_refl _),t,by simpa using heap_alloc_new w (.cells cs t)⟩
theorem X42 {σ:Q2} (cs:Array Value) (t:TypeId):U0 (σ.put w.heap.size (.cells cs t)) ⟨w.heap.size,0,none⟩ cs.toList:=
 ⟨rfl,cs,t,(0,0),by simp[Q2.put],fun i v h=>by simpa using h⟩
theorem F8 {σ:Q2} {t:TypeId} {v:Value} (b:X3 w σ) (h: ∀a w' σ',Stp w σ w' σ'->U0 σ' a v.cells.toList->K (.pointer (some a)) w'):box P t v w K:=by
 unfold box;rw[Y8 (X3g t v w)];exact h _ _ _ (Stp.alloc b _) (X42 _ t)
theorem X08 {σ:Q2} {t:TypeId} {v:Value} (a:X3 w σ) (h: ∀b w',w.heap.size<=b->Stp w σ w' σ->Z7 σ w' b v.cells.toList->K (.pointer (some ⟨b,0,none⟩)) w'):box P t v w K:=by
 unfold box;rw[Y8 (X3g t v w)];exact h _ _ (Nat.le_refl _) (Stp.own a _) (Q7g a _ t)
theorem Kj {σ:Q2} {t:TypeId} {sz a:Nat} {z:Value} [tz:TZ P t sz a z] (c:X3 w σ) (h: ∀b w',w.heap.size<=b->Stp w σ w' σ->Z7 σ w' b z.cells.toList->K (.pointer (some ⟨b,0,none⟩)) w'):Qa P t w K:=by
 unfold Qa
 have:(Instr.alloc t true (.tuple #[])).run P w= .ok (.pointer (some ⟨w.heap.size,0,none⟩)) (w.alloc (.cells z.cells t)):=by
  simp[Instr.alloc,Yu tz,newVar,newRow]
 rw[Y8 this];exact h _ _ (Nat.le_refl _) (Stp.own c _) (Q7g c _ t)
theorem Zk {t:TypeId} [tg:TG P t false] {a:Addr} {v:Value} (b:w.cell? a=some v) (h:K v w):Q7 P t (.pointer (some a)) w K:=by
 unfold Q7;rw[Y8 (v:=v) (w':=w) (by simp[Instr.loadAt,Instr.sureAddr,loadVar,Ul tg,b])]
 exact h
theorem Q1a {t:TypeId} {sz b:Nat} {z:Value} [tg:TG P t true] [tz:TZ P t sz b z] {a:Addr} {cs:List Value} (d:cs.length=sz) (c: ∀j v,cs[j]? =some v->w.cell? (a.add j)=some v) (h:K (.agg cs.toArray) w):Q7 P t (.pointer (some a)) w K:=by
 unfold Q7;have:=run_loadCells_list (P:=P) w a cs c;rw[d] at this;rw[Y8 (v:= .agg cs.toArray) (w':=w) (by simp[Instr.loadAt,Instr.sureAddr,loadVar,Ul tg,H2 tz,this])]
 exact h
theorem ld {σ:Q2} {t:TypeId} [TG P t false] {a:Addr} {cs:List Value} {i:Nat} {v:Value} (c:X3 w σ) (b:U0 σ a cs) (d:cs[i]? =some v) (h:K v w):Q7 P t (.pointer (some (a.add i))) w K:=
 Zk (b.cell c d) h
theorem Y6 {σ:Q2} {t:TypeId} [TG P t false] {a:Addr} {cs:List Value} {v:Value} (c:X3 w σ) (b:U0 σ a cs) (d:cs[0]? =some v) (h:K v w):Q7 P t (.pointer (some a)) w K:=by
 have:=ld (P:=P) (t:=t) c b d h
 rwa [add_zero] at this
theorem Z3 {σ:Q2} {t:TypeId} {sz b:Nat} {z:Value} [TG P t true] [TZ P t sz b z] {a:Addr} {cs:List Value} (f:X3 w σ) (c:U0 σ a cs) (d:cs.length=sz) (h:K (.agg cs.toArray) w):Q7 P t (.pointer (some a)) w K:=
 Q1a d (fun _ _ g=>c.cell f g) h
theorem Yj {σ:Q2} {t:TypeId} [TG P t false] {b:Nat} {cs:List Value} {i:Nat} {v:Value} (a:Z7 σ w b cs) (c:cs[i]? =some v) (h:K v w):Q7 P t (.pointer (some ((⟨b,0,none⟩:Addr).add i))) w K:=
 Zk (a.cell c) h
theorem Q4j {σ:Q2} {t:TypeId} [TG P t false] {b:Nat} {cs:List Value} {v:Value} (a:Z7 σ w b cs) (c:cs[0]? =some v) (h:K v w):Q7 P t (.pointer (some ⟨b,0,none⟩)) w K:=by
 have:=Yj (P:=P) (t:=t) a c h
 rwa [add_zero] at this
theorem Gi {σ:Q2} {t:TypeId} {sz a:Nat} {z:Value} [TG P t true] [TZ P t sz a z] {b:Nat} {cs:List Value} (d:Z7 σ w b cs) (c:cs.length=sz) (h:K (.agg cs.toArray) w):Q7 P t (.pointer (some ⟨b,0,none⟩)) w K:=
 Q1a c (fun _ _ f=>d.cell f) h
theorem M5 {t:TypeId} {sz a:Nat} {z:Value} [tg:TG P t true] [tz:TZ P t sz a z] {σ:Q2} {b:Nat} {cs:List Value} {K:Value->Prop} (d:Z7 σ w b cs) (c:cs.length=sz) (h:K (.agg cs.toArray)):J4 P t (.pointer (some ⟨b,0,none⟩)) w K:=by
 rw[Q7A];refine ⟨_,?_,h⟩;have:=run_loadCells_list (P:=P) w ⟨b,0,none⟩ cs (fun _ _ f=>d.cell f);rw[c] at this
 simp[asAddr,loadVar,Ul tg,H2 tz,this]
structure Upd (w : World) (b : Nat) (w' : World) : Prop where
  os : w'.os = w.os
  tape : w'.tape = w.tape
  output : w'.output = w.output
  size : w'.heap.size = w.heap.size
  block : ∀ k, k ≠ b -> w'.heap[k]? = w.heap[k]?
theorem Upd.stp {σ0 σ:Q2} {b:Nat} (c:Upd w b w') (a:Stp w0 σ0 w σ) (h:w0.heap.size<=b) (g:σ b=none):Stp w0 σ0 w' σ:=by
 refine ⟨⟨c.os.trans a.bel.os,c.tape.trans a.bel.tape,c.output.trans a.bel.output,by rw[c.size];exact a.bel.size,fun k f=>(c.block k Q5).trans (a.bel.block k f)⟩,?_,a.le,a.old⟩
 intro k o d;rw[c.block k (by intro e;subst e;rw[g] at d;cases d)]
 exact a.sat k o d
theorem Z7.upd {σ:Q2} {b k:Nat} {cs:List Value} (h:Z7 σ w k cs) (f:Upd w b w') (a:k≠b):Z7 σ w' k cs:=by
 obtain ⟨c,e,d⟩:=h;exact ⟨c,e,(f.block k a).trans d⟩
theorem Sb {b:Nat} {cs:Array Value} {a:Array Value} {e:TypeId} (h:w.heap[b]? =some (.cells a e (0,0))):Upd w b (w.setRow b cs)/\(w.setRow b cs).heap[b]? =some (.cells cs e (0,0)):=by
 have d:=(Array.getElem?_eq_some_iff.1 h).1;refine ⟨⟨rfl,rfl,rfl,by simp[World.setRow],fun k c=>?_⟩,?_⟩
 .simp only[World.setRow,Array.getElem?_modify]
  rw[if_neg Q5]
 .simp only[World.setRow,Array.getElem?_modify,if_true,h]
  rfl
theorem Ms {t:TypeId} {sz a:Nat} {z:Value} [tz:TZ P t sz a z] {σ:Q2} {b:Nat} {cs ds:List Value} (l:Z7 σ w b cs) (k:cs.length=sz) (f:ds.length=sz) (g:ds.toArray.all (·.oneCell')=true)
 (h: ∀w',Upd w b w'->Z7 σ w' b ds->K undef w'):U8 P t (.pointer (some ⟨b,0,none⟩)) (.agg ds.toArray) w K:=by
 obtain ⟨n,e,d⟩:=l;unfold U8;obtain ⟨i,j,c,_⟩:=tz.info;have:=run_storeVar_row (P:=P) w b e t cs.toArray ds.toArray d (by simp[j,c,f]) (by simp[k,f]) g
 rw[Wg (w':=w.setRow b ds.toArray) (by simpa [Instr.storeAt,Instr.sureAddr] using this)]
 obtain ⟨m,hh⟩:=Sb (cs:=ds.toArray) d;exact h _ m ⟨n,e,hh⟩
theorem X3j {cs:List Value} {i:Nat} {v:Value} (a:i<cs.length):(cs.take i++[v]++cs.drop (i+1))=cs.set i v:=by
 rw[List.set_eq_take_append_cons_drop,if_pos a];simp
theorem Vy {t:TypeId} {c:Nat} {z:Value} [tz:TZ P t 1 c z] {σ:Q2} {b i:Nat} {cs:List Value} {v:Value} (l:Z7 σ w b cs) (k:i<cs.length) (j:v.cells= #[v]) (g:v.oneCell'=true)
 (h: ∀w',Upd w b w'->Z7 σ w' b (cs.set i v)->K undef w'):U8 P t (.pointer (some ((⟨b,0,none⟩:Addr).add i))) v w K:=by
 obtain ⟨n,e,d⟩:=l;unfold U8;have a:(⟨b,0,none⟩:Addr).add i=⟨b,i,none⟩:=by unfold Addr.add;split<;>simp_all
 have:=run_storeCells_at P b i e [v] 0 cs.toArray w d (by simp;omega) (by simpa using g)
 simp only[Nat.add_zero] at this;obtain ⟨m,hh⟩:=Sb (cs:=(cs.set i v).toArray) d
 have f:(List.take i cs.toArray.toList++[v]++List.drop (i+[v].length) cs.toArray.toList).toArray=(cs.set i v).toArray:=by
  rw[<-X3j k];simp
 rw[f] at this;rw[Wg (w':=w.setRow b (cs.set i v).toArray) (by simp[Instr.storeAt,Instr.sureAddr,a,storeVar,H2 tz,j,this])]
 exact h _ m ⟨n,e,hh⟩
theorem st0 {t:TypeId} {a:Nat} {z:Value} [tz:TZ P t 1 a z] {σ:Q2} {b:Nat} {cs:List Value} {v:Value} (g:Z7 σ w b cs) (f:0<cs.length) (d:v.cells= #[v]) (c:v.oneCell'=true)
 (h: ∀w',Upd w b w'->Z7 σ w' b (cs.set 0 v)->K undef w'):U8 P t (.pointer (some ⟨b,0,none⟩)) v w K:=by
 have:=Vy (P:=P) (t:=t) g f d c h
 rwa [add_zero] at this
class NZ (n : Nat) : Prop where
  h : (n == 0) = false
instance (n:Nat):NZ (n+1):=⟨rfl⟩
theorem fa {t:TypeId} {k b:Nat} {d:TypeId} {sz c:Nat} {z:Value} [tf:TF P t k b d] [tz:TZ P d sz c z] [nz:NZ sz] {a:Addr}:fieldAddr P t (.pointer (some a)) k w K=K (.pointer (some (a.add b))) w:=by
 unfold fieldAddr;have hh:=tf.h;unfold Q8f at hh
 split at hh
 .rename_i o n
  obtain ⟨f,m,g⟩:=Option.map_eq_some_iff.1 hh;simp only[Prod.mk.injEq] at g;obtain ⟨j,l⟩:=g;subst l j;have i: ¬sz=0:=by simpa using nz.h
  exact Y8 (by simp[Instr.fieldAt,run_underlying n,m,Instr.sureAddr,fieldPlace,H2 tz,i])
 .cases hh
theorem Kz {t e:TypeId} {sz b:Nat} {z:Value} [ts:TS P t e] [tz:TZ P e sz b z] {a:Addr} {n c:Nat} {k:IntKind} {i:Int} (d:0<=i) (f:i<n):indexAddr P t (.slice (some a) n c) (.int k i) w K=K (.pointer (some (a.add (i.toNat*sz)))) w:=by
 unfold indexAddr;exact Y8 (by simp[Instr.indexAt,run_underlying ts.h,asIntOf,H2 tz,d,f])
theorem X0H {t e:TypeId} {n sz b:Nat} {z:Value} [ta:TA P t n e] [tz:TZ P e sz b z] {a:Addr} {k:IntKind} {i:Int} (c:0<=i) (d:i<n):indexAddr P t (.pointer (some a)) (.int k i) w K=K (.pointer (some (a.add (i.toNat*sz)))) w:=by
 unfold indexAddr;exact Y8 (by simp[Instr.indexAt,run_underlying ta.h,asIntOf,Instr.sureAddr,H2 tz,c,d])
theorem C0 {a:Addr}:nilCheck P (.pointer (some a)) w K=K (.pointer (some a)) w:=by
 unfold nilCheck;rw[Zf];unfold Yp
 simp[execOp]
class Rep {α : Type} (R : Q2 -> α -> List Value -> Prop) : Prop where
  up : ∀ {σ σ' : Q2} {x : α} {cs : List Value}, (∀ b o, σ b = some o -> σ' b = some o) -> R σ x cs -> R σ' x cs
  one : ∀ {σ : Q2} {x : α} {cs : List Value}, R σ x cs -> ∀ u ∈ cs, u.oneCell' = true
def Sl {α:Type} (sz:Nat) (R:Q2->α->List Value->Prop) (σ:Q2) (v:Value) (xs:List α):Prop:=
 ∃a c,v= .slice a xs.length c/\xs.length<=c/\c<=maxLen/\(a=none->c=0)/\
  ∀b,a=some b->(0<xs.length->b.spot=none)/\ ∀i x,xs[i]? =some x-> ∃cs,U0 σ (b.add (i*sz)) cs/\cs.length=sz/\R σ x cs
theorem U0.le {σ σ':Q2} {a:Addr} {cs:List Value} (h:U0 σ a cs) (i: ∀b o,σ b=some o->σ' b=some o):U0 σ' a cs:=by
 obtain ⟨d,arr,e,c,f,g⟩:=h;exact ⟨d,arr,e,c,i _ _ f,g⟩
variable {α : Type} {R : Q2 -> α -> List Value -> Prop} {sz : Nat} {σ σ' : Q2} {v : Value} {xs : List α}
theorem Sl.le [hr:Rep R] (h:Sl sz R σ v xs) (g: ∀b o,σ b=some o->σ' b=some o):Sl sz R σ' v xs:=by
 obtain ⟨a,c,m,n,p,q,d⟩:=h;refine ⟨a,c,m,n,p,q,fun b f=>⟨(d b f).1,fun i x r=>?_⟩⟩;obtain ⟨cs,j,k,l⟩:=(d b f).2 i x r;exact ⟨cs,j.le g,k,hr.up g l⟩
theorem Sl.up [Rep R] (h:Sl sz R σ v xs) (a:Stp w σ w' σ'):Sl sz R σ' v xs:=h.le a.le
theorem Sl.max (h:Sl sz R σ v xs):xs.length<=9223372036854775807:=by
 obtain ⟨a,b,d,f,c,g⟩:=h;simp only[maxLen] at c;omega
theorem Sl.nil:Sl sz R σ (.slice none 0 0) ([]:List α):=⟨none,0,rfl,by simp,by simp,fun _=>rfl,fun b a=>by cases a⟩
theorem Q5f {c e t:TypeId} {cs:List Bool} [ts:TS P c e] {a:Option Addr} {n b:Nat}:U4 P .len [c] t cs [.slice a n b] w K=K (I n) w:=by
 have h:(Builtin.len_ #[c] t #[.slice a n b]).run P w= .ok (I n) w:=by
  simp[Builtin.len_,run_underlying ts.h,goInt]
 exact Y8 h
theorem X9Y {b e t:TypeId} {cs:List Bool} [ts:TS P b e] (h:Sl sz R σ v xs):U4 P .len [b] t cs [v] w K=K (I xs.length) w:=by
 obtain ⟨a,c,rfl,_⟩:=h;exact Q5f
theorem Y0E {t e:TypeId} {c:Nat} {z:Value} [TS P t e] [TZ P e sz c z] (h:Sl sz R σ v xs) {k:IntKind} {i:Int} (l:0<=i) (m:i.toNat<xs.length)
 (p: ∀a cs,U0 σ a cs->cs.length=sz->R σ xs[i.toNat] cs->K (.pointer (some a)) w):indexAddr P t v (.int k i) w K:=by
 obtain ⟨a,d,rfl,q,r,n,o⟩:=h;cases a with
 | none=>have:=n rfl;omega
 | some b=>
  rw[Kz l Q5];obtain ⟨cs,f,g,j⟩:=(o b rfl).2 i.toNat xs[i.toNat] (by simp[m])
  exact p _ cs f g j
theorem Stp.turn {σ0 σ:Q2} {row:Option Nat} (b:w.grownBy w' row) (a:Stp w0 σ0 w σ) (f: ∀k,row=some k->w0.heap.size<=k/\σ k=none):Stp w0 σ0 w' σ:=by
 refine ⟨⟨b.os.trans a.bel.os,b.tape.trans a.bel.tape,b.output.trans a.bel.output,Nat.le_trans a.bel.size b.size,fun k d=>?_⟩,?_,a.le,a.old⟩
 .refine (b.block k (Nat.lt_of_lt_of_le d a.bel.size) ?_).trans (a.bel.block k d)
  intro e;have:=(f k e.symm).1;omega
 .intro k o c
  refine (b.block k (a.sat.lt c) ?_).trans (a.sat k o c);intro e;rw[(f k e.symm).2] at c;cases c
theorem Z7.turn {σ:Q2} {row:Option Nat} {k:Nat} {cs:List Value} (h:Z7 σ w k cs) (d:w.grownBy w' row) (a:some k≠row):Z7 σ w' k cs:=by
 have f:=h.lt;obtain ⟨b,e,c⟩:=h;exact ⟨b,e,(d.block k f a).trans c⟩
def W4 {α:Type} (B:Nat) (e:TypeId) (sz:Nat) (R:Q2->α->List Value->Prop) (σ:Q2) (w:World) (v:Value) (xs:List α):Prop:=
 ∃cells,w.ownsRow B e sz v xs.length cells/\(∀k,v.ownBlock=some k->σ k=none)/\ ∀i x,xs[i]? =some x->R σ x ((cells.drop (i*sz)).take sz)
variable {B : Nat} {e : TypeId} {u : Value} {ys : List α}
theorem W4.nil:W4 B e sz R σ w (.slice none 0 0) ([]:List α):=⟨[],World.ownsRow_nil w B e sz,by intro k a;simp[Value.ownBlock] at a,by intro i x h;simp at h⟩
theorem W4.mem (h:W4 B e sz R σ w v xs): ∀k,v.ownBlock=some k->B<=k/\k<w.heap.size/\σ k=none:=by
 obtain ⟨cells,d,f,_⟩:=h;intro k c;obtain ⟨a,b⟩:=d.lt k c;exact ⟨a,b,f k c⟩
theorem W4.up [hr:Rep R] (h:W4 B e sz R σ w v xs) (a:Stp w σ w' σ'):W4 B e sz R σ' w' v xs:=by
 obtain ⟨cells,c,d,f⟩:=h;refine ⟨cells,c.kept ⟨a.bel.os,a.bel.tape,a.bel.output,a.bel.size,fun k g _=>a.bel.block k g⟩ (by cases b:v.ownBlock<;>simp) (row:=none),?_,fun i x j=>hr.up a.le (f i x j)⟩
 intro k b;rw[a.old k (c.lt k b).2];exact d k b
theorem Sl.cells (h:Sl sz R σ v xs) (D:X3 w σ) [hr:Rep R]: ∃(a:Option Addr) (c:Nat) (news:List Value),v= .slice a xs.length c/\(a=none->c=0)/\news.length=xs.length*sz/\(∀b,a=some b-> ∀j u,news[j]? =some u->w.cell? (b.add j)=some u)/\(∀u∈news,u.oneCell'=true)/\
 ∀i x,xs[i]? =some x->R σ x ((news.drop (i*sz)).take sz):=by
 obtain ⟨a,c,rfl,M,N,f,t⟩:=h;cases a with
 | none=>
  have L:=f rfl;have d:xs=[]:=List.eq_nil_of_length_eq_zero Q5;subst d;exact ⟨none,c,[],rfl,f,by simp,fun b C=>(by cases C),by simp,by simp⟩
 | some b=>
  obtain ⟨E,l⟩:=t b rfl;clear t
  have key: ∀(ys:List α) (k:Nat),(∀i x,ys[i]? =some x-> ∃cs,U0 σ (b.add ((k+i)*sz)) cs/\cs.length=sz/\R σ x cs)->
   ∃news:List Value,news.length=ys.length*sz/\(∀j u,news[j]? =some u->w.cell? (b.add (k*sz+j))=some u)/\(∀u∈news,u.oneCell'=true)/\ ∀i x,ys[i]? =some x->R σ x ((news.drop (i*sz)).take sz):=by
   intro ys
   induction ys with
   | nil=>intro k _;exact ⟨[],by simp,by simp,by simp,by simp⟩
   | cons y r H=>
    intro k z;obtain ⟨cs,A,q,s⟩:=z 0 y rfl
    obtain ⟨news,m,n,o,p⟩:=H (k+1) (fun i x d=>by
     have:=z (i+1) x (by simpa using d)
     rwa [show k+1+i=k+(i+1) by omega])
    refine ⟨cs++news,by simp[m,q,Nat.add_mul,Nat.add_comm],?_,?_,?_⟩
    .intro j u hu
     by_cases O:j<sz
     .rw[List.getElem?_append_left Q5] at hu
      have:=A.cell D hu
      rwa [Q7T,Nat.add_zero] at this
     .rw[List.getElem?_append_right Q5] at hu
      have:=n _ _ hu
      rwa [q,show (k+1)*sz+(j-sz)=k*sz+j by rw[Nat.add_mul];omega] at this
    .intro u hu
     rcases List.mem_append.1 hu with hu | hu
     .exact hr.one s u hu
     .exact o u hu
    .intro i x d
     cases i with
     | zero=>
      simp at d;subst d
      simp only[Nat.zero_mul,List.drop_zero];rw[List.take_append_of_le_length Q5,List.take_of_length_le Q5];exact s
     | succ i=>
      have:=p i x (by simpa using d)
      rw[show (i+1)*sz=cs.length+i*sz by rw[Nat.add_mul];omega,List.drop_append]
      simpa [List.drop_eq_nil_of_le] using this
  obtain ⟨news,m,n,o,p⟩:=key xs 0 (fun i x d=>by rw[Nat.zero_add];exact l i x d)
  refine ⟨some b,c,news,rfl,f,m,?_,o,p⟩;intro J g j u hu;cases g;have:=n j u hu
  rwa [Nat.zero_mul,Nat.zero_add] at this
variable {σ0 : Q2}
theorem Di (cells news:List Value) (n i:Nat) (b:cells.length=n*sz) (a:i<n):((cells++news).drop (i*sz)).take sz=(cells.drop (i*sz)).take sz:=by
 have h:i*sz+sz<=n*sz:=by rw[<-Nat.succ_mul];exact Nat.mul_le_mul_right _ a
 rw[List.drop_append_of_le_length Q5,List.take_append_of_le_length (by simp only[List.length_drop];omega)]
theorem app {t y:TypeId} {n:Nat} {z:Value} {cs:List Bool} [ts:TS P t e] [tz:TZ P e sz n z] [hr:Rep R] (A:Stp w0 σ0 w σ) (ha:W4 w0.heap.size e sz R σ w v xs) (U:Sl sz R σ u ys) (M:(z.cells.size==sz&&decide (0<sz))=true)
 (hb:(xs.length+ys.length)*n<=140737488355328) (hm:xs.length+ys.length<=9223372036854775807)
 (h: ∀d w',w.grownBy w' v.ownBlock->Stp w0 σ0 w' σ->W4 w0.heap.size e sz R σ w' d (xs++ys)->(d.ownBlock=v.ownBlock\/ ∀k,d.ownBlock=some k->w.heap.size<=k)->K d w'):U4 P .append [t,t] y cs [v,u] w K:=by
 obtain ⟨cells,r,O,h3⟩:=ha;obtain ⟨a,f,news,rfl,V,W,n3,n4,n5⟩:=U.cells A.sat;obtain ⟨i,H,L,D,q⟩:=tz.info
 have o: ∀d w',(Builtin.append_ #[t,t] y #[v, .slice a ys.length f]).run P w= .ok d w'->w'.ownsRow w0.heap.size e sz d (xs.length+ys.length) (cells++news)->w.grownBy w' v.ownBlock->(d.ownBlock=v.ownBlock\/d.ownBlock=some w.heap.size)->U4 P .append [t,t] y cs [v, .slice a ys.length f] w K:=by
  intro d w' s c l hat
  have p:(builtin .append #[t,t] y cs.toArray #[v, .slice a ys.length f]).run P w= .ok (.value d) w':=by
   simp[builtin,s]
  unfold U4;rw[Zf];unfold Yp;rw[p];refine h d w' l (Stp.turn l A fun k m=>⟨(r.lt k m).1,O k m⟩) ⟨cells++news,by rw[List.length_append];exact c,?_,?_⟩ ?_
  .intro k m
   rcases hat with hat | hat
   .exact O k (hat▸m)
   .rw[hat] at m;cases m;exact A.sat.none (Nat.le_refl _)
  .intro j x C
   by_cases Q:j<xs.length
   .rw[List.getElem?_append_left Q] at C
    rw[Di cells news xs.length j r.1 Q];exact h3 j x C
   .rw[List.getElem?_append_right Q5] at C
    have:=n5 _ _ C;rw[show j*sz=cells.length+(j-xs.length)*sz by rw[r.1,<-Nat.add_mul];congr 1;omega,List.drop_append]
    simpa [List.drop_eq_nil_of_le] using this
  .rcases hat with hat | hat
   .exact .inl hat
   .right;intro k m;rw[hat] at m;cases m;exact Nat.le_refl _
 simp only[Bool.and_eq_true,beq_iff_eq,decide_eq_true_eq] at M;cases a with
 | some b=>
  obtain ⟨d,w',g1,g2,g3,_,g5⟩:=run_append_own_at (P:=P) w w0.heap.size t y e i z sz n ts.h H q L D M.1 M.2 v xs.length cells r b ys.length f news W (n3 b rfl) n4 (by simp only[maxLen];omega) hb A.bel.size
  exact o d w' g1 g2 g3 g5
 | none=>
  have hy:ys=[]:=List.eq_nil_of_length_eq_zero (by obtain ⟨a',N,Y,q1,_,q3,_⟩:=U;injection Y with _ e2 Z;have:=V rfl;subst Z;omega)
  have E:=V rfl;subst hy E;have hn:news=[]:=List.eq_nil_of_length_eq_zero (by simpa using W)
  subst hn;have c:=r
  rcases r.2 with ⟨rfl,h0⟩ | ⟨g,f,X,rfl,ah,hg,J,_⟩
  .refine o (.slice none 0 0) w ?_ (by simpa using c) (World.grownBy.refl w _) (.inl rfl)
   simp[Builtin.append_,run_underlying ts.h,sizeOf,typeInfo,H,Builtin.lenOf,Builtin.firstCells]
  .refine o _ w ?_ (by simpa using c) (World.grownBy.refl w _) (.inl rfl)
   simp[Builtin.append_,run_underlying ts.h,sizeOf,typeInfo,H,Builtin.lenOf,Builtin.firstCells,J,storeCells]
theorem Q2.put_le {w:World} (d:X3 w σ) {b:Nat} (h:σ b=none) (o:Obj): ∀k p,σ k=some p->(σ.put b o) k=some p:=by
 intro k p c
 by_cases a:k=b
 .subst a;rw[h] at c;cases c
 .simp only[Q2.put,if_neg a];exact c
theorem Stp.put {b:Nat} {o:Obj} (c:Stp w0 σ0 w σ) (g:σ b=none) (h:w0.heap.size<=b) (f:w.heap[b]? =some o):Stp w0 σ0 w (σ.put b o):=by
 refine ⟨c.bel,?_,fun k p a=>Q2.put_le c.sat g o k p (c.le k p a),?_⟩
 .intro k p a
  by_cases d:k=b
  .subst d;simp only[Q2.put,if_true] at a;cases a;exact f
  .simp only[Q2.put,if_neg d] at a;exact c.sat k p a
 .intro k a
  simp only[Q2.put];rw[if_neg Q5];exact c.old k a
theorem W4.keep [hr:Rep R] (h:W4 w0.heap.size e sz R σ w v xs) (m:Stp w0 σ0 w σ): ∃σ',Stp w0 σ0 w σ'/\Sl sz R σ' v xs/\(∀k o,σ k=some o->σ' k=some o)/\(∀k,some k≠v.ownBlock->σ' k=σ k):=by
 obtain ⟨cells,r,z,A⟩:=h
 rcases r.2 with ⟨rfl,y⟩ | ⟨g,l,c,rfl,C,D,p,f,J,q⟩
 .have:xs=[]:=List.eq_nil_of_length_eq_zero y
  subst this;exact ⟨σ,m,Sl.nil,fun _ _ h=>h,fun _ _=>rfl⟩
 .have t:=z g rfl
  have a:=Q2.put_le m.sat t (.cells c e (0,0));refine ⟨σ.put g (.cells c e (0,0)),m.put t C D,⟨_,l,rfl,p,f,by simp,?_⟩,a,?_⟩
  .intro b n
   cases n;refine ⟨fun _=>rfl,fun i x s=>⟨(cells.drop (i*sz)).take sz,⟨Xj rfl _,c,e,(0,0),by rw[K8];simp[Q2.put],?_⟩,?_,hr.up a (A i x s)⟩⟩
   .intro j u d
    rw[Zi];rw[List.getElem?_take] at d
    split at d
    .rw[List.getElem?_drop,<-q,List.getElem?_take] at d
     split at d
     .simpa using d
     .cases d
    .cases d
   .have E:i<xs.length:=(List.getElem?_eq_some_iff.1 s).1
    have h:i*sz+sz<=xs.length*sz:=by rw[<-Nat.succ_mul];exact Nat.mul_le_mul_right _ E
    rw[List.length_take,List.length_drop,r.1];omega
  .intro k H
   have:k≠g:=by intro e;subst e;exact H rfl
   simp only[Q2.put,if_neg this]
theorem Sl.piece {a:Option Addr} {n d:Nat} (h:Sl sz R σ (.slice a n d) xs) (l m:Nat) (O:l+m<=xs.length):Sl sz R σ (.slice (if d=l then a else a.map (·.add (l*sz))) m (d-l)) ((xs.drop l).take m):=by
 obtain ⟨L,j,H,M,N,D,k⟩:=h
 injection H with s t y
 subst s t y;have c:((xs.drop l).take m).length=m:=by simp;omega
 refine ⟨_,d-l,by rw[c],by rw[c];omega,by omega,?_,?_⟩
 .intro o
  split at o
  .omega
  .cases a with
   | none=>have:=D rfl;omega
   | some b=>simp at o
 .intro b f
  split at f
  .rename_i E
   obtain ⟨p,q⟩:=k b f;have J:m=0:=by omega
   subst J;exact ⟨fun h=>by simp at h,by simp⟩
  .cases a with
   | none=>simp at f
   | some r=>
    simp only[Option.map_some,Option.some.injEq] at f;obtain ⟨p,q⟩:=k r rfl;subst f;refine ⟨fun h=>Xj (p (by rw[c] at h;omega)) _,fun i x g=>?_⟩
    rw[List.getElem?_take] at g
    split at g
    .rw[List.getElem?_drop] at g
     obtain ⟨cs,z,A,C⟩:=q _ _ g;refine ⟨cs,?_,A,C⟩;rw[Q7T,<-Nat.add_mul];exact z
    .cases g
theorem Gf {t:TypeId} {f:Nat} {z:Value} [ts:TS P t e] [tz:TZ P e sz f z] (h:Sl sz R σ v xs) (d c:Option Value) (l m:Nat) (j:d=none/\l=0\/d=some (I l)) (g:c=none/\m=xs.length\/c=some (I m)) (i:l<=m) (D:m<=xs.length)
 (p: ∀k,Sl sz R σ k ((xs.drop l).take (m-l))->K k w):I7 P t v d c none w K:=by
 have o:=h;obtain ⟨a,b,rfl,s,y,A,C⟩:=h
 have hh: ∀w:World,(Instr.sliceBounds true xs.length b d c none).run P w= .ok (l,m,b) w:=by
  intro w;have q:(m:Int)<=b:=by omega
  have r:(l:Int)<=m:=by omega
  have n:m<=b:=by omega
  rcases j with ⟨rfl,rfl⟩ | rfl<;>rcases g with ⟨rfl,rfl⟩ | rfl<;>
   simp[Instr.sliceBounds,Instr.sliceBound,asIntOf,n,i]<;>intros<;>omega
 unfold I7
 have:(Instr.sliceAt t (.slice a xs.length b) d c none).run P w= .ok (.slice (if b=l then a else a.map (·.add (l*sz))) (m-l) (b-l)) w:=by
  simp[Instr.sliceAt,run_underlying ts.h,Instr.slice,hh,H2 tz]
 rw[Y8 this];exact p _ (o.piece l (m-l) Q5)
def en:Nat->List Value->List (Nat×Value)
 | _,[]=>[]
 | i,v::r=>(i,v)::en (i+1) r
theorem X5l (off:Nat): ∀(vs:List Value) (k:Nat) (cs:Array Value),off+k+vs.length<=cs.size->
 ((vs.zipIdx k).foldl (fun cs (p:Value×Nat)=>cs.setIfInBounds (off+p.2) p.1) cs).toList=cs.toList.take (off+k)++vs++cs.toList.drop (off+k+vs.length):=by
 intro vs
 induction vs with
 | nil=>intro k cs _;simp
 | cons v r ih=>
  intro k cs h;simp only[List.length_cons] at h;rw[List.zipIdx_cons,List.foldl_cons,ih (k+1) _ (by simp;omega)]
  simp only[Array.toList_setIfInBounds,List.length_cons];apply List.ext_getElem?;intro i;simp only[List.getElem?_append,List.length_take,List.length_set,Array.length_toList,List.getElem?_take,List.getElem?_drop,List.length_append,List.getElem?_set,List.length_cons]
  rcases Nat.lt_trichotomy i (off+k) with hi | hi | hi
  .simp[show i<off+(k+1) by omega,hi,show i<min (off+(k+1)) cs.size by omega,show i<min (off+(k+1)) cs.size+r.length by omega,show i<min (off+k) cs.size by omega,show i<min (off+k) cs.size+(r.length+1) by omega,show off+k≠i by omega]
  .subst hi
   simp[show off+k<off+(k+1) by omega,show off+k<min (off+(k+1)) cs.size by omega,show off+k<min (off+(k+1)) cs.size+r.length by omega,show¬off+k<min (off+k) cs.size by omega,show off+k<min (off+k) cs.size+(r.length+1) by omega,show off+k<cs.size by omega,show off+k-min (off+k) cs.size=0 by omega]
  .by_cases h2:i<off+(k+1)+r.length
   .simp[show¬i<min (off+(k+1)) cs.size by omega,show i<min (off+(k+1)) cs.size+r.length by omega,show¬i<min (off+k) cs.size by omega,show i<min (off+k) cs.size+(r.length+1) by omega,show i-min (off+k) cs.size=(i-min (off+(k+1)) cs.size)+1 by omega]
   .simp only[show¬i<min (off+(k+1)) cs.size+r.length by omega,show¬i<min (off+k) cs.size+(r.length+1) by omega,if_false]
    rw[show off+(k+1)+r.length+(i-(min (off+(k+1)) cs.size+r.length))=i by omega,show off+k+(r.length+1)+(i-(min (off+k) cs.size+(r.length+1)))=i by omega,if_neg Q5]
theorem X2X (sz:Nat): ∀(vs:List Value) (i:Nat) (cs:Array Value),(i+vs.length)*sz<=cs.size->(∀v∈vs,v.cells.size=sz)->
 ∃cs',Instr.fill (fun i=>some (i*sz,sz)) cs (en i vs)=some cs'/\cs'.toList=cs.toList.take (i*sz)++vs.flatMap (·.cells.toList)++cs.toList.drop ((i+vs.length)*sz):=by
 intro vs
 induction vs with
 | nil=>intro i cs _ _;exact ⟨cs,rfl,by simp⟩
 | cons v r ih=>
  intro i cs h hv;have hv0:=hv v V5;simp only[List.length_cons] at h
  have h1:i*sz+sz<=cs.size:=by
   have:(i+1)*sz<=(i+(r.length+1))*sz:=Nat.mul_le_mul_right _ Q5;rw[Nat.succ_mul] at this;omega
  have hset:=X5l (i*sz) v.cells.toList 0 cs (by simp;omega)
  simp only[Nat.add_zero] at hset
  have e1:v.cells.zipIdx.foldl (fun cs (p:Value×Nat)=>cs.setIfInBounds (i*sz+p.2) p.1) cs=(v.cells.toList.zipIdx 0).foldl (fun cs (p:Value×Nat)=>cs.setIfInBounds (i*sz+p.2) p.1) cs:=by
   rw[<-Array.foldl_toList,Array.toList_zipIdx]
  have hsz':((v.cells.toList.zipIdx 0).foldl (fun cs (p:Value×Nat)=>cs.setIfInBounds (i*sz+p.2) p.1) cs).size=cs.size:=by
   rw[<-Array.length_toList,hset]
   simp;omega
  obtain ⟨cs',q1,q2⟩:=ih (i+1) _ (by rw[hsz'];rw[show i+1+r.length=i+(r.length+1) by omega];exact h) (fun u hu=>hv u (by simp[hu]))
  refine ⟨cs',?_,?_⟩
  .simp only[en,Instr.fill]
   rw[if_neg (by simp[hv0];omega)]
   rw[e1];exact q1
  .rw[q2,hset]
   simp only[List.flatMap_cons,List.length_cons,Array.length_toList,hv0];have e2:(i+1)*sz=i*sz+sz:=by rw[Nat.succ_mul]
   have e3:(i+(r.length+1))*sz=i*sz+sz+r.length*sz:=by rw[Nat.add_mul,Nat.succ_mul];omega
   have e4:(i+1+r.length)*sz=i*sz+sz+r.length*sz:=by rw[Nat.add_mul,Nat.succ_mul]
   rw[e2,e3,e4];have t1:(cs.toList.take (i*sz)).length=i*sz:=by simp;omega
   have t2:(cs.toList.take (i*sz)++v.cells.toList).length=i*sz+sz:=by rw[List.length_append,t1];simp[hv0]
   have k1: ∀C:List Value,(cs.toList.take (i*sz)++v.cells.toList++C).take (i*sz+sz)=cs.toList.take (i*sz)++v.cells.toList:=by
    intro C;rw[List.take_append_of_le_length Q5,List.take_of_length_le Q5]
   have k2: ∀(C:List Value) (n:Nat),(cs.toList.take (i*sz)++v.cells.toList++C).drop (i*sz+sz+n)=C.drop n:=by
    intro C n;rw[List.drop_append,t2,List.drop_eq_nil_of_le Q5,List.nil_append]
    congr 1;omega
   rw[k1,k2,List.drop_drop];simp only[List.append_assoc]
theorem Gz {t:TypeId} {by_:Nat} {z:Value} [ts:TS P t e] [tz:TZ P e sz by_ z] (vs:List Value) (hv: ∀v∈vs,v.cells.size=sz) (hsm:vs.length*sz<=16777216) (w:World):
 ∃cells:Array Value,(Instr.buildSlice t vs.length (en 0 vs).toArray).run P w= .ok (.slice (some ⟨w.heap.size,0,none⟩) vs.length vs.length) (w.alloc (.cells cells e))/\cells.toList=vs.flatMap (·.cells.toList):=by
 have h2: ¬vs.length*sz>2 ^ 24:=by omega
 by_cases h:vs.length*sz=0
 .obtain ⟨cells,hf,hl⟩:=X2X sz vs 0 ((Array.range (vs.length*sz)).map ((#[]:Array Value)[· % (#[]:Array Value).size]!)) V5 hv
  refine ⟨cells,?_,by rw[hl];simp⟩
  simp only[Instr.buildSlice,Sem.run_bind,run_underlying ts.h,Result.andThen_ok,H2 tz,if_neg h2,if_pos h,Sem.run_pure,hf]
  simp[newRow]
 .obtain ⟨cells,hf,hl⟩:=X2X sz vs 0 ((Array.range (vs.length*sz)).map (z.cells[· % z.cells.size]!)) V5 hv
  refine ⟨cells,?_,by rw[hl];simp⟩
  simp only[Instr.buildSlice,Sem.run_bind,run_underlying ts.h,Result.andThen_ok,H2 tz,if_neg h2,if_neg h,Sem.run_pure,Yu tz,hf]
  simp[newRow]
theorem X3S {vs:List Value} (d: ∀v∈vs,v.cells.size=sz) (i:Nat) (v:Value) (h:vs[i]? =some v):((vs.flatMap (·.cells.toList)).drop (i*sz)).take sz=v.cells.toList:=by
 induction vs generalizing i with
 | nil=>simp at h
 | cons a r f=>
  have b:=d a V5;cases i with
  | zero=>
   simp at h;subst h
   rw[List.flatMap_cons,Nat.zero_mul,List.drop_zero,List.take_append_of_le_length (by simp[b]),List.take_of_length_le (by simp[b])]
  | succ i=>
   rw[List.flatMap_cons,Nat.succ_mul,List.drop_append,List.drop_eq_nil_of_le (by simp[b]),List.nil_append]
   rw[show i*sz+sz-a.cells.toList.length=i*sz by simp[b]]
   exact f (fun v c=>d v (by simp[c])) i (by simpa using h)
theorem Q6r {vs:List Value} (b: ∀v∈vs,v.cells.size=sz):(vs.flatMap (·.cells.toList)).length=vs.length*sz:=by
 induction vs with
 | nil=>simp
 | cons a r c=>
  rw[List.flatMap_cons,List.length_append,c (fun v h=>b v (by simp[h]))]
  simp[b a V5,Nat.succ_mul,Nat.add_comm]
def Q3C (R:Q2->α->List Value->Prop) (σ:Q2):List Value->List α->Prop
 | [],[]=>True
 | v::vs,x::xs=>R σ x v.cells.toList/\Q3C R σ vs xs
 | _,_=>False
theorem Q3C.len {vs:List Value} (h:Q3C R σ vs xs):vs.length=xs.length:=by
 induction vs generalizing xs with
 | nil=>cases xs with
  | nil=>rfl
  | cons=>exact h.elim
 | cons v r a=>cases xs with
  | nil=>exact h.elim
  | cons x y=>simp[a h.2]
theorem Q3C.get {vs:List Value} (h:Q3C R σ vs xs) {i:Nat} {x:α} (a:xs[i]? =some x): ∃v,vs[i]? =some v/\R σ x v.cells.toList:=by
 induction vs generalizing xs i with
 | nil=>cases xs with
  | nil=>simp at a
  | cons=>exact h.elim
 | cons v r b=>cases xs with
  | nil=>exact h.elim
  | cons y ys=>
   cases i with
   | zero=>simp at a;subst a;exact ⟨v,rfl,h.1⟩
   | succ i=>obtain ⟨u,c,d⟩:=b h.2 (i:=i) (by simpa using a);exact ⟨u,by simpa using c,d⟩
theorem Xu {t:TypeId} {g:Nat} {z:Value} {n:Nat} {a:List (Nat×Value)} [ts:TS P t e] [tz:TZ P e sz g z] (j:Stp w0 σ0 w σ) (vs:List Value) (xs:List α) (q:n=vs.length) (r:a=en 0 vs) (c: ∀v∈vs,v.cells.size=sz) (b:(decide (0<sz)&&decide (vs.length*sz<=16777216))=true) (o:Q3C R σ vs xs)
 (h: ∀v w',Stp w σ w' σ->W4 w0.heap.size e sz R σ w' v xs->(∀k,v.ownBlock=some k->w.heap.size<=k)->K v w'):buildSlice P t n a w K:=by
 subst q r;simp only[Bool.and_eq_true,decide_eq_true_eq] at b;obtain ⟨m,b⟩:=b;obtain ⟨cells,p,d⟩:=Gz (P:=P) (t:=t) vs c b w;unfold buildSlice;rw[Y8 p];have f:=o.len;refine h _ _ (Stp.own j.sat _) ⟨cells.toList,⟨by rw[d,Q6r c,f], .inr ⟨_,_,cells,by rw[f],j.bel.size,heap_alloc_new w _,by omega,?_,?_,?_⟩⟩,?_,?_⟩ ?_
 .simp only[maxLen]
  have:vs.length*1<=vs.length*sz:=Nat.mul_le_mul_left _ m;omega
 .rw[<-Array.length_toList,d,Q6r c,f]
 .rw[List.take_of_length_le (by rw[d,Q6r c,f];exact Nat.le_refl _)]
 .intro k l;cases l;exact j.sat.none (Nat.le_refl _)
 .intro i x s
  obtain ⟨v,y,A⟩:=o.get s;rw[d,X3S c i v y];exact A
 .intro k l;cases l;exact Nat.le_refl _
theorem C1 [Rep R] {t:TypeId} {b:Nat} {z:Value} {n:Nat} {a:List (Nat×Value)} [ts:TS P t e] [tz:TZ P e sz b z] (m:X3 w σ) (vs:List Value) (xs:List α) (k:n=vs.length) (l:a=en 0 vs) (o: ∀v∈vs,v.cells.size=sz) (c:(decide (0<sz)&&decide (vs.length*sz<=16777216))=true) (i:Q3C R σ vs xs)
 (h: ∀v w' σ',Stp w σ w' σ'->Sl sz R σ' v xs->K v w'):buildSlice P t n a w K:=by
 refine Xu (Stp.refl m) vs xs k l o c i fun v w' j g _=>?_;obtain ⟨σ',d,f,_⟩:=g.keep j;exact h v w' σ' d f
theorem X8z {t:TypeId} {k a:Nat} {b:TypeId} [tf:TF P t k a b] [tg:TG P b false] {cs:Array Value} {v:Value} (l:cs[a]? =some v):Xv P t (.agg cs) k w K=K v w:=by
 unfold Xv;have hh:=tf.h;unfold Q8f at hh
 split at hh
 .rename_i m j
  obtain ⟨f,i,c⟩:=Option.map_eq_some_iff.1 hh;simp only[Prod.mk.injEq] at c;obtain ⟨d,g⟩:=c;subst g d;exact Y8 (by simp[Instr.field,run_underlying j,i,asAgg,part,Ul tg,l])
 .cases hh
theorem Zl {f:Fn} {first caps:List Value}:S1 P f first caps w K=K (.func f first.toArray caps.toArray) w:=Y8 (by simp[Instr.makeFunc])
theorem M9 {t:TypeId} {a:List (Nat×Value)} {cells:Array Value} (h:P.built t a=some cells) (b:K (.agg cells) w):B6 P t a w K:=by
 unfold B6;rw[Y8 (run_build w t a.toArray cells h)];exact b
def G0 (o:Option Obj) (m:List (List UInt8×Value)):Prop:=
 ∃b a,o=some (.map b a)/\b.toList.map (fun e=>(e.key,e.val))=m.map (fun p=>(S p.1,p.2))/\(b.toList.map (·.born)).Pairwise (· < ·)/\ ∀e∈b.toList,e.born<a
def T0 (m:List (List UInt8×Value)) (k:List UInt8):Option Value:=match m with
 | []=>none
 | p::r=>if p.1=k then some p.2 else T0 r k
def putS (m:List (List UInt8×Value)) (k:List UInt8) (v:Value):List (List UInt8×Value):=match m with
 | []=>[(k,v)]
 | p::r=>if p.1=k then (k,v)::r else p::putS r k v
theorem Bo (a b:List UInt8):((⟨a.toArray⟩:ByteArray)==⟨b.toArray⟩)=decide (a=b):=by
 rw[<-Q7U]
 show (a.toArray==b.toArray)=_
 simp
theorem Ts (k:List UInt8): ∀(c:List MapEntry) (m:List (List UInt8×Value)) (i:Nat),c.map (fun e=>(e.key,e.val))=m.map (fun p=>(S p.1,p.2))->
 ∃r,Instr.findNow .string (S k) c i=some r/\r.map (·.2)=T0 m k/\(∀j v,r=some (j,v)->i<=j/\(∃e,c[j-i]? =some e/\e.key=S k)/\ ∀u,(c.modify (j-i) fun e=>{e with key:=S k,val:=u}).map (fun e=>(e.key,e.val))=(putS m k u).map (fun p=>(S p.1,p.2)))/\
  (r=none-> ∀u,putS m k u=m++[(k,u)]):=by
 intro c
 induction c with
 | nil=>
  intro m i h;cases m with
  | nil=>exact ⟨none,rfl,rfl,V5,fun _ u=>rfl⟩
  | cons=>simp at h
 | cons e r o=>
  intro m i h;cases m with
  | nil=>simp at h
  | cons p q=>
   simp only[List.map_cons,List.cons.injEq,Prod.mk.injEq] at h;obtain ⟨⟨d,g⟩,l⟩:=h;simp only[Instr.findNow,d,Instr.sameNow,Bo]
   by_cases a:p.1=k
   .have f:decide (k=p.1)=true:=by simp[a]
    simp only[f];refine ⟨_,rfl,by simp[T0,a,g],?_,by simp⟩
    intro j v b;cases b;refine ⟨Nat.le_refl _,⟨e,by simp,by rw[d,a]⟩,fun u=>?_⟩
    simp[putS,a,l]
   .have f:decide (k=p.1)=false:=by simp;exact fun e=>a e.symm
    simp only[f];obtain ⟨A,s,t,y,z⟩:=o q (i+1) l;refine ⟨A,s,by simp[T0,a,t],?_,?_⟩
    .intro j v b
     obtain ⟨E,C,D⟩:=y j v b;refine ⟨by omega,by rw[show j-i=(j-(i+1))+1 by omega];simpa using C,fun u=>?_⟩
     have:=D u;rw[show j-i=(j-(i+1))+1 by omega]
     simp[putS,a,d,g,this]
    .intro n u
     simp[putS,a,z n u]
theorem Xm {t:TypeId} (a:P.underlying t=some .string) (b:Bool) (k:List UInt8) (w:World):(Instr.checkKey b 10000 t (S k)).run P w= .ok () w:=by
 unfold Instr.checkKey
 simp[run_underlying a]
theorem Q6u {t i g:TypeId} {sz d:Nat} {z:Value} [tm:TM P t i g] [tz:TZ P g sz d z] (b:P.underlying i=some .string) {r:Nat} {m:List (List UInt8×Value)} (q:G0 (w.heap[r]?) m) (k:List UInt8):
 lookup P t (.map (some r)) (S k) true w K=K (match T0 m k with | some v=> .tuple #[v, .bool true] | none=> .tuple #[z, .bool false]) w:=by
 obtain ⟨f,a,l,n,y,A⟩:=q;obtain ⟨s,j,c,C,D⟩:=Ts k f.toList m 0 n;unfold lookup;refine Y8 ?_;simp only[Instr.lookup,Sem.run_bind,run_underlying tm.h,Result.andThen_ok,Instr.findKey,run_underlying b,j,Xm b];have o:(getObj r).run P w= .ok (.map f a) w:=by simp[getObj,Sem.run,l]
 simp only[o,Result.andThen_ok,Sem.run_bind,Sem.run_pure,Xm b,run_underlying b,j];cases s with
 | none=>simp at c;rw[<-c];simp[Yu tz]
 | some p=>simp at c;rw[<-c];simp
theorem Q95 {t i f:TypeId} {sz c:Nat} {z:Value} [tm:TM P t i f] [tz:TZ P f sz c z] (g:P.underlying i=some .string) {r:Nat} {m:List (List UInt8×Value)} (o:G0 (w.heap[r]?) m) (k:List UInt8):
 lookup P t (.map (some r)) (S k) false w K=K ((T0 m k).getD z) w:=by
 obtain ⟨d,a,j,l,y,A⟩:=o;obtain ⟨s,q,b,C,D⟩:=Ts k d.toList m 0 l;unfold lookup;refine Y8 ?_;have n:(getObj r).run P w= .ok (.map d a) w:=by simp[getObj,Sem.run,j]
 simp only[Instr.lookup,Sem.run_bind,run_underlying tm.h,Result.andThen_ok,Instr.findKey,run_underlying g,q,Xm g,n,Sem.run_pure];cases s with
 | none=>simp at b;rw[<-b];simp[Yu tz]
 | some p=>simp at b;rw[<-b];simp
def P8 (σ:Q2) (w:World) (r:Nat) (m:List (List UInt8×Value)):Prop:=σ r=none/\G0 (w.heap[r]?) m
def Js (σ:Q2) (r:Nat) (m:List (List UInt8×Value)):Prop:=G0 (σ r) m
theorem Js.is {σ:Q2} {r:Nat} {m:List (List UInt8×Value)} (h:Js σ r m) (f:X3 w σ):G0 (w.heap[r]?) m:=by
 obtain ⟨b,a,c,d⟩:=h;exact ⟨b,a,f _ _ c,d⟩
theorem Js.le {σ σ':Q2} {r:Nat} {m:List (List UInt8×Value)} (h:Js σ r m) (g: ∀b o,σ b=some o->σ' b=some o):Js σ' r m:=by
 obtain ⟨c,a,d,f⟩:=h;exact ⟨c,a,g _ _ d,f⟩
theorem Js.up {σ σ':Q2} {r:Nat} {m:List (List UInt8×Value)} (h:Js σ r m) (a:Stp w σ w' σ'):Js σ' r m:=h.le a.le
theorem P8.lt {σ:Q2} {r:Nat} {m:List (List UInt8×Value)} (h:P8 σ w r m):r<w.heap.size:=by
 obtain ⟨_,c,a,b,_⟩:=h;exact (Array.getElem?_eq_some_iff.1 b).1
theorem P8.up {σ σ':Q2} {r:Nat} {m:List (List UInt8×Value)} (h:P8 σ w r m) (a:Stp w σ w' σ'):P8 σ' w' r m:=by
 have b:=h.lt;exact ⟨(a.old r b).trans h.1,(a.bel.block r b).symm▸h.2⟩
theorem Q7i {t:TypeId} {σ:Q2} (a:X3 w σ) (h: ∀r w',w.heap.size<=r->Stp w σ w' σ->P8 σ w' r []->K (.map (some r)) w'):Rr P t none w K:=by
 unfold Rr;rw[Y8 (v:= .map (some w.heap.size)) (w':=w.alloc (.map #[] 0)) (by simp[Instr.makeMap])]
 exact h _ _ (Nat.le_refl _) (Stp.own a _) ⟨a.none (Nat.le_refl _), #[],0,heap_alloc_new w _,rfl,by simp,by simp⟩
theorem P8.keep {σ σ0:Q2} {r:Nat} {m:List (List UInt8×Value)} (h:P8 σ w r m) (d:Stp w0 σ0 w σ) (i:w0.heap.size<=r): ∃σ',Stp w0 σ0 w σ'/\Js σ' r m/\(∀k o,σ k=some o->σ' k=some o)/\(∀k,k≠r->σ' k=σ k):=by
 obtain ⟨c,b,a,f,g⟩:=h;exact ⟨σ.put r (.map b a),d.put c i f,⟨b,a,by simp[Q2.put],g⟩,Q2.put_le d.sat c _,fun k j=>by simp only[Q2.put,if_neg j]⟩
theorem Q1e {t U Y:TypeId} [tm:TM P t U Y] (A:P.underlying U=some .string) {σ:Q2} {r:Nat} {m:List (List UInt8×Value)} (hm:P8 σ w r m) (k:List UInt8) (v:Value)
 (h: ∀w',Upd w r w'->P8 σ w' r (putS m k v)->K undef w'):mapUpdate P t (.map (some r)) (S k) v w K:=by
 obtain ⟨L,l,d,D,M,N,E⟩:=hm;obtain ⟨r',V,q2,q3,q4⟩:=Ts k l.toList m 0 M;have Q:(getObj r).run P w= .ok (.map l d) w:=by simp[getObj,Sem.run,D]
 have hl:=(Array.getElem?_eq_some_iff.1 D).1
 have n: ∀o,o=Obj.map l d\/True->(∀c e f,o≠ .cells c e f)->(setObj r o).run P w= .ok () {w with heap:=w.heap.setIfInBounds r o}:=by
  intro o _ _
  simp[setObj,Sem.run,D]
 have C: ∀o,Upd w r {w with heap:=w.heap.setIfInBounds r o}:=fun o=>⟨rfl,rfl,rfl,by simp,fun k A=>by simp only[Array.getElem?_setIfInBounds];rw[if_neg Q5]⟩
 have z: ∀o,({w with heap:=w.heap.setIfInBounds r o}:World).heap[r]? =some o:=fun o=>by simp[Array.getElem?_setIfInBounds,hl]
 unfold mapUpdate;cases r' with
 | none=>
  rw[Wg (w':={w with heap:=w.heap.setIfInBounds r (.map (l.push {key:=S k,val:=v,born:=d}) (d+1))}) (by
   simp only[Instr.mapUpdate,Sem.run_bind,run_underlying tm.h,Result.andThen_ok,Instr.findKey,run_underlying A,V,Xm A,Q,Sem.run_pure];exact n _ (.inr trivial) (by intros;simp))]
  refine h _ (C _) ⟨L,_,_,z _,?_,?_,?_⟩
  .rw[q4 rfl];simp[M]
  .simp only[Array.toList_push,List.map_append,List.map_cons,List.map_nil]
   rw[List.pairwise_append];refine ⟨N,by simp,?_⟩
   intro a Z b O
   simp at O;subst O
   obtain ⟨e,s,rfl⟩:=List.mem_map.1 Z;exact E e s
  .intro e s
   simp at s
   rcases s with s | rfl
   .have:=E e (by simpa using s);omega
   .simp
 | some p=>
  obtain ⟨j,u⟩:=p;obtain ⟨z1,z2,W⟩:=q3 j u rfl;obtain ⟨e,J,X⟩:=z2;simp only[Nat.sub_zero] at J W
  have g:((l.modify j fun e=>{e with key:=S k,val:=v}).toList.map (·.born))=l.toList.map (·.born):=by
   apply List.ext_getElem?;intro i;simp only[Array.toList_modify,List.getElem?_map,List.getElem?_modify]
   by_cases H:j=i<;>cases l.toList[i]? <;>simp[H]
  have q:(Instr.keyThatStays (S k) (S k)).run P w= .ok (S k) w:=by
   simp[Instr.keyThatStays,Instr.sameBits,Bo]
  rw[Wg (w':={w with heap:=w.heap.setIfInBounds r (.map (l.modify j fun e=>{e with key:=S k,val:=v}) d)}) (by
   simp only[Instr.mapUpdate,Sem.run_bind,run_underlying tm.h,Result.andThen_ok,Instr.findKey,run_underlying A,V,Xm A,Q,Sem.run_pure];rw[show ((l[j]?).map (·.key)).getD (S k)=S k by rw[<-Array.getElem?_toList,J];simp[X]]
   simp only[q,Result.andThen_ok];exact n _ (.inr trivial) (by intros;simp))]
  refine h _ (C _) ⟨L,_,_,z _,?_,?_,?_⟩
  .simp only[Array.toList_modify];exact W v
  .rw[g];exact N
  .intro x hx
   have:x.born∈l.toList.map (·.born):=by rw[<-g];exact List.mem_map.2 ⟨x,hx,rfl⟩
   obtain ⟨y,hy,e⟩:=List.mem_map.1 this;rw[<-e];exact E y hy
variable {w1 : World}
theorem V6 {c b:Bool} {a:World->(Value->World->Prop)->Prop} (d:c=b->a w K) (e:c=(!b)->K undef w):Q1 (.bool c) b w a K:=by
 cases c<;>cases b
 .rw[C3];exact d rfl
 .rw[G8];exact e rfl
 .rw[Qs];exact e rfl
 .rw[H0];exact d rfl
theorem Q4 {c:Bool} {t e:Prop} (a:c=true->t) (b:c=false->e):X0 (.bool c) t e:=by
 cases c
 .rw[F3];exact b rfl
 .rw[I5];exact a rfl
theorem Q6 {α:Type} {R:Q2->α->List Value->Prop} {sz:Nat} {σ:Q2} {v:Value} {xs:List α} {a e t:TypeId} {cs:List Bool} [ts:TS P a e] (h:Sl sz R σ v xs) (b:K (I xs.length) w):U4 P .len [a] t cs [v] w K:=by
 rw[X9Y h];exact b
structure Kpt (D : Nat -> Prop) (w w' : World) : Prop where
  os : w'.os = w.os
  tape : w'.tape = w.tape
  output : w'.output = w.output
  size : w.heap.size <= w'.heap.size
  block : ∀ k, k < w.heap.size -> ¬ D k -> w'.heap[k]? = w.heap[k]?
theorem Kpt.refl {D:Nat->Prop}:Kpt D w w:=⟨rfl,rfl,rfl,Nat.le_refl _,fun _ _ _=>rfl⟩
theorem Kpt.trans {D:Nat->Prop} (h:Kpt D w w') (k:Kpt D w' w''):Kpt D w w'':=
 ⟨k.os.trans h.os,k.tape.trans h.tape,k.output.trans h.output,Nat.le_trans h.size k.size,fun i b a=>(k.block i (Nat.lt_of_lt_of_le b h.size) a).trans (h.block i b a)⟩
theorem Kpt.of_below {D:Nat->Prop} (h:Below w.heap.size w w'):Kpt D w w':=⟨h.os,h.tape,h.output,h.size,fun k a _=>h.block k a⟩
theorem Kpt.of_grown {D:Nat->Prop} {row:Option Nat} (h:w.grownBy w' row) (c: ∀k,row=some k->D k):Kpt D w w':=⟨h.os,h.tape,h.output,h.size,fun k b a=>h.block k b (fun e=>a (c k e.symm))⟩
theorem Kpt.of_upd {D:Nat->Prop} {b:Nat} (h:Upd w b w') (a:D b):Kpt D w w':=⟨h.os,h.tape,h.output,by rw[h.size];exact Nat.le_refl _,fun k d c=>h.block k (fun e=>c (e▸a))⟩
theorem Kpt.mono {D D':Nat->Prop} (h:Kpt D w w') (b: ∀k,k<w.heap.size->D k->D' k):Kpt D' w w':=⟨h.os,h.tape,h.output,h.size,fun k a c=>h.block k a (fun e=>c (b k a e))⟩
theorem Kpt.below {D:Nat->Prop} (h:Kpt D w w') (a: ∀k,¬D k):Below w.heap.size w w':=⟨h.os,h.tape,h.output,h.size,fun k b=>h.block k b (a k)⟩
theorem Stp.kp {σ0 σ:Q2} {D:Nat->Prop} (a:Stp w0 σ0 w σ) (b:Kpt D w w') (f: ∀k,D k->w0.heap.size<=k/\σ k=none):Stp w0 σ0 w' σ:=by
 refine ⟨⟨b.os.trans a.bel.os,b.tape.trans a.bel.tape,b.output.trans a.bel.output,Nat.le_trans a.bel.size b.size,fun k c=>?_⟩,?_,a.le,a.old⟩
 .refine (b.block k (Nat.lt_of_lt_of_le c a.bel.size) ?_).trans (a.bel.block k c)
  intro e;have:=(f k e).1;omega
 .intro k o d
  refine (b.block k (a.sat.lt d) ?_).trans (a.sat k o d);intro e;rw[(f k e).2] at d;cases d
theorem Z7.kp {σ:Q2} {D:Nat->Prop} {k:Nat} {cs:List Value} (h:Z7 σ w k cs) (d:Kpt D w w') (a: ¬D k):Z7 σ w' k cs:=by
 have f:=h.lt;obtain ⟨b,e,c⟩:=h;exact ⟨b,e,(d.block k f a).trans c⟩
theorem P8.kp {σ:Q2} {D:Nat->Prop} {r:Nat} {m:List (List UInt8×Value)} (h:P8 σ w r m) (b:Kpt D w w') (a: ¬D r):P8 σ w' r m:=
 ⟨h.1,(b.block r h.lt a).symm▸h.2⟩
theorem W4.kp {α:Type} {R:Q2->α->List Value->Prop} {B sz:Nat} {e:TypeId} {σ:Q2} {v:Value} {xs:List α} {D:Nat->Prop} (h:W4 B e sz R σ w v xs) (n:Kpt D w w') (d: ∀k,v.ownBlock=some k-> ¬D k):W4 B e sz R σ w' v xs:=by
 obtain ⟨cells,f,j,l⟩:=h;refine ⟨cells,⟨f.1,?_⟩,j,l⟩
 rcases f.2 with o | ⟨g,b,c,rfl,m,i,a⟩
 .exact .inl o
 .refine .inr ⟨g,b,c,rfl,m,?_,a⟩
  rw[n.block g (Array.getElem?_eq_some_iff.1 i).1 (d g rfl)];exact i
theorem bt {w w1 b:World} (a:Below w.heap.size w w1) (c:Below w1.heap.size w1 b):Below w.heap.size w b:=a.trans (c.mono a.size)
abbrev V4:Nat:=140737488351232
def L1 (_:Q2) (s:List UInt8) (cs:List Value):Prop:=cs=[S s]/\s.length<=V4
instance:Rep L1:=⟨fun _ h=>h,fun h u hu=>by rw[h.1] at hu;simp at hu;subst hu;rfl⟩
def O5 (_:Q2) (n:Int) (cs:List Value):Prop:=cs=[I n]/\ -9223372036854775808<=n/\n<=9223372036854775807
instance:Rep O5:=⟨fun _ h=>h,fun h u hu=>by rw[h.1] at hu;simp at hu;subst hu;rfl⟩
def Q0U (_:Q2) (b:Bool) (cs:List Value):Prop:=cs=[.bool b]
instance:Rep Q0U:=⟨fun _ h=>h,fun h u hu=>by rw[h] at hu;simp at hu;subst hu;rfl⟩
def UpI (N:Nat) (a:Nat->World->Prop) (x:Value) (w:World):Prop:= ∃n:Nat,x=I n/\n<=N/\a n w
def UpM (N:Nat) (x:Value):Nat:=match x with | .int _ n=>N-n.toNat | _=>0
theorem V7 {A:(Value->World->Prop)->Value->(Nat->Value)->World->Prop} (N:Nat) (a:Nat->World->Prop) (c:a 0 w)
 (b: ∀n w d,n<=N->a n w->A (fun y w'=>UpI N a y w'/\UpM N y<UpM N (I n)) (I n) d w):lp (α:=Value) (.int .i64 0) w A:=by
 refine Wv (UpI N a) (fun x _=>UpM N x) ⟨0,rfl,Nat.zero_le _,c⟩ ?_;rintro _ d w' ⟨n,rfl,f,e⟩;exact b n w' d f e
theorem Z4 {N n:Nat} {a:Nat->World->Prop} (d:N<=9223372036854775807) (c:n<N) (b:a (n+1) w):UpI N a (.int .i64 (IntKind.i64.wrap (n+1))) w/\UpM N (.int .i64 (IntKind.i64.wrap (n+1)))<UpM N (I n):=by
 rw[Qi Q5 Q5];exact ⟨⟨n+1,rfl,c,b⟩,by simp only[UpM];omega⟩
def Ai {α:Type} (N:Nat) (a:Nat->α->World->Prop) (x:α×Value) (w:World):Prop:= ∃n:Nat,x.2=I n/\n<=N/\a n x.1 w
def Ej {α:Type} (N:Nat) (x:α×Value):Nat:=UpM N x.2
theorem O4 {α:Type} {A:(α×Value->World->Prop)->α×Value->(Nat->Value)->World->Prop} {a:α} (N:Nat) (b:Nat->α->World->Prop) (g:b 0 a w)
 (c: ∀n a w d,n<=N->b n a w->A (fun y w'=>Ai N b y w'/\Ej N y<Ej N (a,I n)) (a,I n) d w):lp (α:=α×Value) (a, .int .i64 0) w A:=by
 refine Wv (Ai N b) (fun x _=>Ej N x) ⟨0,rfl,Nat.zero_le _,g⟩ ?_;rintro ⟨a,x⟩ d w' ⟨n,f,h,e⟩;simp only at f e;subst f;exact c n a w' d h e
theorem Z8 {α:Type} {a c:α} {N n:Nat} {b:Nat->α->World->Prop} (f:N<=9223372036854775807) (e:n<N) (d:b (n+1) c w):Ai N b (c, .int .i64 (IntKind.i64.wrap (n+1))) w/\Ej N (c, .int .i64 (IntKind.i64.wrap (n+1)))<Ej N (a,I n):=by
 rw[Qi Q5 Q5];exact ⟨⟨n+1,rfl,e,d⟩,by simp only[Ej,UpM];omega⟩
theorem E4 {α:Type} {R:Q2->α->List Value->Prop} {sz:Nat} {σ:Q2} {v:Value} {xs:List α} {t e:TypeId} {b:Nat} {z:Value} [TS P t e] [TZ P e sz b z] (h:Sl sz R σ v xs) {n:Nat} (i:n<xs.length)
 (g: ∀a cs,U0 σ a cs->cs.length=sz->R σ xs[n] cs->K (.pointer (some a)) w):indexAddr P t v (I n) w K:=
 Y0E h Q5 (by simpa using i) (fun a cs c d f=>g a cs c d (by simpa using f))
theorem Z9 {t:TypeId} {sz c:Nat} {z:Value} {A:Value->Value->World->Prop} [tz:TZ P t sz c z] {σ:Q2} {cs:List Value} (o:X3 w σ) (r:z.cells.size=sz) (n:cs.length=sz) (k: ∀u∈cs,u.oneCell'=true)
 (h: ∀a w' e,Stp w σ w' e->U0 e a cs->A (.pointer (some a)) undef w'):Qa P t w (fun p w=>U8 P t p (.agg cs.toArray) w (fun u w=>A p u w)):=by
 refine Kj o fun b w1 f m g=>?_;refine Ms g (by simpa using r) n (by rw[List.all_toArray];exact List.all_eq_true.2 k) fun s q d=>?_
 have l:Stp w σ s σ:=q.stp m f g.1;obtain ⟨e,i,j,_⟩:=d.keep l f;exact h _ _ _ i j
theorem W8 {t:TypeId} {d:Nat} {z:Value} {A:Value->Value->World->Prop} [tz:TZ P t 1 d z] {σ:Q2} {v:Value} (r:X3 w σ) (y:z.cells.size=1) (n:v.cells= #[v]) (l:v.oneCell'=true)
 (h: ∀a w' f,Stp w σ w' f->U0 f a [v]->A (.pointer (some a)) undef w'):Qa P t w (fun p w=>U8 P t p v w (fun u w=>A p u w)):=by
 refine Kj r fun b w1 g o i=>?_;have q:z.cells.toList.length=1:=by simpa using y
 refine st0 i Q5 n l fun B s c=>?_;have m:Stp w σ B σ:=s.stp o g i.1
 have e:z.cells.toList.set 0 v=[v]:=by
  match hzl:z.cells.toList,q with
  | [x],_=>rfl
 rw[e] at c;obtain ⟨f,j,k,_⟩:=c.keep m g;exact h _ _ _ j k
theorem E8 {α:Type} {xs:List α} {p:α->Bool} {n:Nat} (h:n<xs.length):(xs.take (n+1)).any p=((xs.take n).any p||p xs[n]):=by
 rw[List.take_add_one,List.getElem?_eq_getElem h,List.any_append];simp
theorem P0 {α:Type} {xs:List α} {p:α->Bool} {n:Nat} (h:n<xs.length) (a:p xs[n]=true):xs.any p=true:=List.any_eq_true.2 ⟨_,List.getElem_mem h,a⟩
theorem B7 {α:Type} {xs:List α} {p:α->Bool} {n:Nat} (h: ¬n<xs.length):(xs.take n).any p=xs.any p:=by rw[List.take_of_length_le Q5]
end Go.Emb
namespace Go.Hm
open Go.Kd
structure Fld where
  name : Q9
  kind : Q9
  tr : Bool
deriving DecidableEq
structure Ins where
  op : Q9
  n : Int
  s : Q9
deriving DecidableEq
structure Cat where
  frm : Int
  to : Int
  at_ : Int
  cls : Q9
deriving DecidableEq
structure Met where
  name : Q9
  params : List Q9
  result : Q9
  abs : Bool
  locals : Int
  code : List Ins
  catches : List Cat
deriving DecidableEq
structure Cla where
  name : Q9
  super : Q9
  like : List Q9
  iface : Bool
  abs : Bool
  fin : Bool
  fields : List Fld
  methods : List Hm.Met
deriving DecidableEq
def Fld.zero:Fld:=⟨[],[],false⟩
def Met.zero:Hm.Met:=⟨[],[],[],false,0,[],[]⟩
def Cla.zero:Cla:=⟨[],[],[],false,false,false,[],[]⟩
end Go.Hm
namespace Go.Emb
open Go.RowKit Go.Hm
abbrev Qj (n:Int):Prop:= -9223372036854775808<=n/\n<=9223372036854775807
def K3 (_:Q2) (f:Fld) (cs:List Value):Prop:=cs=[S f.name,S f.kind, .bool f.tr]/\f.name.length<=V4/\f.kind.length<=V4
def Zn (_:Q2) (i:Ins) (cs:List Value):Prop:=cs=[S i.op,I i.n,S i.s]/\i.op.length<=V4/\Qj i.n/\i.s.length<=V4
def Ld (_:Q2) (c:Cat) (cs:List Value):Prop:=cs=[I c.frm,I c.to,I c.at_,S c.cls]/\Qj c.frm/\Qj c.to/\Qj c.at_/\c.cls.length<=V4
def F9 (σ:Q2) (m:Hm.Met) (cs:List Value):Prop:= ∃pv a b,cs=[S m.name,pv,S m.result, .bool m.abs,I m.locals,a,b]/\Sl 1 L1 σ pv m.params/\Sl 3 Zn σ a m.code/\Sl 4 Ld σ b m.catches/\m.name.length<=V4/\m.result.length<=V4/\Qj m.locals
def M8 (σ:Q2) (c:Cla) (cs:List Value):Prop:= ∃b a mv,cs=[S c.name,S c.super,b, .bool c.iface, .bool c.abs, .bool c.fin,a,mv]/\Sl 1 L1 σ b c.like/\Sl 3 K3 σ a c.fields/\Sl 7 F9 σ mv c.methods/\c.name.length<=V4/\c.super.length<=V4
theorem Yl {α:Type} {sz:Nat} {R:Q2->α->List Value->Prop} {σ:Q2} {v:Value} {xs:List α} (h:Sl sz R σ v xs):v.oneCell'=true:=by
 obtain ⟨a,b,rfl,_⟩:=h;rfl
instance:Rep K3:=⟨fun _ h=>h,fun h u hu=>by rw[h.1] at hu;simp at hu;rcases hu with rfl | rfl | rfl<;>rfl⟩
instance:Rep Zn:=⟨fun _ h=>h,fun h u hu=>by rw[h.1] at hu;simp at hu;rcases hu with rfl | rfl | rfl<;>rfl⟩
instance:Rep Ld:=⟨fun _ h=>h,fun h u hu=>by rw[h.1] at hu;simp at hu;rcases hu with rfl | rfl | rfl | rfl<;>rfl⟩
instance:Rep F9:=⟨fun hk ⟨pv,cv,hv,h1,h2,h3,h4,h5⟩=>⟨pv,cv,hv,h1,h2.le hk,h3.le hk,h4.le hk,h5⟩,fun ⟨pv,cv,hv,h1,h2,h3,h4,h5⟩ u hu=>by
 rw[h1] at hu;simp at hu;rcases hu with rfl | rfl | rfl | rfl | rfl | rfl | rfl
 .rfl
 .exact Yl h2
 .rfl
 .rfl
 .rfl
 .exact Yl h3
 .exact Yl h4⟩
instance:Rep M8:=⟨fun hk ⟨pv,cv,hv,h1,h2,h3,h4,h5⟩=>⟨pv,cv,hv,h1,h2.le hk,h3.le hk,h4.le hk,h5⟩,fun ⟨pv,cv,hv,h1,h2,h3,h4,h5⟩ u hu=>by
 rw[h1] at hu;simp at hu;rcases hu with rfl | rfl | rfl | rfl | rfl | rfl | rfl | rfl
 .rfl
 .rfl
 .exact Yl h2
 .rfl
 .rfl
 .rfl
 .exact Yl h3
 .exact Yl h4⟩
end Go.Emb
namespace Go.Proofs.Y
open Go.Emb
instance z_x:TZ P T.x 1 0 (.tuple #[]):=⟨X7⟩
instance g_x:TG P T.x false:=⟨X7⟩
instance z_int64:TZ P T.a1 1 8 (.int .i64 0):=⟨X7⟩
instance g_int64:TG P T.a1 false:=⟨X7⟩
instance z_int:TZ P T.e 1 8 (.int .i64 0):=⟨X7⟩
instance g_int:TG P T.e false:=⟨X7⟩
instance z_bool:TZ P T.s 1 1 (.bool false):=⟨X7⟩
instance g_bool:TG P T.s false:=⟨X7⟩
instance z_uint8:TZ P T.a2 1 1 (.int .u8 0):=⟨X7⟩
instance g_uint8:TG P T.a2 false:=⟨X7⟩
instance z_string:TZ P T.b 1 16 (.string ⟨#[]⟩):=⟨X7⟩
instance g_string:TG P T.b false:=⟨X7⟩
instance z_uintptr:TZ P T.aF 1 8 (.int .u64 0):=⟨X7⟩
instance g_uintptr:TG P T.aF false:=⟨X7⟩
instance z_int32:TZ P T.ay 1 4 (.int .i32 0):=⟨X7⟩
instance g_int32:TG P T.ay false:=⟨X7⟩
instance z_P_heap_Heap:TZ P T.a5 1 8 (.pointer none):=⟨X7⟩
instance g_P_heap_Heap:TG P T.a5 false:=⟨X7⟩
instance z_S_api_Class:TZ P T.i 1 24 (.slice none 0 0):=⟨X7⟩
instance g_S_api_Class:TG P T.i false:=⟨X7⟩
instance s_S_api_Class:TS P T.i 111:=⟨X7⟩
instance z_S_api_Cell:TZ P T.g 1 24 (.slice none 0 0):=⟨X7⟩
instance g_S_api_Cell:TG P T.g false:=⟨X7⟩
instance s_S_api_Cell:TS P T.g 95:=⟨X7⟩
instance z_squinchref09_Heap:TZ P T.a 3 56 (.agg #[.slice none 0 0, .int .i64 0, .slice none 0 0]):=⟨X7⟩
instance g_squinchref09_Heap:TG P T.a true:=⟨X7⟩
instance f_squinchref09_Heap_0:TF P T.a 0 0 23:=⟨X7⟩
instance f_squinchref09_Heap_1:TF P T.a 1 1 3:=⟨X7⟩
instance f_squinchref09_Heap_2:TF P T.a 2 2 24:=⟨X7⟩
instance z_uint16:TZ P T.aC 1 2 (.int .u16 0):=⟨X7⟩
instance g_uint16:TG P T.aC false:=⟨X7⟩
instance z_func_string_bool:TZ P T.ae 1 8 .nilFunc:=⟨X7⟩
instance g_func_string_bool:TG P T.ae false:=⟨X7⟩
instance z_S_uint8:TZ P T.r 1 24 (.slice none 0 0):=⟨X7⟩
instance g_S_uint8:TG P T.r false:=⟨X7⟩
instance s_S_uint8:TS P T.r 5:=⟨X7⟩
instance z_api_Errno:TZ P T.w 1 8 (.int .i64 0):=⟨X7⟩
instance g_api_Errno:TG P T.w false:=⟨X7⟩
instance z_api_Value:TZ P T.f 4 40 (.agg #[.int .i64 0, .int .i64 0, .string ⟨#[]⟩, .int .i64 0]):=⟨X7⟩
instance g_api_Value:TG P T.f true:=⟨X7⟩
instance f_api_Value_0:TF P T.f 0 0 3:=⟨X7⟩
instance f_api_Value_1:TF P T.f 1 1 2:=⟨X7⟩
instance f_api_Value_2:TF P T.f 2 2 9:=⟨X7⟩
instance f_api_Value_3:TF P T.f 3 3 3:=⟨X7⟩
instance z_api_Limits:TZ P T.a3 2 16 (.agg #[.int .i64 0, .int .i64 0]):=⟨X7⟩
instance g_api_Limits:TG P T.a3 true:=⟨X7⟩
instance f_api_Limits_0:TF P T.a3 0 0 3:=⟨X7⟩
instance f_api_Limits_1:TF P T.a3 1 1 3:=⟨X7⟩
instance z_func_string_string:TZ P T.aj 1 8 .nilFunc:=⟨X7⟩
instance g_func_string_string:TG P T.aj false:=⟨X7⟩
instance z_S_squinchref09_Act:TZ P T.a7 1 24 (.slice none 0 0):=⟨X7⟩
instance g_S_squinchref09_Act:TG P T.a7 false:=⟨X7⟩
instance s_S_squinchref09_Act:TS P T.a7 79:=⟨X7⟩
instance z_S_api_Value:TZ P T.l 1 24 (.slice none 0 0):=⟨X7⟩
instance g_S_api_Value:TG P T.l false:=⟨X7⟩
instance s_S_api_Value:TS P T.l 37:=⟨X7⟩
instance z_S_int:TZ P T.o 1 24 (.slice none 0 0):=⟨X7⟩
instance g_S_int:TG P T.o false:=⟨X7⟩
instance s_S_int:TS P T.o 3:=⟨X7⟩
instance z_P_hier_Table:TZ P T.z 1 8 (.pointer none):=⟨X7⟩
instance g_P_hier_Table:TG P T.z false:=⟨X7⟩
instance z_S__2_string:TZ P T.ac 1 24 (.slice none 0 0):=⟨X7⟩
instance g_S__2_string:TG P T.ac false:=⟨X7⟩
instance s_S__2_string:TS P T.ac 154:=⟨X7⟩
instance z_uint64:TZ P T.a8 1 8 (.int .u64 0):=⟨X7⟩
instance g_uint64:TG P T.a8 false:=⟨X7⟩
instance z_squinchref09_Act:TZ P T.n 8 80 (.agg #[.int .i64 0, .string ⟨#[]⟩, .int .i64 0, .int .i64 0, .int .i64 0, .int .i64 0, .string ⟨#[]⟩, .int .i64 0]):=⟨X7⟩
instance g_squinchref09_Act:TG P T.n true:=⟨X7⟩
instance f_squinchref09_Act_0:TF P T.n 0 0 3:=⟨X7⟩
instance f_squinchref09_Act_1:TF P T.n 1 1 9:=⟨X7⟩
instance f_squinchref09_Act_2:TF P T.n 2 2 2:=⟨X7⟩
instance f_squinchref09_Act_3:TF P T.n 3 3 3:=⟨X7⟩
instance f_squinchref09_Act_4:TF P T.n 4 4 37:=⟨X7⟩
instance z_M_int_int:TZ P T.ad 1 8 (.map none):=⟨X7⟩
instance g_M_int_int:TG P T.ad false:=⟨X7⟩
instance m_M_int_int:TM P T.ad 3 3:=⟨X7⟩
instance z_S_string:TZ P T.h 1 24 (.slice none 0 0):=⟨X7⟩
instance g_S_string:TG P T.h false:=⟨X7⟩
instance s_S_string:TS P T.h 9:=⟨X7⟩
instance z_api_Cell:TZ P T.p 2 40 (.agg #[.string ⟨#[]⟩, .slice none 0 0]):=⟨X7⟩
instance g_api_Cell:TG P T.p true:=⟨X7⟩
instance f_api_Cell_0:TF P T.p 0 0 9:=⟨X7⟩
instance f_api_Cell_1:TF P T.p 1 1 46:=⟨X7⟩
instance z_heap_Heap:TZ P T.t 4 48 (.agg #[.pointer none, .int .i64 0, .int .i64 0, .slice none 0 0]):=⟨X7⟩
instance g_heap_Heap:TG P T.t true:=⟨X7⟩
instance f_heap_Heap_0:TF P T.t 0 0 60:=⟨X7⟩
instance f_heap_Heap_1:TF P T.t 1 1 3:=⟨X7⟩
instance f_heap_Heap_2:TF P T.t 2 2 3:=⟨X7⟩
instance f_heap_Heap_3:TF P T.t 3 3 24:=⟨X7⟩
instance z_M_string_int:TZ P T.a6 1 8 (.map none):=⟨X7⟩
instance g_M_string_int:TG P T.a6 false:=⟨X7⟩
instance m_M_string_int:TM P T.a6 9 3:=⟨X7⟩
instance z_hier_Table:TZ P T.a4 2 32 (.agg #[.slice none 0 0, .map none]):=⟨X7⟩
instance g_hier_Table:TG P T.a4 true:=⟨X7⟩
instance f_hier_Table_0:TF P T.a4 0 0 23:=⟨X7⟩
instance f_hier_Table_1:TF P T.a4 1 1 105:=⟨X7⟩
instance z_S_api_Field:TZ P T.j 1 24 (.slice none 0 0):=⟨X7⟩
instance g_S_api_Field:TG P T.j false:=⟨X7⟩
instance s_S_api_Field:TS P T.j 121:=⟨X7⟩
instance z_S_api_Method:TZ P T.k 1 24 (.slice none 0 0):=⟨X7⟩
instance g_S_api_Method:TG P T.k false:=⟨X7⟩
instance s_S_api_Method:TS P T.k 124:=⟨X7⟩
instance z_api_Class:TZ P T.c 8 112 (.agg #[.string ⟨#[]⟩, .string ⟨#[]⟩, .slice none 0 0, .bool false, .bool false, .bool false, .slice none 0 0, .slice none 0 0]):=⟨X7⟩
instance g_api_Class:TG P T.c true:=⟨X7⟩
instance f_api_Class_0:TF P T.c 0 0 9:=⟨X7⟩
instance f_api_Class_1:TF P T.c 1 1 9:=⟨X7⟩
instance f_api_Class_2:TF P T.c 2 2 90:=⟨X7⟩
instance f_api_Class_3:TF P T.c 3 3 4:=⟨X7⟩
instance f_api_Class_4:TF P T.c 4 4 4:=⟨X7⟩
instance f_api_Class_5:TF P T.c 5 5 4:=⟨X7⟩
instance f_api_Class_6:TF P T.c 6 6 108:=⟨X7⟩
instance f_api_Class_7:TF P T.c 7 7 109:=⟨X7⟩
instance z_api_Instr:TZ P T.y 3 40 (.agg #[.string ⟨#[]⟩, .int .i64 0, .string ⟨#[]⟩]):=⟨X7⟩
instance g_api_Instr:TG P T.y true:=⟨X7⟩
instance f_api_Instr_0:TF P T.y 0 0 9:=⟨X7⟩
instance f_api_Instr_1:TF P T.y 1 1 2:=⟨X7⟩
instance f_api_Instr_2:TF P T.y 2 2 9:=⟨X7⟩
instance z_S_api_Instr:TZ P T.q 1 24 (.slice none 0 0):=⟨X7⟩
instance g_S_api_Instr:TG P T.q false:=⟨X7⟩
instance s_S_api_Instr:TS P T.q 118:=⟨X7⟩
instance z_api_Field:TZ P T.m 3 40 (.agg #[.string ⟨#[]⟩, .string ⟨#[]⟩, .bool false]):=⟨X7⟩
instance g_api_Field:TG P T.m true:=⟨X7⟩
instance f_api_Field_0:TF P T.m 0 0 9:=⟨X7⟩
instance f_api_Field_1:TF P T.m 1 1 9:=⟨X7⟩
instance f_api_Field_2:TF P T.m 2 2 4:=⟨X7⟩
instance z_S_api_Catch:TZ P T.u 1 24 (.slice none 0 0):=⟨X7⟩
instance g_S_api_Catch:TG P T.u false:=⟨X7⟩
instance s_S_api_Catch:TS P T.u 222:=⟨X7⟩
instance z_api_Method:TZ P T.d 7 120 (.agg #[.string ⟨#[]⟩, .slice none 0 0, .string ⟨#[]⟩, .bool false, .int .i64 0, .slice none 0 0, .slice none 0 0]):=⟨X7⟩
instance g_api_Method:TG P T.d true:=⟨X7⟩
instance f_api_Method_0:TF P T.d 0 0 9:=⟨X7⟩
instance f_api_Method_1:TF P T.d 1 1 90:=⟨X7⟩
instance f_api_Method_2:TF P T.d 2 2 9:=⟨X7⟩
instance f_api_Method_3:TF P T.d 3 3 4:=⟨X7⟩
instance f_api_Method_4:TF P T.d 4 4 3:=⟨X7⟩
instance f_api_Method_5:TF P T.d 5 5 119:=⟨X7⟩
instance f_api_Method_6:TF P T.d 6 6 122:=⟨X7⟩
instance z_S_S_bool:TZ P T.af 1 24 (.slice none 0 0):=⟨X7⟩
instance g_S_S_bool:TG P T.af false:=⟨X7⟩
instance s_S_S_bool:TS P T.af 129:=⟨X7⟩
instance z_S_bool:TZ P T.ab 1 24 (.slice none 0 0):=⟨X7⟩
instance g_S_bool:TG P T.ab false:=⟨X7⟩
instance s_S_bool:TS P T.ab 4:=⟨X7⟩
instance z_func_int_2:TZ P T.aw 1 8 .nilFunc:=⟨X7⟩
instance g_func_int_2:TG P T.aw false:=⟨X7⟩
instance z_P_pack_Writer:TZ P T.ag 1 8 (.pointer none):=⟨X7⟩
instance g_P_pack_Writer:TG P T.ag false:=⟨X7⟩
instance z_A2_string:TZ P T.aa 2 32 (.agg #[.string ⟨#[]⟩, .string ⟨#[]⟩]):=⟨X7⟩
instance g_A2_string:TG P T.aa true:=⟨X7⟩
instance a_A2_string:TA P T.aa 2 9:=⟨X7⟩
instance z_A6_string:TZ P T.az 6 96 (.agg #[.string ⟨#[]⟩, .string ⟨#[]⟩, .string ⟨#[]⟩, .string ⟨#[]⟩, .string ⟨#[]⟩, .string ⟨#[]⟩]):=⟨X7⟩
instance g_A6_string:TG P T.az true:=⟨X7⟩
instance a_A6_string:TA P T.az 6 9:=⟨X7⟩
instance z_M_string_string:TZ P T.a0 1 8 (.map none):=⟨X7⟩
instance g_M_string_string:TG P T.a0 false:=⟨X7⟩
instance m_M_string_string:TM P T.a0 9 9:=⟨X7⟩
instance z_func_api_Method_string:TZ P T.ah 1 8 .nilFunc:=⟨X7⟩
instance g_func_api_Method_string:TG P T.ah false:=⟨X7⟩
instance z_func_api_Method_bool:TZ P T.am 1 8 .nilFunc:=⟨X7⟩
instance g_func_api_Method_bool:TG P T.am false:=⟨X7⟩
instance g_A256_uint8:TG P T.aD true:=⟨X7⟩
instance a_A256_uint8:TA P T.aD 256 5:=⟨X7⟩
instance z_utf8_acceptRange:TZ P T.au 2 2 (.agg #[.int .u8 0, .int .u8 0]):=⟨X7⟩
instance g_utf8_acceptRange:TG P T.au true:=⟨X7⟩
instance f_utf8_acceptRange_0:TF P T.au 0 0 5:=⟨X7⟩
instance f_utf8_acceptRange_1:TF P T.au 1 1 5:=⟨X7⟩
instance z_A16_utf8_acceptRange:TZ P T.av 32 32 (.agg #[.int .u8 0, .int .u8 0, .int .u8 0, .int .u8 0, .int .u8 0, .int .u8 0, .int .u8 0, .int .u8 0, .int .u8 0, .int .u8 0, .int .u8 0, .int .u8 0, .int .u8 0, .int .u8 0, .int .u8 0, .int .u8 0, .int .u8 0, .int .u8 0, .int .u8 0, .int .u8 0, .int .u8 0, .int .u8 0, .int .u8 0, .int .u8 0, .int .u8 0, .int .u8 0, .int .u8 0, .int .u8 0, .int .u8 0, .int .u8 0, .int .u8 0, .int .u8 0]):=⟨X7⟩
instance g_A16_utf8_acceptRange:TG P T.av true:=⟨X7⟩
instance a_A16_utf8_acceptRange:TA P T.av 16 198:=⟨X7⟩
instance z_pack_Writer:TZ P T.a9 1 24 (.agg #[.slice none 0 0]):=⟨X7⟩
instance g_pack_Writer:TG P T.a9 true:=⟨X7⟩
instance f_pack_Writer_0:TF P T.a9 0 0 32:=⟨X7⟩
instance z_S_uint64:TZ P T.ak 1 24 (.slice none 0 0):=⟨X7⟩
instance g_S_uint64:TG P T.ak false:=⟨X7⟩
instance s_S_uint64:TS P T.ak 75:=⟨X7⟩
instance z_func_api_Field_string:TZ P T.ai 1 8 .nilFunc:=⟨X7⟩
instance g_func_api_Field_string:TG P T.ai false:=⟨X7⟩
instance z_func_api_Field_bool:TZ P T.aq 1 8 .nilFunc:=⟨X7⟩
instance g_func_api_Field_bool:TG P T.aq false:=⟨X7⟩
instance z_api_Catch:TZ P T.v 4 40 (.agg #[.int .i64 0, .int .i64 0, .int .i64 0, .string ⟨#[]⟩]):=⟨X7⟩
instance g_api_Catch:TG P T.v true:=⟨X7⟩
instance f_api_Catch_0:TF P T.v 0 0 3:=⟨X7⟩
instance f_api_Catch_1:TF P T.v 1 1 3:=⟨X7⟩
instance f_api_Catch_2:TF P T.v 2 2 3:=⟨X7⟩
instance f_api_Catch_3:TF P T.v 3 3 9:=⟨X7⟩
instance z_S_int64:TZ P T.aB 1 24 (.slice none 0 0):=⟨X7⟩
instance g_S_int64:TG P T.aB false:=⟨X7⟩
instance s_S_int64:TS P T.aB 2:=⟨X7⟩
instance z_func_api_Catch_bool:TZ P T.ap 1 8 .nilFunc:=⟨X7⟩
instance g_func_api_Catch_bool:TG P T.ap false:=⟨X7⟩
instance z_func_api_Instr_bool:TZ P T.ar 1 8 .nilFunc:=⟨X7⟩
instance g_func_api_Instr_bool:TG P T.ar false:=⟨X7⟩
instance g_strings_asciiSet:TG P T.an true:=⟨X7⟩
instance a_strings_asciiSet:TA P T.an 256 4:=⟨X7⟩
instance z_strings_Builder:TZ P T.ax 2 32 (.agg #[.pointer none, .slice none 0 0]):=⟨X7⟩
instance g_strings_Builder:TG P T.ax true:=⟨X7⟩
instance f_strings_Builder_0:TF P T.ax 0 0 252:=⟨X7⟩
instance f_strings_Builder_1:TF P T.ax 1 1 32:=⟨X7⟩
instance z_P_uint8:TZ P T.aE 1 8 (.pointer none):=⟨X7⟩
instance g_P_uint8:TG P T.aE false:=⟨X7⟩
instance z_code_op:TZ P T.al 3 24 (.agg #[.string ⟨#[]⟩, .bool false, .bool false]):=⟨X7⟩
instance g_code_op:TG P T.al true:=⟨X7⟩
instance f_code_op_0:TF P T.al 0 0 9:=⟨X7⟩
instance f_code_op_1:TF P T.al 1 1 4:=⟨X7⟩
instance f_code_op_2:TF P T.al 2 2 4:=⟨X7⟩
instance g_A42_code_op:TG P T.ao true:=⟨X7⟩
instance a_A42_code_op:TA P T.ao 42 271:=⟨X7⟩
instance z_S_code_op:TZ P T.aA 1 24 (.slice none 0 0):=⟨X7⟩
instance g_S_code_op:TG P T.aA false:=⟨X7⟩
instance s_S_code_op:TS P T.aA 271:=⟨X7⟩
instance z_uint32:TZ P T.aG 1 4 (.int .u32 0):=⟨X7⟩
instance g_uint32:TG P T.aG false:=⟨X7⟩
end Go.Proofs.Y
namespace Go.Emb
theorem aS {p:Prop} (h:p:=by (first | assumption | exact Stp.sat Q8 | exact Hst.sat Q8)):p:=h
theorem aL {p:Prop} (h:p:=by (first | assumption | exact Sl.lift Q8 (by (repeat (first | exact SLe.refl _ | refine SLe.more ?_ Q8 | refine SLe.more ?_ (Nxt.le Q8) | refine SLe.step ?_ Q8))) | exact U0.lift Q8 (by (repeat (first | exact SLe.refl _ | refine SLe.more ?_ Q8 | refine SLe.more ?_ (Nxt.le Q8) | refine SLe.step ?_ Q8))) | exact Js.lift Q8 (by (repeat (first | exact SLe.refl _ | refine SLe.more ?_ Q8 | refine SLe.more ?_ (Nxt.le Q8) | refine SLe.step ?_ Q8))) | exact RCl_lift Q8 (by (repeat (first | exact SLe.refl _ | refine SLe.more ?_ Q8 | refine SLe.more ?_ (Nxt.le Q8) | refine SLe.step ?_ Q8))) | exact RMe_lift Q8 (by (repeat (first | exact SLe.refl _ | refine SLe.more ?_ Q8 | refine SLe.more ?_ (Nxt.le Q8) | refine SLe.step ?_ Q8))) | exact Glb.lift Q8 (by (repeat (first | exact SLe.refl _ | refine SLe.more ?_ Q8 | refine SLe.more ?_ (Nxt.le Q8) | refine SLe.step ?_ Q8))) | exact Tab.lift Q8 (by (repeat (first | exact SLe.refl _ | refine SLe.more ?_ Q8 | refine SLe.more ?_ (Nxt.le Q8) | refine SLe.step ?_ Q8))) | exact RIn_any Q8 | exact RFd_any Q8 | exact RCa_any Q8)):p:=h
theorem aR {p:Prop} (h:p:=by with_unfolding_all rfl):p:=h
theorem aF {p:Prop} (a:p:=by (refine Eq.subst (motive:=fun b=>K b _) ?_ (h _ _ (by (repeat (first | exact Stp.refl (by (first | assumption | exact Stp.sat Q8 | exact Hst.sat Q8)) | assumption | refine Stp.trans ?_ (by first | assumption | exact Hst.stp Q8)))));clear h;(try clear hA);(try clear hB);(try clear hC);first | rfl | ((try simp only[Bool.not_eq_true',Bool.not_eq_false',Bool.not_true,Bool.not_false,Bool.not_eq_true] at*);simp only[*,Mb,reduceIte];done) | (simp[*];done) | simp_all)):p:=a
theorem au {p:Prop} (h:p:=by (first | assumption | (first | assumption | exact Stp.sat Q8 | exact Hst.sat Q8) | (first | assumption | exact Sl.lift Q8 (by (repeat (first | exact SLe.refl _ | refine SLe.more ?_ Q8 | refine SLe.more ?_ (Nxt.le Q8) | refine SLe.step ?_ Q8))) | exact U0.lift Q8 (by (repeat (first | exact SLe.refl _ | refine SLe.more ?_ Q8 | refine SLe.more ?_ (Nxt.le Q8) | refine SLe.step ?_ Q8))) | exact Js.lift Q8 (by (repeat (first | exact SLe.refl _ | refine SLe.more ?_ Q8 | refine SLe.more ?_ (Nxt.le Q8) | refine SLe.step ?_ Q8))) | exact RCl_lift Q8 (by (repeat (first | exact SLe.refl _ | refine SLe.more ?_ Q8 | refine SLe.more ?_ (Nxt.le Q8) | refine SLe.step ?_ Q8))) | exact RMe_lift Q8 (by (repeat (first | exact SLe.refl _ | refine SLe.more ?_ Q8 | refine SLe.more ?_ (Nxt.le Q8) | refine SLe.step ?_ Q8))) | exact Glb.lift Q8 (by (repeat (first | exact SLe.refl _ | refine SLe.more ?_ Q8 | refine SLe.more ?_ (Nxt.le Q8) | refine SLe.step ?_ Q8))) | exact Tab.lift Q8 (by (repeat (first | exact SLe.refl _ | refine SLe.more ?_ Q8 | refine SLe.more ?_ (Nxt.le Q8) | refine SLe.step ?_ Q8))) | exact RIn_any Q8 | exact RFd_any Q8 | exact RCa_any Q8) | exact Nat.le_trans Q8 L7 | omega)):p:=h
end Go.Emb
namespace Go.Proofs.Y
open Go.Emb
theorem Y0K {a:List UInt8} {cs:List Bool} {r:TypeId} {w:World} {K:Value->World->Prop}:U4 P .len [T.b] r cs [S a] w K=K (I a.length) w:=I4 Z5
theorem Y0J {c d:Operand} {a b:Bool} {w:World} {K:Value->World->Prop}:Z2 P .eql T.s c d (.bool a) (.bool b) w K=K (.bool (a==b)) w:=X06 Q7N
theorem Y0L {c d:Operand} {a b:Bool} {w:World} {K:Value->World->Prop}:Z2 P .neq T.s c d (.bool a) (.bool b) w K=K (.bool (!(a==b))) w:=X07 Q7N
def Mm:=And.intro @fa <| And.intro @C0 <| And.intro @Zl <| And.intro @Y0K <| And.intro @Y0J @Y0L
def M1:=And.intro Mm Mr
def M2:=And.intro Mm Mp
end Go.Proofs.Y
namespace Go.Proofs.Y
open Go.Emb Go.RowKit Go.Kd Go.Hm
variable {w : World} {K : Value -> World -> Prop} {σ : Q2}
def Dc (m:Hm.Met):Bool:=decide (32<m.params.length)||decide (32<m.catches.length)||decide (200<m.code.length)||decide (64<m.locals)
def Wi (c:Cla):Bool:=c.methods.any Dc||decide (32<c.like.length)||decide (32<c.fields.length)||decide (32<c.methods.length)
theorem X9v {c : Cla} {cs : List Value} (hs : X3 w σ) (hc : M8 σ c cs) (h : ∀ w', Below w.heap.size w w' -> K (.bool (Wi c)) w') : Q0 P F.dg [.agg cs.toArray] w K := X17 (by
  obtain ⟨lv, fv, mv, rfl, hl, hf, hm, hn, hsu⟩ := hc
  unfold Q3W
  simp only [L9]
  unfold J1 X6 J3 V1 X4 X2 X1
  refine F8 hs fun a w1 σ1 hk ha => ?_
  have hs := hk.sat
  replace hl := hl.up hk
  replace hf := hf.up hk
  replace hm := hm.up hk
  simp only [Value.cells] at ha
  ((try simp only [↓M1, M1, Mb, reduceIte]); repeat ((first | refine ld (by assumption) (by assumption) rfl ?_ | refine Y6 (by assumption) (by assumption) rfl ?_ | refine Q6 (by assumption) ?_); (try simp only [↓M1, M1, Mb, reduceIte])))
  refine V7 c.methods.length (fun n w' => Below w1.heap.size w1 w' /\ ((c.methods.take n).any Dc) = false) ⟨Below.refl _ _, by simp⟩ fun n w2 d hn hi => ?_
  obtain ⟨hb, hp⟩ := hi
  have hs2 := hs.below hb
  ((try simp only [↓M1, M1, Mb, reduceIte]); repeat ((first | refine ld (by assumption) (by assumption) rfl ?_ | refine Y6 (by assumption) (by assumption) rfl ?_ | refine Q6 (by assumption) ?_); (try simp only [↓M1, M1, Mb, reduceIte])))
  refine Q4 (fun hc => ?_) (fun hc => ?_)
  · have hn' : n < c.methods.length := by simpa using hc
    refine E4 hm hn' fun p cs hl1 hlen hr => ?_
    refine Z3 hs2 hl1 hlen ?_
    refine Z9 hs2 (by rfl) hlen (Rep.one hr) fun q w3 σ3 hk3 hq => ?_
    obtain ⟨pv, cv, hv, rfl, g1, g2, g3, g4⟩ := hr
    have hs3 := hk3.sat
    replace g1 := g1.up hk3
    replace g2 := g2.up hk3
    replace g3 := g3.up hk3
    ((try simp only [↓M1, M1, Mb, reduceIte]); repeat ((first | refine ld (by assumption) (by assumption) rfl ?_ | refine Y6 (by assumption) (by assumption) rfl ?_ | refine Q6 (by assumption) ?_); (try simp only [↓M1, M1, Mb, reduceIte])))
    (repeat' ((first | refine V6 (fun hh => ?_) (fun hh => ?_) | refine Q4 (fun hh => ?_) (fun hh => ?_)) <;> (try simp only [hh, Bool.not_true, Bool.not_false, ↓M1, M1, Mb, reduceIte]) <;> ((try simp only [↓M1, M1, Mb, reduceIte]); repeat ((first | refine ld (by assumption) (by assumption) rfl ?_ | refine Y6 (by assumption) (by assumption) rfl ?_ | refine Q6 (by assumption) ?_); (try simp only [↓M1, M1, Mb, reduceIte])))))
    all_goals first
      | refine Z4 hm.max hn' ⟨bt hb hk3.bel, ?_⟩
        rw [E8 hn', hp]; simp only [Dc]; (first | (simp only [decide_eq_true_eq, decide_eq_false_iff_not, Bool.not_true, Bool.not_false, Bool.not_eq_true', Bool.not_eq_false', Bool.or_eq_true, Bool.and_eq_true, Bool.or_eq_false_iff, Bool.and_eq_false_iff, Bool.false_or, Bool.true_and, Bool.or_false, Bool.and_true] at *; first | omega | (and_intros <;> omega)) | (rw [Bool.eq_iff_iff]; (simp only [decide_eq_true_eq, decide_eq_false_iff_not, Bool.not_true, Bool.not_false, Bool.not_eq_true', Bool.not_eq_false', Bool.or_eq_true, Bool.and_eq_true, Bool.or_eq_false_iff, Bool.and_eq_false_iff, Bool.false_or, Bool.true_and, Bool.or_false, Bool.and_true] at *; first | omega | (and_intros <;> omega))))
      | have e : Wi c = true := by
          have : Dc c.methods[n] = true := by simp only [Dc]; (first | (simp only [decide_eq_true_eq, decide_eq_false_iff_not, Bool.not_true, Bool.not_false, Bool.not_eq_true', Bool.not_eq_false', Bool.or_eq_true, Bool.and_eq_true, Bool.or_eq_false_iff, Bool.and_eq_false_iff, Bool.false_or, Bool.true_and, Bool.or_false, Bool.and_true] at *; first | omega | (and_intros <;> omega)) | (rw [Bool.eq_iff_iff]; (simp only [decide_eq_true_eq, decide_eq_false_iff_not, Bool.not_true, Bool.not_false, Bool.not_eq_true', Bool.not_eq_false', Bool.or_eq_true, Bool.and_eq_true, Bool.or_eq_false_iff, Bool.and_eq_false_iff, Bool.false_or, Bool.true_and, Bool.or_false, Bool.and_true] at *; first | omega | (and_intros <;> omega))))
          simp [Wi, P0 hn' this]
        rw [<- e]; exact h _ (bt hk.bel (bt hb hk3.bel))
  · have hn' : ¬ n < c.methods.length := by simpa using hc
    rw [B7 hn'] at hp
    have h := h w2 (bt hk.bel hb)
    ((try simp only [↓M1, M1, Mb, reduceIte]); repeat ((first | refine ld (by assumption) (by assumption) rfl ?_ | refine Y6 (by assumption) (by assumption) rfl ?_ | refine Q6 (by assumption) ?_); (try simp only [↓M1, M1, Mb, reduceIte])))
    (repeat' ((first | refine V6 (fun hh => ?_) (fun hh => ?_) | refine Q4 (fun hh => ?_) (fun hh => ?_)) <;> (try simp only [hh, Bool.not_true, Bool.not_false, ↓M1, M1, Mb, reduceIte]) <;> ((try simp only [↓M1, M1, Mb, reduceIte]); repeat ((first | refine ld (by assumption) (by assumption) rfl ?_ | refine Y6 (by assumption) (by assumption) rfl ?_ | refine Q6 (by assumption) ?_); (try simp only [↓M1, M1, Mb, reduceIte])))))
    all_goals
      refine Eq.subst (motive := fun b => K (.bool b) w2) ?_ h
      simp only [Wi, hp]
      (first | (simp only [decide_eq_true_eq, decide_eq_false_iff_not, Bool.not_true, Bool.not_false, Bool.not_eq_true', Bool.not_eq_false', Bool.or_eq_true, Bool.and_eq_true, Bool.or_eq_false_iff, Bool.and_eq_false_iff, Bool.false_or, Bool.true_and, Bool.or_false, Bool.and_true] at *; first | omega | (and_intros <;> omega)) | (rw [Bool.eq_iff_iff]; (simp only [decide_eq_true_eq, decide_eq_false_iff_not, Bool.not_true, Bool.not_false, Bool.not_eq_true', Bool.not_eq_false', Bool.or_eq_true, Bool.and_eq_true, Bool.or_eq_false_iff, Bool.and_eq_false_iff, Bool.false_or, Bool.true_and, Bool.or_false, Bool.and_true] at *; first | omega | (and_intros <;> omega)))))
end Go.Proofs.Y
namespace Go.Emb
open Go.RowKit Go.Hm
variable {H : Type} {enc : TypeId × Value -> H} {P : Program} {W : World} {t : TypeId} {cs : List Value} {fuel : Nat} {x : DataW H × List MemPlace}
def Ni (W:World):Q2:=fun b=>W.heap[b]?
theorem X61:X3 W (Ni W):=fun b o h=>h
def Wt (P:Program) (t:TypeId) (d:DataW H):Prop:= ∀n∈d.weights P t,n<=reachBytes
theorem X8I {a:Addr} {n:Nat} (h:W.cells? 0 a n=some cs) (C:0<n):cs.length=n/\U0 (Ni W) a cs:=by
 obtain ⟨_,m,u⟩:=World.cells?_some h;refine ⟨m,?_⟩
 have key: ∀i v,cs[i]? =some v-> ∃arr e f,W.heap[a.block]? =some (.cells arr e f)/\(a.add i).spot=none/\arr[a.off+i]? =some v:=by
  intro i v g;have B:i<cs.length:=(List.getElem?_eq_some_iff.1 g).1;have b:=u i Q5;rw[g] at b;unfold World.cell? at b;rw[K8,Zi] at b;cases p:W.heap[a.block]? with
  | none=>rw[p] at b;cases b
  | some o=>
   rw[p] at b;cases o with
   | cells arr e f=>
    simp only at b
    split at b
    .cases b
    .rename_i w
     exact ⟨arr,e,f,rfl,by simpa using w,b⟩
   | _=>cases b
 cases j:cs with
 | nil=>subst j;simp at m;omega
 | cons c r=>
  obtain ⟨arr,e,f,l,s,A⟩:=key 0 c (by rw[j];rfl)
  refine ⟨by simpa [Addr.add] using s,arr,e,f,l,fun i v g=>?_⟩
  obtain ⟨k,z,q,d,D,y⟩:=key i v (by rw[j];exact g)
  rw[l] at d
  injection d with d
  injection d with d
  subst d;exact y
theorem X5F (a:P.underlying t=some .string) (h:DataW.trod enc P W 0 (fun _=>true) true fuel t cs=some x) (b:Wt P t x.1): ∃s:Kd.Q9,cs=[S s]/\s.length<=V4:=by
 obtain ⟨⟨⟨s⟩⟩,rfl,rfl,_⟩:=DataW.trod_string a h;refine ⟨s,rfl,?_⟩;have:=b s.length (by simp[DataW.weights])
 exact this
theorem Fv (c:P.underlying t=some (.int .i64)) (h:DataW.trod enc P W 0 (fun _=>true) true fuel t cs=some x): ∃n,cs=[I n]/\Qj n:=by
 obtain ⟨n,b,_,a⟩:=DataW.trod_int c h;refine ⟨n,b,?_⟩;simp only[Lit.wf,Bool.and_eq_true,decide_eq_true_eq] at a;exact ⟨a.1,a.2⟩
theorem X8J {α:Type} {Q:Nat->α->Prop}: ∀(n:Nat),(∀i,i<n-> ∃y,Q i y)-> ∃xs:List α,xs.length=n/\ ∀i y,xs[i]? =some y->Q i y:=by
 intro n
 induction n with
 | zero=>intro _;exact ⟨[],rfl,by simp⟩
 | succ n f=>
  intro h;obtain ⟨xs,c,d⟩:=f fun i b=>h i Q5;obtain ⟨y,e⟩:=h n Q5;refine ⟨xs++[y],by simp[c],fun i z a=>?_⟩
  by_cases b:i<xs.length
  .rw[List.getElem?_append_left b] at a;exact d i z a
  .rw[List.getElem?_append_right Q5] at a
   have:i-xs.length=0:=by
    have:=(List.getElem?_eq_some_iff.1 a).1
    simp at this;omega
   rw[this] at a
   simp at a
   subst a;rw[show i=n by omega];exact e
theorem Y0h {e:TypeId} {d:DataW H}: ∀{l:List (DataW H)},d∈l-> ∀n∈d.weights P e,n∈DataW.weightsAll P e l:=by
 intro l
 induction l with
 | nil=>intro h;simp at h
 | cons a r c=>
  intro h n b;simp only[DataW.weightsAll,List.mem_append]
  rcases List.mem_cons.1 h with rfl | h
  .exact .inl b
  .exact .inr (c h n b)
theorem X7P {α:Type} {R:Q2->α->List Value->Prop} {e:TypeId} {sz:Nat} (z:P.underlying t=some (.slice e)) (L:P.cellsOf e=sz) (Q:0<sz)
 (r: ∀fuel cs (x:DataW H×List MemPlace),DataW.trod enc P W 0 (fun _=>true) true fuel e cs=some x->Wt P e x.1-> ∃y,R (Ni W) y cs)
 (h:DataW.trod enc P W 0 (fun _=>true) true fuel t cs=some x) (O:Wt P t x.1): ∃v xs,cs=[v]/\Sl sz R (Ni W) v xs:=by
 rcases DataW.trod_slice z h with ⟨rfl,rfl⟩ | ⟨a,o,p,d,A,n,_,rfl,rfl,_,N,s,w,f,_⟩
 .exact ⟨_,[],rfl,Sl.nil⟩
 subst L
 have step: ∀i,i<o-> ∃y,∃c,U0 (Ni W) (a.add (i*P.cellsOf e)) c/\c.length=P.cellsOf e/\R (Ni W) y c:=by
  intro i M;have u:=f i M;have g:i<d.length:=by omega
  rw[List.getElem?_eq_getElem g] at u;obtain ⟨c,C,D⟩:=Option.bind_eq_some_iff.1 u;obtain ⟨E,q⟩:=X8I C Q
  obtain ⟨y,l⟩:=r n c _ D (fun m s=>O m (by
   simp only[DataW.weights,z,List.mem_cons,List.mem_append];exact .inr (.inl (Y0h (List.mem_map.2 ⟨_,List.getElem_mem g,rfl⟩) m s))))
  exact ⟨y,c,q,E,l⟩
 obtain ⟨xs,j,k⟩:=X8J o step;refine ⟨_,xs,rfl,some a,p,by rw[j],by rw[j];exact N,s,by simp,fun b J=>?_⟩
 cases J;refine ⟨fun B=>?_,fun i y l=>k i y l⟩;obtain ⟨y,l⟩: ∃y,xs[0]? =some y:=⟨xs[0],List.getElem?_eq_getElem B⟩;obtain ⟨c,q,_,_⟩:=k 0 y l;have:=q.1
 simpa [Addr.add] using this
theorem X3p: ∀{a:List TypeId} {l:List (DataW H)} {i:Nat} {u:TypeId} {d:DataW H},a[i]? =some u->l[i]? =some d-> ∀n∈d.weights P u,n∈DataW.weightsEach P a l:=
 fun b c n e=>DataW.weights_mem_each b c n e
theorem We {c:Array Field} (g:P.underlying t=some (.struct c)) (h:DataW.trod enc P W 0 (fun _=>true) true fuel t cs=some x) (s:Wt P t x.1) (i:Nat) {o:Nat} {b:TypeId}
 (q:(c[i]?).map (fun f=>(f.type,f.offset))=some (b,o)) (l:P.cellsOf b=1): ∃n y,DataW.trod enc P W 0 (fun _=>true) true n b ((cs.drop o).take 1)=some y/\Wt P b y.1:=by
 obtain ⟨xs,n,_,rfl,v,j,k⟩:=DataW.trod_struct g h;obtain ⟨f,a,p⟩:=Option.map_eq_some_iff.1 q;cases p;have d:=k i f a;have e:i<xs.length:=by rw[j];exact (Array.getElem?_eq_some_iff.1 a).1
 rw[List.getElem?_eq_getElem e,l] at d;refine ⟨n,_,d,fun m r=>s m ?_⟩;simp only[DataW.weights,g];exact X3p (i:=i) (u:=f.type) (by rw[List.getElem?_map,Array.getElem?_toList,a];rfl) (by rw[List.getElem?_map,List.getElem?_eq_getElem e];rfl) m r
theorem X0W {a:Array Field} {k:Nat} (d:P.underlying t=some (.struct a)) (c:P.cellsOf t=k) (h:DataW.trod enc P W 0 (fun _=>true) true fuel t cs=some x):cs.length=k:=by
 obtain ⟨_,_,_,_,b,_,_⟩:=DataW.trod_struct d h;rw[b,c]
theorem X7K {α:Type} {l:List α} (h:l.length=3): ∃a b c,l=[a,b,c]:=by
 match l,h with
 | [a,b,c],_=>exact ⟨a,b,c,rfl⟩
theorem Y0H {α:Type} {l:List α} (h:l.length=4): ∃a b c d,l=[a,b,c,d]:=by
 match l,h with
 | [a,b,c,d],_=>exact ⟨a,b,c,d,rfl⟩
theorem Y0I {α:Type} {l:List α} (h:l.length=8): ∃a b c d e f g i,l=[a,b,c,d,e,f,g,i]:=by
 match l,h with
 | [a,b,c,d,e,f,g,i],_=>exact ⟨a,b,c,d,e,f,g,i,rfl⟩
end Go.Emb
namespace Go.Proofs.Y
open Go.Emb Go.RowKit Go.Kd Go.Hm
theorem Q1F:P.cellsOf T.b=1:=by kernel_rfl
theorem Y03:P.cellsOf T.s=1:=by kernel_rfl
theorem Q5g:P.cellsOf T.e=1:=by kernel_rfl
end Go.Proofs.Y
