/- Parts of a proof about the given program: its functions as texts of their own, what each computes, plain laws of that. The conditions of each stand in its statement. -/
import Derived.Test.YtkllbfjojoncaaaGreatDoorB1
import Derived.Below
import Derived.Maps.AppendAt
import Derived.ChangeArms
import Derived.DataReads
import Derived.SizedLaws
set_option linter.unnecessarySimpa false
set_option linter.defProp false
set_option linter.unusedSectionVars false
set_option linter.unusedVariables false
set_option linter.unusedSimpArgs false
namespace Go.Proofs.Y
open Go.Emb
set_option maxRecDepth 100000
variable {w : World} {K : Value -> World -> Prop} {a0 a1 a2 a3 a4 a5 a6 a7 : Value}
def Q1X:L7:=[none,none,some ([],[2,4,5,9,10,11,12,13,14,15,16,17,18,19,20,21,22,23,24,25,26,27,28,29,30,31,32,33,34,35,36,37,38,39,40,41,42,43,44,45,46,47,48,49,50,51,52,53,54,55,56,57,58,59,60,61,62,63,64,65,66,67,68,69,70,71,72,73,74,75,76,77,78,79,80,81,82,83,84,85,86,87,88,89,90,91,92,93,94,95,96,97,98,99,100,101,102,103,104,105,106])]++Y4 13
def Rq:H0:=fun c w K=>P0 P T.b c (.int .i64 0) w fun t7 w=>conv P T.a9 T.f t7 w fun f w=>jn (α:=Unit) w (fun J2 w=>X4 .lss T.f 10 f 128 w fun a3 w=>X1 a3 (K (.int .i64 1) w) (X4 .geq T.f 13 f 194 w fun h w=>X6 h true f w fun a4 w=>Q1 h true w (X4 .lss T.f 16 a4 224) fun a5 w=>pick P h a5 (.bool false) w fun i w=>X6 i true c w fun a6 w=>Q1 i true w (Q0 P F.s [a6,(.int .i64 1)]) fun a7 w=>pick P i a7 (.bool false) w fun a8 w=>X1 a8 (K (.int .i64 2) w) (X4 .geq T.f 24 f 224 w fun j w=>X6 j true f w fun a9 w=>Q1 j true w (X4 .lss T.f 27 a9 240) fun ba w=>pick P j ba (.bool false) w fun k w=>X6 k true c w fun bb w=>Q1 k true w (Q0 P F.s [bb,(.int .i64 1)]) fun bc w=>pick P k bc (.bool false) w fun l w=>X6 l true c w fun bd w=>Q1 l true w (Q0 P F.s [bd,(.int .i64 2)]) fun be w=>pick P l be (.bool false) w fun bf w=>X1 bf (dr w fun b a=>Y3 b a (X4 .rem T.f 38 f 16) fun ad=>X3 b a ad (fun m=>X4 .mul T.f 39 m 4096) fun ae=>Y3 b a (P0 P T.b c (.int .i64 1)) fun af=>X3 b a af (fun o=>Z9 P .rem T.a9 (.tmp 42) (.const (.int .u8 64)) o (.int .u8 64)) fun ag=>Y3 b a (P0 P T.b c (.int .i64 2)) fun aj=>X3 b a aj (fun s=>Z9 P .rem T.a9 (.tmp 48) (.const (.int .u8 64)) s (.int .u8 64)) fun ak=>X3 b a ag (fun p=>conv P T.a9 T.f p) fun ah=>X3 b a ah (fun q=>X4 .mul T.f 44 q 64) fun ai=>L9 b a ae ai (fun n r=>X5 .add T.f 40 45 n r) fun bw=>X3 b a ak (fun t=>conv P T.a9 T.f t) fun bx=> ∀m n o p s t q r Z aa w,a w->ad m w->ae n w->af o w->ag p w->aj s w->ak t w->ah q w->ai r w->bw Z w->bx aa w->X5 .add T.f 46 50 Z aa w fun u w=>X4 .geq T.f 52 u 2048 w fun e w=>X6 e true u w fun bg w=>Q1 e true w (X4 .lss T.f 55 bg 55296) fun bh w=>X6 e true bh w fun v w=>X6 v false u w fun bi w=>Q1 v false w (X4 .gtr T.f 58 bi 57343) fun bj w=>Q1 e true w (pick P v (.bool true) bj) fun bk w=>pick P e bk (.bool false) w fun bl w=>X1 bl (K (.int .i64 3) w) (J2 () w)) (X4 .geq T.f 63 f 240 w fun y w=>X6 y true f w fun bm w=>Q1 y true w (X4 .lss T.f 66 bm 245) fun bn w=>pick P y bn (.bool false) w fun z w=>X6 z true c w fun bo w=>Q1 z true w (Q0 P F.s [bo,(.int .i64 1)]) fun bp w=>pick P z bp (.bool false) w fun A w=>X6 A true c w fun bq w=>Q1 A true w (Q0 P F.s [bq,(.int .i64 2)]) fun br w=>pick P A br (.bool false) w fun B w=>X6 B true c w fun bs w=>Q1 B true w (Q0 P F.s [bs,(.int .i64 3)]) fun bu w=>pick P B bu (.bool false) w fun bv w=>X1 bv (dr w fun b a=>Y3 b a (X4 .rem T.f 81 f 8) fun al=>X3 b a al (fun C=>X4 .mul T.f 82 C 262144) fun am=>Y3 b a (P0 P T.b c (.int .i64 1)) fun an=>X3 b a an (fun E=>Z9 P .rem T.a9 (.tmp 85) (.const (.int .u8 64)) E (.int .u8 64)) fun ao=>Y3 b a (P0 P T.b c (.int .i64 2)) fun av=>X3 b a av (fun N=>Z9 P .rem T.a9 (.tmp 91) (.const (.int .u8 64)) N (.int .u8 64)) fun aw=>Y3 b a (P0 P T.b c (.int .i64 3)) fun az=>X3 b a az (fun U=>Z9 P .rem T.a9 (.tmp 97) (.const (.int .u8 64)) U (.int .u8 64)) fun a1=>X3 b a ao (fun H=>conv P T.a9 T.f H) fun ap=>X3 b a ap (fun J=>X4 .mul T.f 87 J 4096) fun aq=>L9 b a am aq (fun D L=>X5 .add T.f 83 88 D L) fun ar=>X3 b a aw (fun O=>conv P T.a9 T.f O) fun ax=>X3 b a ax (fun Q=>X4 .mul T.f 93 Q 64) fun ay=>L9 b a ar ay (fun M R=>X5 .add T.f 89 94 M R) fun bz=>X3 b a a1 (fun V=>conv P T.a9 T.f V) fun b0=> ∀C D E H N O U V J L M Q R ab ac w,a w->al C w->am D w->an E w->ao H w->av N w->aw O w->az U w->a1 V w->ap J w->aq L w->ar M w->ax Q w->ay R w->bz ab w->b0 ac w->X5 .add T.f 95 99 ab ac w fun g w=>X4 .geq T.f 101 g 65536 w fun d w=>X6 d true g w fun W w=>Q1 d true w (X4 .leq T.f 104 W 1114111) fun X w=>pick P d X (.bool false) w fun Y w=>X1 Y (K (.int .i64 4) w) (J2 () w)) (J2 () w))))) fun z2 d_ w=>K (.int .i64 0) w
theorem Q2f (h:Rq a0 w K):Q0 P F.bJ [a0] w K:=zr Q1X Tryz.func60 h
def Q0H:L7:=[none,none,some ([0],[0,2,3,4,5,6,7,8,9,10,11,12])]++Y4 7
def Er:H0:=fun e w K=>lp (α:=Value) e w fun a c h w=>V5 .neq T.b 4 c #[] w fun f w=>X1 f (Q0 P F.bJ [c] w fun d w=>X4 .eql T.f 8 d 0 w fun g w=>X1 g (K (.bool false) w) (I3 P T.b c (some d) none none w fun b w=>a b w)) (K (.bool true) w)
theorem Q1b (h:Er a0 w K):Q0 P F.aM [a0] w K:=zr Q0H Tryz.func24 h
def Cw:zV0:=fun w K=>buildSlice P T.h 42 [(0,(.string ⟨#[105,110,116]⟩)),(1,(.string ⟨#[116,114,117,101]⟩)),(2,(.string ⟨#[102,97,108,115,101]⟩)),(3,(.string ⟨#[119,111,114,100]⟩)),(4,(.string ⟨#[110,117,108,108]⟩)),(5,(.string ⟨#[108,111,97,100]⟩)),(6,(.string ⟨#[115,116,111,114,101]⟩)),(7,(.string ⟨#[112,111,112]⟩)),(8,(.string ⟨#[100,117,112]⟩)),(9,(.string ⟨#[115,119,97,112]⟩)),(10,(.string ⟨#[97,100,100]⟩)),(11,(.string ⟨#[115,117,98]⟩)),(12,(.string ⟨#[109,117,108]⟩)),(13,(.string ⟨#[100,105,118]⟩)),(14,(.string ⟨#[114,101,109]⟩)),(15,(.string ⟨#[110,101,103]⟩)),(16,(.string ⟨#[108,101,115,115]⟩)),(17,(.string ⟨#[115,97,109,101]⟩)),(18,(.string ⟨#[110,111,116]⟩)),(19,(.string ⟨#[98,111,116,104]⟩)),(20,(.string ⟨#[106,111,105,110]⟩)),(21,(.string ⟨#[115,105,122,101]⟩)),(22,(.string ⟨#[106,117,109,112]⟩)),(23,(.string ⟨#[98,114,97,110,99,104]⟩)),(24,(.string ⟨#[110,101,119]⟩)),(25,(.string ⟨#[103,101,116]⟩)),(26,(.string ⟨#[112,117,116]⟩)),(27,(.string ⟨#[99,97,108,108]⟩)),(28,(.string ⟨#[97,114,114,97,121]⟩)),(29,(.string ⟨#[97,116]⟩)),(30,(.string ⟨#[115,101,116]⟩)),(31,(.string ⟨#[105,115]⟩)),(32,(.string ⟨#[99,97,115,116]⟩)),(33,(.string ⟨#[114,101,116,117,114,110]⟩)),(34,(.string ⟨#[116,104,114,111,119]⟩)),(35,(.string ⟨#[111,117,116]⟩)),(36,(.string ⟨#[101,113,117,97,108]⟩)),(37,(.string ⟨#[97,110,100]⟩)),(38,(.string ⟨#[111,114]⟩)),(39,(.string ⟨#[120,111,114]⟩)),(40,(.string ⟨#[115,104,108]⟩)),(41,(.string ⟨#[115,104,114]⟩))] w fun a w=>K a w
theorem Q3t (h:Cw w K):Q0 P F.bX [] w K:=zr (Y4 2) Tryz.func240 h
def An:L7:=[none,none,none,none,some ([4],[2,4,6,7,8,9,10,11,12,13,14,15,16,17,18])]++Y4 6
def Di:H0:=fun f w K=>Q0 P F.bX [] w fun e w=>lp (α:=Value) (.int .i64 0) w fun a b i w=>Y0 T.h e w fun g w=>X5 .lss T.f 6 8 b g w fun h w=>X1 h (V1 T.h T.b e b w fun c w=>X5 .eql T.b 15 16 c f w fun d w=>X1 d (K b w) (V3 10 b w a)) (K (.int .i64 (-1)) w)
theorem Q00 (h:Di a0 w K):Q0 P F.bj [a0] w K:=zr An Tryz.func236 h
def Q0L:L7:=[none,none,none,some ([4],[4,5,6,7,8,9])]++Y4 5++[some ([10],[10,11,12,13,14,15,16,17,18])]++Y4 12
def Ey:H0:=fun a w K=>jn (α:=Value) w (fun c w=>V5 .eql T.b 3 a #[105,110,116] w fun n w=>X1 n (c n w) (V5 .eql T.b 3 a #[108,111,97,100] w fun o w=>X1 o (c o w) (V5 .eql T.b 3 a #[115,116,111,114,101] w fun p w=>X1 p (c p w) (V5 .eql T.b 3 a #[106,117,109,112] w fun q w=>X1 q (c q w) (V5 .eql T.b 3 a #[98,114,97,110,99,104] w fun s w=>c s w))))) fun t r w=>X1 t (K (.int .i64 1) w) (jn (α:=Value) w (fun b w=>V5 .eql T.b 3 a #[119,111,114,100] w fun d w=>X1 d (b d w) (V5 .eql T.b 3 a #[110,101,119] w fun e w=>X1 e (b e w) (V5 .eql T.b 3 a #[103,101,116] w fun f w=>X1 f (b f w) (V5 .eql T.b 3 a #[112,117,116] w fun g w=>X1 g (b g w) (V5 .eql T.b 3 a #[99,97,108,108] w fun h w=>X1 h (b h w) (V5 .eql T.b 3 a #[97,114,114,97,121] w fun i w=>X1 i (b i w) (V5 .eql T.b 3 a #[105,115] w fun j w=>X1 j (b j w) (V5 .eql T.b 3 a #[99,97,115,116] w fun k w=>b k w)))))))) fun u r w=>X1 u (K (.int .i64 2) w) (Q0 P F.bj [a] w fun l w=>X4 .lss T.f 20 l 0 w fun m w=>X1 m (K (.int .i64 (-1)) w) (K (.int .i64 0) w)))
theorem Q1i (h:Ey a0 w K):Q0 P F.bw [a0] w K:=zr Q0L Tryz.func225 h
def Q0I:L7:=[none,none,none,some ([5],[2,3,4,5,6,7,8,9,10,11,12,13,14,15,16,17,18,19,20,21,22,23,24,25,26,27,28,29,30,31,32,33])]++Y4 6
def Eu:H0:=fun n w K=>lp (α:=Value) (.int .i64 0) w fun e m M w=>Y0 T.b n w fun H w=>X5 .lss T.f 6 8 m H w fun L w=>X1 L (P0 P T.b n m w fun A w=>Z9 P .eql T.a9 (.tmp 14) (.const (.int .u8 46)) A (.int .u8 46) w fun B w=>X1 B (dr w fun d c=>Y3 d c (I3 P T.b n none (some m) none) fun C=>Y3 d c (X4 .add T.f 20 m 1) fun r=>X3 d c r (fun f=>I3 P T.b n (some f) none none) fun D=>Y3 d c (I3 P T.b n none (some m) none) fun s=>X3 d c s (fun g=>Q0 P F.e [g]) fun b=>X3 d c b (fun a=>V8 a (fun w J=>J n w)) fun t=>X3 d c b (fun a=>V8 a (fun w J=>J m w)) fun u=>L9 d c b u (fun a i=>V8 a (X4 .add T.f 29 i 1)) fun v=>Xq d c b t v (fun a h j=>V8 a (I3 P T.b h (some j) none none)) fun y=>L9 d c b y (fun a k=>V8 a (Q0 P F.v [k])) fun z=>L9 d c b z (fun a l=>pick P a l (.bool false)) fun E=> ∀o f p g a h i j k l q w,c w->C o w->r f w->D p w->s g w->b a w->t h w->u i w->v j w->y k w->z l w->E q w->K (.tuple #[o,p,q]) w) (V3 10 m w e)) (K (.tuple #[(.string ⟨#[]⟩),(.string ⟨#[]⟩),(.bool false)]) w)
theorem Q1e (h:Eu a0 w K):Q0 P F.bu [a0] w K:=zr Q0I Tryz.func226 h
def Q0K:L7:=Y4 6++[some ([4],[4,5,6,7,8,30,31,32,33,34,35,36,37,38,39,40,41,42,43,44,45,46,47,48,49,50,51,52,53,54,55,56,57,58,59,60,61,62,63,64,65,66,67,68,69,70,71,72,73,74,75,76,77,78,79,80,81,82,83,84,85,86,87,88,89,90,91,92,93,94,95,96,97,98,99,100,101,102,103,104,105,106,107,108,109,110])]++Y4 5++[some ([4,5],[4,5,59,60,61,62,63,64,65,66,67,68,69,70,71,72,73]),none,none,none,none,some ([82],[82,83,84])]++Y4 7
def Ex:H0:=fun a0 w K=>box P T.y a0 w fun c w=>Y1 T.y T.b c 0 w fun z w=>Q0 P F.bw [z] w fun h w=>X4 .lss T.f 12 h 0 w fun A w=>X1 A (K (.int .i64 40) w) (X4 .eql T.f 14 h 1 w fun j w=>Z8 j false w T.y T.a4 c 1 fun B w=>Q1 j false w (X4 .eql T.a4 18 B 0) fun C w=>pick P j (.bool true) C w fun f w=>X6 f true h w fun D w=>Q1 f true w (X4 .eql T.f 22 D 2) fun E w=>X6 f true E w fun k w=>Z8 k false w T.y T.b c 2 fun H w=>Q1 k false w (V5 .eql T.b 26 H #[]) fun J w=>Q1 f true w (pick P k (.bool true) J) fun L w=>pick P f L (.bool false) w fun a w=>jn (α:=Value) w (fun m w=>X4 .eql T.f 30 h 2 w fun M w=>X1 M (Y1 T.y T.b c 0 w fun g w=>V5 .eql T.b 33 g #[119,111,114,100] w fun U w=>X1 U (Z8 a true w T.y T.b c 2 fun V w=>Q1 a true w (Y0 T.b V) fun W w=>Q1 a true w (X4 .leq T.f 51 W 64) fun X w=>pick P a X (.bool false) w fun l w=>Z8 l true w T.y T.b c 2 fun Y w=>Q1 l true w (Q0 P F.aM [Y]) fun Z w=>pick P l Z (.bool false) w fun aa w=>lp (α:=Value×Value) (aa,(.int .i64 0)) w fun e b d_ w=>Y1 T.y T.b c 2 w fun ab w=>Y0 T.b ab w fun ac w=>X5 .lss T.f 59 62 b.2 ac w fun ad w=>X1 ad (Z8 b.1 true w T.y T.b c 2 fun af w=>X6 b.1 true b.2 w fun ag w=>Q1 b.1 true w (P0 P T.b af ag) fun ah w=>Q1 b.1 true w (Z9 P .neq T.a9 (.tmp 71) (.const (.int .u8 10)) ah (.int .u8 10)) fun ai w=>pick P b.1 ai (.bool false) w fun aj w=>X4 .add T.f 64 b.2 1 w fun ae w=>e (aj,ae) w) (m b.1 w)) (V5 .eql T.b 33 g #[110,101,119] w fun ak w=>X1 ak (Z8 a true w T.y T.b c 2 fun al w=>Q1 a true w (Q0 P F.e [al]) fun am w=>pick P a am (.bool false) w fun an w=>m an w) (jn (α:=Value) w (fun n w=>V5 .eql T.b 33 g #[105,115] w fun y w=>X1 y (n y w) (V5 .eql T.b 33 g #[99,97,115,116] w fun ao w=>n ao w)) fun az d_ w=>X1 az (Z8 a true w T.y T.b c 2 fun ap w=>Q1 a true w (Q0 P F.f [ap]) fun aq w=>pick P a aq (.bool false) w fun i w=>Z8 i true w T.y T.b c 2 fun ar w=>Q1 i true w (Q0 P F.z [ar]) fun av w=>Q1 i true w (W0 P .not av) fun aw w=>pick P i aw (.bool false) w fun ax w=>m ax w) (V5 .eql T.b 33 g #[97,114,114,97,121] w fun ay w=>X1 ay (Z8 a true w T.y T.b c 2 fun o w=>Q1 a true w (Q0 P F.f [o]) fun p w=>pick P a p (.bool false) w fun d w=>Z8 d true w T.y T.b c 2 fun q w=>Q1 d true w (Q0 P F.a3 [q]) fun r w=>Q1 d true w (X4 .lss T.f 108 r 3) fun s w=>pick P d s (.bool false) w fun t w=>m t w) (Y1 T.y T.b c 2 w fun N w=>Q0 P F.bu [N] w fun v w=>D9 v w fun a3 a4 w=>ext P v 2 w fun O w=>X6 a true O w fun Q w=>pick P a Q (.bool false) w fun R w=>m R w))))) (m a w)) fun z6 d_ w=>W0 P .not z6 w fun u w=>X1 u (K (.int .i64 41) w) (K (.int .i64 0) w))
theorem Q1h (h:Ex a0 w K):Q0 P F.bv [a0] w K:=zr Q0K Tryz.func214 h
def Q3c:L7:=[none,none,none,some ([3],[2,3,4,5,6,7,8,9,10,11,12,13,14,15,16,17,18])]++Y4 7
def Cv:H0:=fun f w K=>lp (α:=Value) (.int .i64 0) w fun a e i w=>Y0 T.s f w fun g w=>X5 .lss T.f 5 7 e g w fun h w=>X1 h (V1 T.s T.y f e w fun c w=>Q0 P F.bv [c] w fun b w=>X4 .neq T.v 16 b 0 w fun d w=>X1 d (K b w) (V3 9 e w a)) (K (.int .i64 0) w)
theorem Q3s (h:Cv a0 w K):Q0 P F.b2 [a0] w K:=zr Q3c Tryz.func198 h
def Ao:L7:=[none,none,none,none,some ([3,4],[3,4,21,22,23,24,25,26,27,28,29,30,31,32,33,34,35,36])]++Y4 9++[some ([3,6],[3,6,7,60,61,62,63,64,65,66,67,68,69,70,71,72,73,74,75,76,77,78,79,80,81,82,83,84,85,86,87,88,89,90,91,92,93,94,95,96,97,98,99,100,101,102,103,104,105,106])]++Y4 5
def Dj:H0:=fun a0 w K=>box P T.e a0 w fun c w=>Y1 T.e T.b c 0 w fun t9 w=>Q0 P F.v [t9] w fun g w=>Z8 g true w T.e T.b c 2 fun M w=>Q1 g true w (V5 .eql T.b 13 M #[]) fun N w=>X6 g true N w fun o w=>Z8 o false w T.e T.b c 2 fun O w=>Q1 o false w (Q0 P F.f [O]) fun Q w=>Q1 g true w (pick P o (.bool true) Q) fun R w=>pick P g R (.bool false) w fun U w=>lp (α:=Value×Value) (U,(.int .i64 0)) w fun i e d_ w=>Y1 T.e T.h c 1 w fun V w=>Y0 T.h V w fun W w=>X5 .lss T.f 21 24 e.2 W w fun X w=>X1 X (Z8 e.1 true w T.e T.h c 1 fun Z w=>X6 e.1 true e.2 w fun aa w=>zhi e.1 true w T.h T.b Z aa fun ab w=>Q1 e.1 true w (Q0 P F.f [ab]) fun ac w=>pick P e.1 ac (.bool false) w fun ad w=>X4 .add T.f 26 e.2 1 w fun Y w=>i (ad,Y) w) (Y1 T.e T.r c 3 w fun ae w=>X1 ae (Z8 e.1 true w T.e T.f c 4 fun af w=>Q1 e.1 true w (X4 .eql T.f 42 af 0) fun ag w=>pick P e.1 ag (.bool false) w fun j w=>Z8 j true w T.e T.s c 5 fun ah w=>Q1 j true w (Y0 T.s ah) fun ai w=>Q1 j true w (X4 .eql T.f 48 ai 0) fun aj w=>pick P j aj (.bool false) w fun k w=>Z8 k true w T.e T.u c 6 fun ak w=>Q1 k true w (Y0 T.u ak) fun al w=>Q1 k true w (X4 .eql T.f 54 al 0) fun am w=>pick P k am (.bool false) w fun an w=>K an w) (Y1 T.e T.s c 5 w fun ao w=>Y0 T.s ao w fun p w=>lp (α:=Value×Value) (e.1,(.int .i64 0)) w fun f a d_ w=>Y1 T.e T.u c 6 w fun ap w=>Y0 T.u ap w fun aq w=>X5 .lss T.f 60 63 a.2 aq w fun ar w=>X1 ar (Y1 T.e T.u c 6 w fun aw w=>V1 T.u T.w aw a.2 w fun ax w=>N0 T.w ax w fun q w=>Z8 a.1 true w T.w T.f q 0 fun ay w=>Q1 a.1 true w (X4 .geq T.f 75 ay 0) fun az w=>pick P a.1 az (.bool false) w fun l w=>Z8 l true w T.w T.f q 0 fun a1 w=>Z8 l true w T.w T.f q 1 fun a2 w=>Q1 l true w (X5 .lss T.f 80 82 a1 a2) fun a3 w=>pick P l a3 (.bool false) w fun m w=>Z8 m true w T.w T.f q 1 fun a4 w=>X6 m true p w fun a5 w=>Q1 m true w (X5 .leq T.f 87 88 a4 a5) fun a6 w=>pick P m a6 (.bool false) w fun r w=>Z8 r true w T.w T.f q 2 fun a7 w=>Q1 r true w (X4 .geq T.f 93 a7 0) fun a8 w=>pick P r a8 (.bool false) w fun n w=>Z8 n true w T.w T.f q 2 fun a9 w=>X6 n true p w fun ba w=>Q1 n true w (X5 .lss T.f 98 99 a9 ba) fun s w=>pick P n s (.bool false) w fun h w=>Z8 h true w T.w T.b q 3 fun t w=>Q1 h true w (Q0 P F.e [t]) fun u w=>pick P h u (.bool false) w fun v w=>X4 .add T.f 65 a.2 1 w fun av w=>f (v,av) w) (X6 a.1 true p w fun y w=>Q1 a.1 true w (X4 .gtr T.f 109 y 0) fun z w=>pick P a.1 z (.bool false) w fun b w=>Z8 b true w T.e T.f c 4 fun A w=>Z8 b true w T.e T.h c 1 fun B w=>Q1 b true w (Y0 T.h B) fun C w=>Q1 b true w (X5 .gtr T.f 114 117 A C) fun D w=>pick P b D (.bool false) w fun d w=>Z8 d true w T.e T.s c 5 fun E w=>Q1 d true w (Q0 P F.b2 [E]) fun H w=>Q1 d true w (X4 .eql T.v 123 H 0) fun J w=>pick P d J (.bool false) w fun L w=>K L w)))
theorem Q01 (h:Dj a0 w K):Q0 P F.a9 [a0] w K:=zr Ao Tryz.func167 h
def Q0M:L7:=[none,none,none,none,some ([3,4],[3,4,5,26,27,28,29,30,31,32,33,34,35,36,37,38,39,40,41,42,43,44,45,46,47,48,49,50,51,52,53,54,55,56,57,58,59,60,61,62,63,64,65,66,67,68,69,70])]++Y4 5++[some ([3,5],[3,5,52,53,54,55,56,57,58,59,60,61,62,63,64,65,66,67,68,69,70])]++Y4 5++[some ([3,6],[3,6,7,71,72,73,74,75,76,77,78,79,80,81,82,83,84,85,86,87,88,89,90,91,92,93,94,95,96,97,98,99,100,101,102,103,104,105,106,107,108,109,110,111,112,113,114,115,116,117,118,119,120,121,122])]++Y4 5++[some ([3,7],[3,7,102,103,104,105,106,107,108,109,110,111,112,113,114,115,116,117,118,119,120,121,122])]++Y4 5++[some ([3,8],[3,8,9,10,123,124,125,126,127,128,129,130,131,132,133,134,135,136,137,138,139,140,141,142,143,144,145,146,147,148,149,150,151,152,153,154,155,156,157,158,159,160,161,162,163,164,165,166,167,168,169,170,171,172,173,174])]++Y4 6++[some ([3,10],[3,10,158,159,160,161,162,163,164,165,166,167,168,169,170,171,172,173,174]),none,none,none,none]
def Ha:H0:=fun a0 w K=>box P T.c a0 w fun h w=>Y1 T.c T.b h 0 w fun di w=>Q0 P F.e [di] w fun ay w=>Z8 ay true w T.c T.b h 1 fun dj w=>Q1 ay true w (Q0 P F.e [dj]) fun dl w=>pick P ay dl (.bool false) w fun X w=>Z8 X true w T.c T.b h 0 fun dm w=>Z8 X true w T.c T.b h 1 fun dn w=>Q1 X true w (X5 .neq T.b 21 23 dm dn) fun dp w=>pick P X dp (.bool false) w fun dq w=>lp (α:=Value×Value) (dq,(.int .i64 0)) w fun W o d_ w=>Y1 T.c T.h h 2 w fun ds w=>Y0 T.h ds w fun dt w=>X5 .lss T.f 26 29 o.2 dt w fun du w=>X1 du (dr w fun b a=>Y3 b a (V8 o.1 (fieldAddr P T.c h 2)) fun cy=>Y3 b a (V8 o.1 (fun w J=>J o.2 w)) fun c0=>X3 b a cy (fun az=>V8 o.1 (Q6 P T.h az)) fun cz=>L9 b a cz c0 (fun a1 a2=>V8 o.1 (indexAddr P T.h a1 a2)) fun c1=>X3 b a c1 (fun a3=>V8 o.1 (Q6 P T.b a3)) fun c2=>X3 b a c2 (fun a4=>V8 o.1 (Q0 P F.e [a4])) fun c3=>X3 b a c3 (fun a5=>pick P o.1 a5 (.bool false)) fun m=>X3 b a m (fun d=>V8 d (fieldAddr P T.c h 2)) fun c4=>X3 b a m (fun d=>V8 d (fun w J=>J o.2 w)) fun c6=>X3 b a m (fun d=>V8 d (fieldAddr P T.c h 0)) fun c8=>L9 b a m c4 (fun d a6=>V8 d (Q6 P T.h a6)) fun c5=>Xq b a m c5 c6 (fun d a7 a8=>V8 d (indexAddr P T.h a7 a8)) fun c7=>L9 b a m c7 (fun d a9=>V8 d (Q6 P T.b a9)) fun eh=>L9 b a m c8 (fun d ba=>V8 d (Q6 P T.b ba)) fun ei=> ∀az a2 a1 a3 a4 a5 d a6 a8 ba a7 a9 cq cr w,a w->cy az w->c0 a2 w->cz a1 w->c1 a3 w->c2 a4 w->c3 a5 w->m d w->c4 a6 w->c6 a8 w->c8 ba w->c5 a7 w->c7 a9 w->eh cq w->ei cr w->Q1 d true w (X5 .neq T.b 47 49 cq cr) fun dw w=>pick P d dw (.bool false) w fun dx w=>lp (α:=Value×Value) (dx,(.int .i64 0)) w fun q e d_ w=>X5 .lss T.f 52 53 e.2 o.2 w fun dy w=>X1 dy (dr w fun b a=>Y3 b a (V8 e.1 (fieldAddr P T.c h 2)) fun c9=>Y3 b a (V8 e.1 (fun w J=>J e.2 w)) fun db=>Y3 b a (V8 e.1 (fieldAddr P T.c h 2)) fun dd=>Y3 b a (V8 e.1 (fun w J=>J o.2 w)) fun df=>X3 b a c9 (fun bb=>V8 e.1 (Q6 P T.h bb)) fun da=>L9 b a da db (fun bc bd=>V8 e.1 (indexAddr P T.h bc bd)) fun dc=>X3 b a dc (fun be=>V8 e.1 (Q6 P T.b be)) fun ej=>X3 b a dd (fun bf=>V8 e.1 (Q6 P T.h bf)) fun de=>L9 b a de df (fun bg bh=>V8 e.1 (indexAddr P T.h bg bh)) fun dg=>X3 b a dg (fun bi=>V8 e.1 (Q6 P T.b bi)) fun ek=> ∀bb bd bf bh bc be cs bg bi ct w,a w->c9 bb w->db bd w->dd bf w->df bh w->da bc w->dc be w->ej cs w->de bg w->dg bi w->ek ct w->Q1 e.1 true w (X5 .neq T.b 63 68 cs ct) fun d0 w=>pick P e.1 d0 (.bool false) w fun d1 w=>X4 .add T.f 55 e.2 1 w fun dz w=>q (d1,dz) w) (X4 .add T.f 31 o.2 1 w fun dv w=>W (e.1,dv) w)) (lp (α:=Value×Value) (o.1,(.int .i64 0)) w fun r g d_ w=>Y1 T.c T.k h 6 w fun d2 w=>Y0 T.k d2 w fun d3 w=>X5 .lss T.f 71 74 g.2 d3 w fun d4 w=>X1 d4 (Z8 g.1 true w T.c T.k h 6 fun d6 w=>X6 g.1 true g.2 w fun d7 w=>Q1 g.1 true w (indexAddr P T.k d6 d7) fun d8 w=>Z8 g.1 true w T.o T.b d8 0 fun d9 w=>Q1 g.1 true w (Q0 P F.v [d9]) fun ea w=>pick P g.1 ea (.bool false) w fun p w=>Z8 p true w T.c T.k h 6 fun eb w=>X6 p true g.2 w fun ec w=>Q1 p true w (indexAddr P T.k eb ec) fun ed w=>Z8 p true w T.o T.b ed 1 fun ee w=>Q1 p true w (Q0 P F.f [ee]) fun ef w=>pick P p ef (.bool false) w fun bj w=>Z8 bj true w T.c T.r h 3 fun eg w=>Q1 bj true w (W0 P .not eg) fun bl w=>pick P bj bl (.bool false) w fun bm w=>lp (α:=Value×Value) (bm,(.int .i64 0)) w fun s c d_ w=>X5 .lss T.f 102 103 c.2 g.2 w fun bn w=>X1 bn (dr w fun b a=>Y3 b a (V8 c.1 (fieldAddr P T.c h 6)) fun af=>Y3 b a (V8 c.1 (fun w J=>J c.2 w)) fun ah=>Y3 b a (V8 c.1 (fieldAddr P T.c h 6)) fun ak=>Y3 b a (V8 c.1 (fun w J=>J g.2 w)) fun am=>X3 b a af (fun v=>V8 c.1 (Q6 P T.k v)) fun ag=>L9 b a ag ah (fun y z=>V8 c.1 (indexAddr P T.k y z)) fun ai=>X3 b a ai (fun A=>V8 c.1 (fieldAddr P T.o A 0)) fun aj=>X3 b a aj (fun B=>V8 c.1 (Q6 P T.b B)) fun cu=>X3 b a ak (fun C=>V8 c.1 (Q6 P T.k C)) fun al=>L9 b a al am (fun D E=>V8 c.1 (indexAddr P T.k D E)) fun an=>X3 b a an (fun H=>V8 c.1 (fieldAddr P T.o H 0)) fun ao=>X3 b a ao (fun L=>V8 c.1 (Q6 P T.b L)) fun cv=> ∀v z C E y A B Y D H L Z w,a w->af v w->ah z w->ak C w->am E w->ag y w->ai A w->aj B w->cu Y w->al D w->an H w->ao L w->cv Z w->Q1 c.1 true w (X5 .neq T.b 114 120 Y Z) fun bp w=>pick P c.1 bp (.bool false) w fun bq w=>X4 .add T.f 105 c.2 1 w fun bo w=>s (bq,bo) w) (X4 .add T.f 76 g.2 1 w fun d5 w=>r (c.1,d5) w)) (lp (α:=Value×Value) (g.1,(.int .i64 0)) w fun t i d_ w=>Y1 T.c T.j h 7 w fun br w=>Y0 T.j br w fun bs w=>X5 .lss T.f 123 126 i.2 bs w fun bu w=>X1 bu (Y1 T.c T.j h 7 w fun bw w=>V1 T.j T.e bw i.2 w fun bx w=>N0 T.e bx w fun t9 w=>Q1 i.1 true w (Q6 P T.e t9) fun bz w=>Q1 i.1 true w (Q0 P F.a9 [bz]) fun b0 w=>pick P i.1 b0 (.bool false) w fun j w=>Z8 j true w T.e T.r t9 3 fun b1 w=>Q1 j true w (W0 P .not b1) fun b2 w=>X6 j true b2 w fun aa w=>Z8 aa false w T.c T.r h 4 fun b3 w=>Q1 j true w (pick P aa (.bool true) b3) fun b4 w=>pick P j b4 (.bool false) w fun k w=>Z8 k true w T.c T.r h 3 fun b5 w=>Q1 k true w (W0 P .not b5) fun b6 w=>X6 k true b6 w fun ab w=>Z8 ab false w T.e T.r t9 3 fun b7 w=>Q1 k true w (pick P ab (.bool true) b7) fun b8 w=>pick P k b8 (.bool false) w fun b9 w=>lp (α:=Value×Value) (b9,(.int .i64 0)) w fun u f d_ w=>X5 .lss T.f 158 159 f.2 i.2 w fun ca w=>X1 ca (dr w fun b a=>Y3 b a (V8 f.1 (fieldAddr P T.c h 7)) fun ap=>Y3 b a (V8 f.1 (fun w J=>J f.2 w)) fun ar=>Y3 b a (V8 f.1 (fieldAddr P T.e t9 0)) fun ax=>X3 b a ap (fun M=>V8 f.1 (Q6 P T.j M)) fun aq=>L9 b a aq ar (fun N O=>V8 f.1 (indexAddr P T.j N O)) fun av=>X3 b a av (fun Q=>V8 f.1 (fieldAddr P T.e Q 0)) fun aw=>X3 b a aw (fun R=>V8 f.1 (Q6 P T.b R)) fun cw=>X3 b a ax (fun U=>V8 f.1 (Q6 P T.b U)) fun cx=> ∀M O U N Q R ac ad w,a w->ap M w->ar O w->ax U w->aq N w->av Q w->aw R w->cw ac w->cx ad w->Q1 f.1 true w (X5 .neq T.b 170 172 ac ad) fun cc w=>pick P f.1 cc (.bool false) w fun cd w=>X4 .add T.f 161 f.2 1 w fun cb w=>u (cd,cb) w) (X4 .add T.f 128 i.2 1 w fun bv w=>t (f.1,bv) w)) (Z8 i.1 true w T.c T.r h 3 fun ce w=>Q1 i.1 true w (W0 P .not ce) fun cf w=>X6 i.1 true cf w fun n w=>Z8 n false w T.c T.r h 4 fun cg w=>X6 n false cg w fun V w=>Z8 V true w T.c T.b h 1 fun ch w=>Q1 V true w (V5 .eql T.b 185 ch #[79,98,106,101,99,116]) fun ci w=>Q1 n false w (pick P V ci (.bool false)) fun cj w=>Q1 i.1 true w (pick P n (.bool true) cj) fun ck w=>pick P i.1 ck (.bool false) w fun l w=>Z8 l true w T.c T.r h 4 fun cl w=>X6 l true cl w fun ae w=>Z8 ae true w T.c T.r h 5 fun cm w=>Q1 l true w (pick P ae cm (.bool false)) fun cn w=>Q1 l true w (W0 P .not cn) fun co w=>pick P l co (.bool false) w fun cp w=>K cp w)))
theorem Q1k (h:Ha a0 w K):Q0 P F.bz [a0] w K:=zr Q0M Tryz.func123 h
def Ez:H0:=fun b w K=>box P T.c b w fun a w=>Q6 P T.c a w fun c w=>Q0 P F.bK [c] w fun d w=>X1 d (K (.int .i64 51) w) (Q6 P T.c a w fun e w=>Q0 P F.bz [e] w fun f w=>W0 P .not f w fun g w=>X1 g (K (.int .i64 50) w) (K (.int .i64 0) w))
theorem Q1j (h:Ez a0 w K):Q0 P F.bx [a0] w K:=zr (Y4 8) Tryz.func77 h
def Q22:L7:=[none,none,none,some ([5],[4,5,6,7,8,9,10,11,12,13,14,15,16,17,18,19])]++Y4 6
def Rw:L3:=fun f g w K=>lp (α:=Value) (.int .i64 0) w fun a b j w=>Y0 T.i f w fun h w=>X5 .lss T.f 6 8 b h w fun i w=>X1 i (indexAddr P T.i f b w fun c w=>Y1 T.c T.b c 0 w fun d w=>X5 .eql T.b 16 17 d g w fun e w=>X1 e (K b w) (V3 10 b w a)) (K (.int .i64 (-1)) w)
theorem Q2l (h:Rw a0 a1 w K):Q0 P F.b [a0,a1] w K:=zr Q22 Tryz.func78 h
def Ar:L7:=Y4 7++[some ([6],[4,6,7,28,29,30,31,32,33,34,35,36,37,38,39,40,41,42,43,44,45,46,47,48,49,50,51])]++Y4 7
def Dl:L3:=fun g J w K=>box P T.c J w fun a w=>Y1 T.c T.b a 1 w fun i w=>Q0 P F.b [g,i] w fun f w=>X4 .lss T.f 12 f 0 w fun c w=>X6 c false g w fun j w=>X6 c false f w fun k w=>Q1 c false w (indexAddr P T.i j k) fun l w=>Z8 c false w T.c T.r l 3 fun m w=>pick P c (.bool true) m w fun d w=>X6 d false g w fun n w=>X6 d false f w fun o w=>Q1 d false w (indexAddr P T.i n o) fun p w=>Z8 d false w T.c T.r p 5 fun q w=>pick P d (.bool true) q w fun r w=>X1 r (K (.int .i64 61) w) (lp (α:=Value) (.int .i64 0) w fun e H L w=>Y1 T.c T.h a 2 w fun s w=>Y0 T.h s w fun t w=>X5 .lss T.f 28 31 H t w fun u w=>X1 u (Y1 T.c T.h a 2 w fun v w=>V1 T.h T.b v H w fun y w=>Q0 P F.b [g,y] w fun h w=>X4 .lss T.f 42 h 0 w fun b w=>X6 b false g w fun z w=>X6 b false h w fun A w=>Q1 b false w (indexAddr P T.i z A) fun B w=>Z8 b false w T.c T.r B 3 fun C w=>Q1 b false w (W0 P .not C) fun D w=>pick P b (.bool true) D w fun E w=>X1 E (K (.int .i64 62) w) (V3 33 H w e)) (K (.int .i64 0) w))
theorem Q03 (h:Dl a0 a1 w K):Q0 P F.bl [a0,a1] w K:=zr Ar Tryz.func79 h
def Q0N:L7:=[none,none,none,none,some ([3,4],[3,4,5,6,7,8,13,14,15,16,17,18,19,20,21,22,23,24,25,26,27,28,29,30,31,32,33,34,35,36,37,38,39,40,41,42,43,44,45,46,47,48,49,50,51,52,53,54])]++Y4 7++[some ([7],[7,8,34,35,36,37,38,39,40,41,42,43,44,45,46,47,48,49,50]),none,none,some ([],[8,40,41,42,43,44,45,46,47,48,49,50]),none,none,none,none,some ([9],[9,10,11,55,56,57,58,59,60,61,62,63,64,65,66,67,68,69,70,71,72,73,74,75,76,77,78,79,80,81,82,83,84,85,86,87,88,89,90,91,92,93,94,95,96,97,98,99,100,101,102,103]),none,none,none,none,some ([10],[10,11,61,62,63,64,65,66,67,68,69,70,71,72,73,74,75,76,77,78,79,80,81,82,83,84,85,86,87,88,89,90,91,92,93,94,95,96,97,98,99,100,101,102,103]),none,none,none,none,some ([11],[11,67,68,69,70,71,72,73,74,75,76,77,78,79,80,81,82,83,84,85,86,87,88,89,90,91,92,93,94,95,96,97,98,99,100,101,102,103]),none,none,none,none]
def Hb:H0:=fun r w K=>buildSlice P T.ad 0 [] w fun bd w=>lp (α:=Value×Value) (bd,(.int .i64 0)) w fun p o d_ w=>Y0 T.i r w fun be w=>X5 .lss T.f 13 15 o.2 be w fun bf w=>X1 bf (Y0 T.i r w fun af w=>St P T.ab af af w fun ag w=>dr w fun d c=>Y3 d c (indexAddr P T.i r o.2) fun an=>X3 d c an (fun v=>fieldAddr P T.c v 1) fun ao=>Y3 d c (indexAddr P T.i r o.2) fun aq=>X3 d c aq (fun A=>fieldAddr P T.c A 2) fun ar=>X3 d c ao (fun y=>Q6 P T.b y) fun ap=>X3 d c ap (fun z=>buildSlice P T.h 1 [(0,z)]) fun bv=>X3 d c ar (fun B=>Q6 P T.h B) fun bw=> ∀v y A B z ah ai w,c w->an v w->ao y w->aq A w->ar B w->ap z w->bv ah w->bw ai w->V0 P .append [T.h,T.h] T.h [false,false] [ah,ai] w fun aj w=>lp (α:=Value) (.int .i64 0) w fun g ab d_ w=>Y0 T.h aj w fun bh w=>X5 .lss T.f 34 36 ab bh w fun bi w=>X1 bi (jn (α:=Unit) w (fun ac w=>V1 T.h T.b aj ab w fun bj w=>Q0 P F.b [r,bj] w fun ak w=>X4 .geq T.f 46 ak 0 w fun bk w=>X1 bk (indexAddr P T.ab ag ak w fun bl w=>J9 P T.r bl (.bool true) w fun _u w=>ac () w) (ac () w)) fun bz d_ w=>V3 38 ab w g) (buildSlice P T.ad 1 [(0,ag)] w fun bm w=>V0 P .append [T.ad,T.ad] T.ad [false,false] [o.1,bm] w fun bn w=>X4 .add T.f 17 o.2 1 w fun bg w=>p (bn,bg) w)) (lp (α:=Value) (.int .i64 0) w fun h q d_ w=>Y0 T.i r w fun bo w=>X5 .lss T.f 55 57 q bo w fun bp w=>X1 bp (lp (α:=Value) (.int .i64 0) w fun i m d_ w=>Y0 T.i r w fun bq w=>X5 .lss T.f 61 63 m bq w fun br w=>X1 br (lp (α:=Value) (.int .i64 0) w fun j n d_ w=>Y0 T.i r w fun bs w=>X5 .lss T.f 67 69 n bs w fun bu w=>X1 bu (dr w fun d c=>Y3 d c (indexAddr P T.ad o.1 m) fun av=>Y3 d c (indexAddr P T.ad o.1 m) fun aw=>X3 d c av (fun C=>Q6 P T.ab C) fun bx=>X3 d c aw (fun D=>Q6 P T.ab D) fun ax=>X3 d c ax (fun E=>indexAddr P T.ab E n) fun ay=>X3 d c ay (fun H=>Q6 P T.r H) fun e=>X3 d c e (fun a=>Wn a (fun w J=>J o.1 w)) fun az=>X3 d c e (fun a=>Wn a (fun w J=>J m w)) fun a1=>Xq d c e az a1 (fun a L M=>Wn a (indexAddr P T.ad L M)) fun a2=>X3 d c e (fun a=>Wn a (fun w J=>J q w)) fun a4=>L9 d c e a2 (fun a N=>Wn a (Q6 P T.ab N)) fun a3=>Xq d c e a3 a4 (fun a O Q=>Wn a (indexAddr P T.ab O Q)) fun a5=>L9 d c e a5 (fun a R=>Wn a (Q6 P T.r R)) fun a6=>L9 d c e a6 (fun a U=>Wn a (fun w J=>J U w)) fun f=>X3 d c f (fun b=>V8 b (fun w J=>J o.1 w)) fun a7=>X3 d c f (fun b=>V8 b (fun w J=>J q w)) fun a8=>Xq d c f a7 a8 (fun b V W=>V8 b (indexAddr P T.ad V W)) fun a9=>X3 d c f (fun b=>V8 b (fun w J=>J n w)) fun bb=>L9 d c f a9 (fun b X=>V8 b (Q6 P T.ab X)) fun ba=>Xq d c f ba bb (fun b Y Z=>V8 b (indexAddr P T.ab Y Z)) fun bc=>L9 d c f bc (fun b aa=>V8 b (Q6 P T.r aa)) fun t=>Xq d c e f t (fun a b k=>Wn a (pick P b k (.bool false))) fun u=>L9 d c e u (fun a l=>pick P a (.bool true) l) fun am=> ∀C D al E H a L M N Q O R U b V W X Z Y aa k l s w,c w->av C w->aw D w->bx al w->ax E w->ay H w->e a w->az L w->a1 M w->a2 N w->a4 Q w->a3 O w->a5 R w->a6 U w->f b w->a7 V w->a8 W w->a9 X w->bb Z w->ba Y w->bc aa w->t k w->u l w->am s w->indexAddr P T.ab al n w fun ae w=>J9 P T.r ae s w fun _u w=>V3 71 n w j) (V3 65 m w i)) (V3 59 q w h)) (K o.1 w))
theorem Q1l (h:Hb a0 w K):Q0 P F.al [a0] w K:=zr Q0N Tryz.func80 h
def Q3f:L7:=Y4 6++[some ([9],[8,9,16,17,18,19,20,21,22,23,24,25,26,27,28])]++Y4 8++[some ([1,11],[1,11,41,42,43,44,45,46,47,48,49,50,51,52,53,54,55,56]),none,none,none,none]
def Ba:zV4:=fun u k U l w K=>X5 .lss T.f 12 13 l U w fun v w=>X1 v (K k w) (lp (α:=Value) (.int .i64 0) w fun c O V w=>Y0 T.q k w fun y w=>X5 .lss T.f 16 18 O y w fun z w=>X1 z (V1 T.q T.f k O w fun A w=>X5 .eql T.f 25 26 A l w fun B w=>X1 B (K k w) (V3 20 O w c)) (dr w fun e d=>Y3 e d (indexAddr P T.i u l) fun p=>X3 e d p (fun f=>fieldAddr P T.c f 1) fun q=>Y3 e d (indexAddr P T.i u l) fun s=>X3 e d s (fun i=>fieldAddr P T.c i 2) fun t=>X3 e d q (fun g=>Q6 P T.b g) fun r=>X3 e d r (fun h=>buildSlice P T.h 1 [(0,h)]) fun Q=>X3 e d t (fun j=>Q6 P T.h j) fun R=> ∀f g i j h m n w,d w->p f w->q g w->s i w->t j w->r h w->Q m w->R n w->V0 P .append [T.h,T.h] T.h [false,false] [m,n] w fun o w=>lp (α:=Value×Value) (k,(.int .i64 0)) w fun a b V w=>Y0 T.h o w fun C w=>X5 .lss T.f 41 43 b.2 C w fun D w=>X1 D (V1 T.h T.b o b.2 w fun H w=>Q0 P F.b [u,H] w fun J w=>Q0 P F.b4 [u,b.1,U,J] w fun L w=>X4 .add T.f 45 b.2 1 w fun E w=>a (L,E) w) (buildSlice P T.q 1 [(0,l)] w fun M w=>V0 P .append [T.q,T.q] T.q [false,false] [b.1,M] w fun N w=>K N w)))
theorem Q3x (h:Ba a0 a1 a2 a3 w K):Q0 P F.b4 [a0,a1,a2,a3] w K:=zr Q3f Tryz.func81 h
def Jt:L3:=fun s A w K=>Q0 P F.b [s,A] w fun v w=>X4 .lss T.f 9 v 0 w fun t w=>X1 t (K (.slice none 0 0) w) (dr w fun b a=>Y3 b a (indexAddr P T.i s v) fun m=>X3 b a m (fun d=>fieldAddr P T.c d 1) fun n=>Y3 b a (indexAddr P T.i s v) fun q=>X3 b a q (fun h=>fieldAddr P T.c h 6) fun r=>Y3 b a (buildSlice P T.k 0 []) fun l=>X3 b a n (fun e=>Q6 P T.b e) fun o=>X3 b a o (fun f=>Q0 P F.l [s,f]) fun p=>L9 b a l p (fun c g=>V0 P .append [T.k,T.k] T.k [false,false] [c,g]) fun y=>X3 b a r (fun i=>Q6 P T.k i) fun z=> ∀d e h i c f g j k w,a w->m d w->n e w->q h w->r i w->l c w->o f w->p g w->y j w->z k w->V0 P .append [T.k,T.k] T.k [false,false] [j,k] w fun u w=>K u w)
theorem Ds (h:Jt a0 a1 w K):Q0 P F.l [a0,a1] w K:=zr (Y4 6) Tryz.func64 h
def Q0P:L7:=[none,none,none,none,some ([8],[6,8,12,13,14,15,16,17,18,19,20,21,22,23,24,25])]++Y4 6
def He:Yy:=fun i j k w K=>Q0 P F.l [i,j] w fun b w=>lp (α:=Value) (.int .i64 0) w fun a c l w=>Y0 T.k b w fun d w=>X5 .lss T.f 12 14 c d w fun e w=>X1 e (indexAddr P T.k b c w fun f w=>Y1 T.o T.b f 0 w fun g w=>X5 .eql T.b 22 23 g k w fun h w=>X1 h (K c w) (V3 16 c w a)) (K (.int .i64 (-1)) w)
theorem Q1n (h:He a0 a1 a2 w K):Q0 P F.bB [a0,a1,a2] w K:=zr Q0P Tryz.func124 h
def Ry:H0:=fun a w K=>Y0 T.b a w fun c w=>Q0 P F.a3 [a] w fun d w=>Z9 P .mul T.f (.const (.int .i64 2)) (.tmp 7) (.int .i64 2) d w fun e w=>X5 .sub T.f 5 8 c e w fun f w=>I3 P T.b a none (some f) none w fun b w=>K b w
theorem Q2n (h:Ry a0 w K):Q0 P F.aY [a0] w K:=zr (Y4 2) Tryz.func129 h
def Rx:L3:=fun p d w K=>V5 .eql T.b 5 d #[110,117,108,108] w fun c w=>X6 c false d w fun q w=>Q1 c false w (Q0 P F.f [q]) fun r w=>X6 c false r w fun a w=>X6 a true d w fun e w=>Q1 a true w (Q0 P F.aY [e]) fun f w=>Q1 a true w (Q0 P F.z [f]) fun g w=>X6 a true g w fun b w=>X6 b false p w fun h w=>X6 b false d w fun i w=>Q1 b false w (Q0 P F.aY [i]) fun j w=>Q1 b false w (Q0 P F.b [h,j]) fun k w=>Q1 b false w (X4 .geq T.f 18 k 0) fun l w=>Q1 a true w (pick P b (.bool true) l) fun m w=>Q1 c false w (pick P a m (.bool false)) fun n w=>pick P c (.bool true) n w fun o w=>K o w
theorem Q2m (h:Rx a0 a1 w K):Q0 P F.a4 [a0,a1] w K:=zr (Y4 2) Tryz.func86 h
def Hg:L3:=fun e d w K=>V5 .neq T.b 5 d #[110,117,108,108] w fun a w=>X6 a true e w fun f w=>X6 a true d w fun g w=>Q1 a true w (Q0 P F.a4 [f,g]) fun b w=>pick P a b (.bool false) w fun c w=>K c w
theorem Q1p (h:Hg a0 a1 w K):Q0 P F.bC [a0,a1] w K:=zr (Y4 2) Tryz.func125 h
def Q20:L7:=[none,none,none,none,some ([3,4],[3,4,5,6,7,8,9,10,11,12,13,14,15,16,17,18,19,20,21,22]),none,none,none,some ([3],[3,12,13,14,15]),none,none]
def Ru:H0:=fun n w K=>box P T.e n w fun a w=>lp (α:=Value×Value) ((.string ⟨#[40]⟩),(.int .i64 0)) w fun b c o w=>Y1 T.e T.h a 1 w fun p w=>Y0 T.h p w fun q w=>X5 .lss T.f 5 8 c.2 q w fun r w=>X1 r (jn (α:=Value) w (fun m w=>X4 .gtr T.f 12 c.2 0 w fun e w=>X1 e (V5 .add T.b 14 c.1 #[44] w fun f w=>m f w) (m c.1 w)) fun s o w=>Y1 T.e T.h a 1 w fun g w=>V1 T.h T.b g c.2 w fun h w=>X5 .add T.b 16 21 s h w fun i w=>X4 .add T.f 10 c.2 1 w fun d w=>b (i,d) w) (V5 .add T.b 23 c.1 #[41] w fun j w=>Y1 T.e T.b a 2 w fun k w=>X5 .add T.b 24 26 j k w fun l w=>K l w)
theorem Q2j (h:Ru a0 w K):Q0 P F.aX [a0] w K:=zr Q20 Tryz.func126 h
def Q3e:L7:=[none,none,none,some ([5],[4,5,6,7,8,9,10,11,12,13,14,15,16,17,18,19,20,21])]++Y4 6
def Cz:L3:=fun i j w K=>box P T.c i w fun a w=>lp (α:=Value) (.int .i64 0) w fun b c m w=>Y1 T.c T.j a 7 w fun k w=>Y0 T.j k w fun l w=>X5 .lss T.f 6 9 c l w fun d w=>X1 d (Y1 T.c T.j a 7 w fun e w=>indexAddr P T.j e c w fun f w=>Y1 T.e T.b f 0 w fun g w=>X5 .eql T.b 18 19 g j w fun h w=>X1 h (K c w) (V3 11 c w b)) (K (.int .i64 (-1)) w)
theorem Q3w (h:Cz a0 a1 w K):Q0 P F.b3 [a0,a1] w K:=zr Q3e Tryz.func168 h
def Q0Q:L7:=[none,none,none,some ([9],[6,8,9,10,11,12,13,14,15,16,17,18,19,20,21,22,23,24,25,26,27,28,29,30,31,32,33,34,35,36,37,38,39,40,41,42,43,44,45,46,47,48,49,50,51,52,53,54])]++Y4 12
def Hf:Yy:=fun v Y X w K=>box P T.c Y w fun b w=>G9 P T.e w fun k w=>lp (α:=Value) (.int .i64 0) w fun d R Z w=>Y1 T.c T.h b 2 w fun y w=>Y0 T.h y w fun z w=>X5 .lss T.f 15 18 R z w fun A w=>X1 A (Y1 T.c T.h b 2 w fun B w=>V1 T.h T.b B R w fun C w=>Q0 P F.b [v,C] w fun D w=>V1 T.i T.c v D w fun E w=>N0 T.c E w fun a w=>Q6 P T.c a w fun H w=>Q0 P F.b3 [H,X] w fun m w=>X4 .geq T.f 35 m 0 w fun J w=>X1 J (dr w fun f c=>Y3 f c (fieldAddr P T.c a 0) fun r=>Y3 f c (fieldAddr P T.c a 7) fun s=>X3 f c r (fun g=>Q6 P T.b g) fun U=>X3 f c s (fun h=>Q6 P T.j h) fun t=>X3 f c t (fun i=>indexAddr P T.j i m) fun u=>X3 f c u (fun j=>Q6 P T.e j) fun V=> ∀g h n i j o w,c w->r g w->s h w->U n w->t i w->u j w->V o w->J9 P T.e k o w fun _u w=>J5 P T.e k w fun l=>K (.tuple #[n,l,(.bool true)]) w) (Q6 P T.c a w fun L w=>Q0 P F.aN [v,L,X] w fun p w=>D9 p w fun M N w=>ext P p 2 w fun O w=>N0 T.e N w fun e w=>X1 O (dr w fun f c=>Y3 f c (Q6 P T.e e) fun W=> ∀q w,c w->W q w->J9 P T.e k q w fun _u w=>J5 P T.e k w fun l=>K (.tuple #[M,l,(.bool true)]) w) (V3 20 R w d))) (B7 P T.e [] w fun Q w=>J9 P T.e k Q w fun _u w=>J5 P T.e k w fun l=>K (.tuple #[(.string ⟨#[]⟩),l,(.bool false)]) w)
theorem Q1o (h:Hf a0 a1 a2 w K):Q0 P F.aN [a0,a1,a2] w K:=zr Q0Q Tryz.func169 h
def Aq:L7:=[none,none,none,some ([9],[6,8,9,10,18,19,20,21,22,23,24,25,26,27,28,29,30,31,32,33,34,35,36,37,38,39,40,41,42,43,44,45,46,47])]++Y4 8++[some ([11],[6,8,11,12,13,14,51,52,53,54,55,56,57,58,59,60,61,62,63,64,65,66,67,68,69,70,71,72,73])]++Y4 7
def Dk:Yy:=fun b a1 a2 w K=>G9 P T.e w fun m w=>Q0 P F.b [b,a1] w fun D w=>lp (α:=Value) D w fun e t d_ w=>X4 .geq T.f 18 t 0 w fun E w=>X1 E (V1 T.i T.c b t w fun M w=>Q0 P F.b3 [M,a2] w fun o w=>X4 .geq T.f 33 o 0 w fun N w=>X1 N (dr w fun d a=>Y3 d a (indexAddr P T.i b t) fun u=>X3 d a u (fun f=>fieldAddr P T.c f 0) fun v=>Y3 d a (indexAddr P T.i b t) fun y=>X3 d a y (fun h=>fieldAddr P T.c h 7) fun z=>X3 d a v (fun g=>Q6 P T.b g) fun ab=>X3 d a z (fun i=>Q6 P T.j i) fun A=>X3 d a A (fun j=>indexAddr P T.j j o) fun B=>X3 d a B (fun k=>Q6 P T.e k) fun ac=> ∀f g h i p j k q w,a w->u f w->v g w->y h w->z i w->ab p w->A j w->B k w->ac q w->J9 P T.e m q w fun _u w=>J5 P T.e m w fun n=>K (.tuple #[p,n,(.bool true)]) w) (indexAddr P T.i b t w fun H w=>Y1 T.c T.b H 1 w fun J w=>Q0 P F.b [b,J] w fun L w=>e L w)) (Q0 P F.b [b,a1] w fun O w=>lp (α:=Value) O w fun c l d_ w=>X4 .geq T.f 51 l 0 w fun Q w=>X1 Q (V1 T.i T.c b l w fun W w=>Q0 P F.aN [b,W,a2] w fun r w=>D9 r w fun X Y w=>ext P r 2 w fun Z w=>N0 T.e Y w fun C w=>X1 Z (dr w fun d a=>Y3 d a (Q6 P T.e C) fun ad=> ∀s w,a w->ad s w->J9 P T.e m s w fun _u w=>J5 P T.e m w fun n=>K (.tuple #[X,n,(.bool true)]) w) (indexAddr P T.i b l w fun R w=>Y1 T.c T.b R 1 w fun U w=>Q0 P F.b [b,U] w fun V w=>c V w)) (B7 P T.e [] w fun aa w=>J9 P T.e m aa w fun _u w=>J5 P T.e m w fun n=>K (.tuple #[(.string ⟨#[]⟩),n,(.bool false)]) w))
theorem Q02 (h:Dk a0 a1 a2 w K):Q0 P F.bk [a0,a1,a2] w K:=zr Aq Tryz.func127 h
def Th:L7:=[none,none,none,none,some ([6],[4,6,24,25,26,27,28,29,30,31,32,33,34,35,36,37,38,39,40,41])]++Y4 8++[some ([7,8],[7,8,43,44,45,46,47,48,49,50,51,52,53,54,55,56,57,58])]++Y4 5++[some ([7,9],[7,9,59,60,61,62,63,64,65,66,67,68,69,70,71,72,73,74,75,76,77,78,79,80,81,82,83,84,85,86,87,88,89]),none,none,some ([7],[7,66,67,68,69,70,71,72,73,74,75,76,77,78,79,80,81,82,83,84,85,86,87,88,89]),none,none,none,none,some ([10],[4,10,90,91,92,93,94,95,96,97,98,99,100,101,102])]++Y4 9++[some ([12,13],[12,13,106,107,108,109,110,111,112,113,114,115,116,117,118,119,120,121,122,123,124,125,126,127,128,129,130]),none,none,some ([12],[12,112,113,114,115,116,117,118,119,120,121,122,123,124,125,126,127,128,129,130]),none,none,none,some ([14],[4,14,15,131,132,133,134,135,136,137,138,139,140,141,142,143,144,145,146,147,148,149,150,151,152,153,154,155,156,157,158,159,160,161,162,163,164,165]),none,none,none,none,some ([15],[4,15,137,138,139,140,141,142,143,144,145,146,147,148,149,150,151,152,153,154,155,156,157,158,159,160,161,162,163,164,165])]++Y4 7++[some ([16],[4,16,17,18,19,166,167,168,169,170,171,172,173,174,175,176,177,178,179,180,181,182,183,184,185,186,187,188,189,190,191,192,193,194,195])]++Y4 7
def Nu:L3:=fun a0 a1 w K=>V1 T.i T.c a0 a1 w fun co w=>N0 T.c co w fun V w=>lp (α:=Value) (.int .i64 0) w fun Z x4 d_ w=>Y1 T.c T.k V 6 w fun cp w=>Y0 T.k cp w fun cq w=>X5 .lss T.f 24 27 x4 cq w fun cr w=>X1 cr (dr w fun c b=>Y3 c b (fieldAddr P T.c V 1) fun ci=>Y3 c b (fieldAddr P T.c V 6) fun cj=>X3 c b ci (fun a5=>Q6 P T.b a5) fun dt=>X3 c b cj (fun a6=>Q6 P T.k a6) fun ck=>X3 c b ck (fun a7=>indexAddr P T.k a7 x4) fun cl=>X3 c b cl (fun a8=>fieldAddr P T.o a8 0) fun cm=>X3 c b cm (fun a9=>Q6 P T.b a9) fun du=> ∀a5 a6 ca a7 a8 a9 cb w,b w->ci a5 w->cj a6 w->dt ca w->ck a7 w->cl a8 w->cm a9 w->du cb w->Q0 P F.bB [a0,ca,cb] w fun cs w=>X4 .geq T.f 40 cs 0 w fun ct w=>X1 ct (K (.int .i64 64) w) (V3 29 x4 w Z)) (buildSlice P T.h 0 [] w fun cu w=>lp (α:=Value×Value) (cu,(.int .i64 0)) w fun l W d_ w=>Y1 T.c T.k V 6 w fun cv w=>Y0 T.k cv w fun cw w=>X5 .lss T.f 43 46 W.2 cw w fun cx w=>X1 cx (Y1 T.c T.k V 6 w fun cz w=>indexAddr P T.k cz W.2 w fun c0 w=>Y1 T.o T.b c0 1 w fun c1 w=>buildSlice P T.h 1 [(0,c1)] w fun c2 w=>V0 P .append [T.h,T.h] T.h [false,false] [W.1,c2] w fun c3 w=>X4 .add T.f 48 W.2 1 w fun cy w=>l (c3,cy) w) (lp (α:=Value×Value) (W.1,(.int .i64 0)) w fun m i d_ w=>Y1 T.c T.j V 7 w fun c4 w=>Y0 T.j c4 w fun c5 w=>X5 .lss T.f 59 62 i.2 c5 w fun c6 w=>X1 c6 (jn (α:=Value) w (fun bc w=>Y1 T.c T.j V 7 w fun c8 w=>indexAddr P T.j c8 i.2 w fun c9 w=>Y1 T.e T.h c9 1 w fun da w=>V0 P .append [T.h,T.h] T.h [false,false] [i.1,da] w fun cc w=>Y1 T.c T.j V 7 w fun db w=>indexAddr P T.j db i.2 w fun dc w=>Y1 T.e T.b dc 2 w fun dd w=>V5 .neq T.b 79 dd #[] w fun de w=>X1 de (Y1 T.c T.j V 7 w fun df w=>indexAddr P T.j df i.2 w fun dg w=>Y1 T.e T.b dg 2 w fun dh w=>buildSlice P T.h 1 [(0,dh)] w fun di w=>V0 P .append [T.h,T.h] T.h [false,false] [cc,di] w fun dj w=>bc dj w) (bc cc w)) fun dq d_ w=>X4 .add T.f 64 i.2 1 w fun c7 w=>m (dq,c7) w) (lp (α:=Value) (.int .i64 0) w fun n ba d_ w=>Y0 T.h i.1 w fun dl w=>X5 .lss T.f 90 92 ba dl w fun dm w=>X1 dm (V1 T.h T.b i.1 ba w fun be w=>Q0 P F.bC [a0,be] w fun bf w=>W0 P .not bf w fun bg w=>X1 bg (K (.int .i64 65) w) (V3 94 ba w n)) (Q0 P F.al [a0] w fun bh w=>buildSlice P T.j 0 [] w fun bi w=>lp (α:=Value×Value) (bi,(.int .i64 0)) w fun o e d_ w=>Y0 T.i a0 w fun bj w=>X5 .lss T.f 106 108 e.2 bj w fun bk w=>X1 bk (jn (α:=Value) w (fun bd w=>X5 .eql T.f 112 113 e.2 a1 w fun g w=>X6 g false bh w fun bm w=>X6 g false a1 w fun bn w=>zhi g false w T.ad T.ab bm bn fun bo w=>X6 g false e.2 w fun bp w=>zhi g false w T.ab T.r bo bp fun bq w=>pick P g (.bool true) bq w fun br w=>X1 br (indexAddr P T.i a0 e.2 w fun bs w=>Y1 T.c T.j bs 7 w fun bu w=>V0 P .append [T.j,T.j] T.j [false,false] [e.1,bu] w fun bv w=>bd bv w) (bd e.1 w)) fun ds d_ w=>X4 .add T.f 110 e.2 1 w fun bl w=>o (ds,bl) w) (lp (α:=Value) (.int .i64 0) w fun p X d_ w=>Y0 T.j e.1 w fun bw w=>X5 .lss T.f 131 133 X bw w fun bx w=>X1 bx (lp (α:=Value) (.int .i64 0) w fun q ab d_ w=>X5 .lss T.f 137 138 ab X w fun bz w=>X1 bz (dr w fun c b=>Y3 c b (indexAddr P T.j e.1 X) fun ag=>X3 c b ag (fun s=>fieldAddr P T.e s 0) fun ah=>Y3 c b (indexAddr P T.j e.1 ab) fun aj=>X3 c b aj (fun v=>fieldAddr P T.e v 0) fun ak=>X3 c b ah (fun t=>Q6 P T.b t) fun ai=>X3 c b ak (fun y=>Q6 P T.b y) fun al=>L9 c b ai al (fun u z=>X5 .eql T.b 146 151 u z) fun d=>X3 c b d (fun a=>V8 a (fun w J=>J e.1 w)) fun am=>X3 c b d (fun a=>V8 a (fun w J=>J X w)) fun an=>Xq c b d am an (fun a A B=>V8 a (indexAddr P T.j A B)) fun ao=>X3 c b d (fun a=>V8 a (fun w J=>J e.1 w)) fun aq=>X3 c b d (fun a=>V8 a (fun w J=>J ab w)) fun ar=>Xq c b d aq ar (fun a E H=>V8 a (indexAddr P T.j E H)) fun av=>L9 c b d ao (fun a C=>V8 a (Q6 P T.e C)) fun ap=>L9 c b d ap (fun a D=>V8 a (Q0 P F.aX [D])) fun cd=>L9 c b d av (fun a L=>V8 a (Q6 P T.e L)) fun ce=> ∀s t v y u z a A B C E H L D ac ad w,b w->ag s w->ah t w->aj v w->ak y w->ai u w->al z w->d a w->am A w->an B w->ao C w->aq E w->ar H w->av L w->ap D w->cd ac w->ce ad w->Q1 a true w (Q0 P F.aX [ad]) fun b0 w=>Q1 a true w (X5 .neq T.b 158 163 ac b0) fun b1 w=>pick P a b1 (.bool false) w fun b2 w=>X1 b2 (K (.int .i64 66) w) (V3 140 ab w q)) (V3 135 X w p)) (lp (α:=Value) (.int .i64 0) w fun r bb d_ w=>Y0 T.j e.1 w fun b3 w=>X5 .lss T.f 166 168 bb b3 w fun M w=>Z8 M true w T.c T.r V 4 fun b4 w=>Q1 M true w (W0 P .not b4) fun b5 w=>pick P M b5 (.bool false) w fun b6 w=>X1 b6 (dr w fun c b=>Y3 c b (fieldAddr P T.c V 0) fun aw=>Y3 c b (indexAddr P T.j e.1 bb) fun ay=>X3 c b ay (fun Q=>fieldAddr P T.e Q 0) fun az=>X3 c b aw (fun N=>Q6 P T.b N) fun ax=>X3 c b az (fun R=>Q6 P T.b R) fun a2=>L9 c b ax a2 (fun O U=>Q0 P F.bk [a0,O,U]) fun k=>X3 c b k (fun f=>ext P f 0) fun cg=>X3 c b k (fun f=>ext P f 1) fun a3=>X3 c b k (fun f=>ext P f 2) fun ch=>Y3 c b (G9 P T.e) fun cf=>Gv c (fun Y=> ∀j h w,b w->cf j w->a3 h w->J9 P T.e j h w (dk c (Y [j,h]) w)) fun Y=> ∀N Q R O U f b7 h ae j dn w,b w->aw N w->ay Q w->az R w->ax O w->a2 U w->k f w->cg b7 w->a3 h w->ch ae w->cf j w->Y [j,h] dn w->W0 P .not ae w fun af w=>Z8 af false w T.e T.r j 3 fun b8 w=>pick P af (.bool true) b8 w fun b9 w=>X1 b9 (K (.int .i64 67) w) (V3 175 bb w r)) (K (.int .i64 0) w)))))))
theorem Tq (h:Nu a0 a1 w K):Q0 P F.be [a0,a1] w K:=zr Th Tryz.func82 h
def Q3d:L7:=Y4 5++[some ([5,7],[2,3,4,5,7,8,21,22,23,24,25,26,27,28,29,30,31,32,33,34,35,36,37,38,39,40,41,42])]++Y4 9++[some ([9],[2,3,4,9,43,44,45,46,47,48,49,50,51,52,53,54,55,56,57,58,59,60])]++Y4 7++[some ([10],[2,3,4,10,11,61,62,63,64,65,66,67,68,69,70,71,72,73,74,75,76])]++Y4 9++[some ([13],[2,3,4,13,79,80,81,82,83,84,85,86,87,88,89,90,91,92,93,94,95,96])]++Y4 8++[some ([14,15],[14,15,98,99,100,101,102,103,104,105,106,107,108,109,110])]++Y4 5++[some ([16],[2,3,4,16,17,111,112,113,114,115,116,117,118,119,120,121,122,123,124,125,126,127,128,129,130,131])]++Y4 7
def Cx:H0:=fun k w K=>Q0 P F.bA [] w fun E w=>Y0 T.i E w fun b w=>lp (α:=Value×Value) (E,(.int .i64 0)) w fun l c q w=>Y0 T.i k w fun M w=>X5 .lss T.f 21 23 c.2 M w fun N w=>X1 N (V1 T.i T.c k c.2 w fun Q w=>Q0 P F.bx [Q] w fun H w=>X4 .neq T.v 32 H 0 w fun R w=>X1 R (K (.tuple #[(.slice none 0 0),c.2,H]) w) (V1 T.i T.c k c.2 w fun U w=>buildSlice P T.i 1 [(0,U)] w fun V w=>V0 P .append [T.i,T.i] T.i [false,false] [c.1,V] w fun W w=>X4 .add T.f 25 c.2 1 w fun O w=>l (W,O) w)) (lp (α:=Value) (.int .i64 0) w fun d i q w=>Y0 T.i k w fun X w=>X5 .lss T.f 43 45 i X w fun Y w=>X1 Y (indexAddr P T.i k i w fun Z w=>Y1 T.c T.b Z 0 w fun aa w=>Q0 P F.b [c.1,aa] w fun ab w=>X5 .add T.f 56 57 b i w fun ac w=>X5 .neq T.f 55 58 ab ac w fun ad w=>X1 ad (K (.tuple #[(.slice none 0 0),i,(.int .i64 60)]) w) (V3 47 i w d)) (lp (α:=Value) (.int .i64 0) w fun e m q w=>Y0 T.i k w fun ae w=>X5 .lss T.f 61 63 m ae w fun af w=>X1 af (V1 T.i T.c k m w fun ag w=>Q0 P F.bl [c.1,ag] w fun J w=>X4 .neq T.v 73 J 0 w fun ah w=>X1 ah (K (.tuple #[(.slice none 0 0),m,J]) w) (V3 65 m w e)) (Q0 P F.al [c.1] w fun ai w=>lp (α:=Value) (.int .i64 0) w fun f j q w=>Y0 T.i k w fun aj w=>X5 .lss T.f 79 81 j aj w fun ak w=>X1 ak (X5 .add T.f 86 87 b j w fun al w=>V1 T.ad T.ab ai al w fun am w=>X5 .add T.f 91 92 b j w fun an w=>V1 T.ab T.r am an w fun ao w=>X1 ao (K (.tuple #[(.slice none 0 0),j,(.int .i64 63)]) w) (V3 83 j w f)) (buildSlice P T.q 0 [] w fun ap w=>lp (α:=Value×Value) (ap,(.int .i64 0)) w fun g a q w=>Y0 T.i k w fun r w=>X5 .lss T.f 98 100 a.2 r w fun s w=>X1 s (X5 .add T.f 107 108 b a.2 w fun u w=>Q0 P F.b4 [c.1,a.1,b,u] w fun v w=>X4 .add T.f 102 a.2 1 w fun t w=>g (v,t) w) (lp (α:=Value) (.int .i64 0) w fun h n q w=>Y0 T.q a.1 w fun y w=>X5 .lss T.f 111 113 n y w fun z w=>X1 z (V1 T.q T.f a.1 n w fun A w=>Q0 P F.be [c.1,A] w fun o w=>X4 .neq T.v 123 o 0 w fun B w=>X1 B (dr w fun Tr Br=>Y3 Tr Br (indexAddr P T.q a.1 n) fun L=> ∀p w,Br w->L p w->Q6 P T.f p w fun C w=>X5 .sub T.f 128 129 C b w fun D w=>K (.tuple #[(.slice none 0 0),D,o]) w) (V3 115 n w h)) (K (.tuple #[c.1,(.int .i64 0),(.int .i64 0)]) w))))))
theorem Q3u (h:Cx a0 w K):Q0 P F.bY [a0] w K:=zr Q3d Tryz.func38 h
def Q5O:L3:=fun g a w K=>X4 .lss T.f 6 a 0 w fun f w=>X6 f false a w fun h w=>Q1 f false w (X4 .gtr T.f 9 h 1048576) fun b w=>pick P f (.bool true) b w fun c w=>X1 c (K (.tuple #[(.pointer none),(.int .i64 90)]) w) (B7 P T.t [(0,g),(1,a)] w fun d w=>box P T.t d w fun e w=>K (.tuple #[e,(.int .i64 0)]) w)
theorem X2I (h:Q5O a0 a1 w K):Q0 P F.cZ [a0,a1] w K:=zr (Y4 5) Tryz.func39 h
def En:H0:=fun C w K=>G9 P T.a w fun c w=>Q0 P F.aF [] w fun i w=>Q0 P F.d0 [i] w fun e w=>D9 e w fun f D w=>ext P e 2 w fun j w=>Q0 P F.aF [] w fun k w=>Q0 P F.bY [k] w fun g w=>D9 g w fun l E w=>ext P g 2 w fun m w=>Z9 P .rem T.ay (.tmp 25) (.const (.int .u16 301)) C (.int .u16 301) w fun n w=>conv P T.ay T.f n w fun h w=>X4 .neq T.v 28 j 0 w fun a w=>X6 a false m w fun o w=>Q1 a false w (X4 .neq T.v 31 o 0) fun p w=>pick P a (.bool true) p w fun b w=>X6 b false f w fun q w=>Q1 b false w (Z9 P .eql T.z (.tmp 35) (.const (.pointer none)) q (.pointer none)) fun r w=>pick P b (.bool true) r w fun s w=>X1 s (B7 P T.a [] w fun t w=>J9 P T.a c t w fun _u w=>J5 P T.a c w fun d=>K (.tuple #[(.pointer none),d]) w) (Q0 P F.cZ [f,h] w fun u w=>D9 u w fun v y w=>X4 .neq T.v 45 y 0 w fun z w=>X1 z (B7 P T.a [] w fun A w=>J9 P T.a c A w fun _u w=>J5 P T.a c w fun d=>K (.tuple #[(.pointer none),d]) w) (B7 P T.a [(0,l),(1,h)] w fun B w=>J9 P T.a c B w fun _u w=>J5 P T.a c w fun d=>K (.tuple #[v,d]) w))
theorem Q18 (h:En a0 w K):Q0 P F.aj [a0] w K:=zr (Y4 12) Tryz.func18 h
def Bc:H0:=fun g w K=>box P T.m g w fun a w=>Y1 T.m T.b a 1 w fun h w=>Y0 T.b h w fun i w=>X4 .leq T.f 5 i 100 w fun b w=>Q1 b true w (fieldAddr P T.m a 4) fun j w=>Z8 b true w T.d T.b j 2 fun c w=>Q1 b true w (Y0 T.b c) fun d w=>Q1 b true w (X4 .leq T.f 11 d 5000) fun e w=>pick P b e (.bool false) w fun f w=>K f w
theorem Q3z (h:Bc a0 w K):Q0 P F.c1 [a0] w K:=zr (Y4 2) Tryz.func19 h
def Nl:L3:=fun g h w K=>Q0 P F.k [g,h] w fun a w=>X6 a true g w fun i w=>X6 a true h w fun b w=>Q1 a true w (Q0 P F.i [i,b]) fun c w=>Q1 a true w (Xj P T.c c 4) fun d w=>Q1 a true w (W0 P .not d) fun e w=>pick P a e (.bool false) w fun f w=>K f w
theorem Tj (h:Nl a0 a1 w K):Q0 P F.b9 [a0,a1] w K:=zr (Y4 2) Tryz.func48 h
def Cq:H0:=fun j w K=>dr w fun b a=>Y3 b a (nilCheck P j) fun l=>X3 b a l (fun e=>fieldAddr P T.t e 1) fun m=>Y3 b a (nilCheck P j) fun n=>X3 b a n (fun g=>fieldAddr P T.t g 2) fun o=>X3 b a m (fun f=>Q6 P T.f f) fun p=>X3 b a o (fun h=>Q6 P T.f h) fun i=> ∀e f g h k c w,a w->l e w->m f w->n g w->o h w->p k w->i c w->X5 .sub T.f 6 10 k c w fun d w=>K d w
theorem Q3n (h:Cq a0 w K):Q0 P F.aD [a0] w K:=zr (Y4 2) Tryz.func50 h
def Q4O:H0:=fun c w K=>G9 P T.d w fun a w=>V5 .eql T.b 3 c #[105,110,116] w fun g w=>X1 g (B7 P T.d [(0,(.int .i64 1))] w fun h w=>J9 P T.d a h w fun _u w=>J5 P T.d a w fun b=>K b w) (V5 .eql T.b 3 c #[98,111,111,108] w fun i w=>X1 i (B7 P T.d [(0,(.int .i64 2))] w fun j w=>J9 P T.d a j w fun _u w=>J5 P T.d a w fun b=>K b w) (V5 .eql T.b 3 c #[116,101,120,116] w fun d w=>X1 d (B7 P T.d [(0,(.int .i64 3))] w fun e w=>J9 P T.d a e w fun _u w=>J5 P T.d a w fun b=>K b w) (B7 P T.d [] w fun f w=>J9 P T.d a f w fun _u w=>J5 P T.d a w fun b=>K b w)))
theorem X0Q (h:Q4O a0 w K):Q0 P F.cD [a0] w K:=zr (Y4 10) Tryz.func51 h
def Bz:Yy:=fun a t s w K=>nilCheck P a w fun u w=>Y1 T.t T.f u 2 w fun b w=>Y0 T.l s w fun c w=>Z9 P .add T.f (.const (.int .i64 1)) (.tmp 13) (.int .i64 1) c w fun d w=>X5 .add T.f 11 14 b d w fun e w=>nilCheck P a w fun f w=>fieldAddr P T.t f 2 w fun g w=>J9 P T.f g e w fun _u w=>nilCheck P a w fun h w=>Y1 T.t T.g h 3 w fun i w=>B7 P T.n [(0,t),(1,s)] w fun j w=>buildSlice P T.g 1 [(0,j)] w fun k w=>V0 P .append [T.g,T.g] T.g [false,false] [i,k] w fun l w=>nilCheck P a w fun m w=>fieldAddr P T.t m 3 w fun n w=>J9 P T.g n l w fun _u w=>nilCheck P a w fun o w=>Y1 T.t T.g o 3 w fun p w=>Y0 T.g p w fun q w=>X4 .sub T.f 34 q 1 w fun r w=>K (.tuple #[r,(.int .i64 0)]) w
theorem Q4w (h:Bz a0 a1 a2 w K):Q0 P F.b8 [a0,a1,a2] w K:=zr (Y4 4) Tryz.func52 h
def Q0D:L7:=Y4 11++[some ([7,31],[7,9,31,32,33,34,35,36,37,38,39,40,41])]++Y4 5
def Ef:L3:=fun e f w K=>nilCheck P e w fun g w=>Y1 T.t T.z g 0 w fun h w=>Q0 P F.b9 [h,f] w fun i w=>W0 P .not i w fun j w=>X1 j (K (.tuple #[(.int .i64 0),(.int .i64 91)]) w) (nilCheck P e w fun k w=>Y1 T.t T.z k 0 w fun l w=>Q0 P F.a5 [l,f] w fun c w=>Y0 T.k c w fun m w=>Z9 P .add T.f (.const (.int .i64 1)) (.tmp 24) (.int .i64 1) m w fun n w=>Q0 P F.aD [e] w fun o w=>X5 .gtr T.f 25 27 n o w fun p w=>X1 p (K (.tuple #[(.int .i64 0),(.int .i64 90)]) w) (Y0 T.k c w fun q w=>lp (α:=Value×Value) ((.slice none 0 0),(.int .i64 0)) w fun a b D w=>X5 .lss T.f 31 30 b.2 q w fun r w=>X1 r (V1 T.k T.o c b.2 w fun s w=>N0 T.o s w fun d w=>Y1 T.o T.b d 1 w fun t w=>Q0 P F.cD [t] w fun u w=>buildSlice P T.l 1 [(0,u)] w fun v w=>V0 P .append [T.l,T.l] T.l [false,false] [b.1,v] w fun y w=>X4 .add T.f 31 b.2 1 w fun z w=>a (y,z) w) (Q0 P F.b8 [e,f,b.1] w fun A w=>D9 A w fun B C w=>K (.tuple #[B,C]) w)))
theorem Q10 (h:Ef a0 a1 w K):Q0 P F.q [a0,a1] w K:=zr Q0D Tryz.func21 h
def By:L3:=fun h g w K=>X4 .geq T.f 5 g 0 w fun a w=>X6 a true g w fun i w=>X6 a true h w fun j w=>Q1 a true w (nilCheck P j) fun b w=>Z8 a true w T.t T.g b 3 fun c w=>Q1 a true w (Y0 T.g c) fun d w=>Q1 a true w (X5 .lss T.f 8 13 i d) fun e w=>pick P a e (.bool false) w fun f w=>K f w
theorem Q4v (h:By a0 a1 w K):Q0 P F.aH [a0,a1] w K:=zr (Y4 2) Tryz.func97 h
def Rl:Yy:=fun n o p w K=>Q0 P F.aH [n,o] w fun b w=>W0 P .not b w fun c w=>X1 c (K (.int .i64 92) w) (X4 .lss T.a4 13 p 0 w fun a w=>X6 a false p w fun d w=>X6 a false n w fun e w=>Q1 a false w (nilCheck P e) fun f w=>Z8 a false w T.t T.g f 3 fun g w=>X6 a false o w fun h w=>Q1 a false w (indexAddr P T.g g h) fun i w=>Z8 a false w T.n T.l i 1 fun j w=>Q1 a false w (Y0 T.l j) fun k w=>Q1 a false w (X5 .geq T.a4 16 25 d k) fun l w=>pick P a (.bool true) l w fun m w=>X1 m (K (.int .i64 93) w) (K (.int .i64 0) w))
theorem Q2a (h:Rl a0 a1 a2 w K):Q0 P F.aR [a0,a1,a2] w K:=zr (Y4 7) Tryz.func53 h
def Cp:L3:=fun e f w K=>Q0 P F.aH [e,f] w fun g w=>W0 P .not g w fun h w=>X1 h (K (.string ⟨#[]⟩) w) (nilCheck P e w fun a w=>Y1 T.t T.g a 3 w fun b w=>indexAddr P T.g b f w fun c w=>Y1 T.n T.b c 0 w fun d w=>K d w)
theorem Q3m (h:Cp a0 a1 w K):Q0 P F.w [a0,a1] w K:=zr (Y4 5) Tryz.func56 h
def Ic:L3:=fun D E w K=>box P T.d E w fun a w=>Q6 P T.d a w fun H w=>B7 P T.d [] w fun J w=>X5 .eql T.d 6 7 H J w fun L w=>X1 L (K (.string ⟨#[110,117,108,108]⟩) w) (Q6 P T.d a w fun d w=>Y1 T.d T.a4 a 1 w fun e w=>B7 P T.d [(0,(.int .i64 1)),(1,e)] w fun f w=>X5 .eql T.d 10 13 d f w fun g w=>X1 g (K (.string ⟨#[105,110,116]⟩) w) (Q6 P T.d a w fun h w=>Y1 T.d T.a4 a 1 w fun i w=>X4 .and T.a4 18 i 1 w fun j w=>B7 P T.d [(0,(.int .i64 2)),(1,j)] w fun k w=>X5 .eql T.d 16 20 h k w fun l w=>X1 l (K (.string ⟨#[98,111,111,108]⟩) w) (Q6 P T.d a w fun m w=>Y1 T.d T.b a 2 w fun n w=>B7 P T.d [(0,(.int .i64 3)),(2,n)] w fun o w=>X5 .eql T.d 23 26 m o w fun b w=>Z8 b true w T.d T.b a 2 fun p w=>Q1 b true w (Y0 T.b p) fun q w=>Q1 b true w (X4 .leq T.f 31 q 4096) fun r w=>pick P b r (.bool false) w fun c w=>Z8 c true w T.d T.b a 2 fun s w=>Q1 c true w (Q0 P F.b6 [s]) fun t w=>pick P c t (.bool false) w fun u w=>X1 u (K (.string ⟨#[116,101,120,116]⟩) w) (Q6 P T.d a w fun v w=>Y1 T.d T.f a 3 w fun y w=>B7 P T.d [(0,(.int .i64 4)),(3,y)] w fun z w=>X5 .eql T.d 40 43 v z w fun A w=>X1 A (Y1 T.d T.f a 3 w fun B w=>Q0 P F.w [D,B] w fun C w=>K C w) (K (.string ⟨#[]⟩) w)))))
theorem Q5k (h:Ic a0 a1 w K):Q0 P F.cj [a0,a1] w K:=zr (Y4 13) Tryz.func98 h
def Mu:L3:=fun a f w K=>Q0 P F.ac [a,f] w fun g w=>W0 P .not g w fun h w=>X1 h (K (.tuple #[a,(.bool false)]) w) (Y0 T.b a w fun b w=>Y0 T.b f w fun c w=>X5 .sub T.f 13 15 b c w fun d w=>I3 P T.b a none (some d) none w fun e w=>K (.tuple #[e,(.bool true)]) w)
theorem Kw (h:Mu a0 a1 w K):Q0 P F.ck [a0,a1] w K:=zr (Y4 5) Tryz.func138 h
def Se:L3:=fun b c w K=>Q0 P F.ck [b,c] w fun d w=>D9 d w fun e a w=>K (.tuple #[e,a]) w
theorem Q2t (h:Se a0 a1 w K):Q0 P F.bN [a0,a1] w K:=zr (Y4 2) Tryz.func100 h
def Q4Q:H0:=fun f w K=>Q0 P F.bN [f,(.string ⟨#[91,93]⟩)] w fun g w=>D9 g w fun h i w=>W0 P .not i w fun a w=>X6 a false f w fun b w=>Q1 a false w (Q0 P F.a2 [b]) fun c w=>Q1 a false w (W0 P .not c) fun d w=>pick P a (.bool true) d w fun e w=>X1 e (K (.string ⟨#[]⟩) w) (K h w)
theorem X0S (h:Q4Q a0 w K):Q0 P F.cb [a0] w K:=zr (Y4 6) Tryz.func59 h
def Eh:L3:=fun b c w K=>box P T.c b w fun a w=>Y1 T.c T.b a 0 w fun d w=>Q6 P T.b c w fun e w=>X5 .eql T.b 5 6 d e w fun f w=>K f w
theorem Q12 (h:Eh a0 a1 w K):Q0 P F.br [a0,a1] w K:=zr (Y4 2) Tryz.func137 h
def Ct:Yy:=fun e d z w K=>box P T.b z w fun a w=>Q0 P F.ad [e,d] w fun f w=>W0 P .not f w fun b w=>X6 b false e w fun g w=>Q1 b false w (Q6 P T.b a) fun h w=>Q1 b false w (Q0 P F.ad [g,h]) fun i w=>Q1 b false w (W0 P .not i) fun j w=>pick P b (.bool true) j w fun k w=>X1 k (K (.bool false) w) (Q6 P T.b a w fun l w=>X5 .eql T.b 19 20 d l w fun m w=>X1 m (K (.bool true) w) (Q0 P F.aQ [d] w fun c w=>Q1 c false w (Q6 P T.b a) fun n w=>Q1 c false w (Q0 P F.aQ [n]) fun o w=>pick P c (.bool true) o w fun p w=>X1 p (K (.bool false) w) (V5 .eql T.b 30 d #[110,117,108,108] w fun q w=>X1 q (K (.bool true) w) (Q0 P F.cb [d] w fun r w=>V5 .neq T.b 34 r #[] w fun s w=>X1 s (Q6 P T.b a w fun t w=>V5 .eql T.b 36 t #[79,98,106,101,99,116] w fun u w=>K u w) (C5 P (.func F.br) [] [a] w fun v w=>Q0 P F.y [e,d,v] w fun y w=>K y w)))))
theorem Q3q (h:Ct a0 a1 a2 w K):Q0 P F.bU [a0,a1,a2] w K:=zr (Y4 13) Tryz.func99 h
def Co:Yy:=fun k l m w K=>box P T.d l w fun b w=>Q6 P T.d b w fun n w=>Q0 P F.cj [k,n] w fun c w=>V5 .neq T.b 11 c #[] w fun a w=>X6 a true k w fun d w=>Q1 a true w (nilCheck P d) fun e w=>Z8 a true w T.t T.z e 0 fun f w=>X6 a true c w fun g w=>X6 a true m w fun h w=>Q1 a true w (Q0 P F.bU [f,g,h]) fun i w=>pick P a i (.bool false) w fun j w=>K j w
theorem Q3l (h:Co a0 a1 a2 w K):Q0 P F.bR [a0,a1,a2] w K:=zr (Y4 3) Tryz.func54 h
def Cs:Yy:=fun s t u w K=>box P T.n t w fun a w=>Y1 T.n T.b a 0 w fun v w=>Q0 P F.cb [v] w fun g w=>V5 .neq T.b 11 g #[] w fun m w=>X1 m (K g w) (dr w fun f e=>Y3 f e (nilCheck P s) fun j=>X3 f e j (fun b=>fieldAddr P T.t b 0) fun k=>Y3 f e (fieldAddr P T.n a 0) fun l=>X3 f e k (fun c=>Q6 P T.z c) fun q=>X3 f e l (fun d=>Q6 P T.b d) fun r=> ∀b c d h i w,e w->j b w->k c w->l d w->q h w->r i w->Q0 P F.a5 [h,i] w fun n w=>indexAddr P T.k n u w fun o w=>Y1 T.o T.b o 1 w fun p w=>K p w)
theorem Q3p (h:Cs a0 a1 a2 w K):Q0 P F.bT [a0,a1,a2] w K:=zr (Y4 6) Tryz.func55 h
def Bx:zV4:=fun n H J W w K=>box P T.d W w fun c w=>Q0 P F.aR [n,H,J] w fun o w=>X4 .neq T.v 14 o 0 w fun L w=>X1 L (K o w) (dr w fun b a=>Y3 b a (nilCheck P n) fun t=>X3 b a t (fun d=>fieldAddr P T.t d 3) fun u=>Y3 b a (Q6 P T.d c) fun Q=>X3 b a u (fun e=>Q6 P T.g e) fun v=>X3 b a v (fun f=>indexAddr P T.g f H) fun y=>X3 b a y (fun g=>Q6 P T.n g) fun z=>X3 b a z (fun h=>Q0 P F.bT [n,h,J]) fun R=> ∀d e p f g h q w,a w->t d w->u e w->Q p w->v f w->y g w->z h w->R q w->Q0 P F.bR [n,p,q] w fun M w=>W0 P .not M w fun N w=>X1 N (K (.int .i64 91) w) (dr w fun b a=>Y3 b a (nilCheck P n) fun A=>X3 b a A (fun i=>fieldAddr P T.t i 3) fun B=>X3 b a B (fun j=>Q6 P T.g j) fun C=>X3 b a C (fun k=>indexAddr P T.g k H) fun D=>X3 b a D (fun l=>fieldAddr P T.n l 1) fun E=>X3 b a E (fun m=>Q6 P T.l m) fun U=>Y3 b a (Q6 P T.d c) fun V=> ∀i j k l m r s w,a w->A i w->B j w->C k w->D l w->E m w->U r w->V s w->indexAddr P T.l r J w fun O w=>J9 P T.d O s w fun _u w=>K (.int .i64 0) w))
theorem Q4u (h:Bx a0 a1 a2 a3 w K):Q0 P F.u [a0,a1,a2,a3] w K:=zr (Y4 10) Tryz.func22 h
def Nv:L3:=fun h j w K=>Q0 P F.b [h,j] w fun i w=>X4 .geq T.f 9 i 0 w fun a w=>X6 a true h w fun b w=>X6 a true i w fun c w=>Q1 a true w (indexAddr P T.i b c) fun d w=>Z8 a true w T.c T.r d 4 fun e w=>Q1 a true w (W0 P .not e) fun f w=>pick P a f (.bool false) w fun g w=>K g w
theorem Ts (h:Nv a0 a1 w K):Q0 P F.bf [a0,a1] w K:=zr (Y4 3) Tryz.func83 h
def Q23:L7:=[none,none,none,none,some ([3,4],[3,4,7,8,9,10,11,12,13,14,15,16,17,18,19,20,21,22,23]),none,none,none,none]
def Sa:H0:=fun m w K=>box P T.a m w fun a w=>Y1 T.a T.f a 1 w fun n w=>lp (α:=Value×Value) (n,(.int .i64 0)) w fun b c p w=>Y1 T.a T.g a 2 w fun o w=>Y0 T.g o w fun d w=>X5 .lss T.f 7 10 c.2 d w fun e w=>X1 e (Y1 T.a T.g a 2 w fun g w=>indexAddr P T.g g c.2 w fun h w=>Y1 T.n T.l h 1 w fun i w=>Y0 T.l i w fun j w=>Z9 P .add T.f (.const (.int .i64 1)) (.tmp 21) (.int .i64 1) j w fun k w=>X5 .sub T.f 14 22 c.1 k w fun l w=>X4 .add T.f 12 c.2 1 w fun f w=>b (l,f) w) (K c.1 w)
theorem Q2p (h:Sa a0 w K):Q0 P F.aZ [a0] w K:=zr Q23 Tryz.func84 h
def Q24:L7:=[none,none,some ([],[5,6,7]),none,some ([],[8,9,10]),none,some ([],[11,12,13]),none,none]
def Sb:H0:=fun b w K=>G9 P T.d w fun k w=>B7 P T.d [] w fun m w=>N0 T.d m w fun a w=>jn (α:=Unit) w (fun g w=>V5 .eql T.b 5 b #[105,110,116] w fun n w=>X1 n (fieldAddr P T.d a 0 w fun o w=>J9 P T.f o (.int .i64 1) w fun _u w=>g () w) (g () w)) fun q j w=>jn (α:=Unit) w (fun h w=>V5 .eql T.b 8 b #[98,111,111,108] w fun p w=>X1 p (fieldAddr P T.d a 0 w fun c w=>J9 P T.f c (.int .i64 2) w fun _u w=>h () w) (h () w)) fun r j w=>jn (α:=Unit) w (fun i w=>V5 .eql T.b 11 b #[116,101,120,116] w fun d w=>X1 d (fieldAddr P T.d a 0 w fun e w=>J9 P T.f e (.int .i64 3) w fun _u w=>i () w) (i () w)) fun s j w=>Q6 P T.d a w fun f w=>J9 P T.d k f w fun _u w=>J5 P T.d k w fun l=>K l w
theorem Q2q (h:Sb a0 w K):Q0 P F.b0 [a0] w K:=zr Q24 Tryz.func85 h
def As:L7:=Y4 11++[some ([8],[8,28,29,30,31,32,33,34,35,36,37,38,39,40,41,42,43,44])]++Y4 5
def Dm:L3:=fun a0 L w K=>box P T.a a0 w fun a w=>G9 P T.a w fun q w=>Y1 T.a T.i a 0 w fun M w=>Q0 P F.bf [M,L] w fun N w=>W0 P .not N w fun O w=>X1 O (Q6 P T.a a w fun Q w=>J9 P T.a q Q w fun _u w=>J5 P T.a q w fun r=>K (.tuple #[r,(.int .i64 91)]) w) (Y1 T.a T.i a 0 w fun R w=>Q0 P F.l [R,L] w fun f w=>Y0 T.k f w fun U w=>Z9 P .add T.f (.const (.int .i64 1)) (.tmp 20) (.int .i64 1) U w fun V w=>Q6 P T.a a w fun W w=>Q0 P F.aZ [W] w fun X w=>X5 .gtr T.f 21 23 V X w fun Y w=>X1 Y (Q6 P T.a a w fun Z w=>J9 P T.a q Z w fun _u w=>J5 P T.a q w fun r=>K (.tuple #[r,(.int .i64 90)]) w) (B7 P T.n [(0,L)] w fun aa w=>N0 T.n aa w fun c w=>lp (α:=Value) (.int .i64 0) w fun e p d_ w=>Y0 T.k f w fun ab w=>X5 .lss T.f 28 30 p ab w fun ac w=>X1 ac (dr w fun d b=>Y3 d b (fieldAddr P T.n c 1) fun y=>Y3 d b (indexAddr P T.k f p) fun z=>X3 d b z (fun h=>fieldAddr P T.o h 1) fun A=>X3 d b y (fun g=>Q6 P T.l g) fun ai=>X3 d b A (fun i=>Q6 P T.b i) fun B=>X3 d b B (fun j=>Q0 P F.b0 [j]) fun C=>X3 d b C (fun k=>buildSlice P T.l 1 [(0,k)]) fun aj=> ∀g h i s j k t w,b w->y g w->z h w->A i w->ai s w->B j w->C k w->aj t w->V0 P .append [T.l,T.l] T.l [false,false] [s,t] w fun ad w=>fieldAddr P T.n c 1 w fun ae w=>J9 P T.l ae ad w fun _u w=>V3 32 p w e) (dr w fun d b=>Y3 d b (fieldAddr P T.a a 2) fun E=>Y3 d b (buildSlice P T.g 0 []) fun D=>X3 d b E (fun m=>Q6 P T.g m) fun H=>L9 d b D H (fun l n=>V0 P .append [T.g,T.g] T.g [false,false] [l,n]) fun ak=>Y3 d b (Q6 P T.n c) fun J=>X3 d b J (fun o=>buildSlice P T.g 1 [(0,o)]) fun al=> ∀m l n u o v w,b w->E m w->D l w->H n w->ak u w->J o w->al v w->V0 P .append [T.g,T.g] T.g [false,false] [u,v] w fun af w=>fieldAddr P T.a a 2 w fun ag w=>J9 P T.g ag af w fun _u w=>Q6 P T.a a w fun ah w=>J9 P T.a q ah w fun _u w=>J5 P T.a q w fun r=>K (.tuple #[r,(.int .i64 0)]) w)))
theorem Q04 (h:Dm a0 a1 w K):Q0 P F.bm [a0,a1] w K:=zr As Tryz.func40 h
def Q0R:L7:=Y4 13++[some ([9],[9,41,42,43,44,45,46,47,48,49,50,51,52])]++Y4 5
def Hh:Yy:=fun a0 q E w K=>box P T.a a0 w fun a w=>G9 P T.a w fun i w=>V5 .eql T.b 10 q #[110,117,108,108] w fun g w=>Z8 g false w T.a T.i a 0 fun H w=>X6 g false q w fun J w=>Q1 g false w (Q0 P F.a4 [H,J]) fun L w=>Q1 g false w (W0 P .not L) fun M w=>pick P g (.bool true) M w fun h w=>X6 h false q w fun N w=>Q1 h false w (Q0 P F.a3 [N]) fun O w=>Q1 h false w (X4 .gtr T.f 21 O 2) fun Q w=>pick P h (.bool true) Q w fun R w=>X1 R (Q6 P T.a a w fun U w=>J9 P T.a i U w fun _u w=>J5 P T.a i w fun j=>K (.tuple #[j,(.int .i64 91)]) w) (X4 .lss T.a4 25 E 0 w fun V w=>X1 V (Q6 P T.a a w fun W w=>J9 P T.a i W w fun _u w=>J5 P T.a i w fun j=>K (.tuple #[j,(.int .i64 93)]) w) (X4 .gtr T.a4 28 E 1048576 w fun d w=>X6 d false E w fun X w=>Q1 d false w (Z9 P .add T.f (.const (.int .i64 1)) (.tmp 31) (.int .i64 1) X) fun Y w=>Q1 d false w (Q6 P T.a a) fun Z w=>Q1 d false w (Q0 P F.aZ [Z]) fun aa w=>Q1 d false w (X5 .gtr T.f 32 34 Y aa) fun ab w=>pick P d (.bool true) ab w fun ac w=>X1 ac (Q6 P T.a a w fun ad w=>J9 P T.a i ad w fun _u w=>J5 P T.a i w fun j=>K (.tuple #[j,(.int .i64 90)]) w) (V5 .add T.b 38 q #[91,93] w fun ae w=>B7 P T.n [(0,ae)] w fun af w=>N0 T.n af w fun b w=>lp (α:=Value) (.int .i64 0) w fun f v d_ w=>X5 .lss T.a4 41 42 v E w fun ag w=>X1 ag (dr w fun e c=>Y3 e c (fieldAddr P T.n b 1) fun y=>X3 e c y (fun k=>Q6 P T.l k) fun an=>Y3 e c (Q0 P F.b0 [q]) fun z=>X3 e c z (fun l=>buildSlice P T.l 1 [(0,l)]) fun ao=> ∀k r l s w,c w->y k w->an r w->z l w->ao s w->V0 P .append [T.l,T.l] T.l [false,false] [r,s] w fun ai w=>fieldAddr P T.n b 1 w fun aj w=>J9 P T.l aj ai w fun _u w=>X4 .add T.a4 44 v 1 w fun ah w=>f ah w) (dr w fun e c=>Y3 e c (fieldAddr P T.a a 2) fun B=>Y3 e c (buildSlice P T.g 0 []) fun A=>X3 e c B (fun n=>Q6 P T.g n) fun C=>L9 e c A C (fun m o=>V0 P .append [T.g,T.g] T.g [false,false] [m,o]) fun ap=>Y3 e c (Q6 P T.n b) fun D=>X3 e c D (fun p=>buildSlice P T.g 1 [(0,p)]) fun aq=> ∀n m o t p u w,c w->B n w->A m w->C o w->ap t w->D p w->aq u w->V0 P .append [T.g,T.g] T.g [false,false] [t,u] w fun ak w=>fieldAddr P T.a a 2 w fun al w=>J9 P T.g al ak w fun _u w=>Q6 P T.a a w fun am w=>J9 P T.a i am w fun _u w=>J5 P T.a i w fun j=>K (.tuple #[j,(.int .i64 0)]) w))))
theorem Q1q (h:Hh a0 a1 a2 w K):Q0 P F.bD [a0,a1,a2] w K:=zr Q0R Tryz.func41 h
def Q7B:H0:=fun b w K=>Q0 P F.a2 [b] w fun f w=>W0 P .not f w fun a w=>X6 a false b w fun g w=>Q1 a false w (Q0 P F.cE [g]) fun h w=>Q1 a false w (X4 .eql T.f 9 h 3) fun c w=>pick P a (.bool true) c w fun d w=>X1 d (K (.tuple #[(.string ⟨#[]⟩),(.int .i64 30)]) w) (V5 .add T.b 12 b #[91,93] w fun e w=>K (.tuple #[e,(.int .i64 0)]) w)
theorem X4f (h:Q7B a0 w K):Q0 P F.d4 [a0] w K:=zr (Y4 5) Tryz.func88 h
def Q1T:L7:=Y4 12++[some ([45],[11,45,46,47,48,49,50,51,52,53])]++Y4 5
def Ri:Yy:=fun h f g w K=>Q0 P F.d4 [f] w fun i w=>D9 i w fun j k w=>X4 .neq T.v 18 k 0 w fun a w=>X6 a false h w fun l w=>Q1 a false w (nilCheck P l) fun m w=>Z8 a false w T.t T.z m 0 fun n w=>X6 a false f w fun o w=>Q1 a false w (Q0 P F.ad [n,o]) fun p w=>Q1 a false w (W0 P .not p) fun q w=>pick P a (.bool true) q w fun c w=>X6 c false f w fun r w=>Q1 c false w (V5 .eql T.b 30 r #[110,117,108,108]) fun s w=>pick P c (.bool true) s w fun t w=>X1 t (K (.tuple #[(.int .i64 0),(.int .i64 91)]) w) (X4 .lss T.a4 34 g 0 w fun u w=>X1 u (K (.tuple #[(.int .i64 0),(.int .i64 93)]) w) (Q0 P F.aD [h] w fun v w=>X5 .geq T.a4 37 39 g v w fun y w=>X1 y (K (.tuple #[(.int .i64 0),(.int .i64 90)]) w) (St P T.l g g w fun d w=>Y0 T.l d w fun z w=>lp (α:=Value) (.int .i64 0) w fun b e J w=>X5 .lss T.f 45 44 e z w fun A w=>X1 A (Q0 P F.cD [f] w fun B w=>indexAddr P T.l d e w fun C w=>J9 P T.d C B w fun _u w=>V3 45 e w b) (Q0 P F.b8 [h,j,d] w fun D w=>D9 D w fun E H w=>K (.tuple #[E,H]) w))))
theorem Q27 (h:Ri a0 a1 a2 w K):Q0 P F.bG [a0,a1,a2] w K:=zr Q1T Tryz.func42 h
def Hi:Yy:=fun s d r w K=>box P T.a s w fun b w=>X4 .lss T.f 7 d 0 w fun c w=>X6 c false d w fun e w=>Z8 c false w T.a T.g b 2 fun f w=>Q1 c false w (Y0 T.g f) fun g w=>Q1 c false w (X5 .geq T.f 10 13 e g) fun h w=>pick P c (.bool true) h w fun i w=>X1 i (K (.int .i64 92) w) (X4 .lss T.a4 16 r 0 w fun a w=>X6 a false r w fun j w=>Z8 a false w T.a T.g b 2 fun k w=>X6 a false d w fun l w=>Q1 a false w (indexAddr P T.g k l) fun m w=>Z8 a false w T.n T.l m 1 fun n w=>Q1 a false w (Y0 T.l n) fun o w=>Q1 a false w (X5 .geq T.a4 19 26 j o) fun p w=>pick P a (.bool true) p w fun q w=>X1 q (K (.int .i64 93) w) (K (.int .i64 0) w))
theorem Q1r (h:Hi a0 a1 a2 w K):Q0 P F.aO [a0,a1,a2] w K:=zr (Y4 8) Tryz.func90 h
def Q4q:L7:=[none,none,some ([],[4,14,15,16,17,18,19,20,21,22,23,24,25,26,27,28,29,30,31,32,33,34,35,36,37,38,39,40,41,42,43,44,45,46,47,48,49,50,51,52,53,54,55,56,57,58,59,60,61,62,63,64,65,66,67,68,69,70,71,72,73,74,75,76,77,78,79,80,81,82,83,84,85,86,87,88,89,90])]++Y4 17
def Fb:L3:=fun a0 a1 w K=>box P T.a a0 w fun t2 w=>box P T.d a1 w fun b w=>Y1 T.d T.f b 3 w fun t7 w=>X4 .eql T.f 7 t7 0 w fun Z w=>Z8 Z true w T.d T.b b 2 fun l w=>Q1 Z true w (V5 .eql T.b 11 l #[]) fun m w=>pick P Z m (.bool false) w fun a w=>jn (α:=Unit) w (fun k w=>Y1 T.d T.f b 0 w fun c w=>X4 .eql T.f 15 c 0 w fun n w=>X1 n (Z8 a true w T.d T.a4 b 1 fun o w=>Q1 a true w (X4 .eql T.a4 21 o 0) fun p w=>pick P a p (.bool false) w fun q w=>X1 q (K (.string ⟨#[110,117,108,108]⟩) w) (k () w)) (X4 .eql T.f 15 c 1 w fun r w=>X1 r (X1 a (K (.string ⟨#[105,110,116]⟩) w) (k () w)) (X4 .eql T.f 15 c 2 w fun s w=>X1 s (Z8 a true w T.d T.a4 b 1 fun t w=>Q1 a true w (X4 .eql T.a4 32 t 0) fun u w=>X6 a true u w fun f w=>Z8 f false w T.d T.a4 b 1 fun v w=>Q1 f false w (X4 .eql T.a4 36 v 1) fun y w=>Q1 a true w (pick P f (.bool true) y) fun z w=>pick P a z (.bool false) w fun A w=>X1 A (K (.string ⟨#[98,111,111,108]⟩) w) (k () w)) (X4 .eql T.f 15 c 3 w fun B w=>X1 B (Y1 T.d T.a4 b 1 w fun C w=>X4 .eql T.a4 43 C 0 w fun g w=>Z8 g true w T.d T.f b 3 fun D w=>Q1 g true w (X4 .eql T.f 47 D 0) fun E w=>pick P g E (.bool false) w fun e w=>Z8 e true w T.d T.b b 2 fun H w=>Q1 e true w (Y0 T.b H) fun J w=>Q1 e true w (X4 .leq T.f 53 J 4096) fun L w=>pick P e L (.bool false) w fun h w=>Z8 h true w T.d T.b b 2 fun M w=>Q1 h true w (Q0 P F.aM [M]) fun N w=>pick P h N (.bool false) w fun O w=>X1 O (K (.string ⟨#[116,101,120,116]⟩) w) (k () w)) (X4 .eql T.f 15 c 4 w fun Q w=>X1 Q (Y1 T.d T.a4 b 1 w fun R w=>X4 .eql T.a4 64 R 0 w fun i w=>Z8 i true w T.d T.b b 2 fun U w=>Q1 i true w (V5 .eql T.b 68 U #[]) fun V w=>pick P i V (.bool false) w fun j w=>Z8 j true w T.d T.f b 3 fun W w=>Q1 j true w (X4 .geq T.f 73 W 0) fun X w=>pick P j X (.bool false) w fun d w=>Z8 d true w T.d T.f b 3 fun Y w=>Z8 d true w T.a T.g t2 2 fun aa w=>Q1 d true w (Y0 T.g aa) fun ab w=>Q1 d true w (X5 .lss T.f 78 81 Y ab) fun ac w=>pick P d ac (.bool false) w fun ad w=>X1 ad (Y1 T.a T.g t2 2 w fun ae w=>Y1 T.d T.f b 3 w fun af w=>indexAddr P T.g ae af w fun ag w=>Y1 T.n T.b ag 0 w fun ah w=>K ah w) (k () w)) (k () w)))))) fun z2 d_ w=>K (.string ⟨#[]⟩) w
theorem Q4y (h:Fb a0 a1 w K):Q0 P F.aI [a0,a1] w K:=zr Q4q Tryz.func10 h
def Cy:Yy:=fun k e f w K=>Q0 P F.a4 [k,e] w fun n w=>W0 P .not n w fun b w=>X6 b false k w fun o w=>X6 b false f w fun p w=>Q1 b false w (Q0 P F.a4 [o,p]) fun q w=>Q1 b false w (W0 P .not q) fun r w=>pick P b (.bool true) r w fun c w=>X6 c false e w fun s w=>X6 c false f w fun t w=>Q1 c false w (X5 .eql T.b 20 21 s t) fun u w=>pick P c (.bool true) u w fun v w=>X1 v (X5 .eql T.b 24 25 e f w fun d w=>X6 d true k w fun y w=>X6 d true e w fun z w=>Q1 d true w (Q0 P F.a4 [y,z]) fun A w=>pick P d A (.bool false) w fun B w=>K B w) (Q0 P F.z [e] w fun g w=>X6 g false f w fun C w=>Q1 g false w (Q0 P F.z [C]) fun D w=>pick P g (.bool true) D w fun h w=>X6 h false f w fun E w=>Q1 h false w (V5 .eql T.b 39 E #[110,117,108,108]) fun H w=>pick P h (.bool true) H w fun J w=>X1 J (K (.bool false) w) (V5 .eql T.b 42 e #[110,117,108,108] w fun i w=>X6 i false f w fun L w=>Q1 i false w (V5 .eql T.b 45 L #[79,98,106,101,99,116]) fun M w=>pick P i (.bool true) M w fun N w=>X1 N (K (.bool true) w) (Q0 P F.b [k,e] w fun l w=>Q0 P F.b [k,f] w fun m w=>X4 .geq T.f 54 l 0 w fun j w=>X6 j true m w fun O w=>Q1 j true w (X4 .geq T.f 57 O 0) fun Q w=>pick P j Q (.bool false) w fun a w=>X6 a true k w fun R w=>Q1 a true w (Q0 P F.al [R]) fun U w=>X6 a true l w fun V w=>zhi a true w T.ad T.ab U V fun W w=>X6 a true m w fun X w=>zhi a true w T.ab T.r W X fun Y w=>pick P a Y (.bool false) w fun Z w=>K Z w)))
theorem Q3v (h:Cy a0 a1 a2 w K):Q0 P F.bZ [a0,a1,a2] w K:=zr (Y4 12) Tryz.func133 h
def Rz:Yy:=fun j k l w K=>box P T.a j w fun b w=>box P T.d k w fun c w=>Q6 P T.a b w fun m w=>Q6 P T.d c w fun n w=>Q0 P F.aI [m,n] w fun d w=>V5 .neq T.b 11 d #[] w fun a w=>Z8 a true w T.a T.i b 0 fun e w=>X6 a true d w fun f w=>X6 a true l w fun g w=>Q1 a true w (Q0 P F.bZ [e,f,g]) fun h w=>pick P a h (.bool false) w fun i w=>K i w
theorem Q2o (h:Rz a0 a1 a2 w K):Q0 P F.bL [a0,a1,a2] w K:=zr (Y4 3) Tryz.func91 h
def Rs:H0:=fun d w K=>Y0 T.b d w fun r w=>X4 .lss T.f 6 r 3 w fun c w=>X6 c false d w fun s w=>X6 c false r w fun e w=>Q1 c false w (X4 .sub T.f 10 e 2) fun f w=>Q1 c false w (I3 P T.b s (some f) none none) fun g w=>Q1 c false w (V5 .neq T.b 12 g #[91,93]) fun h w=>pick P c (.bool true) h w fun a w=>X6 a false d w fun i w=>Q1 a false w (Q0 P F.a3 [i]) fun j w=>Q1 a false w (X4 .gtr T.f 17 j 3) fun k w=>pick P a (.bool true) k w fun b w=>X6 b false d w fun l w=>Q1 b false w (Q0 P F.f [l]) fun m w=>Q1 b false w (W0 P .not m) fun n w=>pick P b (.bool true) n w fun o w=>X1 o (K (.string ⟨#[]⟩) w) (X4 .sub T.f 26 r 2 w fun p w=>I3 P T.b d none (some p) none w fun q w=>K q w)
theorem Q2h (h:Rs a0 w K):Q0 P F.aV [a0] w K:=zr (Y4 6) Tryz.func65 h
def Sc:Yy:=fun j k l w K=>box P T.a j w fun b w=>box P T.n k w fun a w=>Y1 T.n T.b a 0 w fun m w=>Q0 P F.aV [m] w fun c w=>V5 .neq T.b 11 c #[] w fun d w=>X1 d (K c w) (Y1 T.a T.i b 0 w fun e w=>Y1 T.n T.b a 0 w fun f w=>Q0 P F.l [e,f] w fun g w=>indexAddr P T.k g l w fun h w=>Y1 T.o T.b h 1 w fun i w=>K i w)
theorem Q2r (h:Sc a0 a1 a2 w K):Q0 P F.bM [a0,a1,a2] w K:=zr (Y4 6) Tryz.func92 h
def Be:zV4:=fun a0 y z a3 w K=>box P T.a a0 w fun a w=>box P T.d a3 w fun b w=>G9 P T.a w fun k w=>Q6 P T.a a w fun A w=>Q0 P F.aO [A,y,z] w fun m w=>X4 .neq T.v 17 m 0 w fun B w=>X1 B (Q6 P T.a a w fun C w=>J9 P T.a k C w fun _u w=>J5 P T.a k w fun l=>K (.tuple #[l,m]) w) (dr w fun d c=>Y3 d c (fieldAddr P T.a a 2) fun s=>Y3 d c (Q6 P T.a a) fun Y=>Y3 d c (Q6 P T.d b) fun Z=>Y3 d c (Q6 P T.a a) fun r=>X3 d c s (fun f=>Q6 P T.g f) fun t=>X3 d c t (fun g=>indexAddr P T.g g y) fun u=>X3 d c u (fun h=>Q6 P T.n h) fun v=>L9 d c r v (fun e i=>Q0 P F.bM [e,i,z]) fun aa=> ∀f n o e g h i p w,c w->s f w->Y n w->Z o w->r e w->t g w->u h w->v i w->aa p w->Q0 P F.bL [n,o,p] w fun D w=>W0 P .not D w fun E w=>X1 E (Q6 P T.a a w fun H w=>J9 P T.a k H w fun _u w=>J5 P T.a k w fun l=>K (.tuple #[l,(.int .i64 91)]) w) (buildSlice P T.g 0 [] w fun J w=>Y1 T.a T.g a 2 w fun L w=>V0 P .append [T.g,T.g] T.g [false,false] [J,L] w fun j w=>buildSlice P T.l 0 [] w fun M w=>indexAddr P T.g j y w fun N w=>Y1 T.n T.l N 1 w fun O w=>V0 P .append [T.l,T.l] T.l [false,false] [M,O] w fun q w=>Q6 P T.d b w fun Q w=>indexAddr P T.l q z w fun R w=>J9 P T.d R Q w fun _u w=>indexAddr P T.g j y w fun U w=>fieldAddr P T.n U 1 w fun V w=>J9 P T.l V q w fun _u w=>fieldAddr P T.a a 2 w fun W w=>J9 P T.g W j w fun _u w=>Q6 P T.a a w fun X w=>J9 P T.a k X w fun _u w=>J5 P T.a k w fun l=>K (.tuple #[l,(.int .i64 0)]) w))
theorem Q3B (h:Be a0 a1 a2 a3 w K):Q0 P F.c3 [a0,a1,a2,a3] w K:=zr (Y4 14) Tryz.func43 h
def Bd:Yy:=fun m k l w K=>box P T.a m w fun a w=>G9 P T.d w fun c w=>Q6 P T.a a w fun n w=>Q0 P F.aO [n,k,l] w fun b w=>X4 .neq T.v 13 b 0 w fun e w=>X1 e (B7 P T.d [] w fun f w=>J9 P T.d c f w fun _u w=>J5 P T.d c w fun d=>K (.tuple #[d,b]) w) (Y1 T.a T.g a 2 w fun g w=>indexAddr P T.g g k w fun h w=>Y1 T.n T.l h 1 w fun i w=>V1 T.l T.d i l w fun j w=>J9 P T.d c j w fun _u w=>J5 P T.d c w fun d=>K (.tuple #[d,(.int .i64 0)]) w)
theorem Q3A (h:Bd a0 a1 a2 w K):Q0 P F.c2 [a0,a1,a2] w K:=zr (Y4 6) Tryz.func44 h
def Bw:Yy:=fun k l m w K=>G9 P T.d w fun b w=>Q0 P F.aR [k,l,m] w fun a w=>X4 .neq T.v 13 a 0 w fun d w=>X1 d (B7 P T.d [] w fun e w=>J9 P T.d b e w fun _u w=>J5 P T.d b w fun c=>K (.tuple #[c,a]) w) (nilCheck P k w fun f w=>Y1 T.t T.g f 3 w fun g w=>indexAddr P T.g g l w fun h w=>Y1 T.n T.l h 1 w fun i w=>V1 T.l T.d i m w fun j w=>J9 P T.d b j w fun _u w=>J5 P T.d b w fun c=>K (.tuple #[c,(.int .i64 0)]) w)
theorem Q4t (h:Bw a0 a1 a2 w K):Q0 P F.b7 [a0,a1,a2] w K:=zr (Y4 6) Tryz.func45 h
def Ut:L7:=[none,none,none,some ([8],[4,5,8,9,10,11,12,13,14,15,16,17,18])]++Y4 7
def Qm:L3:=fun e f w K=>Y0 T.l e w fun g w=>lp (α:=Value) (.int .i64 0) w fun a b i w=>X5 .lss T.f 8 7 b g w fun h w=>X1 h (V1 T.l T.d e b w fun c w=>U7 P f [c] w fun d w=>X1 d (K b w) (V3 8 b w a)) (K (.int .i64 (-1)) w)
theorem Vc (h:Qm a0 a1 w K):Q0 P F.a8 [a0,a1] w K:=zr Ut Tryz.func134 h
def T2:L3:=fun a b w K=>Q0 P F.a8 [a,b] w fun c w=>X4 .geq T.f 7 c 0 w fun d w=>K d w
theorem Jh (h:T2 a0 a1 w K):Q0 P F.o [a0,a1] w K:=zr (Y4 2) Tryz.func93 h
def Rj:L3:=fun f g w K=>box P T.d f w fun a w=>Y1 T.d T.f a 0 w fun h w=>X4 .eql T.f 5 h 4 w fun b w=>Z8 b true w T.d T.f a 3 fun i w=>Q1 b true w (Q6 P T.f g) fun c w=>Q1 b true w (X5 .geq T.f 9 10 i c) fun d w=>pick P b d (.bool false) w fun e w=>K e w
theorem Q28 (h:Rj a0 a1 w K):Q0 P F.bH [a0,a1] w K:=zr (Y4 2) Tryz.func94 h
def Q4p:L7:=[none,none,none,none,some ([22],[5,22,23,24,25,26,27,28,29,30])]++Y4 5++[some ([],[6,31,32,33,34,35,36,37,38,39,40,41,42,43,44,45,46,47,48,49,50,51,52,53,54,55,56,57,58,59,60,61,62,63,64,65,66,67,68,69]),none,none,none,none]
def Bv:L3:=fun d a1 w K=>box P T.f a1 w fun D w=>Q6 P T.f D w fun t7 w=>V0 P .max [T.f,T.f] T.f [false,true] [t7,(.int .i64 0)] w fun t8 w=>J9 P T.f D t8 w fun _u w=>dr w fun b a=>Y3 b a (nilCheck P d) fun N=>X3 b a N (fun f=>fieldAddr P T.t f 3) fun O=>Y3 b a (nilCheck P d) fun R=>X3 b a R (fun i=>fieldAddr P T.t i 3) fun U=>X3 b a O (fun g=>Q6 P T.g g) fun a7=>Y3 b a (Q6 P T.f D) fun Q=>X3 b a U (fun j=>Q6 P T.g j) fun V=>X3 b a V (fun k=>Y0 T.g k) fun W=>L9 b a Q W (fun h l=>V0 P .min [T.f,T.f] T.f [false,false] [h,l]) fun a8=> ∀f g i j A h k l B w,a w->N f w->O g w->R i w->U j w->a7 A w->Q h w->V k w->W l w->a8 B w->I3 P T.g A none (some B) none w fun C w=>Y0 T.g C w fun aj w=>lp (α:=Value) (.int .i64 0) w fun e x4 d_ w=>X5 .lss T.f 22 21 x4 aj w fun ak w=>X1 ak (V1 T.g T.n C x4 w fun al w=>N0 T.n al w fun t5 w=>Y1 T.n T.l t5 1 w fun am w=>C5 P (.func F.bH) [] [D] w fun an w=>Q0 P F.o [am,an] w fun ao w=>X1 ao (K (.tuple #[]) w) (V3 22 x4 w e)) (lp (α:=Unit) () w fun c bi d_ w=>dr w fun b a=>Y3 b a (nilCheck P d) fun X=>X3 b a X (fun m=>fieldAddr P T.t m 3) fun Y=>X3 b a Y (fun n=>Q6 P T.g n) fun Z=>X3 b a Z (fun o=>Y0 T.g o) fun a9=>Y3 b a (Q6 P T.f D) fun ba=> ∀m n o E H w,a w->X m w->Y n w->Z o w->a9 E w->ba H w->X5 .gtr T.f 35 36 E H w fun ap w=>X1 ap (nilCheck P d w fun aq w=>Y1 T.t T.g aq 3 w fun ar w=>Y0 T.g ar w fun av w=>X4 .sub T.f 42 av 1 w fun J w=>dr w fun b a=>Y3 b a (nilCheck P d) fun aa=>X3 b a aa (fun p=>fieldAddr P T.t p 2) fun ab=>Y3 b a (nilCheck P d) fun ac=>X3 b a ac (fun r=>fieldAddr P T.t r 3) fun ad=>X3 b a ab (fun q=>Q6 P T.f q) fun bb=>X3 b a ad (fun s=>Q6 P T.g s) fun ae=>X3 b a ae (fun t=>indexAddr P T.g t J) fun af=>X3 b a af (fun u=>fieldAddr P T.n u 1) fun ag=>X3 b a ag (fun v=>Q6 P T.l v) fun ah=>X3 b a ah (fun y=>Y0 T.l y) fun ai=>X3 b a ai (fun z=>Z9 P .add T.f (.const (.int .i64 1)) (.tmp 56) (.int .i64 1) z) fun bc=> ∀p q r s L t u v y z M w,a w->aa p w->ab q w->ac r w->ad s w->bb L w->ae t w->af u w->ag v w->ah y w->ai z w->bc M w->X5 .sub T.f 47 57 L M w fun aw w=>nilCheck P d w fun ax w=>fieldAddr P T.t ax 2 w fun ay w=>J9 P T.f ay aw w fun _u w=>nilCheck P d w fun az w=>Y1 T.t T.g az 3 w fun a2 w=>I3 P T.g a2 none (some J) none w fun a3 w=>nilCheck P d w fun a4 w=>fieldAddr P T.t a4 3 w fun a5 w=>J9 P T.g a5 a3 w fun _u w=>c () w) (K (.tuple #[]) w))
theorem Q4s (h:Bv a0 a1 w K):Q0 P F.ca [a0,a1] w K:=zr Q4p Tryz.func46 h
def Q3g:L7:=[none,some ([1],[1,8,9]),none,none,none,some ([5],[5,6,7,10,11,12,13,14,15,16,17,18,19,20,21,22,23,24,25,26,27,28,29,30,31,32,33,34,35,36,37,38,39,40,41,42,43,44,45,46,47,48,49,50,51]),none,none,none,none,some ([6],[6,7,22,23,24,25,26,27,28,29,30,31,32,33,34,35,36,37,38,39,40,41,42,43,44,45,46,47,48,49,50,51])]++Y4 6++[some ([],[52,53,54,55,56,57,58,59,60,61,62,63]),none,none]
def Bb:L3:=fun a0 Z w K=>box P T.a a0 w fun e w=>G9 P T.a w fun i w=>jn (α:=Value) w (fun Y w=>X4 .lss T.f 8 Z 0 w fun t9 w=>X1 t9 (Y (.int .i64 0) w) (Y Z w)) fun j k w=>lp (α:=Value) (.int .i64 0) w fun c h k w=>X5 .lss T.f 10 11 h j w fun b w=>X6 b true h w fun m w=>Z8 b true w T.a T.g e 2 fun n w=>Q1 b true w (Y0 T.g n) fun o w=>Q1 b true w (X5 .lss T.f 14 17 m o) fun p w=>pick P b p (.bool false) w fun q w=>X1 q (lp (α:=Value) (.int .i64 0) w fun a f k w=>Y1 T.a T.g e 2 w fun r w=>indexAddr P T.g r h w fun s w=>Y1 T.n T.l s 1 w fun t w=>Y0 T.l t w fun u w=>X5 .lss T.f 22 29 f u w fun v w=>X1 v (Y1 T.a T.g e 2 w fun y w=>indexAddr P T.g y h w fun z w=>Y1 T.n T.l z 1 w fun A w=>V1 T.l T.d A f w fun B w=>N0 T.d B w fun t7 w=>Y1 T.d T.f t7 0 w fun C w=>X4 .eql T.f 43 C 4 w fun d w=>Z8 d true w T.d T.f t7 3 fun D w=>X6 d true j w fun E w=>Q1 d true w (X5 .geq T.f 47 48 D E) fun H w=>pick P d H (.bool false) w fun J w=>X1 J (Q6 P T.a e w fun L w=>J9 P T.a i L w fun _u w=>J5 P T.a i w fun l=>K l w) (V3 31 f w a)) (V3 20 h w c)) (jn (α:=Unit) w (fun g w=>Y1 T.a T.g e 2 w fun M w=>Y0 T.g M w fun N w=>X5 .lss T.f 52 55 j N w fun O w=>X1 O (buildSlice P T.g 0 [] w fun Q w=>Y1 T.a T.g e 2 w fun R w=>I3 P T.g R none (some j) none w fun U w=>V0 P .append [T.g,T.g] T.g [false,false] [Q,U] w fun V w=>fieldAddr P T.a e 2 w fun W w=>J9 P T.g W V w fun _u w=>g () w) (g () w)) fun ad k w=>Q6 P T.a e w fun X w=>J9 P T.a i X w fun _u w=>J5 P T.a i w fun l=>K l w)
theorem Q3y (h:Bb a0 a1 w K):Q0 P F.c0 [a0,a1] w K:=zr Q3g Tryz.func47 h
def Fa:Yy:=fun a0 a1 a2 w K=>box P T.a a1 w fun t4 w=>box P T.m a2 w fun m w=>G9 P T.a w fun A w=>Y1 T.m T.f m 0 w fun ab w=>X4 .eql T.f 23 ab 0 w fun du w=>X1 du (Q6 P T.a t4 w fun dv w=>Y1 T.m T.b m 1 w fun dw w=>Q0 P F.bm [dv,dw] w fun dx w=>D9 dx w fun dy a8 w=>N0 T.a dy w fun t8 w=>Y1 T.m T.b m 1 w fun dz w=>Q0 P F.q [a0,dz] w fun d0 w=>D9 d0 w fun cs d1 w=>dr w fun b a=>Y3 b a (X5 .eql T.v 41 42 a8 d1) fun o=>X3 b a o (fun c=>V8 c (fun w J=>J a8 w)) fun cz=>L9 b a o cz (fun c a9=>V8 c (X4 .neq T.v 45 a9 0)) fun c0=>L9 b a o c0 (fun c ba=>V8 c (fun w J=>J ba w)) fun ae=>X3 b a ae (fun q=>V8 q (fun w J=>J cs w)) fun c1=>L9 b a ae c1 (fun q bb=>V8 q (X4 .eql T.f 48 bb 0)) fun c2=>Xq b a o ae c2 (fun c q bc=>V8 c (pick P q bc (.bool false))) fun c3=>L9 b a o c3 (fun c bd=>V8 c (fun w J=>J bd w)) fun y=>X3 b a y (fun h=>Wn h (fun w J=>J a8 w)) fun c4=>L9 b a y c4 (fun h be=>Wn h (X4 .eql T.v 52 be 0)) fun c5=>L9 b a y c5 (fun h bf=>Wn h (fun w J=>J bf w)) fun s=>X3 b a s (fun f=>V8 f (fun w J=>J cs w)) fun c6=>X3 b a s (fun f=>V8 f (fieldAddr P T.a t4 2)) fun c7=>Y3 b a (Q6 P T.a t8) fun cy=>L9 b a s c7 (fun f bh=>V8 f (Q6 P T.g bh)) fun c8=>L9 b a s c8 (fun f bi=>V8 f (Y0 T.g bi)) fun c9=>Xq b a s c6 c9 (fun f bg bj=>V8 f (X5 .eql T.f 55 58 bg bj)) fun da=>Xq b a y s da (fun h f bk=>Wn h (pick P f bk (.bool false))) fun db=>Xq b a o y db (fun c h bl=>V8 c (pick P h (.bool true) bl)) fun dc=>L9 b a o dc (fun c bm=>pick P c bm (.bool false)) fun ed=>Gv b (fun j=> ∀u w,a w->cy u w->J9 P T.a A u w (dk b (j [u]) w)) fun j=> ∀c a9 ba q bb bc bd h be bf f bg bh u bi bj bk bl bm ct bz w,a w->o c w->cz a9 w->c0 ba w->ae q w->c1 bb w->c2 bc w->c3 bd w->y h w->c4 be w->c5 bf w->s f w->c6 bg w->c7 bh w->cy u w->c8 bi w->c9 bj w->da bk w->db bl w->dc bm w->ed ct w->j [u] bz w->J5 P T.a A w fun B=>K (.tuple #[B,ct]) w) (X4 .eql T.f 23 ab 1 w fun d2 w=>X1 d2 (Q6 P T.a t4 w fun d3 w=>Y1 T.m T.b m 1 w fun d4 w=>Y1 T.m T.a4 m 2 w fun d5 w=>Q0 P F.bD [d3,d4,d5] w fun d6 w=>D9 d6 w fun d7 bn w=>N0 T.a d7 w fun dp w=>Y1 T.m T.b m 1 w fun d8 w=>Y1 T.m T.a4 m 2 w fun d9 w=>Q0 P F.bG [a0,d8,d9] w fun ea w=>D9 ea w fun cu eb w=>dr w fun b a=>Y3 b a (X5 .eql T.v 84 85 bn eb) fun p=>X3 b a p (fun d=>V8 d (fun w J=>J bn w)) fun de=>L9 b a p de (fun d bo=>V8 d (X4 .neq T.v 88 bo 0)) fun df=>L9 b a p df (fun d bp=>V8 d (fun w J=>J bp w)) fun af=>X3 b a af (fun r=>V8 r (fun w J=>J cu w)) fun dg=>L9 b a af dg (fun r bq=>V8 r (X4 .eql T.f 91 bq 0)) fun dh=>Xq b a p af dh (fun d r br=>V8 d (pick P r br (.bool false))) fun di=>L9 b a p di (fun d bs=>V8 d (fun w J=>J bs w)) fun z=>X3 b a z (fun i=>Wn i (fun w J=>J bn w)) fun dj=>L9 b a z dj (fun i bu=>Wn i (X4 .eql T.v 95 bu 0)) fun dl=>L9 b a z dl (fun i bv=>Wn i (fun w J=>J bv w)) fun t=>X3 b a t (fun g=>V8 g (fun w J=>J cu w)) fun dm=>X3 b a t (fun g=>V8 g (fieldAddr P T.a t4 2)) fun dn=>Y3 b a (Q6 P T.a dp) fun dd=>L9 b a t dn (fun g bx=>V8 g (Q6 P T.g bx)) fun aj=>L9 b a t aj (fun g C=>V8 g (Y0 T.g C)) fun ak=>Xq b a t dm ak (fun g bw D=>V8 g (X5 .eql T.f 98 101 bw D)) fun al=>Xq b a z t al (fun i g E=>Wn i (pick P g E (.bool false))) fun am=>Xq b a p z am (fun d i H=>V8 d (pick P i (.bool true) H)) fun an=>L9 b a p an (fun d L=>pick P d L (.bool false)) fun cv=>Gv b (fun j=> ∀v w,a w->dd v w->J9 P T.a A v w (dk b (j [v]) w)) fun j=> ∀d bo bp r bq br bs i bu bv g bw bx v C D E H L ag bz w,a w->p d w->de bo w->df bp w->af r w->dg bq w->dh br w->di bs w->z i w->dj bu w->dl bv w->t g w->dm bw w->dn bx w->dd v w->aj C w->ak D w->al E w->am H w->an L w->cv ag w->j [v] bz w->J5 P T.a A w fun B=>K (.tuple #[B,ag]) w) (X4 .eql T.f 23 ab 2 w fun b2 w=>X1 b2 (Q6 P T.a t4 w fun b3 w=>Y1 T.m T.f m 3 w fun b4 w=>Y1 T.m T.a4 m 2 w fun b5 w=>Y1 T.m T.d m 4 w fun b6 w=>Q0 P F.c3 [b3,b4,b5,b6] w fun b7 w=>D9 b7 w fun b8 b9 w=>N0 T.a b8 w fun dq w=>dr w fun b a=>Y3 b a (fieldAddr P T.m m 3) fun ap=>Y3 b a (fieldAddr P T.m m 2) fun ar=>Y3 b a (fieldAddr P T.m m 4) fun aw=>Y3 b a (Q6 P T.a dq) fun ao=>X3 b a ap (fun M=>Q6 P T.f M) fun aq=>X3 b a ar (fun O=>Q6 P T.a4 O) fun av=>X3 b a aw (fun R=>Q6 P T.d R) fun ax=>Xq b a aq av ax (fun N Q U=>Q0 P F.u [a0,N,Q,U]) fun ay=>X3 b a ay (fun V=>X5 .eql T.v 127 128 V b9) fun cw=>Gv b (fun ac=> ∀k w,a w->ao k w->J9 P T.a A k w (dk b (ac [k]) w)) fun ac=> ∀M O R k N Q U V ah ec w,a w->ap M w->ar O w->aw R w->ao k w->aq N w->av Q w->ax U w->ay V w->cw ah w->ac [k] ec w->J5 P T.a A w fun B=>K (.tuple #[B,ah]) w) (X4 .eql T.f 23 ab 3 w fun ca w=>X1 ca (Q6 P T.a t4 w fun cb w=>Y1 T.m T.f m 3 w fun cc w=>Y1 T.m T.a4 m 2 w fun cd w=>Q0 P F.c2 [cb,cc,cd] w fun ce w=>D9 ce w fun cf cg w=>N0 T.d cf w fun ds w=>Y1 T.m T.f m 3 w fun ch w=>Y1 T.m T.a4 m 2 w fun ci w=>Q0 P F.b7 [a0,ch,ci] w fun cj w=>D9 cj w fun ck cl w=>N0 T.d ck w fun dt w=>dr w fun b a=>Y3 b a (Q6 P T.a t4) fun az=>Y3 b a (Q6 P T.d ds) fun a3=>Y3 b a (Q6 P T.d dt) fun a4=>L9 b a a3 a4 (fun W X=>X5 .eql T.d 151 152 W X) fun n=>X3 b a n (fun e=>V8 e (fun w J=>J cg w)) fun a5=>X3 b a n (fun e=>V8 e (fun w J=>J cl w)) fun a6=>Xq b a n a5 a6 (fun e Y Z=>V8 e (X5 .eql T.v 155 156 Y Z)) fun a7=>L9 b a n a7 (fun e aa=>pick P e aa (.bool false)) fun cx=>Gv b (fun b0=> ∀l w,a w->az l w->J9 P T.a A l w (dk b (b0 [l]) w)) fun b0=> ∀l W X e Y Z aa ai u9 w,a w->az l w->a3 W w->a4 X w->n e w->a5 Y w->a6 Z w->a7 aa w->cx ai w->b0 [l] u9 w->J5 P T.a A w fun B=>K (.tuple #[B,ai]) w) (X4 .eql T.f 23 ab 4 w fun cm w=>X1 cm (Y1 T.m T.f m 3 w fun cn w=>Q0 P F.ca [a0,cn] w fun ee w=>Q6 P T.a t4 w fun co w=>Y1 T.m T.f m 3 w fun cp w=>Q0 P F.c0 [co,cp] w fun cq w=>J9 P T.a A cq w fun _u w=>J5 P T.a A w fun B=>K (.tuple #[B,(.bool true)]) w) (Q6 P T.a t4 w fun cr w=>J9 P T.a A cr w fun _u w=>J5 P T.a A w fun B=>K (.tuple #[B,(.bool true)]) w)))))
theorem Q4x (h:Fa a0 a1 a2 w K):Q0 P F.bd [a0,a1,a2] w K:=zr (Y4 22) Tryz.func20 h
def Q0G:L7:=[none,none,none,none,some ([6],[6,11,12,13,14,15,16,17,18,19,20,21,22,23,24,25,26,27,28,29,30,31,32,33,34,35,36,37,38,39]),none,none,some ([],[25,26,27,28,29,30,31,32,33,34,35,36,37,38,39]),none,none]
def Eo:H0:=fun g w K=>G9 P T.a w fun C w=>Q0 P F.aj [(.int .u16 300)] w fun L w=>D9 L w fun y h w=>N0 T.a h w fun a w=>lp (α:=Value) (.int .i64 0) w fun c f E w=>Z9 P .neq T.a1 (.tmp 11) (.const (.pointer none)) y (.pointer none) w fun b w=>X6 b true f w fun i w=>X6 b true g w fun j w=>Q1 b true w (Y0 T.a8 j) fun k w=>Q1 b true w (X5 .lss T.f 14 16 i k) fun l w=>pick P b l (.bool false) w fun d w=>X6 d true f w fun m w=>Q1 d true w (X4 .lss T.f 20 m 40) fun n w=>pick P d n (.bool false) w fun o w=>X1 o (jn (α:=Unit) w (fun B w=>V1 T.a8 T.m g f w fun p w=>Q0 P F.c1 [p] w fun q w=>X1 q (sq w fun w=>indexAddr P T.a8 g f w fun s w=>Q6 P T.a a w fun r w=>Q6 P T.m s w fun t w=>Q0 P F.bd [y,r,t] w fun u w=>D9 u w fun v J w=>J9 P T.a a v w fun _u w=>B () w) (B () w)) fun M E w=>V3 23 f w c) (dr w fun D A=>Y3 D A (Q6 P T.a a) fun z=> ∀e w,A w->z e w->J9 P T.a C e w fun _u w=>J5 P T.a C w fun H=>K (.tuple #[y,H]) w)
theorem Q19 (h:Eo a0 w K):Q0 P F.ak [a0] w K:=zr Q0G Tryz.func8 h
def Rk:H0:=fun a w K=>nilCheck P a w fun b w=>Y1 T.t T.z b 0 w fun c w=>K c w
theorem Q29 (h:Rk a0 w K):Q0 P F.bI [a0] w K:=zr (Y4 2) Tryz.func57 h
def Cr:L3:=fun f g w K=>Q0 P F.aH [f,g] w fun h w=>W0 P .not h w fun i w=>X1 i (K (.int .i64 0) w) (nilCheck P f w fun a w=>Y1 T.t T.g a 3 w fun b w=>indexAddr P T.g b g w fun c w=>Y1 T.n T.l c 1 w fun d w=>Y0 T.l d w fun e w=>K e w)
theorem Q3o (h:Cr a0 a1 w K):Q0 P F.bS [a0,a1] w K:=zr (Y4 5) Tryz.func58 h
def Q9q:L7:=Y4 6++[some ([7,19],[7,8,19,20,21,22,23,24,25,26,27,28,29,30,31,32,33,34,35,36,37]),none,none,some ([7],[7,8,21,22,23,24,25,26,27,28,29,30,31,32,33,34,35,36]),none,none,none]
def Q2V:L3:=fun e u w K=>Q0 P F.w [e,u] w fun d w=>Q0 P F.bI [e] w fun f w=>Q0 P F.a5 [f,d] w fun g w=>Q0 P F.bS [e,u] w fun h w=>lp (α:=Value×Value) ((.slice none 0 0),(.int .i64 0)) w fun b c v w=>X5 .lss T.f 19 18 c.2 h w fun i w=>X1 i (jn (α:=Value) w (fun t w=>Q0 P F.cb [d] w fun j w=>V5 .neq T.b 23 j #[] w fun a w=>X6 a false g w fun k w=>X6 a false c.2 w fun l w=>Q1 a false w (indexAddr P T.k k l) fun m w=>Z8 a false w T.o T.r m 2 fun n w=>Q1 a false w (W0 P .not n) fun o w=>pick P a (.bool true) o w fun p w=>X1 p (buildSlice P T.q 1 [(0,c.2)] w fun q w=>V0 P .append [T.q,T.q] T.q [false,false] [c.1,q] w fun r w=>t r w) (t c.1 w)) fun y v w=>X4 .add T.f 19 c.2 1 w fun s w=>b (y,s) w) (K c.1 w)
theorem Q9G (h:Q2V a0 a1 w K):Q0 P F.cp [a0,a1] w K:=zr Q9q Tryz.func23 h
def Q6Z:L7:=[none,some ([14],[7,8,9,14,15,16,17,18,19,20,21,22,23,24,25,26,27,28])]++Y4 5
def Ah:Yy:=fun k l m w K=>Q0 P F.cp [k,l] w fun c w=>Y0 T.q c w fun d w=>lp (α:=Value) (.int .i64 0) w fun a j p w=>X5 .lss T.f 14 13 j d w fun e w=>X1 e (V1 T.q T.f c j w fun f w=>Q0 P F.b7 [k,l,f] w fun g w=>D9 g w fun h n w=>N0 T.d h w fun b w=>Q6 P T.d b w fun i w=>U7 P m [i] w fun o w=>V3 14 j w a) (K (.tuple #[]) w)
theorem Q78 (h:Ah a0 a1 a2 w K):Q0 P F.aK [a0,a1,a2] w K:=zr Q6Z Tryz.func31 h
def Q5N:L3:=fun g h w K=>box P T.d h w fun a w=>Y1 T.d T.f a 0 w fun i w=>X4 .eql T.f 6 i 4 w fun b w=>X6 b true g w fun j w=>Z8 b true w T.d T.f a 3 fun c w=>Q1 b true w (Q0 P F.w [j,c]) fun d w=>Q1 b true w (V5 .neq T.b 12 d #[]) fun e w=>pick P b e (.bool false) w fun f w=>K f w
theorem X2H (h:Q5N a0 a1 w K):Q0 P F.cq [a0,a1] w K:=zr (Y4 2) Tryz.func30 h
def Mn:Yy:=fun e a1 a2 w K=>box P T.d a1 w fun U w=>box P T.d a2 w fun t5 w=>dr w fun b a=>Y3 b a (nilCheck P e) fun b5=>X3 b a b5 (fun ar=>fieldAddr P T.p ar 0) fun b7=>Y3 b a (nilCheck P e) fun ca=>X3 b a ca (fun az=>fieldAddr P T.p az 1) fun cb=>X3 b a b7 (fun av=>Q6 P T.a1 av) fun b8=>Y3 b a (Q6 P T.d U) fun b9=>L9 b a b8 b9 (fun aw ax=>Q0 P F.cq [aw,ax]) fun de=>X3 b a cb (fun a3=>Q6 P T.a1 a3) fun df=>Y3 b a (Q6 P T.d t5) fun dg=> ∀ar av az a3 aw ax ay bu bv w,a w->b5 ar w->b7 av w->ca az w->cb a3 w->b8 aw w->b9 ax w->de ay w->df bu w->dg bv w->Q0 P F.cq [bu,bv] w fun bw w=>W0 P .not ay w fun a4 w=>X6 a4 false bw w fun cn w=>Q1 a4 false w (W0 P .not cn) fun co w=>pick P a4 (.bool true) co w fun cp w=>X1 cp (nilCheck P e w fun cq w=>Y1 T.p T.r cq 5 w fun a5 w=>X6 a5 true ay w fun cr w=>Q1 a5 true w (W0 P .not cr) fun cs w=>pick P a5 cs (.bool false) w fun a6 w=>X6 a6 true bw w fun ct w=>Q1 a6 true w (W0 P .not ct) fun cu w=>pick P a6 cu (.bool false) w fun a7 w=>Z8 a7 true w T.d T.f U 0 fun cv w=>Q1 a7 true w (X4 .neq T.f 45 cv 4) fun cw w=>pick P a7 cw (.bool false) w fun H w=>Q1 H true w (Q6 P T.d U) fun cx w=>Q1 H true w (Q6 P T.d t5) fun cy w=>Q1 H true w (X5 .eql T.d 49 50 cx cy) fun cz w=>pick P H cz (.bool false) w fun c0 w=>nilCheck P e w fun c1 w=>fieldAddr P T.p c1 5 w fun c2 w=>J9 P T.r c2 c0 w fun _u w=>K (.tuple #[]) w) (dr w fun b a=>Y3 b a (nilCheck P e) fun cc=>X3 b a cc (fun a9=>fieldAddr P T.p a9 2) fun cd=>Y3 b a (fieldAddr P T.d U 3) fun cf=>X3 b a cd (fun ba=>Q6 P T.a2 ba) fun ce=>X3 b a cf (fun bc=>Q6 P T.f bc) fun cg=>L9 b a ce cg (fun bb bd=>lookup P T.a2 bb bd true) fun bk=>X3 b a bk (fun C=>ext P C 0) fun dh=>X3 b a bk (fun C=>ext P C 1) fun di=> ∀a9 ba bc bb bd C bx J w,a w->cc a9 w->cd ba w->cf bc w->ce bb w->cg bd w->bk C w->dh bx w->di J w->dr w fun b a=>Y3 b a (nilCheck P e) fun ch=>X3 b a ch (fun be=>fieldAddr P T.p be 3) fun ci=>Y3 b a (fieldAddr P T.d t5 3) fun ck=>X3 b a ci (fun bf=>Q6 P T.a2 bf) fun cj=>X3 b a ck (fun bh=>Q6 P T.f bh) fun cl=>L9 b a cj cl (fun bg bi=>lookup P T.a2 bg bi true) fun bl=>X3 b a bl (fun D=>ext P D 0) fun dj=>X3 b a bl (fun D=>ext P D 1) fun dl=> ∀be bf bh bg bi D bz bj w,a w->ch be w->ci bf w->ck bh w->cj bg w->cl bi w->bl D w->dj bz w->dl bj w->X6 J false bj w fun c3 w=>pick P J (.bool true) c3 w fun c4 w=>X1 c4 (nilCheck P e w fun c5 w=>Y1 T.p T.r c5 5 w fun b0 w=>X6 b0 true J w fun c6 w=>pick P b0 c6 (.bool false) w fun b1 w=>X6 b1 true bj w fun c7 w=>pick P b1 c7 (.bool false) w fun L w=>X6 L true bx w fun c8 w=>Z8 L true w T.d T.f t5 3 fun c9 w=>Q1 L true w (X5 .eql T.f 91 93 c8 c9) fun da w=>pick P L da (.bool false) w fun M w=>X6 M true bz w fun db w=>Z8 M true w T.d T.f U 3 fun dc w=>Q1 M true w (X5 .eql T.f 97 99 db dc) fun bm w=>pick P M bm (.bool false) w fun bn w=>nilCheck P e w fun bo w=>fieldAddr P T.p bo 5 w fun bp w=>J9 P T.r bp bn w fun _u w=>K (.tuple #[]) w) (dr w fun b a=>Y3 b a (nilCheck P e) fun V=>X3 b a V (fun f=>fieldAddr P T.p f 2) fun W=>Y3 b a (fieldAddr P T.d U 3) fun X=>Y3 b a (nilCheck P e) fun Z=>X3 b a Z (fun j=>fieldAddr P T.p j 3) fun aa=>Y3 b a (fieldAddr P T.d t5 3) fun ac=>Y3 b a (fieldAddr P T.d t5 3) fun ae=>Y3 b a (fieldAddr P T.d U 3) fun ag=>X3 b a W (fun g=>Q6 P T.a2 g) fun E=>X3 b a X (fun h=>Q6 P T.f h) fun Y=>X3 b a aa (fun k=>Q6 P T.a2 k) fun ab=>X3 b a ac (fun l=>Q6 P T.f l) fun ad=>X3 b a ae (fun n=>Q6 P T.f n) fun af=>X3 b a ag (fun p=>Q6 P T.f p) fun b2=>L9 b a E Y (fun c i=>mapEntry P T.a2 c i) fun ah=>X3 b a ah (fun q=>ext P q 1) fun ai=>Xq b a E ai af (fun c r o=>entryStore P T.a2 c r o) fun cm=>L9 b a ab ad (fun d m=>mapEntry P T.a2 d m) fun aj=>X3 b a aj (fun s=>ext P s 1) fun b3=> ∀f g h j k l n p c i d m o N q r dd s O w,a w->V f w->W g w->X h w->Z j w->aa k w->ac l w->ae n w->ag p w->E c w->Y i w->ab d w->ad m w->af o w->b2 N w->ah q w->ai r w->cm dd w->aj s w->b3 O w->entryStore P T.a2 d O N w fun _u w=>dr w fun b a=>Y3 b a (nilCheck P e) fun ak=>X3 b a ak (fun t=>fieldAddr P T.p t 4) fun al=>Y3 b a (fieldAddr P T.d U 3) fun am=>Y3 b a (fieldAddr P T.d t5 3) fun ao=>X3 b a al (fun u=>Q6 P T.aa u) fun b4=>X3 b a am (fun v=>Q6 P T.f v) fun an=>X3 b a ao (fun z=>Q6 P T.f z) fun ap=>L9 b a an ap (fun y A=>B7 P T.av [(0,y),(1,A)]) fun aq=>X3 b a aq (fun B=>buildSlice P T.aa 1 [(0,B)]) fun b6=> ∀t u v z Q y A B R w,a w->ak t w->al u w->am v w->ao z w->b4 Q w->an y w->ap A w->aq B w->b6 R w->V0 P .append [T.aa,T.aa] T.aa [false,false] [Q,R] w fun bq w=>nilCheck P e w fun br w=>fieldAddr P T.p br 4 w fun bs w=>J9 P T.aa bs bq w fun _u w=>K (.tuple #[]) w))
theorem Kr (h:Mn a0 a1 a2 w K):Q0 P F.av [a0,a1,a2] w K:=zr (Y4 11) Tryz.func61 h
def Q1L:L3:=fun c b w K=>box P T.d c w fun a w=>Q6 P T.l b w fun d w=>Q6 P T.d a w fun e w=>buildSlice P T.l 1 [(0,e)] w fun f w=>V0 P .append [T.l,T.l] T.l [false,false] [d,f] w fun g w=>J9 P T.l b g w fun _u w=>K (.tuple #[]) w
theorem Q8f (h:Q1L a0 a1 w K):Q0 P F.cJ [a0,a1] w K:=zr (Y4 1) Tryz.func62 h
def Q87:L7:=[none,some ([],[5,6,7,8,9,10,11,12,13,14,15]),none]
def Q1M:zV4:=fun t l r u w K=>box P T.d t w fun e w=>jn (α:=Unit) w (fun q w=>Q6 P T.f l w fun y w=>Q6 P T.l r w fun z w=>Y0 T.l z w fun A w=>X5 .lss T.f 5 7 y A w fun B w=>X1 B (dr w fun f a=>Y3 f a (Q6 P T.a5 u) fun C=>Y3 f a (Q6 P T.l r) fun i=>Y3 f a (Q6 P T.f l) fun j=>L9 f a i j (fun b c=>indexAddr P T.l b c) fun k=>X3 f a k (fun d=>Q6 P T.d d) fun o=>Y3 f a (Q6 P T.d e) fun p=> ∀s b c d g h w,a w->C s w->i b w->j c w->k d w->o g w->p h w->Q0 P F.av [s,g,h] w fun v w=>q () w) (q () w)) fun E D w=>Q6 P T.f l w fun m w=>X4 .add T.f 16 m 1 w fun n w=>J9 P T.f l n w fun _u w=>K (.tuple #[]) w
theorem Q8g (h:Q1M a0 a1 a2 a3 w K):Q0 P F.cK [a0,a1,a2,a3] w K:=zr Q87 Tryz.func63 h
def X0I:L7:=Y4 5++[some ([10],[10,11,12,13,14,25,26,27,28,29,30,31,32,33,34,35,36,37,38,39,40,41,42,43,44,45,46,47,48,49,50,51,52,53,54,55,56,57,58,59,60,61,62,63,64,65,66,67,68,69,70,71,72,73,74,75,76,77,78,79,80,81,82,83,84,85])]++Y4 9
def Q4N:zV4:=fun a0 a1 a2 a3 w K=>box P T.d a1 w fun t5 w=>box P T.d a3 w fun t7 w=>Oh P T.a2 none w fun a9 w=>Oh P T.a2 none w fun ba w=>B7 P T.p [(0,a0),(1,a2),(2,a9),(3,ba),(5,(.bool true))] w fun bb w=>box P T.p bb w fun bc w=>N0 T.a5 bc w fun i w=>Q6 P T.a5 i w fun bd w=>Q6 P T.d t5 w fun be w=>Q6 P T.d t7 w fun bf w=>Q0 P F.av [bd,be,bf] w fun b1 w=>lp (α:=Value) (.int .i64 0) w fun g x5 d_ w=>Q6 P T.a5 i w fun bg w=>nilCheck P bg w fun bh w=>Y1 T.p T.aa bh 4 w fun bi w=>Y0 T.aa bi w fun bj w=>X5 .lss T.f 25 30 x5 bj w fun h w=>Q1 h true w (Q6 P T.a5 i) fun bk w=>Q1 h true w (nilCheck P bk) fun bl w=>Z8 h true w T.p T.r bl 5 fun bm w=>pick P h bm (.bool false) w fun bn w=>X1 bn (dr w fun c a=>Y3 c a (Q6 P T.a5 i) fun Z=>X3 c a Z (fun k=>nilCheck P k) fun aa=>X3 c a aa (fun l=>fieldAddr P T.p l 4) fun ab=>X3 c a ab (fun m=>Q6 P T.aa m) fun ac=>X3 c a ac (fun n=>indexAddr P T.aa n x5) fun ad=>X3 c a ad (fun o=>indexAddr P T.av o (.int .i64 0)) fun ae=>X3 c a ae (fun p=>Q6 P T.f p) fun bu=>Y3 c a (Q6 P T.a5 i) fun af=>X3 c a af (fun r=>nilCheck P r) fun ag=>X3 c a ag (fun s=>fieldAddr P T.p s 4) fun ah=>X3 c a ah (fun t=>Q6 P T.aa t) fun ai=>X3 c a ai (fun u=>indexAddr P T.aa u x5) fun aj=>X3 c a aj (fun v=>indexAddr P T.av v (.int .i64 1)) fun ak=>X3 c a ak (fun y=>Q6 P T.f y) fun bv=> ∀k l m n o p q r s t u v y z w,a w->Z k w->aa l w->ab m w->ac n w->ad o w->ae p w->bu q w->af r w->ag s w->ah t w->ai u w->aj v w->ak y w->bv z w->G9 P T.l w fun j w=>C5 P (.func F.cJ) [] [j] w fun bo w=>Q0 P F.aK [a0,q,bo] w fun b3 w=>N0 T.f (.int .i64 0) w fun W w=>C5 P (.func F.cK) [] [W,j,i] w fun bp w=>Q0 P F.aK [a2,z,bp] w fun b4 w=>dr w fun c a=>Y3 c a (Q6 P T.a5 i) fun bw=>Y3 c a (Q6 P T.a5 i) fun al=>X3 c a al (fun A=>nilCheck P A) fun am=>X3 c a am (fun B=>fieldAddr P T.p B 5) fun an=>X3 c a an (fun C=>Q6 P T.r C) fun f=>X3 c a f (fun d=>V8 d (Q6 P T.f W)) fun ao=>X3 c a f (fun d=>V8 d (Q6 P T.l j)) fun ap=>L9 c a f ap (fun d E=>V8 d (Y0 T.l E)) fun aq=>Xq c a f ao aq (fun d D H=>V8 d (X5 .eql T.f 70 72 D H)) fun ar=>L9 c a f ar (fun d L=>pick P d L (.bool false)) fun e=>X3 c a e (fun b=>V8 b (fun w J=>J a0 w)) fun av=>X3 c a e (fun b=>V8 b (fun w J=>J q w)) fun aw=>X3 c a e (fun b=>V8 b (fun w J=>J a2 w)) fun ay=>X3 c a e (fun b=>V8 b (fun w J=>J z w)) fun az=>Xq c a e av aw (fun b M N=>V8 b (Q0 P F.w [M,N])) fun ax=>Xq c a e ay az (fun b Q R=>V8 b (Q0 P F.w [Q,R])) fun a4=>Xq c a e ax a4 (fun b O U=>V8 b (X5 .eql T.b 78 81 O U)) fun a5=>L9 c a e a5 (fun b V=>pick P b V (.bool false)) fun bx=> ∀X A B C d D E H L b M N Q R O U V Y w,a w->bw X w->al A w->am B w->an C w->f d w->ao D w->ap E w->aq H w->ar L w->e b w->av M w->aw N w->ay Q w->az R w->ax O w->a4 U w->a5 V w->bx Y w->nilCheck P X w fun bq w=>fieldAddr P T.p bq 5 w fun br w=>J9 P T.r br Y w fun _u w=>V3 38 x5 w g) (Q6 P T.a5 i w fun bs w=>K bs w)
theorem X0P (h:Q4N a0 a1 a2 a3 w K):Q0 P F.cY [a0,a1,a2,a3] w K:=zr X0I Tryz.func25 h
def Q1I:zV4:=fun h i j k w K=>box P T.d i w fun a w=>box P T.d k w fun b w=>Q6 P T.d a w fun c w=>Q6 P T.d b w fun d w=>Q0 P F.cY [h,c,j,d] w fun e w=>nilCheck P e w fun f w=>Y1 T.p T.r f 5 w fun g w=>K g w
theorem Q8c (h:Q1I a0 a1 a2 a3 w K):Q0 P F.aG [a0,a1,a2,a3] w K:=zr (Y4 2) Tryz.func11 h
def Cu:H0:=fun b w K=>G9 P T.d w fun a w=>B7 P T.d [(0,(.int .i64 4)),(3,b)] w fun d w=>J9 P T.d a d w fun _u w=>J5 P T.d a w fun c=>K c w
theorem Q3r (h:Cu a0 w K):Q0 P F.c [a0] w K:=zr (Y4 2) Tryz.func12 h
def Pr:zV4:=fun s q t r w K=>box P T.d s w fun a w=>Q6 P T.a2 q w fun v w=>Y1 T.d T.f a 3 w fun c w=>lookup P T.a2 v c true w fun d w=>D9 d w fun u e w=>Q6 P T.a1 t w fun f w=>Q6 P T.d a w fun g w=>Q0 P F.cq [f,g] w fun b w=>X6 b true e w fun h w=>Q1 b true w (W0 P .not h) fun i w=>pick P b i (.bool false) w fun j w=>X1 j (Q6 P T.a2 q w fun k w=>Y1 T.d T.f a 3 w fun l w=>mapUpdate P T.a2 k l (.int .i64 1) w fun _u w=>Q6 P T.q r w fun m w=>Y1 T.d T.f a 3 w fun n w=>buildSlice P T.q 1 [(0,n)] w fun o w=>V0 P .append [T.q,T.q] T.q [false,false] [m,o] w fun p w=>J9 P T.q r p w fun _u w=>K (.tuple #[]) w) (K (.tuple #[]) w)
theorem Q6f (h:Pr a0 a1 a2 a3 w K):Q0 P F.cA [a0,a1,a2,a3] w K:=zr (Y4 4) Tryz.func29 h
def Q86:L7:=Y4 7++[some ([8],[8,14,15,16,17,18,19,20,21,22,23,24,25,26]),none,none,none,none]
def Q1K:L3:=fun y z w K=>box P T.a1 y w fun c w=>box P T.d z w fun g w=>G9 P T.q w fun a w=>Oh P T.a2 none w fun C w=>N0 T.a2 C w fun b w=>C5 P (.func F.cA) [] [b,c,a] w fun i w=>Q6 P T.d g w fun o w=>U7 P i [o] w fun A w=>lp (α:=Value) (.int .i64 0) w fun d t D w=>Q6 P T.q a w fun p w=>Y0 T.q p w fun q w=>X5 .lss T.f 14 16 t q w fun r w=>X1 r (dr w fun n h=>Y3 n h (Q6 P T.a1 c) fun u=>Y3 n h (Q6 P T.q a) fun l=>X3 n h l (fun e=>indexAddr P T.q e t) fun m=>X3 n h m (fun f=>Q6 P T.f f) fun v=> ∀j e f k w,h w->u j w->l e w->m f w->v k w->Q0 P F.aK [j,k,i] w fun B w=>V3 18 t w d) (Q6 P T.q a w fun s w=>K s w)
theorem Q8e (h:Q1K a0 a1 w K):Q0 P F.bp [a0,a1] w K:=zr Q86 Tryz.func14 h
def Pq:zV4:=fun p l q r w K=>box P T.d p w fun b w=>dr w fun d c=>Y3 d c (Q6 P T.r l) fun f=>X3 d c f (fun a=>Wn a (Q6 P T.a1 q)) fun n=>X3 d c f (fun a=>Wn a (Q6 P T.d b)) fun o=>Xq d c f n o (fun a i j=>Wn a (Q0 P F.bp [i,j])) fun s=>X3 d c f (fun a=>Wn a (Q6 P T.f r)) fun k=> ∀a i j m e w,c w->f a w->n i w->o j w->s m w->k e w->Q1 a false w (Q0 P F.a0 [m,e]) fun g w=>pick P a (.bool true) g w fun h w=>J9 P T.r l h w fun _u w=>K (.tuple #[]) w
theorem Q6e (h:Pq a0 a1 a2 a3 w K):Q0 P F.cz [a0,a1,a2,a3] w K:=zr (Y4 1) Tryz.func34 h
def Q85:L7:=[none,none,none,some ([12],[4,6,7,12,13,14,15,16,17,18,19,20,21])]++Y4 9
def Q1J:L3:=fun o p w K=>box P T.a1 o w fun c w=>box P T.d p w fun e w=>Q6 P T.a1 c w fun r w=>Q6 P T.d e w fun s w=>Q0 P F.bp [r,s] w fun f w=>Y0 T.q f w fun g w=>lp (α:=Value) (.int .i64 0) w fun d n t w=>X5 .lss T.f 12 11 n g w fun h w=>X1 h (V1 T.q T.f f n w fun i w=>N0 T.f i w fun b w=>N0 T.r (.bool false) w fun a w=>Q6 P T.a1 c w fun j w=>Q6 P T.f b w fun k w=>C5 P (.func F.cz) [] [a,c,b] w fun l w=>Q0 P F.aK [j,k,l] w fun q w=>Q6 P T.r a w fun m w=>X1 m (K (.bool true) w) (V3 12 n w d)) (K (.bool false) w)
theorem Q8d (h:Q1J a0 a1 w K):Q0 P F.cI [a0,a1] w K:=zr Q85 Tryz.func17 h
def Ep:zV0:=fun w K=>Q0 P F.aj [(.int .u16 50)] w fun Z w=>D9 Z w fun l aa w=>N0 T.a aa w fun t2 w=>Q0 P F.aj [(.int .u16 50)] w fun ab w=>D9 ab w fun a ac w=>N0 T.a ac w fun t4 w=>Z9 P .eql T.a1 (.tmp 21) (.const (.pointer none)) l (.pointer none) w fun n w=>X6 n false a w fun ad w=>Q1 n false w (Z9 P .eql T.a1 (.tmp 24) (.const (.pointer none)) ad (.pointer none)) fun ae w=>pick P n (.bool true) ae w fun af w=>X1 af (K (.bool false) w) (Q0 P F.q [l,(.string ⟨#[65]⟩)] w fun ag w=>D9 ag w fun m ah w=>Q0 P F.q [a,(.string ⟨#[65]⟩)] w fun ai w=>D9 ai w fun k aj w=>Q0 P F.q [a,(.string ⟨#[65]⟩)] w fun ak w=>D9 ak w fun Y al w=>X4 .neq T.v 42 ah 0 w fun o w=>X6 o false aj w fun am w=>Q1 o false w (X4 .neq T.v 45 am 0) fun an w=>pick P o (.bool true) an w fun p w=>X6 p false al w fun ao w=>Q1 p false w (X4 .neq T.v 49 ao 0) fun ap w=>pick P p (.bool true) ap w fun g w=>X6 g false l w fun aq w=>X6 g false m w fun ar w=>X6 g false m w fun av w=>Q1 g false w (Q0 P F.c [av]) fun aw w=>Q1 g false w (Q0 P F.u [aq,ar,(.int .i64 1),aw]) fun ax w=>Q1 g false w (X4 .neq T.v 57 ax 0) fun ay w=>pick P g (.bool true) ay w fun h w=>X6 h false a w fun az w=>X6 h false k w fun a0 w=>X6 h false Y w fun a1 w=>Q1 h false w (Q0 P F.c [a1]) fun a2 w=>Q1 h false w (Q0 P F.u [az,a0,(.int .i64 1),a2]) fun a3 w=>Q1 h false w (X4 .neq T.v 65 a3 0) fun a4 w=>pick P h (.bool true) a4 w fun i w=>X6 i false a w fun a5 w=>X6 i false Y w fun a6 w=>X6 i false k w fun a7 w=>Q1 i false w (Q0 P F.c [a7]) fun a8 w=>Q1 i false w (Q0 P F.u [a5,a6,(.int .i64 1),a8]) fun a9 w=>Q1 i false w (X4 .neq T.v 73 a9 0) fun ba w=>pick P i (.bool true) ba w fun bb w=>X1 bb (K (.bool false) w) (Q0 P F.q [a,(.string ⟨#[65]⟩)] w fun bc w=>D9 bc w fun q bd w=>X4 .eql T.v 81 bd 0 w fun j w=>X6 j true a w fun be w=>X6 j true q w fun bf w=>X6 j true q w fun bg w=>Q1 j true w (Q0 P F.c [bg]) fun bh w=>Q1 j true w (Q0 P F.u [be,bf,(.int .i64 1),bh]) fun bi w=>Q1 j true w (X4 .eql T.v 88 bi 0) fun bj w=>pick P j bj (.bool false) w fun f w=>X6 f true l w fun bk w=>X6 f true m w fun bl w=>Q1 f true w (Q0 P F.c [bl]) fun bm w=>X6 f true a w fun bn w=>X6 f true q w fun bo w=>Q1 f true w (Q0 P F.c [bo]) fun bp w=>Q1 f true w (Q0 P F.aG [bk,bm,bn,bp]) fun bq w=>pick P f bq (.bool false) w fun d w=>X6 d true l w fun r w=>X6 d true m w fun s w=>Q1 d true w (Q0 P F.c [s]) fun t w=>X6 d true a w fun u w=>X6 d true k w fun v w=>Q1 d true w (Q0 P F.c [v]) fun y w=>Q1 d true w (Q0 P F.aG [r,t,u,y]) fun z w=>Q1 d true w (W0 P .not z) fun A w=>pick P d A (.bool false) w fun e w=>X6 e true a w fun B w=>X6 e true k w fun C w=>Q1 e true w (Q0 P F.c [C]) fun D w=>Q1 e true w (Q0 P F.cI [B,D]) fun E w=>pick P e E (.bool false) w fun b w=>X6 b true a w fun H w=>X6 b true k w fun J w=>Q1 b true w (Q0 P F.c [J]) fun L w=>Q1 b true w (Q0 P F.bp [H,L]) fun M w=>Q1 b true w (Y0 T.q M) fun N w=>Q1 b true w (X4 .eql T.f 121 N 2) fun O w=>pick P b O (.bool false) w fun c w=>X6 c true a w fun Q w=>X6 c true k w fun R w=>Q1 c true w (Q0 P F.cp [Q,R]) fun U w=>Q1 c true w (Y0 T.q U) fun V w=>Q1 c true w (X4 .eql T.f 128 V 2) fun W w=>pick P c W (.bool false) w fun X w=>K X w))
theorem Q1a (h:Ep w K):Q0 P F.aL [] w K:=zr (Y4 14) Tryz.func9 h
def Q25:L7:=Y4 9++[some ([5,8],[5,8,30,31,32,33,34,35,36,37,38,39,40,41,42,43,44,45,46,47,48,49,50,51,52]),none,none,some ([5],[5,37,38,39,40,41,42,43,44,45,46,47,48,49,50,51,52]),none,none]
def Sd:L3:=fun O h w K=>box P T.a O w fun b w=>buildSlice P T.q 0 [] w fun N w=>X4 .lss T.f 10 h 0 w fun d w=>X6 d false h w fun i w=>Z8 d false w T.a T.g b 2 fun j w=>Q1 d false w (Y0 T.g j) fun k w=>Q1 d false w (X5 .geq T.f 13 16 i k) fun l w=>pick P d (.bool true) l w fun m w=>X1 m (K N w) (Y1 T.a T.g b 2 w fun n w=>V1 T.g T.n n h w fun o w=>N0 T.n o w fun a w=>Y1 T.a T.i b 0 w fun p w=>Y1 T.n T.b a 0 w fun q w=>Q0 P F.l [p,q] w fun r w=>lp (α:=Value×Value) (N,(.int .i64 0)) w fun e f Q w=>Y1 T.n T.l a 1 w fun s w=>Y0 T.l s w fun t w=>X5 .lss T.f 30 33 f.2 t w fun u w=>X1 u (jn (α:=Value) w (fun g w=>Y1 T.n T.b a 0 w fun y w=>Q0 P F.aV [y] w fun z w=>V5 .neq T.b 39 z #[] w fun c w=>X6 c false r w fun A w=>X6 c false f.2 w fun B w=>Q1 c false w (indexAddr P T.k A B) fun C w=>Z8 c false w T.o T.r C 2 fun D w=>Q1 c false w (W0 P .not D) fun E w=>pick P c (.bool true) E w fun H w=>X1 H (buildSlice P T.q 1 [(0,f.2)] w fun J w=>V0 P .append [T.q,T.q] T.q [false,false] [f.1,J] w fun L w=>g L w) (g f.1 w)) fun M Q w=>X4 .add T.f 35 f.2 1 w fun v w=>e (M,v) w) (K f.1 w))
theorem Q2s (h:Sd a0 a1 w K):Q0 P F.au [a0,a1] w K:=zr Q25 Tryz.func26 h
def Fc:L3:=fun m n w K=>box P T.a m w fun c w=>box P T.d n w fun a w=>Y1 T.d T.f a 0 w fun o w=>X4 .neq T.f 6 o 4 w fun l w=>Z8 l false w T.d T.f a 3 fun d w=>Q1 l false w (X4 .lss T.f 10 d 0) fun e w=>pick P l (.bool true) e w fun b w=>Z8 b false w T.d T.f a 3 fun f w=>Z8 b false w T.a T.g c 2 fun g w=>Q1 b false w (Y0 T.g g) fun h w=>Q1 b false w (X5 .geq T.f 15 18 f h) fun i w=>pick P b (.bool true) i w fun j w=>X1 j (K (.int .i64 (-1)) w) (Y1 T.d T.f a 3 w fun k w=>K k w)
theorem Q4z (h:Fc a0 a1 w K):Q0 P F.an [a0,a1] w K:=zr (Y4 5) Tryz.func28 h
def Q3h:L7:=[none,none,none,some ([5],[4,5,6,7,8,9,10,11,12,13,14,15,16,17,18])]++Y4 9
def Bf:L3:=fun b c w K=>lp (α:=Value) (.int .i64 0) w fun a i l w=>Y0 T.q b w fun j w=>X5 .lss T.f 6 8 i j w fun k w=>X1 k (V1 T.q T.f b i w fun d w=>X5 .eql T.f 15 16 d c w fun e w=>X1 e (K b w) (V3 10 i w a)) (X4 .lss T.f 19 c 0 w fun f w=>X1 f (K b w) (buildSlice P T.q 1 [(0,c)] w fun g w=>V0 P .append [T.q,T.q] T.q [false,false] [b,g] w fun h w=>K h w))
theorem Q3C (h:Bf a0 a1 w K):Q0 P F.b5 [a0,a1] w K:=zr Q3h Tryz.func33 h
def Q0T:L7:=[none,none,none,none,some ([5,6],[5,6,7,8,14,15,16,17,18,19,20,21,22,23,24,25,26,27,28,29,30,31,32,33,34,35,36,37,38,39,40,41,42,43,44,45,46,47,48,49,50])]++Y4 5++[some ([5,8],[5,8,26,27,28,29,30,31,32,33,34,35,36,37,38,39,40,41,42,43,44,45,46,47,48,49,50]),none,none,none,none]
def Hk:L3:=fun a0 a1 w K=>box P T.a a0 w fun b w=>box P T.d a1 w fun u w=>buildSlice P T.q 0 [] w fun t9 w=>Q6 P T.a b w fun V w=>Q6 P T.d u w fun W w=>Q0 P F.an [V,W] w fun X w=>Q0 P F.b5 [t9,X] w fun Y w=>lp (α:=Value×Value) (Y,(.int .i64 0)) w fun f g d_ w=>Y0 T.q g.1 w fun Z w=>X5 .lss T.f 14 16 g.2 Z w fun aa w=>X1 aa (dr w fun c a=>Y3 c a (indexAddr P T.q g.1 g.2) fun B=>Y3 c a (Q6 P T.a b) fun ag=>X3 c a B (fun h=>Q6 P T.f h) fun ah=> ∀h v y w,a w->B h w->ag v w->ah y w->Q0 P F.au [v,y] w fun z w=>lp (α:=Value×Value) (g.1,(.int .i64 0)) w fun e d d_ w=>Y0 T.q z w fun ac w=>X5 .lss T.f 26 28 d.2 ac w fun ad w=>X1 ad (dr w fun c a=>Y3 c a (fieldAddr P T.a b 2) fun D=>Y3 c a (indexAddr P T.q d.1 g.2) fun H=>Y3 c a (indexAddr P T.q z d.2) fun O=>Y3 c a (Q6 P T.a b) fun C=>X3 c a D (fun j=>Q6 P T.g j) fun E=>X3 c a H (fun l=>Q6 P T.f l) fun J=>L9 c a E J (fun k m=>indexAddr P T.g k m) fun L=>X3 c a L (fun n=>fieldAddr P T.n n 1) fun M=>X3 c a M (fun o=>Q6 P T.l o) fun N=>X3 c a O (fun q=>Q6 P T.f q) fun Q=>L9 c a N Q (fun p r=>indexAddr P T.l p r) fun R=>X3 c a R (fun s=>Q6 P T.d s) fun U=>L9 c a C U (fun i t=>Q0 P F.an [i,t]) fun ai=> ∀j l q i k m n o p r s t A w,a w->D j w->H l w->O q w->C i w->E k w->J m w->L n w->M o w->N p w->Q r w->R s w->U t w->ai A w->Q0 P F.b5 [d.1,A] w fun af w=>X4 .add T.f 30 d.2 1 w fun ae w=>e (af,ae) w) (X4 .add T.f 18 g.2 1 w fun ab w=>f (d.1,ab) w)) (K g.1 w)
theorem Q1t (h:Hk a0 a1 w K):Q0 P F.aP [a0,a1] w K:=zr Q0T Tryz.func16 h
def Q4r:L7:=[none,none,none,some ([5],[4,5,6,7,8,9,10,11,12,13,14,15,16,17,18])]++Y4 6
def Fe:L3:=fun e f w K=>lp (α:=Value) (.int .i64 0) w fun a b i w=>Y0 T.q e w fun g w=>X5 .lss T.f 6 8 b g w fun h w=>X1 h (V1 T.q T.f e b w fun c w=>X5 .eql T.f 15 16 c f w fun d w=>X1 d (K b w) (V3 10 b w a)) (K (.int .i64 (-1)) w)
theorem Q4A (h:Fe a0 a1 w K):Q0 P F.bg [a0,a1] w K:=zr Q4r Tryz.func27 h
def Q0S:L7:=Y4 10++[some ([11],[8,11,12,13,14,15,16,17,18,46,47,48,49,50,51,52,53,54,55,56,57,58,59,60,61,62,63,64,65,66,67,68,69,70,71,72,73,74,75,76,77,78,79,80,81,82,83,84,85,86,87,88,89,90,91,92,93,94,95,96,97,98,99,100,101,102,103,104,105,106,107,108,109,110,111,112,113,114,115,116,117,118,119,120,121,122,123,124,125,126,127,128,129,130,131,132,133,134,135])]++Y4 9++[some ([16],[8,16,17,18,92,93,94,95,96,97,98,99,100,101,102,103,104,105,106,107,108,109,110,111,112,113,114,115,116,117,118,119,120,121,122,123,124,125,126,127,128,129,130,131,132,133,134,135]),none,none,some ([],[8,17,18,98,99,100,101,102,103,104,105,106,107,108,109,110,111,112,113,114,115,116,117,118,119,120,121,122,123,124,125,126,127,128,129,130,131,132,133,134,135])]++Y4 7
def Hj:zV4:=fun a0 a1 a2 a3 w K=>box P T.a a0 w fun t4 w=>box P T.d a1 w fun t5 w=>box P T.a a2 w fun t6 w=>box P T.d a3 w fun t7 w=>Y1 T.d T.f t5 0 w fun ci w=>X4 .neq T.f 20 ci 4 w fun bd w=>Z8 bd false w T.d T.f t7 0 fun cj w=>Q1 bd false w (X4 .neq T.f 24 cj 4) fun ck w=>pick P bd (.bool true) ck w fun cl w=>X1 cl (Q6 P T.d t5 w fun cm w=>Q6 P T.d t7 w fun cn w=>X5 .eql T.d 27 28 cm cn w fun co w=>K co w) (dr w fun b c=>Y3 b c (Q6 P T.a t4) fun ca=>Y3 b c (Q6 P T.d t5) fun cb=>L9 b c ca cb (fun be bf=>Q0 P F.aP [be,bf]) fun c9=>Y3 b c (Q6 P T.a t6) fun da=>Y3 b c (Q6 P T.d t7) fun db=> ∀be bf h b1 b2 w,c w->ca be w->cb bf w->c9 h w->da b1 w->db b2 w->Q0 P F.aP [b1,b2] w fun U w=>Y0 T.q h w fun cp w=>Y0 T.q U w fun cq w=>X5 .neq T.f 37 39 cp cq w fun V w=>X6 V false h w fun cr w=>Q1 V false w (Y0 T.q cr) fun cs w=>Q1 V false w (X4 .eql T.f 43 cs 0) fun ct w=>pick P V (.bool true) ct w fun cu w=>X1 cu (K (.bool false) w) (lp (α:=Value) (.int .i64 0) w fun E D d_ w=>Y0 T.q h w fun cv w=>X5 .lss T.f 46 48 D cv w fun cw w=>X1 cw (drR w fun b c=>Qg b (fun am=> ∀a,Ap a-> ∀w,c w->fieldAddr P T.a t4 2 w (dk (b a) am w)) fun am=>Qg b (fun ao=> ∀a,Ap a-> ∀w,c w->indexAddr P T.q h D w (dk (b a) ao w)) fun ao=>Qg b (fun av=> ∀a,Ap a-> ∀w,c w->fieldAddr P T.a t6 2 w (dk (b a) av w)) fun av=>Qg b (fun ax=> ∀a,Ap a-> ∀w,c w->indexAddr P T.q U D w (dk (b a) ax w)) fun ax=>Qg b (fun an=> ∀W a,Ap a-> ∀w,c w->am W w->Q6 P T.g W w (dk (b a) an w)) fun an=>Qg b (fun ap=> ∀Y a,Ap a-> ∀w,c w->ao Y w->Q6 P T.f Y w (dk (b a) ap w)) fun ap=>Qg b (fun aq=> ∀X Z a,Ap a-> ∀w,c w->an X w->ap Z w->indexAddr P T.g X Z w (dk (b a) aq w)) fun aq=>Qg b (fun ar=> ∀aa a,Ap a-> ∀w,c w->aq aa w->Q6 P T.n aa w (dk (b a) ar w)) fun ar=>Qg b (fun aw=> ∀ab a,Ap a-> ∀w,c w->av ab w->Q6 P T.g ab w (dk (b a) aw w)) fun aw=>Qg b (fun ay=> ∀ad a,Ap a-> ∀w,c w->ax ad w->Q6 P T.f ad w (dk (b a) ay w)) fun ay=>Qg b (fun az=> ∀ac ae a,Ap a-> ∀w,c w->aw ac w->ay ae w->indexAddr P T.g ac ae w (dk (b a) az w)) fun az=>Qg b (fun bn=> ∀af a,Ap a-> ∀w,c w->az af w->Q6 P T.n af w (dk (b a) bn w)) fun bn=>Q2M b 16 (fun ak=> ∀a,Ap a-> ∀w,c w->G9 P T.n w (dkR (b a) ak w)) fun ak=>Q2M b 17 (fun bl=> ∀a,Ap a-> ∀w,c w->G9 P T.n w (dkR (b a) bl w)) fun bl=>Q3Y b (fun d=> ∀g B a,Ap a-> ∀w,c w->ak (a 16) g w->ar B w->J9 P T.n g B w (dk (b a) (d [g,B]) w)) fun d=> ∀W Y ab ad X Z aa B ac ae af b3 g R bk a,Ap a-> ∀w,c w->am W w->ao Y w->av ab w->ax ad w->an X w->ap Z w->aq aa w->ar B w->aw ac w->ay ae w->az af w->bn b3 w->ak (a 16) g w->bl (a 17) R w->d [g,B] bk w->J9 P T.n R b3 w fun _u w=>dr w fun b c=>Y3 b c (indexAddr P T.q h D) fun cd=>Y3 b c (indexAddr P T.q U D) fun cf=>Y3 b c (Q6 P T.a t4) fun cc=>X3 b c cd (fun bh=>Q6 P T.f bh) fun ce=>L9 b c cc ce (fun bg bi=>Q0 P F.au [bg,bi]) fun dc=>Y3 b c (Q6 P T.a t6) fun dd=>X3 b c cf (fun bj=>Q6 P T.f bj) fun de=> ∀bh bj bg bi ag b4 b5 w,c w->cd bh w->cf bj w->cc bg w->ce bi w->dc ag w->dd b4 w->de b5 w->Q0 P F.au [b4,b5] w fun b6 w=>Y1 T.n T.b g 0 w fun cz w=>Y1 T.n T.b R 0 w fun c0 w=>X5 .neq T.b 81 83 cz c0 w fun C w=>X6 C false ag w fun c1 w=>Q1 C false w (Y0 T.q c1) fun c2 w=>X6 C false b6 w fun c3 w=>Q1 C false w (Y0 T.q c3) fun c4 w=>Q1 C false w (X5 .neq T.f 87 89 c2 c4) fun c5 w=>pick P C (.bool true) c5 w fun c6 w=>X1 c6 (K (.bool false) w) (lp (α:=Value) (.int .i64 0) w fun H aj d_ w=>Y0 T.q ag w fun c7 w=>X5 .lss T.f 92 94 aj c7 w fun c8 w=>X1 c8 (jn (α:=Unit) w (fun bo w=>drR w fun b c=>Qg b (fun a4=> ∀a,Ap a-> ∀w,c w->fieldAddr P T.n g 1 w (dk (b a) a4 w)) fun a4=>Qg b (fun q=> ∀a,Ap a-> ∀w,c w->indexAddr P T.q ag aj w (dk (b a) q w)) fun q=>Qg b (fun u=> ∀a,Ap a-> ∀w,c w->fieldAddr P T.n R 1 w (dk (b a) u w)) fun u=>Qg b (fun y=> ∀a,Ap a-> ∀w,c w->indexAddr P T.q b6 aj w (dk (b a) y w)) fun y=>Qg b (fun a5=> ∀ah a,Ap a-> ∀w,c w->a4 ah w->Q6 P T.l ah w (dk (b a) a5 w)) fun a5=>Qg b (fun r=> ∀i a,Ap a-> ∀w,c w->q i w->Q6 P T.f i w (dk (b a) r w)) fun r=>Qg b (fun s=> ∀ai j a,Ap a-> ∀w,c w->a5 ai w->r j w->indexAddr P T.l ai j w (dk (b a) s w)) fun s=>Qg b (fun t=> ∀k a,Ap a-> ∀w,c w->s k w->Q6 P T.d k w (dk (b a) t w)) fun t=>Qg b (fun v=> ∀l a,Ap a-> ∀w,c w->u l w->Q6 P T.l l w (dk (b a) v w)) fun v=>Qg b (fun z=> ∀n a,Ap a-> ∀w,c w->y n w->Q6 P T.f n w (dk (b a) z w)) fun z=>Qg b (fun A=> ∀m o a,Ap a-> ∀w,c w->v m w->z o w->indexAddr P T.l m o w (dk (b a) A w)) fun A=>Qg b (fun Q=> ∀p a,Ap a-> ∀w,c w->A p w->Q6 P T.d p w (dk (b a) Q w)) fun Q=>Q2M b 16 (fun al=> ∀a,Ap a-> ∀w,c w->G9 P T.d w (dkR (b a) al w)) fun al=>Q2M b 17 (fun bm=> ∀a,Ap a-> ∀w,c w->G9 P T.d w (dkR (b a) bm w)) fun bm=>Q3Y b (fun d=> ∀f e a,Ap a-> ∀w,c w->al (a 16) f w->t e w->J9 P T.d f e w (dk (b a) (d [f,e]) w)) fun d=> ∀ah i l n ai j k e m o p a6 f O bk a,Ap a-> ∀w,c w->a4 ah w->q i w->u l w->y n w->a5 ai w->r j w->s k w->t e w->v m w->z o w->A p w->Q a6 w->al (a 16) f w->bm (a 17) O w->d [f,e] bk w->J9 P T.d O a6 w fun _u w=>Y1 T.d T.f f 0 w fun bp w=>X4 .eql T.f 115 bp 4 w fun J w=>Z8 J true w T.d T.f O 0 fun bq w=>Q1 J true w (X4 .eql T.f 119 bq 4) fun br w=>pick P J br (.bool false) w fun bs w=>X1 bs (dr w fun b c=>Y3 b c (Q6 P T.a t4) fun ba=>Y3 b c (Q6 P T.d f) fun bb=>L9 b c ba bb (fun L M=>Q0 P F.an [L,M]) fun bc=>X3 b c bc (fun N=>Q0 P F.bg [h,N]) fun b7=>Y3 b c (Q6 P T.a t6) fun b8=>Y3 b c (Q6 P T.d O) fun b9=> ∀L M N a7 a8 a9 w,c w->ba L w->bb M w->bc N w->b7 a7 w->b8 a8 w->b9 a9 w->Q0 P F.an [a8,a9] w fun bu w=>Q0 P F.bg [U,bu] w fun bv w=>X5 .neq T.f 126 131 a7 bv w fun bw w=>X1 bw (K (.bool false) w) (bo () w)) (Q6 P T.d f w fun bx w=>Q6 P T.d O w fun bz w=>X5 .neq T.d 133 134 bx bz w fun b0 w=>X1 b0 (K (.bool false) w) (bo () w))) fun dl d_ w=>V3 96 aj w H) (V3 50 D w E))) (K (.bool true) w)))
theorem Q1s (h:Hj a0 a1 a2 a3 w K):Q0 P F.am [a0,a1,a2,a3] w K:=zr Q0S Tryz.func13 h
def Fs:L7:=Y4 11++[some ([11],[6,11,12,45,46,47,48,49,50,51,52,53,54,55,56,57,58,59,60,61,62,63,64,65,66,67,68,69,70,71,72,73]),none,none,none,none,some ([12],[6,12,52,53,54,55,56,57,58,59,60,61,62,63,64,65,66,67,68,69,70,71,72,73])]++Y4 6
def Wh:Yy:=fun a0 a1 a2 w K=>box P T.a6 a2 w fun u w=>Q0 P F.ak [a0] w fun X w=>D9 X w fun i Y w=>N0 T.a Y w fun W w=>Q0 P F.ak [a1] w fun Z w=>D9 Z w fun j aa w=>N0 T.a aa w fun f w=>Q0 P F.aL [] w fun ab w=>W0 P .not ab w fun k w=>X6 k false i w fun ac w=>Q1 k false w (Z9 P .eql T.a1 (.tmp 26) (.const (.pointer none)) ac (.pointer none)) fun ad w=>pick P k (.bool true) ad w fun l w=>X6 l false j w fun ae w=>Q1 l false w (Z9 P .eql T.a1 (.tmp 30) (.const (.pointer none)) ae (.pointer none)) fun af w=>pick P l (.bool true) af w fun ag w=>X1 ag (K (.bool false) w) (Q6 P T.a W w fun ah w=>V1 T.a6 T.d u (.int .i64 0) w fun ai w=>Q0 P F.aI [ah,ai] w fun aj w=>V5 .eql T.b 36 aj #[] w fun e w=>Q1 e false w (Q6 P T.a f) fun ak w=>zhi e false w T.a6 T.d u (.int .i64 1) fun al w=>Q1 e false w (Q0 P F.aI [ak,al]) fun am w=>Q1 e false w (V5 .eql T.b 42 am #[]) fun an w=>pick P e (.bool true) an w fun ao w=>X1 ao (K (.bool true) w) (lp (α:=Value) (.int .i64 0) w fun c g d_ w=>Y1 T.a T.g W 2 w fun ap w=>Y0 T.g ap w fun aq w=>X5 .lss T.f 45 48 g aq w fun ar w=>X1 ar (lp (α:=Value) (.int .i64 0) w fun d h d_ w=>Y1 T.a T.g f 2 w fun av w=>Y0 T.g av w fun aw w=>X5 .lss T.f 52 55 h aw w fun ax w=>X1 ax (dr w fun b a=>Y3 b a (Q0 P F.c [g]) fun L=>Y3 b a (Q0 P F.c [h]) fun M=>L9 b a L M (fun m n=>Q0 P F.aG [i,m,j,n]) fun a5=>Y3 b a (Q6 P T.a W) fun a6=>Y3 b a (Q0 P F.c [g]) fun a7=>Y3 b a (Q6 P T.a f) fun a8=>Y3 b a (Q0 P F.c [h]) fun a9=> ∀m n v y z A B w,a w->L m w->M n w->a5 v w->a6 y w->a7 z w->a8 A w->a9 B w->Q0 P F.am [y,z,A,B] w fun ay w=>X5 .neq T.r 65 72 v ay w fun az w=>X1 az (K (.bool false) w) (V3 57 h w d)) (V3 50 g w c)) (dr w fun b a=>Y3 b a (indexAddr P T.a6 u (.int .i64 0)) fun N=>Y3 b a (indexAddr P T.a6 u (.int .i64 1)) fun Q=>Y3 b a (indexAddr P T.a6 u (.int .i64 0)) fun U=>Y3 b a (indexAddr P T.a6 u (.int .i64 1)) fun V=>X3 b a N (fun o=>Q6 P T.d o) fun O=>X3 b a Q (fun q=>Q6 P T.d q) fun R=>L9 b a O R (fun p r=>Q0 P F.aG [i,p,j,r]) fun ba=>Y3 b a (Q6 P T.a W) fun bb=>X3 b a U (fun s=>Q6 P T.d s) fun bc=>Y3 b a (Q6 P T.a f) fun bd=>X3 b a V (fun t=>Q6 P T.d t) fun be=> ∀o q s t p r C D E H J w,a w->N o w->Q q w->U s w->V t w->O p w->R r w->ba C w->bb D w->bc E w->bd H w->be J w->Q0 P F.am [D,E,H,J] w fun a3 w=>X5 .eql T.r 80 87 C a3 w fun a4 w=>K a4 w)))
theorem Gc (h:Wh a0 a1 a2 w K):Q0 P F.c9 [a0,a1,a2] w K:=zr Fs Tryz.func3 h
end Go.Proofs.Y
namespace Go.Emb
open Go.RowKit (Below)
variable {P : Program} {w w' : World} {K : Value -> World -> Prop}
theorem Z0 {s:Sem Value} {v:Value} (h:s.run P w= .ok v w'):op P (sv s) w K=K v w':=by
 rw[Yw];unfold Yd sv;simp[h]
theorem Jy {s:Sem Unit} (h:s.run P w= .ok () w'):op P (su s) w K=K undef w':=by
 rw[Yw];unfold Yd su;simp[h]
abbrev S (l:List UInt8):Value:= .string ⟨l.toArray⟩
abbrev I (n:Int):Value:= .int .i64 n
theorem Bi {b:Bool} {x y:Value}:pick P (.bool b) x y w K=K (if b then x else y) w:=by
 unfold pick;rw[Yw];unfold Yd;cases b<;>simp[asBool]
theorem H3 {x y:Value}:pick P (.bool true) x y w K=K x w:=by rw[Bi];rfl
theorem E3 {x y:Value}:pick P (.bool false) x y w K=K y w:=by rw[Bi];rfl
theorem X5s {a b:Bool} {u:Value}:pick P (.bool a) (if a=true then .bool b else u) (.bool false) w K=K (.bool (a&&b)) w:=by
 rw[Bi];cases a<;>rfl
theorem X7a {a b:Bool} {u:Value}:pick P (.bool a) (.bool true) (if a=false then .bool b else u) w K=K (.bool (a||b)) w:=by
 rw[Bi];cases a<;>rfl
theorem V9 {c:World->(Value->World->Prop)->Prop}:Q1 (.bool true) true w c K=c w K:=by rw[Bg];simp[Hn]
theorem D2 {c:World->(Value->World->Prop)->Prop}:Q1 (.bool false) false w c K=c w K:=by rw[Bg];simp[Hn]
theorem G1 {c:World->(Value->World->Prop)->Prop}:Q1 (.bool true) false w c K=K undef w:=by rw[Bg];simp[Hn]
theorem O3 {c:World->(Value->World->Prop)->Prop}:Q1 (.bool false) true w c K=K undef w:=by rw[Bg];simp[Hn]
theorem F2 {b:Bool} {c:World->(Value->World->Prop)->Prop}:Q1 undef b w c K=K undef w:=by rw[Bg];rfl
theorem X57 {a b:Bool} {v:Value}:Q1 (.bool a) b w (fun w J=>J v w) K=K (if a=b then v else undef) w:=by
 rw[Bg];unfold Hn;by_cases h:a=b<;>simp[h]
theorem Q8R {b:Bool} {t e:Prop}:X1 (.bool b) t e=if b=true then t else e:=by rw[Q8S];cases b<;>rfl
theorem I0 {t e:Prop}:X1 (.bool true) t e=t:=by rw[Q8R];simp
theorem F0 {t e:Prop}:X1 (.bool false) t e=e:=by rw[Q8R];simp
variable {k : IntKind} {t : TypeId} {ox oy : Operand} {a b : Int}
theorem Tx:Z9 P .add t ox oy (.int k a) (.int k b) w K=K (.int k (k.wrap (a+b))) w:=Z0 (by simp[eqGuard,Go.binOp,Op.intArith])
theorem Q6E:Z9 P .sub t ox oy (.int k a) (.int k b) w K=K (.int k (k.wrap (a-b))) w:=Z0 (by simp[eqGuard,Go.binOp,Op.intArith])
theorem X19:Z9 P .mul t ox oy (.int k a) (.int k b) w K=K (.int k (k.wrap (a*b))) w:=Z0 (by simp[eqGuard,Go.binOp,Op.intArith])
theorem Q6C:Z9 P .lss t ox oy (.int k a) (.int k b) w K=K (.bool (decide (a<b))) w:=Z0 (by simp[eqGuard,Go.binOp,Op.intCmp])
theorem Q6B:Z9 P .leq t ox oy (.int k a) (.int k b) w K=K (.bool (decide (a<=b))) w:=Z0 (by simp[eqGuard,Go.binOp,Op.intCmp])
theorem Gj:Z9 P .gtr t ox oy (.int k a) (.int k b) w K=K (.bool (decide (b<a))) w:=Z0 (by simp[eqGuard,Go.binOp,Op.intCmp])
theorem Q3T:Z9 P .geq t ox oy (.int k a) (.int k b) w K=K (.bool (decide (b<=a))) w:=Z0 (by simp[eqGuard,Go.binOp,Op.intCmp])
theorem Q3S:Z9 P .eql t ox oy (.int k a) (.int k b) w K=K (.bool (decide (a=b))) w:=Z0 (by
 simp[eqGuard,Go.binOp,Op.intCmp];rfl)
theorem Q6D:Z9 P .neq t ox oy (.int k a) (.int k b) w K=K (.bool (!decide (a=b))) w:=Z0 (by
 simp[eqGuard,Go.binOp,Op.intCmp];rfl)
theorem Q7b {b:Bool}:W0 P .not (.bool b) w K=K (.bool (!b)) w:=Z0 (by simp[Op.unary])
variable {a b : Bool}
theorem Q5q (d:Nat) (h:P.underlying t=some .bool):(Op.equalIn (d+1) t (.bool a) (.bool b)).run P w= .ok (a==b) w:=by
 simp[Op.equalIn,run_underlying h]
theorem Q06 (h:P.underlying t=some .bool):(Op.equal t (.bool a) (.bool b)).run P w= .ok (a==b) w:=Q5q 9999 h
theorem Q8G (h:P.underlying t=some .bool):Z9 P .eql t ox oy (.bool a) (.bool b) w K=K (.bool (a==b)) w:=Z0 (by
 simp[eqGuard,Go.binOp,Q06 h])
theorem Q8H (h:P.underlying t=some .bool):Z9 P .neq t ox oy (.bool a) (.bool b) w K=K (.bool (!(a==b))) w:=Z0 (by
 simp[eqGuard,Go.binOp,Q06 h])
theorem Wy {vs:List Value} {i:Nat} {v:Value} (h:vs[i]? =some v):ext P (.tuple vs.toArray) i w K=K v w:=Z0 (by
 simp[Instr.extract,h])
theorem X82 {a b:Value}:ext P (.tuple #[a,b]) 0 w K=K a w:=Wy (vs:=[a,b]) rfl
theorem X83 {a b:Value}:ext P (.tuple #[a,b]) 1 w K=K b w:=Wy (vs:=[a,b]) rfl
theorem X5Z {a b c:Value}:ext P (.tuple #[a,b,c]) 0 w K=K a w:=Wy (vs:=[a,b,c]) rfl
theorem X61 {a b c:Value}:ext P (.tuple #[a,b,c]) 1 w K=K b w:=Wy (vs:=[a,b,c]) rfl
theorem X62 {a b c:Value}:ext P (.tuple #[a,b,c]) 2 w K=K c w:=Wy (vs:=[a,b,c]) rfl
theorem Qr {n:Int} (c: -9223372036854775808<=n) (d:n<=9223372036854775807):IntKind.i64.wrap n=n:=by
 have e:n % 18446744073709551616=n\/n % 18446744073709551616=n+18446744073709551616:=by omega
 show (if (true&&decide (n % 18446744073709551616>=9223372036854775808))=true then n % 18446744073709551616-18446744073709551616 else n % 18446744073709551616)=n
 simp only[Bool.true_and,decide_eq_true_eq]
 split<;>omega
theorem w32 {n:Int} (c: -2147483648<=n) (d:n<=2147483647):IntKind.i32.wrap n=n:=by
 show (if (true&&decide (n % 4294967296>=2147483648))=true then n % 4294967296-4294967296 else n % 4294967296)=n
 simp only[Bool.true_and,decide_eq_true_eq]
 split<;>omega
variable {a b : List UInt8}
theorem Q6A (a b:List UInt8):(a==b)=decide (a=b):=by rw[Bool.eq_iff_iff];simp
theorem Pz:Z9 P .eql t ox oy (S a) (S b) w K=K (.bool (decide (a=b))) w:=Z0 (by
 simp[eqGuard,Go.binOp,Op.stringOp,Q6A])
theorem Ta:Z9 P .neq t ox oy (S a) (S b) w K=K (.bool (!decide (a=b))) w:=Z0 (by
 simp[eqGuard,Go.binOp,Op.stringOp,Q6A])
theorem Xc (l:List UInt8):(ByteArray.mk l.toArray).size=l.length:=by simp[ByteArray.size]
theorem X3a (a b:List UInt8):ByteArray.mk a.toArray++ByteArray.mk b.toArray=ByteArray.mk (a++b).toArray:=by
 apply ByteArray.ext;simp
theorem X8S:IntKind.i64.max=9223372036854775807:=by decide
theorem Q4D (h:a.length+b.length<=9223372036854775807):Z9 P .add t ox oy (S a) (S b) w K=K (S (a++b)) w:=Z0 (by
 have c: ¬(((a.length+b.length:Nat):Int)>IntKind.i64.max):=by rw[X8S];omega
 simp only[eqGuard,Go.binOp,Op.stringOp,Xc,X3a];simp only[if_neg c]
 simp)
theorem G8 {cs:List Bool} {r:TypeId} (c:P.underlying t=some .string):V0 P .len [t] r cs [S a] w K=K (I a.length) w:=by
 have h:(Builtin.len_ #[t] r #[S a]).run P w= .ok (I a.length) w:=by
  simp[Builtin.len_,run_underlying c,Xc,goInt]
 exact Z0 h
theorem Ju {i:Int} (d:P.underlying t=some .string) (c:0<=i) (h:i.toNat<a.length):P0 P t (S a) (I i) w K=K (.int .u8 (a[i.toNat]'h).toNat) w:=Z0 (by
 simp only[Instr.index,asIntOf,Sem.run_bind,Sem.run_pure,Result.andThen_ok,run_underlying d,c,if_true]
 have:(ByteArray.mk a.toArray)[i.toNat]? =some (a[i.toNat]'h):=by
  rw[getElem?_pos _ _ (by rw[Xc];exact h)]
  rfl
 rw[this];simp)
theorem Q61 (l:List UInt8) (i j:Nat):(ByteArray.mk l.toArray).extract i j=ByteArray.mk ((l.take j).drop i).toArray:=by
 apply ByteArray.ext;apply Array.ext'
 simp[List.drop_take]
theorem Mg {i:Int} (d:P.underlying t=some .string) (c:0<=i) (h:i<=a.length):I3 P t (S a) (some (I i)) none none w K=K (S (a.drop i.toNat)) w:=Z0 (by
 simp[Instr.sliceAt,Instr.slice,Instr.sliceBounds,Instr.sliceBound,asIntOf,run_underlying d,c,h,Xc,Q61])
theorem Ye {i:Int} (d:P.underlying t=some .string) (c:0<=i) (h:i<=a.length):I3 P t (S a) none (some (I i)) none w K=K (S (a.take i.toNat)) w:=Z0 (by
 simp[Instr.sliceAt,Instr.slice,Instr.sliceBounds,Instr.sliceBound,asIntOf,run_underlying d,c,h,Xc,Q61])
theorem Q0n {s d:TypeId} {k j:IntKind} {n:Int} {ds:TypeDesc} (e:P.underlying s=some ds) (c:P.underlying d=some (.int k)):conv P s d (.int j n) w K=K (.int k (k.wrap n)) w:=Z0 (by
 simp[Go.convert,run_underlying e,run_underlying c,Conv.intToInt])
def Q3k (w:World) (r:Nat) (o:Obj):World:={w with heap:=w.heap.setIfInBounds r o}
theorem Q7j {B r:Nat} {a w:World} {o:Obj} (h:Below B a w) (d:B<=r):Below B a (Q3k w r o):=
 h.trans ⟨rfl,rfl,rfl,by simp[Q3k],fun k c=>by simp only[Q3k];rw[Array.getElem?_setIfInBounds_ne Q5]⟩
theorem X1C {w:World} {r:Nat} {o:Obj} (h:r<w.heap.size):(Q3k w r o).heap[r]? =some o:=by
 simp only[Q3k];rw[Array.getElem?_setIfInBounds_self_of_lt h]
theorem X7j {t:TypeId} {a:List UInt8} (c:P.underlying t=some .string):rng P t (S a) w K=K (.pointer (some ⟨w.heap.size,0,none⟩)) (w.alloc (.stringIter ⟨a.toArray⟩ 0)):=Z0 (by
 simp[Instr.range,run_underlying c])
theorem X76 {t:TypeId} {r pos:Nat} {s:ByteArray} (h:w.heap[r]? =some (.stringIter s pos)) (e:pos<s.size):
 L2 P (.pointer (some ⟨r,0,none⟩)) true t w K=K (.tuple #[.bool true,I pos, .int .i32 (Utf8.decode s pos).1]) (Q3k w r (.stringIter s (pos+(Utf8.decode s pos).2))):=Z0 (by
 have c: ∀(k:Obj->Sem Value),(getObj r>>=k).run P w=(k (.stringIter s pos)).run P w:=by
  intro k;rw[Sem.run_bind];simp[getObj,Sem.run,h]
 have d: ∀o,(setObj r o).run P w= .ok () (Q3k w r o):=by intro o;simp[setObj,Sem.run,h,Q3k]
 unfold Instr.next
 simp only[c,e,if_true]
 simp[d,goInt])
theorem X0K {t:TypeId} {r pos:Nat} {s:ByteArray} (h:w.heap[r]? =some (.stringIter s pos)) (d: ¬pos<s.size):
 L2 P (.pointer (some ⟨r,0,none⟩)) true t w K=K (.tuple #[.bool false]) w:=Z0 (by
 have c: ∀(k:Obj->Sem Value),(getObj r>>=k).run P w=(k (.stringIter s pos)).run P w:=by
  intro k;rw[Sem.run_bind];simp[getObj,Sem.run,h]
 unfold Instr.next
 simp only[c,d,if_false]
 simp)
theorem X60 {a:Value}:ext P (.tuple #[a]) 0 w K=K a w:=Wy (vs:=[a]) rfl
theorem X2e {s:ByteArray} {i:Nat} (h:(s.get! i).toNat<128):Utf8.decode s i=((s.get! i).toNat,1):=by
 unfold Utf8.decode;simp only[Nat.add_zero];rw[if_pos h]
theorem X0s {s:ByteArray} {i:Nat} (h: ¬(s.get! i).toNat<128):128<=(Utf8.decode s i).1:=by
 unfold Utf8.decode;simp only[Nat.add_zero];rw[if_neg h]
 repeat' split
 all_goals (simp only[Utf8.runeError] at*;try omega)
 all_goals (simp only[Bool.and_eq_true,decide_eq_true_eq,ge_iff_le] at*;omega)
theorem Q8U {s:ByteArray} {i:Nat}:1<=(Utf8.decode s i).2:=by
 unfold Utf8.decode;simp only
 repeat' split
 all_goals simp
def Q0h (p:Int->Bool) (s:ByteArray):Nat->Nat->Bool
 | 0,_=>true
 | n+1,i=>if i<s.size then p (Utf8.decode s i).1&&Q0h p s n (i+(Utf8.decode s i).2) else true
theorem Q6W {a:List UInt8} {i:Nat} (h:i<a.length):(ByteArray.mk a.toArray).get! i=a[i]:=by
 show (ByteArray.mk a.toArray).data[i]! =a[i]
 simp[h]
theorem X1Y (p:Int->Bool) (f: ∀c:Int,128<=c->p c=false) (a:List UInt8): ∀(n i:Nat),a.length-i<=n->Q0h p ⟨a.toArray⟩ n i=(a.drop i).all (fun b=>p b.toNat):=by
 intro n
 induction n with
 | zero=>intro i h;rw[List.drop_eq_nil_of_le Q5];rfl
 | succ n g=>
  intro i h;simp only[Q0h,Xc]
  split
  .rename_i d
   rw[List.drop_eq_getElem_cons d,List.all_cons]
   by_cases e:a[i].toNat<128
   .rw[X2e (by rw[Q6W d];exact e),Q6W d]
    simp only;rw[g (i+1) Q5]
   .have j:=X0s (s:=⟨a.toArray⟩) (i:=i) (by rw[Q6W d];exact e)
    rw[f _ Q5,f _ Q5];rfl
  .rename_i d;rw[List.drop_eq_nil_of_le Q5];rfl
theorem M9 {α:Type} {A:(α->World->Prop)->World->Prop} {B:α->(Nat->Value)->World->Prop} (h:A (fun x w=> ∀d,B x d w) w):jn w A B:=Yu _ h (fun _ d _ c=>c d)
theorem X9 {d:World->World->Prop} {A c:(Value->World->Prop)->Prop} (V:Value) (h:A (fun v _=>v=V)) (e:c (fun v _=>v=V)):J3 d A c:=
 R3 _ (fun _ _ _ h _=>h) h e
theorem Sn {w w0:World} {A:(World->World->Prop)->(World->Prop)->Prop} (e:Below w0.heap.size w0 w)
 (h:A (fun w w'=>Below w.heap.size w w') (fun w'=>Below w0.heap.size w0 w')):dr w A:=
 Pe _ _ e.drew (fun _ _ c d=>c.trans (d.mono c.size)) h
theorem Q5E {w w':World} {v V:Value} (c:Below w.heap.size w w') (h:v=V):dk (fun w w'=>Below w.heap.size w w') (fun v _=>v=V) w v w':=⟨c,h⟩
theorem Y5 {w:World} {v V:Value} (h:v=V):dk (fun w w'=>Below w.heap.size w w') (fun v _=>v=V) w v w:=⟨Below.refl _ _,h⟩
theorem X0x {n:Nat} {fn:Func} {e:Array Value->Sem Value} {xs:List Value} {v:Value} (g:P.funcs[n]? =some fn) (i:(fn.name== "runtime.NumGoroutine")=false) (j:fn.body.isNone=true)
 (l:(Extern.findNext fn).isNone=true) (m:Extern.find fn=some e) (o:(e xs.toArray).run P w= .ok v w) (h:K v w):Q0 P n xs w K:=by
 have f:Extern.findNext fn=none:=by simpa using l
 have c: ¬fn.name= "runtime.NumGoroutine":=by simpa using i
 have d:fn.body=none:=by simpa using j
 unfold Q0;rw[Yw];unfold Yd callFunc
 simp[g,c,d,f,m,o,h]
theorem Q5I {α:Type} (p:α->Bool) (c:Nat->Bool): ∀(l:List α),(∀i (h:i<l.length),c i=p l[i])->(List.range l.length).find? c=l.findIdx? p
 | [],_=>rfl
 | x::l,h=>by
  rw[List.length_cons,List.range_succ_eq_map,List.find?_cons,List.findIdx?_cons];have d:c 0=p x:=h 0 U5;rw[d];cases p x
  .simp only[Bool.false_eq_true,if_false]
   rw[List.find?_map];have:=Q5I p (c ∘ Nat.succ) l (fun i e=>h (i+1) (by simpa using e))
   rw[this]
  .rfl
def Mr:=And.intro @H3 <| And.intro @E3 <| And.intro @F2 <| And.intro @Tx <| And.intro @Q6E <| And.intro @X19 <| And.intro @Q6C <| And.intro @Q6B <| And.intro @Gj <| And.intro @Q3T <| And.intro @Q3S <| And.intro @Q6D <| And.intro @Q7b <| And.intro @Pz <| And.intro @Ta <| And.intro @X82 <| And.intro @X83 <| And.intro @X5Z <| And.intro @X61 <| And.intro @X62 <| And.intro @X60 <| And.intro @X5s <| And.intro @X7a <| And.intro @V9 <| And.intro @D2 <| And.intro @G1 <| And.intro @O3 <| And.intro @X57 <| And.intro @I0 <| @F0
def Mp:=And.intro @H3 <| And.intro @E3 <| And.intro @F2 <| And.intro @Tx <| And.intro @Q6E <| And.intro @X19 <| And.intro @Q6C <| And.intro @Q6B <| And.intro @Gj <| And.intro @Q3T <| And.intro @Q3S <| And.intro @Q6D <| And.intro @Q7b <| And.intro @Pz <| And.intro @Ta <| And.intro @X82 <| And.intro @X83 <| And.intro @X5Z <| And.intro @X61 <| And.intro @X62 <| And.intro @X60 <| And.intro @V9 <| And.intro @D2 <| And.intro @G1 <| And.intro @O3 <| And.intro @I0 <| @F0
def Mb:=And.intro @Bool.true_eq_false <| And.intro @Bool.false_eq_true <| And.intro @Bool.not_true <| And.intro @Bool.not_false <| And.intro @Bool.and_true <| And.intro @Bool.true_and <| And.intro @Bool.and_false <| And.intro @Bool.false_and <| And.intro @Bool.or_true <| And.intro @Bool.true_or <| And.intro @Bool.or_false <| @Bool.false_or
end Go.Emb
namespace Go.Kd
abbrev X2:=List UInt8
def Jj (c:Int):Bool:=decide (65<=c)&&decide (c<=90)
def Yx (c:Int):Bool:=decide (97<=c)&&decide (c<=122)
def Qe (c:Int):Bool:=decide (48<=c)&&decide (c<=57)
def K1 (c:Int):Bool:=Jj c||Yx c||Qe c
def name (s:X2):Bool:=match s with
 | []=>false
 | c::_=>decide (s.length<=32)&& !Qe c.toNat&&s.all (fun b=>K1 b.toNat)
def C2 (s:X2):Bool:=match s with
 | []=>false
 | c::_=>name s&&Jj c.toNat
def B3 (s:X2):Bool:=match s with
 | []=>false
 | c::_=>name s&&Yx c.toNat
def plain (s:X2):Bool:=decide (s=[105,110,116])||decide (s=[98,111,111,108])||decide (s=[116,101,120,116])
def arr (s:X2):Bool:=decide (2<=s.length)&&decide (s.drop (s.length-2)=[91,93])
def cutA (s:X2):X2:=s.take (s.length-2)
def Uk:Nat->X2->X2×Nat
 | 0,s=>(s,0)
 | n+1,s=>if arr s then ((Uk n (cutA s)).1,(Uk n (cutA s)).2+1) else (s,0)
def base (s:X2):X2×Nat:=Uk s.length s
def right (s:X2):Bool:=decide ((base s).2<=3)&&(plain (base s).1||C2 (base s).1)
def elem (s:X2):X2:=if arr s&&right s then cutA s else []
def Jp (s:X2):Nat:=if right s then (base s).2 else 0
def Jc (s:X2):X2×X2×Bool:=match s with
 | []=>([],[],false)
 | c::r=>if c=46 then ([],r,true) else ((c::(Jc r).1),(Jc r).2.1,(Jc r).2.2)
def Vn (s:X2):Bool:=(Jc s).2.2&&C2 (Jc s).1&&B3 (Jc s).2.1
def Q42 (c:UInt8) (s:X2):Int:=match s.findIdx? (fun b=>decide (b=c)) with
 | some i=>i
 | none=> -1
def Q5G (s:X2) (o:Option Nat):X2×X2×Bool:=match o with
 | some i=>(s.take i,s.drop (i+1),true)
 | none=>(s,[],false)
theorem Q0p (s:X2):Jc s=Q5G s (s.findIdx? (fun b=>decide (b=46))):=by
 induction s with
 | nil=>rfl
 | cons c r a=>
  rw[List.findIdx?_cons];simp only[Jc]
  by_cases h:c=46
  .simp[h,Q5G]
  .simp only[h,if_false,decide_false,Bool.false_eq_true]
   rw[a];cases r.findIdx? (fun b=>decide (b=46)) with
   | none=>simp[Q5G]
   | some i=>simp[Q5G]
end Go.Kd
namespace Go.Proofs.Y
open Go.Emb Go.RowKit Go.Kd
variable {w : World} {K : Value -> World -> Prop}
theorem Z2:P.underlying T.b=some .string:=by kernel_rfl
theorem Rb:P.underlying T.f=some (.int .i64):=by kernel_rfl
theorem Q6v:P.underlying T.r=some .bool:=by kernel_rfl
theorem Q7a:P.underlying T.a9=some (.int .u8):=by kernel_rfl
theorem X1O:P.underlying T.ar=some (.int .i32):=by kernel_rfl
theorem X1r (c:Int) (h:K (.bool (Jj c)) w):Q0 P F.cr [.int .i32 c] w K:=Q9N (by
 unfold Q32 X6
 (try simp only[↓Mr,Mr,Mb,reduceIte])
 cases a:decide (65<=c)<;>simp only[a,↓Mr,Mr,Mb,reduceIte]<;>simpa [Jj,a] using h)
theorem X1s (c:Int) (h:K (.bool (Yx c)) w):Q0 P F.cs [.int .i32 c] w K:=Q9O (by
 unfold Q33 X6
 (try simp only[↓Mr,Mr,Mb,reduceIte])
 cases a:decide (97<=c)<;>simp only[a,↓Mr,Mr,Mb,reduceIte]<;>simpa [Yx,a] using h)
theorem X6Y (c:Int) (h:K (.bool (K1 c)) w):Q0 P F.cg [.int .i32 c] w K:=Q8j (by
 unfold Q1P X6;refine X1r c ?_;cases a:Jj c
 ·(try simp only[↓Mr,Mr,Mb,reduceIte])
  refine X1s c ?_;cases b:Yx c
  ·(try simp only[↓Mr,Mr,Mb,reduceIte])
   cases d:decide (48<=c)
   ·(try simp only[↓Mr,Mr,Mb,reduceIte])
    simpa [K1,Qe,a,b,d] using h
   ·(try simp only[↓Mr,Mr,Mb,reduceIte])
    simpa [K1,Qe,a,b,d] using h
  ·(try simp only[↓Mr,Mr,Mb,reduceIte])
   simpa [K1,a,b] using h
 ·(try simp only[↓Mr,Mr,Mb,reduceIte])
  simpa [K1,a] using h)
theorem X8N (a:List UInt8) (f:Value) (p:Int->Bool) (l: ∀(c:Int) (w:World) (K:Value->World->Prop),K (.bool (p c)) w->U7 P f [.int .i32 c] w K)
 (h: ∀w',Below w.heap.size w w'->K (.bool (Q0h p ⟨a.toArray⟩ a.length 0)) w'):Q0 P F.cO [S a,f] w K:=X2L (by
 unfold Q5R;rw[X7j Z2]
 refine Of (fun _ w'=> ∃pos n:Nat,a.length-pos<=n/\Q0h p ⟨a.toArray⟩ a.length 0=Q0h p ⟨a.toArray⟩ n pos/\Below w.heap.size w w'/\w'.heap[w.heap.size]? =some (.stringIter ⟨a.toArray⟩ pos))
  (fun _ w'=>match w'.heap[w.heap.size]? with | some (.stringIter _ pos)=>a.length-pos | _=>0) ⟨0,a.length,by omega,rfl,(Below.refl _ _).alloc (Nat.le_refl _) _,heap_alloc_new w _⟩ ?_
 rintro _ _ w1 ⟨pos,n,q,b,j,e⟩
 by_cases g:pos<a.length
 .rw[X76 e (by rw[Xc];exact g)]
  (try simp only[↓Mr,Mr,Mb,reduceIte])
  refine l _ _ _ ?_;obtain ⟨n,rfl⟩: ∃m,n=m+1:=⟨n-1,by omega⟩
  simp only[Q0h,Xc,g,if_true] at b;have r:=Q8U (s:=⟨a.toArray⟩) (i:=pos);have d:w.heap.size<w1.heap.size:=(Array.getElem?_eq_some_iff.1 e).1;cases k:p (Utf8.decode ⟨a.toArray⟩ pos).1
  ·(try simp only[↓Mr,Mr,Mb,reduceIte])
   rw[k] at b;have:=h _ (Q7j (o:= .stringIter ⟨a.toArray⟩ (pos+(Utf8.decode ⟨a.toArray⟩ pos).2)) j (Nat.le_refl _));rw[b] at this;exact this
  ·(try simp only[↓Mr,Mr,Mb,reduceIte])
   rw[k] at b;refine ⟨⟨_,n,?_,b,Q7j j (Nat.le_refl _),X1C d⟩,?_⟩
   .omega
   .simp only[X1C d,e];omega
 .rw[X0K e (by rw[Xc];exact g)]
  (try simp only[↓Mr,Mr,Mb,reduceIte])
  have:Q0h p ⟨a.toArray⟩ n pos=true:=by
   cases n with
   | zero=>rfl
   | succ n=>simp only[Q0h,Xc,g,if_false]
  rw[<-this,<-b];exact h _ j)
theorem X1Z (c:Int) (h:128<=c):K1 c=false:=by
 simp[K1,Jj,Yx,Qe];omega
theorem Q9i (a:List UInt8) (n:a.length<=140737488355328) (h: ∀w',Below w.heap.size w w'->K (.bool (name a)) w'):Q0 P F.cc [S a] w K:=X0T (by
 unfold Q4R X6 Y0 X4 V5
 have d: ∀c r,a=c::r->(decide (a.length<=32)&& !Qe c.toNat)=true->Q0 P F.cO [S a,(.func (.func F.cg) #[] #[])] w K:=by
  intro c r m b;refine X8N a _ K1 (fun c w K h=>U3 (first:=[]) (caps:=[]) (X6Y c h)) fun w' l=>?_
  rw[X1Y _ X1Z a _ _ Q5];have:=h w' l;rw[m] at this b⊢;simp only[name] at this;rw[b,Bool.true_and] at this
  simpa using this
 cases a with
 | nil=>
  simp only[↓Mr,Mr,Mb,reduceIte,decide_true];exact h w (Below.refl _ _)
 | cons c r=>
  have g:decide (c::r=[])=false:=by simp
  simp only[↓Mr,Mr,Mb,reduceIte,g,G8 Z2]
  by_cases k:(c::r).length<=32
  .have e:r.length<=31:=by simpa using k
   have b:decide ((32:Int)<((c::r).length:Int))=false:=by simp only[decide_eq_false_iff_not];omega
   simp only[↓Mr,Mr,Mb,reduceIte,b];rw[Ju Z2 Q5 U5]
   (try simp only[↓Mr,Mr,Mb,reduceIte])
   have j:(c::r)[(0:Int).toNat]'(by simp)=c:=rfl
   simp only[j];cases f:decide ((48:Int)<=(c.toNat:Int))
   ·(try simp only[↓Mr,Mr,Mb,reduceIte])
    exact d c r rfl (by simp[Qe,e,f])
   ·(try simp only[↓Mr,Mr,Mb,reduceIte])
    rw[Ju Z2 Q5 U5];simp only[↓Mr,Mr,Mb,reduceIte,j];cases i:decide ((c.toNat:Int)<=57)
    ·(try simp only[↓Mr,Mr,Mb,reduceIte])
     exact d c r rfl (by simp only[Qe,f,i];simp[e])
    ·(try simp only[↓Mr,Mr,Mb,reduceIte])
     have:name (c::r)=false:=by simp only[name,Qe,f,i];simp
     rw[<-this];exact h w (Below.refl _ _)
  .have b:decide ((32:Int)<((c::r).length:Int))=true:=by simp only[decide_eq_true_eq];omega
   simp only[↓Mr,Mr,Mb,reduceIte,b];have:name (c::r)=false:=by simp only[name];rw[decide_eq_false k];rfl
   rw[<-this];exact h w (Below.refl _ _))
theorem Gk (a:List UInt8) (e:a.length<=140737488355328) (h: ∀w',Below w.heap.size w w'->K (.bool (C2 a)) w'):Q0 P F.ai [S a] w K:=Q9J (by
 unfold Q2Y X6;refine Q9i a e fun w1 b=>?_;cases a with
 | nil=>
  simp only[name,↓Mr,Mr,Mb,reduceIte];exact h w1 b
 | cons c r=>
  cases d:name (c::r)
  ·(try simp only[↓Mr,Mr,Mb,reduceIte])
   have:=h w1 b;simp only[C2,d] at this
   simpa using this
  ·(try simp only[↓Mr,Mr,Mb,reduceIte])
   rw[Ju Z2 Q5 U5];have f:(c::r)[(0:Int).toNat]'(by simp)=c:=rfl
   simp only[f];rw[Q0n Q7a X1O,w32 Q5 (by have:=c.toNat_lt;omega)]
   refine X1r _ ?_
   (try simp only[↓Mr,Mr,Mb,reduceIte])
   have:=h w1 b;simp only[C2,d] at this
   simpa using this)
theorem Gl (a:List UInt8) (h:K (.bool (plain a)) w):Q0 P F.aQ [S a] w K:=Q9L (by
 unfold Q30 X6 V5
 (try simp only[↓Mr,Mr,Mb,reduceIte])
 cases b:decide (a=[105,110,116])<;>(try simp only[↓Mr,Mr,Mb,reduceIte])
 .cases c:decide (a=[98,111,111,108])<;>(try simp only[↓Mr,Mr,Mb,reduceIte])<;>simpa [plain,b,c] using h
 .simpa [plain,b] using h)
def Ll (a b:List UInt8):Bool:=decide (b.length<=a.length)&&decide (a.drop (a.length-b.length)=b)
theorem Sr (a b:List UInt8) (e:a.length<=140737488355328) (f:b.length<=140737488355328) (h:K (.bool (Ll a b)) w):Q0 P F.ac [S a,S b] w K:=Kx (by
 unfold Mv X6 Y0 X5;rw[G8 Z2,G8 Z2]
 (try simp only[↓Mr,Mr,Mb,reduceIte])
 by_cases d:b.length<=a.length
 .have c:decide ((b.length:Int)<=a.length)=true:=by simp only[decide_eq_true_eq];omega
  simp only[↓Mr,Mr,Mb,reduceIte,c,G8 Z2];rw[Qr Q5 Q5,Mg Z2 Q5 Q5]
  (try simp only[↓Mr,Mr,Mb,reduceIte])
  rw[show ((a.length:Int)-b.length).toNat=a.length-b.length from by omega]
  simpa [Ll,d] using h
 .have c:decide ((b.length:Int)<=a.length)=false:=by simp only[decide_eq_false_iff_not];omega
  simp only[↓Mr,Mr,Mb,reduceIte,c]
  simpa [Ll,d] using h)
theorem X0D (a b:List UInt8) (c:a.length<=140737488355328) (d:b.length<=140737488355328) (h:K (.bool (Ll a b)) w):Q0 P F.bO [S a,S b] w K:=Q2u (by
 unfold Sf;exact Sr a b c d h)
def Cc (a b:List UInt8):List UInt8:=if Ll a b then a.take (a.length-b.length) else a
theorem Q7F {a b:List UInt8} (h:Ll a b=true):b.length<=a.length:=by
 simp only[Ll,Bool.and_eq_true,decide_eq_true_eq] at h;exact h.1
theorem Q9j (a b:List UInt8) (d:a.length<=140737488355328) (e:b.length<=140737488355328) (h:K (S (Cc a b)) w):Q0 P F.bE [S a,S b] w K:=Q1u (by
 unfold Hl;refine Ke ?_;unfold Lj Y0 X5;refine Sr a b d e ?_;cases c:Ll a b
 ·(try simp only[↓Mr,Mr,Mb,reduceIte])
  simpa [Cc,c] using h
 .have f:=Q7F c
  simp only[↓Mr,Mr,Mb,reduceIte,G8 Z2];rw[Qr Q5 Q5,Ye Z2 Q5 Q5];rw[show ((a.length:Int)-b.length).toNat=a.length-b.length from by omega]
  simpa [Cc,c] using h)
theorem X0C (a b:List UInt8) (d:a.length<=140737488355328) (e:b.length<=140737488355328) (h:K (.tuple #[S (Cc a b), .bool (Ll a b)]) w):Q0 P F.bN [S a,S b] w K:=Q2t (by
 unfold Se;simp only[D9];refine Kw ?_;unfold Mu Y0 X5;refine Sr a b d e ?_;cases c:Ll a b
 ·(try simp only[↓Mr,Mr,Mb,reduceIte])
  simpa [Cc,c] using h
 .have f:=Q7F c
  simp only[↓Mr,Mr,Mb,reduceIte,G8 Z2];rw[Qr Q5 Q5,Ye Z2 Q5 Q5];rw[show ((a.length:Int)-b.length).toNat=a.length-b.length from by omega]
  (try simp only[↓Mr,Mr,Mb,reduceIte])
  simpa [Cc,c] using h)
theorem Q5U (a:List UInt8):Ll a [91,93]=arr a:=rfl
theorem Q52 (a:List UInt8):Cc a [91,93]=if arr a then Kd.cutA a else a:=rfl
theorem Xe {a:List UInt8} (h:arr a=true):(Kd.cutA a).length+2=a.length:=by
 simp only[arr,Bool.and_eq_true,decide_eq_true_eq] at h;simp only[Kd.cutA,List.length_take];omega
theorem Q5x: ∀(n m:Nat) (a:List UInt8),a.length<=n->a.length<=m->Uk n a=Uk m a
 | 0,0,a,_,_=>rfl
 | 0,m+1,a,h,_=>by
  have:a=[]:=List.eq_nil_of_length_eq_zero Q5;subst this;rfl
 | n+1,0,a,_,h=>by
  have:a=[]:=List.eq_nil_of_length_eq_zero Q5;subst this;rfl
 | n+1,m+1,a,b,c=>by
  simp only[Uk]
  split
  .rename_i h
   have:=Xe h;rw[Q5x n m (Kd.cutA a) Q5 Q5]
  .rfl
theorem Jo (a:List UInt8):base a=if arr a then ((base (Kd.cutA a)).1,(base (Kd.cutA a)).2+1) else (a,0):=by
 unfold base;cases b:a.length with
 | zero=>
  have:a=[]:=List.eq_nil_of_length_eq_zero b;subst this;rfl
 | succ n=>
  simp only[Uk]
  split
  .rename_i h
   have:=Xe h;rw[Q5x n (Kd.cutA a).length (Kd.cutA a) Q5 (Nat.le_refl _)]
  .rfl
theorem Q3Q (a:List UInt8):(base a).1.length+2*(base a).2=a.length:=by
 have key: ∀n (a:List UInt8),(Uk n a).1.length+2*(Uk n a).2=a.length:=by
  intro n
  induction n with
  | zero=>intro a;simp[Uk]
  | succ n b=>
   intro a;simp only[Uk]
   split
   .rename_i h
    have:=Xe h;have:=b (Kd.cutA a);simp only;omega
   .simp
 exact key _ a
theorem X3S (a:List UInt8) (e:a.length<=140737488355328) (h:K (.tuple #[S (base a).1,I (base a).2]) w):Q0 P F.cF [S a] w K:=X0U (by
 unfold Q4S X4
 refine Of (fun x w'=>w'=w/\ ∃(b:List UInt8) (n:Nat),x=(S b,I n)/\b.length+2*n=a.length/\base a=((base b).1,(base b).2+n)) (fun x _=>match x.1 with | .string s=>s.size | _=>0)
  ⟨rfl,a,0,rfl,by omega,rfl⟩ ?_
 rintro _ _ _ ⟨rfl,b,n,rfl,g,d⟩;refine X0D b _ Q5 U5 ?_;rw[Q5U];cases c:arr b
 ·(try simp only[↓Mr,Mr,Mb,reduceIte])
  rw[Jo b,c] at d;simp only[Bool.false_eq_true,if_false,Nat.zero_add] at d;rw[d] at h;exact h
 ·(try simp only[↓Mr,Mr,Mb,reduceIte])
  refine Q9j b _ Q5 U5 ?_;rw[Q52,c];simp only[↓Mr,Mr,Mb,reduceIte,if_true];have f:=Xe c;rw[Qr Q5 Q5];refine ⟨⟨by first | rfl | trivial,Kd.cutA b,n+1,by simp,by omega,?_⟩,?_⟩
  .rw[d,Jo b,c];simp;omega
  .simp only[Xc];omega)
theorem Vo (a:List UInt8) (e:a.length<=140737488355328) (h: ∀w',Below w.heap.size w w'->K (.bool (right a)) w'):Q0 P F.a2 [S a] w K:=Q9M (by
 unfold Q31;simp only[D9];unfold X6 X4;have g:=Q3Q a;refine X3S a e ?_
 (try simp only[↓Mr,Mr,Mb,reduceIte])
 by_cases c:(base a).2<=3
 .have b:decide (((base a).2:Int)<=3)=true:=by simp only[decide_eq_true_eq];omega
  simp only[↓Mr,Mr,Mb,reduceIte,b];refine Gl _ ?_;cases d:plain (base a).1
  ·(try simp only[↓Mr,Mr,Mb,reduceIte])
   refine Gk _ Q5 fun w1 f=>?_
   (try simp only[↓Mr,Mr,Mb,reduceIte])
   have:=h w1 f;simp only[right,c,d] at this
   simpa using this
  ·(try simp only[↓Mr,Mr,Mb,reduceIte])
   have:=h w (Below.refl _ _);simp only[right,c,d] at this
   simpa using this
 .have b:decide (((base a).2:Int)<=3)=false:=by simp only[decide_eq_false_iff_not];omega
  simp only[↓Mr,Mr,Mb,reduceIte,b];have:=h w (Below.refl _ _);simp only[right,c] at this
  simpa using this)
theorem Q9h (a:List UInt8) (c:a.length<=140737488355328) (h: ∀w',Below w.heap.size w w'->K (S (elem a)) w'):Q0 P F.cb [S a] w K:=X0S (by
 unfold Q4Q;simp only[D9];unfold X6;refine X0C a _ c U5 ?_;rw[Q5U,Q52]
 (try simp only[↓Mr,Mr,Mb,reduceIte])
 cases b:arr a
 ·(try simp only[↓Mr,Mr,Mb,reduceIte])
  have:=h w (Below.refl _ _);simp only[elem,b] at this;exact this
 ·(try simp only[↓Mr,Mr,Mb,reduceIte])
  refine Vo a c fun w1 e=>?_;have:=h w1 e;cases d:right a
  ·(try simp only[↓Mr,Mr,Mb,reduceIte])
   simp only[elem,b,d] at this;exact this
  .simp only[↓Mr,Mr,Mb,reduceIte,if_true]
   simp only[elem,b,d] at this;exact this)
theorem X3R (a:List UInt8) (b:a.length<=140737488355328) (h: ∀w',Below w.heap.size w w'->K (I (Jp a)) w'):Q0 P F.cE [S a] w K:=X0R (by
 unfold Q4P;simp only[D9];refine X3S a b ?_
 (try simp only[↓Mr,Mr,Mb,reduceIte])
 refine Vo a b fun w1 d=>?_;have:=h w1 d;cases c:right a<;>(try simp only[↓Mr,Mr,Mb,reduceIte])<;>simpa [Jp,c] using this)
theorem X9x (a:List UInt8) (i:a.length<=140737488355320) (h: ∀w',Below w.heap.size w w'->K (if right a&&decide (Jp a≠3) then .tuple #[S (a++[91,93]),I 0] else .tuple #[S [],I 30]) w'):Q0 P F.d4 [S a] w K:=X4f (by
 unfold Q7B X6 X4 V5;refine Vo a Q5 fun w1 d=>?_;cases c:right a
 ·(try simp only[↓Mr,Mr,Mb,reduceIte])
  have:=h w1 d;simp only[c] at this
  simpa using this
 ·(try simp only[↓Mr,Mr,Mb,reduceIte])
  refine X3R a Q5 fun g e=>?_;have:=h g (d.trans (e.mono d.size))
  by_cases f:Jp a=3
  .have b:decide ((Jp a:Int)=3)=true:=by simp only[decide_eq_true_eq];omega
   simp only[↓Mr,Mr,Mb,reduceIte,b];simp only[c,f] at this
   simpa using this
  .have b:decide ((Jp a:Int)=3)=false:=by simp only[decide_eq_false_iff_not];omega
   simp only[↓Mr,Mr,Mb,reduceIte,b];rw[Q4D (by simp;omega)]
   simp only[c] at this
   simpa [f] using this)
theorem Q4o (a:List UInt8) (c:UInt8) (h:K (I (Q42 c a)) w):Q0 P F.c4 [S a, .int .u8 c.toNat] w K:=by
 refine X0x (e:=Extern.BytealgIndexByte.indexByte) Tryz.func241 W3 rfl X8 X8 ?_ h
 have d:((List.range (ByteArray.mk a.toArray).size).find? fun i=>(ByteArray.mk a.toArray)[i]! ==c)=a.findIdx? (fun b=>decide (b=c)):=by
  rw[Xc];refine Q5I _ _ a fun i g=>?_
  have:(ByteArray.mk a.toArray)[i]! =a[i]:=by
   rw[getElem!_pos _ _ (by rw[Xc];exact g)];rfl
  rw[this,Bool.eq_iff_iff];simp
 have f:((c.toNat:Int).toNat.toUInt8)=c:=by simp
 have:=run_indexByte_string (P:=P) ⟨a.toArray⟩ c.toNat w;rw[f] at this;refine this.trans ?_;unfold firstIdx Q42;rw[d];cases a.findIdx? (fun b=>decide (b=c))<;>rfl
theorem X5c (a:List UInt8) (c:UInt8) (h:K (I (Q42 c a)) w):Q0 P F.bQ [S a,S [c]] w K:=Q2w (by
 unfold Sh X6 Y0 X4 X5;simp only[G8 Z2];have f:decide ((([c]:List UInt8).length:Int)=0)=false:=rfl;have g:decide ((([c]:List UInt8).length:Int)=1)=true:=rfl;simp only[Q3S,f,g];simp only[↓Mr,Mr,Mb,reduceIte]
 have b:P0 P T.b (S [c]) (I 0) w fun d w=>Q0 P F.aB [S a,d] w fun e w=>K e w:=by
  rw[Ju Z2 Q5 U5];refine Ky ?_;unfold Mw;exact Q4o a c h
 cases i:decide ([c]=a)
 ·(try simp only[↓Mr,Mr,Mb,reduceIte])
  exact b
 ·(try simp only[↓Mr,Mr,Mb,reduceIte])
  have j:[c]=a:=by simpa using i
  have:Q42 c a=0:=by rw[<-j];simp[Q42,List.findIdx?_cons]
  rw[this] at h;exact h)
theorem X54 {c:UInt8} {a:List UInt8} {i:Nat} (h:a.findIdx? (fun b=>decide (b=c))=some i):i<a.length:=by
 have:=List.findIdx?_eq_some_iff_getElem.1 h;exact this.1
theorem X8M (a:List UInt8) (f:a.length<=140737488355328) (h: ∀w',Below w.heap.size w w'->K (.tuple #[S (Jc a).1,S (Jc a).2.1, .bool (Jc a).2.2]) w'):Q0 P F.cM [S a,S [46]] w K:=Q8k (by
 unfold Q1Q;simp only[D9];refine Q4B ?_;unfold Ff;simp only[Y3,X3];unfold Y0 X4 X5;refine X5c a 46 ?_;rw[Q0p] at h;unfold Q42;cases c:a.findIdx? (fun b=>decide (b=46)) with
 | none=>
  simp only[↓Mr,Mr,Mb,reduceIte,show decide ((0:Int)<= -1)=false from rfl]
  have:=h w (Below.refl _ _);rw[c] at this;exact this
 | some i=>
  have g:=X54 c;have d:decide ((0:Int)<=(i:Int))=true:=by simp
  simp only[Q3T,d];simp only[↓Mr,Mr,Mb,reduceIte];refine Sn (Below.refl _ w) ?_;refine X9 (S (a.take i)) (fun w1 _=>?_) ?_
  .rw[Ye Z2 Q5 Q5];exact Y5 U5
  refine X9 (I 1) (fun w1 _=>?_) ?_
  .rw[G8 Z2];exact Y5 rfl
  refine X9 (I (i+1)) ?_ ?_
  .rintro _ w1 _ rfl
   rw[Tx,Qr Q5 Q5];exact Y5 rfl
  refine X9 (S (a.drop (i+1))) ?_ ?_
  .rintro _ w1 _ rfl
   rw[Mg Z2 Q5 Q5];exact Y5 U5
  rintro _ _ _ _ w1 e rfl rfl rfl rfl
  (try simp only[↓Mr,Mr,Mb,reduceIte])
  have:=h w1 e;rw[c] at this;exact this)
theorem X6X (a:List UInt8) (t:a.length<=140737488355328) (h: ∀w',Below w.heap.size w w'->K (if Vn a then .tuple #[S (Jc a).1,S (Jc a).2.1,I 0] else .tuple #[S [],S [],I 30]) w'):Q0 P F.cT [S a] w K:=Q9K (by
 unfold Q2Z;simp only[D9];unfold X6;refine X8M a t fun w1 e=>?_
 have s:(Jc a).1.length<=a.length/\(Jc a).2.1.length<=a.length:=by
  rw[Q0p];cases a.findIdx? (fun b=>decide (b=46))<;>simp[Q5G]
  omega
 generalize u:(Jc a).1=p at h s;generalize v:(Jc a).2.1=q at h s;have k:Vn a=((Jc a).2.2&&C2 p&&B3 q):=by rw[Vn,u,v]
 cases j:(Jc a).2.2
 .simp only[↓Mr,Mr,Mb,reduceIte]
  have:=h w1 e;rw[k,j] at this;simpa using this
 .simp only[↓Mr,Mr,Mb,reduceIte]
  refine Gk p Q5 fun z g=>?_;have d:=e.trans (g.mono e.size);cases o:C2 p
  ·(try simp only[↓Mr,Mr,Mb,reduceIte])
   have:=h z d;rw[k,j,o] at this;simpa using this
  ·(try simp only[↓Mr,Mr,Mb,reduceIte])
   refine Q9i q Q5 fun A i=>?_;have f:=d.trans (i.mono d.size);have:=h A f;rw[k,j,o] at this;cases n:name q
   ·(try simp only[↓Mr,Mr,Mb,reduceIte])
    have m:B3 q=false:=by cases q with | nil=>rfl | cons c r=>simp[B3,n]
    rw[m] at this;simpa using this
   ·(try simp only[↓Mr,Mr,Mb,reduceIte])
    cases q with
    | nil=>simp[name] at n
    | cons c r=>
     rw[Ju Z2 Q5 U5];have l:(c::r)[(0:Int).toNat]'(by simp)=c:=rfl
     (try simp only[↓Mr,Mr,Mb,reduceIte])
     rw[l,Q0n Q7a X1O,w32 Q5 (by have:=c.toNat_lt;omega)]
     refine X1s _ ?_;have m:B3 (c::r)=Yx c.toNat:=by simp[B3,n]
     rw[m] at this;cases y:Yx c.toNat<;>(try simp only[↓Mr,Mr,Mb,reduceIte])<;>rw[y] at this<;>simpa using this)
theorem Bk (a:List UInt8) (h:K (.bool (plain a)) w):Q0 P F.z [S a] w K:=Q1f (by
 unfold Ev V5;refine M9 ?_
 (try simp only[↓Mr,Mr,Mb,reduceIte])
 cases b:decide (a=[105,110,116])
 .cases c:decide (a=[98,111,111,108])
  .cases d:decide (a=[116,101,120,116])<;>(try simp only[↓Mr,Mr,Mb,reduceIte])<;>intro _<;>(try simp only[↓Mr,Mr,Mb,reduceIte])<;>simpa [plain,b,c,d] using h
  ·(try simp only[↓Mr,Mr,Mb,reduceIte])
   intro _
   (try simp only[↓Mr,Mr,Mb,reduceIte])
   simpa [plain,b,c] using h
 ·(try simp only[↓Mr,Mr,Mb,reduceIte])
  intro _
  (try simp only[↓Mr,Mr,Mb,reduceIte])
  simpa [plain,b] using h)
def X5M (a:List UInt8) (w:World) (x:Value) (w':World):Prop:=
 w=w'/\ ∃i:Nat,x=I i/\i<=a.length/\(0<i->(a.head?.map fun c=>Qe c.toNat)=some false)/\(a.take i).all (fun b=>K1 b.toNat)=true
def Q8n (a:List UInt8) (x:Value):Nat:=match x with | .int _ i=>a.length-i.toNat | _=>0
theorem Q9S (a:List UInt8) (O:a.length<=140737488355328) (h:K (.bool (name a)) w):Q0 P F.aW [S a] w K:=Q2i (by
 unfold Rt V3 X6 Y0 X4 X5;refine Of (X5M a w) (fun x _=>Q8n a x) ⟨rfl,0,rfl,by omega,by omega,by simp⟩ ?_
 rintro _ _ _ ⟨rfl,i,rfl,Q,M,k⟩;rw[G8 Z2]
 (try simp only[↓Mr,Mr,Mb,reduceIte])
 by_cases l:i<a.length
 .have B:decide ((i:Int)<a.length)=true:=by simp only[decide_eq_true_eq];omega
  simp only[B,↓Mr,Mr,Mb,reduceIte]
  have d: ∀z:Value->World->Prop,P0 P T.b (S a) (I i) w z=z (.int .u8 (a[i]'l).toNat) w:=fun z=>by
   rw[Ju Z2 Q5 (by simpa using l)];simp
  generalize q:a[i]=c at d
  have e:K1 c.toNat=false\/(i=0/\Qe c.toNat=true)->name a=false:=by
   intro y;cases a with
   | nil=>rfl
   | cons L r=>
    simp only[name]
    rcases y with y | ⟨rfl,y⟩
    .have:(L::r).all (fun b=>K1 b.toNat)=false:=by
      rw[List.all_eq_false];exact ⟨c,by rw[<-q];exact List.getElem_mem _,by simp[y]⟩
     rw[this];simp
    .simp only[List.getElem_cons_zero] at q
     rw[q,y];simp
  have f:K1 c.toNat=true->(i=0->Qe c.toNat=false)->X5M a w (I (IntKind.i64.wrap ((i:Int)+1))) w/\Q8n a (I (IntKind.i64.wrap ((i:Int)+1)))<Q8n a (I i):=by
   intro D H;rw[Qr Q5 Q5];refine ⟨⟨rfl,i+1,by simp,by omega,fun _=>?_,?_⟩,by simp only[Q8n];omega⟩
   .by_cases p:0<i
    .exact M p
    .obtain rfl:i=0:=by omega
     cases a with
     | nil=>simp at l
     | cons L r=>simp only[List.getElem_cons_zero] at q;subst q;simp[H rfl]
   .rw[List.take_add_one,List.getElem?_eq_getElem l,q]
    simp[k,D]
  have E:=c.toNat_lt;have t:decide ((i:Int)=0)=decide (i=0):=by rw[Bool.eq_iff_iff];simp
  by_cases n:97<=(c.toNat:Int)
  .by_cases A:(c.toNat:Int)<=122
   .simp only[d,decide_eq_true n,decide_eq_true A,↓Mr,Mr,Mb,reduceIte]
    exact f (by simp[K1,Yx,n,A]) (fun _=>by simp[Qe];omega)
   .have o:(65:Int)<=c.toNat:=by omega
    have s: ¬(c.toNat:Int)<=90:=by omega
    have g: ¬(c.toNat:Int)<48:=by omega
    have j:(57:Int)<c.toNat:=by omega
    simp only[d,decide_eq_true n,decide_eq_false A,decide_eq_true o,decide_eq_false s,decide_eq_false g,decide_eq_true j,t,↓Mr,Mr,Mb,reduceIte];have m:=e (.inl (by simp[K1,Jj,Yx,Qe];omega))
    rw[m] at h;cases decide (i=0)<;>(try simp only[d,decide_eq_false g,decide_eq_true j,↓Mr,Mr,Mb,reduceIte])<;>exact h
  .by_cases o:(65:Int)<=c.toNat
   .by_cases s:(c.toNat:Int)<=90
    .simp only[d,decide_eq_false n,decide_eq_true o,decide_eq_true s,↓Mr,Mr,Mb,reduceIte]
     exact f (by simp[K1,Jj,o,s]) (fun _=>by simp[Qe];omega)
    .have g: ¬(c.toNat:Int)<48:=by omega
     have j:(57:Int)<c.toNat:=by omega
     simp only[d,decide_eq_false n,decide_eq_true o,decide_eq_false s,decide_eq_false g,decide_eq_true j,t,↓Mr,Mr,Mb,reduceIte];have m:=e (.inl (by simp[K1,Jj,Yx,Qe];omega))
     rw[m] at h;cases decide (i=0)<;>(try simp only[d,decide_eq_false g,decide_eq_true j,↓Mr,Mr,Mb,reduceIte])<;>exact h
   .by_cases g:(c.toNat:Int)<48
    .simp only[d,decide_eq_false n,decide_eq_false o,decide_eq_true g,t,↓Mr,Mr,Mb,reduceIte]
     have m:=e (.inl (by simp[K1,Jj,Yx,Qe];omega))
     rw[m] at h;cases decide (i=0)<;>(try simp only[d,decide_eq_true g,↓Mr,Mr,Mb,reduceIte])<;>exact h
    .by_cases j:(57:Int)<c.toNat
     .simp only[d,decide_eq_false n,decide_eq_false o,decide_eq_false g,decide_eq_true j,t,↓Mr,Mr,Mb,reduceIte]
      have m:=e (.inl (by simp[K1,Jj,Yx,Qe];omega))
      rw[m] at h;cases decide (i=0)<;>(try simp only[d,decide_eq_false g,decide_eq_true j,↓Mr,Mr,Mb,reduceIte])<;>exact h
     .have v:Qe c.toNat=true:=by simp[Qe];omega
      simp only[d,decide_eq_false n,decide_eq_false o,decide_eq_false g,decide_eq_false j,t,↓Mr,Mr,Mb,reduceIte]
      by_cases p:i=0
      .have m:=e (.inr ⟨p,v⟩)
       rw[m] at h;simp only[decide_eq_true p,d,decide_eq_false g,decide_eq_false j,↓Mr,Mr,Mb,reduceIte];exact h
      .simp only[decide_eq_false p,d,decide_eq_false g,decide_eq_false j,↓Mr,Mr,Mb,reduceIte]
       exact f (by simp[K1,v]) (fun h=>absurd h p)
 .have B:decide ((i:Int)<a.length)=false:=by simp only[decide_eq_false_iff_not];omega
  obtain rfl:i=a.length:=by omega
  simp only[B,↓Mr,Mr,Mb,reduceIte];rw[G8 Z2];cases a with
  | nil=>
   have C:decide ((1:Int)<=(([]:List UInt8).length:Int))=false:=rfl;simp only[C,↓Mr,Mr,Mb,reduceIte];exact h
  | cons c r=>
   have C:decide ((1:Int)<=((c::r).length:Int))=true:=by simp only[decide_eq_true_eq,List.length_cons];omega
   have u:=M U5;simp only[List.head?_cons,Option.map_some,Option.some.injEq] at u;simp only[List.take_length] at k;have J:name (c::r)=decide ((c::r).length<=32):=by simp only[name,u,k];simp
   have N:decide (((c::r).length:Int)<=32)=decide ((c::r).length<=32):=by rw[Bool.eq_iff_iff];simp only[decide_eq_true_eq];omega
   simp only[C,G8 Z2,N,↓Mr,Mr,Mb,reduceIte];rw[<-J];exact h)
theorem Q0w {c:UInt8} {r:List UInt8} (h:name (c::r)=true):K1 c.toNat=true/\Qe c.toNat=false:=by
 simp only[name,Bool.and_eq_true,List.all_cons,Bool.not_eq_true'] at h;exact ⟨h.2.1,h.1.2⟩
theorem Ui (a:List UInt8) (g:a.length<=140737488355328) (h:K (.bool (C2 a)) w):Q0 P F.e [S a] w K:=Q1d (by
 unfold Et X6;refine Q9S a g ?_;cases a with
 | nil=>simp only[name,↓Mr,Mr,Mb,reduceIte];exact h
 | cons c r=>
  cases d:name (c::r)
  ·(try simp only[↓Mr,Mr,Mb,reduceIte])
   simpa [C2,d] using h
  ·(try simp only[↓Mr,Mr,Mb,reduceIte])
   rw[Ju Z2 Q5 U5];have b:(c::r)[(0:Int).toNat]'(by simp)=c:=rfl
   (try simp only[↓Mr,Mr,Mb,reduceIte])
   rw[b];obtain ⟨e,f⟩:=Q0w d
   have:decide ((c.toNat:Int)<=90)=Jj c.toNat:=by
    simp only[K1,Jj,Yx,Qe,Bool.or_eq_true,Bool.and_eq_true,Bool.and_eq_false_iff,decide_eq_true_eq,decide_eq_false_iff_not] at e f⊢;rw[Bool.eq_iff_iff];simp only[Bool.and_eq_true,decide_eq_true_eq];omega
   rw[this]
   simpa [C2,d] using h)
theorem Q1x (a:List UInt8) (g:a.length<=140737488355328) (h:K (.bool (B3 a)) w):Q0 P F.v [S a] w K:=Az (by
 unfold Dh X6;refine Q9S a g ?_;cases a with
 | nil=>simp only[name,↓Mr,Mr,Mb,reduceIte];exact h
 | cons c r=>
  cases d:name (c::r)
  ·(try simp only[↓Mr,Mr,Mb,reduceIte])
   simpa [B3,d] using h
  ·(try simp only[↓Mr,Mr,Mb,reduceIte])
   rw[Ju Z2 Q5 U5];have b:(c::r)[(0:Int).toNat]'(by simp)=c:=rfl
   (try simp only[↓Mr,Mr,Mb,reduceIte])
   rw[b];obtain ⟨e,f⟩:=Q0w d
   have:decide ((97:Int)<=c.toNat)=Yx c.toNat:=by
    simp only[K1,Jj,Yx,Qe,Bool.or_eq_true,Bool.and_eq_true,Bool.and_eq_false_iff,decide_eq_true_eq,decide_eq_false_iff_not] at e f⊢;rw[Bool.eq_iff_iff];simp only[Bool.and_eq_true,decide_eq_true_eq];omega
   rw[this]
   simpa [B3,d] using h)
def X8D (a:List UInt8) (w:World) (x:Value×Value) (w':World):Prop:=
 w=w'/\ ∃(b:List UInt8) (n:Nat),x=(S b,I n)/\b.length+2*n=a.length/\(base a).2=(base b).2+n
def X5L (x:Value×Value):Nat:=match x.1 with | .string s=>s.size | _=>0
theorem Kf (a:List UInt8) (j:a.length<=140737488355328) (h:K (I (base a).2) w):Q0 P F.a3 [S a] w K:=Q2g (by
 unfold Rr X6 Y0 X4 V5;refine Of (X8D a w) (fun x _=>X5L x) ⟨rfl,a,0,rfl,by omega,rfl⟩ ?_
 rintro _ _ _ ⟨rfl,b,n,rfl,k,c⟩;rw[G8 Z2]
 (try simp only[↓Mr,Mr,Mb,reduceIte])
 by_cases f:2<=b.length
 .have e:decide ((2:Int)<=b.length)=true:=by simp only[decide_eq_true_eq];omega
  simp only[e,G8 Z2,↓Mr,Mr,Mb,reduceIte];rw[Qr Q5 Q5,Mg Z2 Q5 Q5];rw[show ((b.length:Int)-2).toNat=b.length-2 from by omega]
  have g:decide (b.drop (b.length-2)=[91,93])=arr b:=by simp[arr,f]
  simp only[g,↓Mr,Mr,Mb,reduceIte];cases d:arr b
  ·(try simp only[↓Mr,Mr,Mb,reduceIte])
   rw[Jo b,d] at c;simp only[Bool.false_eq_true,if_false,Nat.zero_add] at c;rw[c] at h;exact h
  ·(try simp only[G8 Z2,↓Mr,Mr,Mb,reduceIte])
   rw[Ye Z2 Q5 Q5];rw[show ((b.length:Int)-2).toNat=b.length-2 from by omega]
   have i:=Xe d;refine ⟨⟨rfl,Kd.cutA b,n+1,?_,by omega,?_⟩,?_⟩
   .simp only[Kd.cutA,Prod.mk.injEq,true_and]
    first | rfl | (rw[Qr Q5 Q5];rfl)
   .rw[c,Jo b,d];simp;omega
   .simp only[X5L,Xc,List.length_take];omega
 .have e:decide ((2:Int)<=b.length)=false:=by simp only[decide_eq_false_iff_not];omega
  simp only[e,↓Mr,Mr,Mb,reduceIte];have d:arr b=false:=by simp[arr,f]
  rw[Jo b,d] at c;simp only[Bool.false_eq_true,if_false,Nat.zero_add] at c;rw[c] at h;exact h)
theorem Q7i (a:List UInt8):a.take (a.length-2*(base a).2)=(base a).1:=by
 have key: ∀n (a:List UInt8),a.take (a.length-2*(Uk n a).2)=(Uk n a).1:=by
  intro n
  induction n with
  | zero=>intro a;simp[Uk]
  | succ n b=>
   intro a;simp only[Uk]
   split
   .rename_i h
    have c:=Xe h;simp only;rw[<-b (Kd.cutA a)];rw[Kd.cutA,List.take_take,List.length_take]
    congr 1
    omega
   .simp
 exact key _ a
theorem Lw (a:List UInt8) (e:a.length<=140737488355328) (h:K (.bool (right a)) w):Q0 P F.f [S a] w K:=Q1g (by
 unfold Ew X6 Y0 X4 X5;have f:=Q3Q a;refine Kf a e ?_;rw[G8 Z2]
 (try simp only[↓Mr,Mr,Mb,reduceIte])
 rw[Qr (n:=2*((base a).2:Int)) Q5 Q5,Qr Q5 Q5,Ye Z2 Q5 Q5];rw[show ((a.length:Int)-2*((base a).2:Int)).toNat=a.length-2*(base a).2 from by omega,Q7i]
 (try simp only[↓Mr,Mr,Mb,reduceIte])
 by_cases c:(base a).2<=3
 .have b:decide (((base a).2:Int)<=3)=true:=by simp only[decide_eq_true_eq];omega
  simp only[b,↓Mr,Mr,Mb,reduceIte];refine Bk _ ?_;cases d:plain (base a).1
  ·(try simp only[↓Mr,Mr,Mb,reduceIte])
   refine Ui _ Q5 ?_
   (try simp only[↓Mr,Mr,Mb,reduceIte])
   simpa [right,c,d] using h
  ·(try simp only[↓Mr,Mr,Mb,reduceIte])
   simpa [right,c,d] using h
 .have b:decide (((base a).2:Int)<=3)=false:=by simp only[decide_eq_false_iff_not];omega
  simp only[b,↓Mr,Mr,Mb,reduceIte]
  simpa [right,c] using h)
theorem X6j {a:List UInt8} (h:arr a=true):2<=a.length:=by simp only[arr,Bool.and_eq_true,decide_eq_true_eq] at h;exact h.1
theorem Q7W {a:List UInt8} (h:arr a=true) (c:right a=true):3<=a.length:=by
 have d:=X6j h;refine Nat.lt_of_le_of_ne d fun e=>?_;have f:=Xe h;have b:Kd.cutA a=[]:=List.eq_nil_of_length_eq_zero Q5;simp only[right,Jo a,h,if_true,b] at c
 revert c;decide
theorem Q9R (a:List UInt8) (e:a.length<=140737488355328) (h:K (S (elem a)) w):Q0 P F.aV [S a] w K:=Q2h (by
 unfold Rs X6 Y0 X4 V5;rw[G8 Z2]
 (try simp only[↓Mr,Mr,Mb,reduceIte])
 by_cases j:a.length<3
 .have b:decide ((a.length:Int)<3)=true:=by simp only[decide_eq_true_eq];omega
  simp only[b,↓Mr,Mr,Mb,reduceIte]
  have g:elem a=[]:=by
   simp only[elem]
   split
   .rename_i hh
    simp only[Bool.and_eq_true] at hh;have:=Q7W hh.1 hh.2;omega
   .rfl
  rw[g] at h;exact h
 .have b:decide ((a.length:Int)<3)=false:=by simp only[decide_eq_false_iff_not];omega
  simp only[b,↓Mr,Mr,Mb,reduceIte];rw[Qr Q5 Q5,Mg Z2 Q5 Q5];rw[show ((a.length:Int)-2).toNat=a.length-2 from by omega]
  have f:decide (a.drop (a.length-2)=[91,93])=arr a:=by simp[arr];omega
  (try simp only[↓Mr,Mr,Mb,reduceIte])
  (try simp only[f,↓Mr,Mr,Mb,reduceIte])
  cases c:arr a
  ·(try simp only[↓Mr,Mr,Mb,reduceIte])
   simpa [elem,c] using h
  ·(try simp only[↓Mr,Mr,Mb,reduceIte])
   refine Kf a e ?_
   (try simp only[↓Mr,Mr,Mb,reduceIte])
   by_cases i:(base a).2<=3
   .have b:decide ((3:Int)<((base a).2:Int))=false:=by simp only[decide_eq_false_iff_not];omega
    simp only[b,↓Mr,Mr,Mb,reduceIte];refine Lw a e ?_;cases d:right a
    ·(try simp only[↓Mr,Mr,Mb,reduceIte])
     simpa [elem,c,d] using h
    ·(try simp only[↓Mr,Mr,Mb,reduceIte])
     try rw[Qr Q5 Q5]
     rw[Ye Z2 Q5 Q5];rw[show ((a.length:Int)-2).toNat=a.length-2 from by omega]
     simpa [elem,c,d,Kd.cutA] using h
   .have b:decide ((3:Int)<((base a).2:Int))=true:=by simp only[decide_eq_true_eq];omega
    simp only[b,↓Mr,Mr,Mb,reduceIte];have d:right a=false:=by simp[right,i]
    simpa [elem,c,d] using h)
def X7z (a:List UInt8) (w:World) (x:Value) (w':World):Prop:=
 w=w'/\ ∃n:Nat,x=I n/\n<=a.length/\(∀i,(h:i<n)->(b:i<a.length)->a[i]≠46)
def X32 (a:List UInt8) (x:Value):Nat:=match x with | .int _ n=>(a.length-n).toNat | _=>0
theorem Q7T (a:List UInt8) (L:a.length<=140737488355328) (h: ∀w',Below w.heap.size w w'->K (if (Jc a).2.2 then .tuple #[S (Jc a).1,S (Jc a).2.1, .bool (Vn a)] else .tuple #[S [],S [], .bool false]) w'):Q0 P F.bu [S a] w K:=Q1e (by
 unfold Eu;simp only[Y3,X3,L9,Xq];unfold V3 V8 Y0 X4 X5;refine Of (X7z a w) (fun x _=>X32 a x) ⟨rfl,0,rfl,by omega,by omega⟩ ?_
 rintro _ _ _ ⟨rfl,n,rfl,M,p⟩;rw[G8 Z2]
 (try simp only[↓Mr,Mr,Mb,reduceIte])
 by_cases D:n<a.length
 .have o:decide ((n:Int)<a.length)=true:=by simp only[decide_eq_true_eq];omega
  simp only[o,↓Mr,Mr,Mb,reduceIte];rw[Ju Z2 Q5 Q5]
  (try simp only[↓Mr,Mr,Mb,reduceIte])
  simp only[Int.toNat_natCast]
  have E:decide (((a[n]).toNat:Int)=46)=decide (a[n]=46):=by
   rw[Bool.eq_iff_iff];simp only[decide_eq_true_eq];constructor
   .intro e;exact UInt8.toNat_inj.1 (by have:(46:UInt8).toNat=46:=rfl;omega)
   .intro e;rw[e];rfl
  rw[E]
  by_cases m:a[n]=46
  .simp only[m,decide_true,↓Mr,Mr,Mb,reduceIte]
   have l:Jc a=(a.take n,a.drop (n+1),true):=by
    have:a.findIdx? (fun b=>decide (b=46))=some n:=by
     rw[List.findIdx?_eq_some_iff_getElem];exact ⟨D,by simpa using m,fun j H=>by simpa using p j H Q5⟩
    rw[Q0p,this];rfl
   have r:Vn a=(C2 (a.take n)&&B3 (a.drop (n+1))):=by simp[Vn,l]
   rw[l,r] at h;have s:((n:Int)+1).toNat=n+1:=by omega
   have u:(a.take n).length<=140737488355328:=by simp only[List.length_take];omega
   have v:(a.drop (n+1)).length<=140737488355328:=by simp only[List.length_drop];omega
   have z: ∀{w:World} {K:Value->World->Prop},K (S (a.take n)) w->I3 P T.b (S a) none (some (I n)) none w K:=by
    intro w K h;rw[Ye Z2 Q5 Q5,show ((n:Int)).toNat=n from by omega];exact h
   have A: ∀{w:World} {K:Value->World->Prop},K (S (a.drop (n+1))) w->I3 P T.b (S a) (some (I (n+1))) none none w K:=by
    intro w K h;rw[Mg Z2 Q5 Q5,s];exact h
   refine Sn (Below.refl _ _) ?_;refine X9 (S (a.take n)) (fun w c=>z (Y5 rfl)) ?_;refine X9 (I (n+1)) (fun w c=>Y5 (by rw[Qr Q5 Q5])) ?_
   refine X9 (S (a.drop (n+1))) (fun t w c e=>by rw[e];exact A (Y5 rfl)) ?_
   refine X9 (S (a.take n)) (fun w c=>z (Y5 rfl)) ?_;refine X9 (.bool (C2 (a.take n))) (fun t w c e=>by rw[e];exact Ui _ u (Y5 rfl)) ?_
   cases k:C2 (a.take n)
   .refine X9 undef (fun t w c e=>by rw[e,O3];exact Y5 rfl) ?_
    refine X9 undef (fun t w c e=>by rw[e,O3];exact Y5 rfl) ?_
    refine X9 undef (fun t f w c e d=>by rw[e,O3];exact Y5 rfl) ?_
    refine X9 undef (fun t f y w c e d g=>by rw[e,O3];exact Y5 rfl) ?_
    refine X9 undef (fun t f w c e d=>by rw[e,O3];exact Y5 rfl) ?_
    refine X9 (.bool false) (fun t f w c e d=>by rw[e,E3];exact Y5 rfl) ?_
    rintro _ _ _ _ _ _ _ _ _ _ _ w1 c rfl rfl rfl rfl rfl rfl rfl rfl rfl rfl rfl;rw[k] at h;exact h w1 (by simpa using c)
   .refine X9 (S a) (fun t w c e=>by rw[e,V9];exact Y5 rfl) ?_
    refine X9 (I n) (fun t w c e=>by rw[e,V9];exact Y5 rfl) ?_
    refine X9 (I (n+1)) (fun t f w c e d=>by rw[e,d,V9];simp only[↓Mr,Mr,Mb,reduceIte];exact Y5 (by rw[Qr Q5 Q5])) ?_
    refine X9 (S (a.drop (n+1))) (fun t f y w c e d g=>by rw[e,d,g,V9];exact A (Y5 rfl)) ?_
    refine X9 (.bool (B3 (a.drop (n+1)))) (fun t f w c e d=>by rw[e,d,V9];exact Q1x _ v (Y5 rfl)) ?_
    refine X9 (.bool (B3 (a.drop (n+1)))) (fun t f w c e d=>by rw[e,d,H3];exact Y5 rfl) ?_
    rintro _ _ _ _ _ _ _ _ _ _ _ w1 c rfl rfl rfl rfl rfl rfl rfl rfl rfl rfl rfl;rw[k] at h;exact h w1 (by simpa using c)
  .simp only[m,decide_false,↓Mr,Mr,Mb,reduceIte]
   rw[Qr Q5 Q5];refine ⟨⟨rfl,n+1,rfl,by omega,fun i B C=>?_⟩,?_⟩
   .by_cases q:i=n
    .subst q;exact m
    .exact p i Q5 C
   .simp only[X32];omega
 .have o:decide ((n:Int)<a.length)=false:=by simp only[decide_eq_false_iff_not];omega
  simp only[o,↓Mr,Mr,Mb,reduceIte]
  have l:(Jc a).2.2=false/\(Jc a).1=a/\(Jc a).2.1=[]:=by
   have:a.findIdx? (fun b=>decide (b=46))=none:=by
    rw[List.findIdx?_eq_none_iff];intro x J;obtain ⟨i,B,rfl⟩:=List.getElem_of_mem J
    simpa using p i Q5 B
   rw[Q0p,this];exact ⟨rfl,rfl,rfl⟩
  rw[l.1] at h;exact h w (Below.refl _ _))
end Go.Proofs.Y
namespace Go.Emb
open Go.RowKit
class TZ (P : Program) (t : TypeId) (sz b : outParam Nat) (z : outParam Value) : Prop where
  h : (P.info? t).map (fun i => (i.size, i.bytes, i.zero)) = some (sz, b, some z)
def X3Q:Option TypeDesc->Bool
 | some (.struct _)=>true
 | some (.array _ _)=>true
 | none=>true
 | _=>false
class TG (P : Program) (t : TypeId) (g : outParam Bool) : Prop where
  h : (X3Q (P.underlying t), (P.underlying t).isSome) = (g, true)
class TS (P : Program) (t : TypeId) (e : outParam TypeId) : Prop where
  h : P.underlying t = some (.slice e)
class TA (P : Program) (t : TypeId) (n : outParam Nat) (e : outParam TypeId) : Prop where
  h : P.underlying t = some (.array n e)
class TM (P : Program) (t : TypeId) (k e : outParam TypeId) : Prop where
  h : P.underlying t = some (.map k e)
def Q6T (d:Option TypeDesc) (k:Nat):Option (Nat×TypeId):=match d with
 | some (.struct a)=>(a[k]?).map fun f=>(f.offset,f.type)
 | _=>none
class TF (P : Program) (t : TypeId) (k : Nat) (off : outParam Nat) (ft : outParam TypeId) : Prop where
  h : Q6T (P.underlying t) k = some (off, ft)
variable {P : Program} {w w0 w' w'' : World} {K : Value -> World -> Prop}
theorem TZ.info {t:TypeId} {sz b:Nat} {z:Value} (h:TZ P t sz b z): ∃i,P.info? t=some i/\i.size=sz/\i.bytes=b/\i.zero=some z:=by
 obtain ⟨i,a,e⟩:=Option.map_eq_some_iff.1 h.h;simp only[Prod.mk.injEq] at e;exact ⟨i,a,e.1,e.2.1,e.2.2⟩
theorem E8 {t:TypeId} {sz b:Nat} {z:Value} (h:TZ P t sz b z) (w:World):(sizeOf t).run P w= .ok sz w:=by
 obtain ⟨i,a,rfl,_⟩:=h.info
 simp[sizeOf,typeInfo,a]
theorem Xh {t:TypeId} {sz b:Nat} {z:Value} (h:TZ P t sz b z) (w:World):(zeroValue t).run P w= .ok z w:=by
 obtain ⟨i,a,_,_,c⟩:=h.info
 simp[zeroValue,typeInfo,a,c]
theorem Uc {t:TypeId} {g:Bool} (h:TG P t g) (w:World):(isAgg t).run P w= .ok g w:=by
 have hh:=h.h;simp only[Prod.mk.injEq] at hh;obtain ⟨c,b⟩:=hh;cases a:P.underlying t with
 | none=>rw[a] at b;cases b
 | some d=>
  rw[a] at c;have:=run_underlying (P:=P) (w:=w) a;simp only[isAgg,Sem.run_bind,this,Result.andThen_ok];cases d<;>simp_all [X3Q]
theorem Q6z (a:Addr) (i j:Nat):(a.add i).add j=a.add (i+j):=by
 unfold Addr.add
 by_cases b:i=0
 .simp[b]
 .by_cases c:j=0
  .simp[c]
  .simp[b,c,Nat.add_assoc]
theorem add_zero (a:Addr):a.add 0=a:=by simp[Addr.add]
theorem K0 (a:Addr) (i:Nat):(a.add i).block=a.block:=by unfold Addr.add;split<;>rfl
theorem Za (a:Addr) (i:Nat):(a.add i).off=a.off+i:=by unfold Addr.add;split<;>simp_all
theorem Qz {a:Addr} (h:a.spot=none) (i:Nat):(a.add i).spot=none:=by unfold Addr.add;split<;>simp_all
abbrev Q2:=Nat->Option Obj
def X7 (w:World) (σ:Q2):Prop:= ∀b o,σ b=some o->w.heap[b]? =some o
structure Stp (w : World) (σ : Q2) (w' : World) (σ' : Q2) : Prop where
  bel : Below w.heap.size w w'
  sat : X7 w' σ'
  le : ∀ b o, σ b = some o -> σ' b = some o
  old : ∀ b, b < w.heap.size -> σ' b = σ b
theorem X7.lt {σ:Q2} (h:X7 w σ) {b:Nat} {o:Obj} (a:σ b=some o):b<w.heap.size:=(Array.getElem?_eq_some_iff.1 (h b o a)).1
theorem X7.below {σ:Q2} (h:X7 w σ) (a:Below w.heap.size w w'):X7 w' σ:=fun b o e=>(a.block b (h.lt e)).trans (h b o e)
theorem Stp.refl {σ:Q2} (h:X7 w σ):Stp w σ w σ:=⟨Below.refl _ _,h,fun _ _ e=>e,fun _ _=>rfl⟩
theorem Stp.trans {σ0 σ1 c:Q2} (h:Stp w σ0 w' σ1) (k:Stp w' σ1 w'' c):Stp w σ0 w'' c:=
 ⟨h.bel.trans (k.bel.mono h.bel.size),k.sat,fun b o e=>k.le b o (h.le b o e),fun b a=>(k.old b (Nat.lt_of_lt_of_le a h.bel.size)).trans (h.old b a)⟩
theorem Stp.of_below {σ:Q2} (h:X7 w σ) (a:Below w.heap.size w w'):Stp w σ w' σ:=⟨a,h.below a,fun _ _ e=>e,fun _ _=>rfl⟩
def Q2.put (σ:Q2) (b:Nat) (o:Obj):Q2:=fun k=>if k=b then some o else σ k
theorem X7.none {σ:Q2} (h:X7 w σ) {b:Nat} (a:w.heap.size<=b):σ b=none:=by
 cases e:σ b with
 | none=>rfl
 | some o=>have:=h.lt e;omega
theorem Stp.alloc {σ:Q2} (h:X7 w σ) (o:Obj):Stp w σ (w.alloc o) (σ.put w.heap.size o):=by
 refine ⟨(Below.refl _ _).alloc (Nat.le_refl _) o,?_,?_,?_⟩
 .intro b p e
  by_cases a:b=w.heap.size
  .subst a
   simp only[Q2.put,if_true] at e;cases e;exact heap_alloc_new w o
  .simp only[Q2.put,if_neg a] at e
   rw[Below.heap_alloc w o b (h.lt e)];exact h b p e
 .intro b p e
  have:=h.lt e;simp only[Q2.put];rw[if_neg Q5];exact e
 .intro b a
  simp only[Q2.put];rw[if_neg Q5]
theorem Stp.own {σ:Q2} (h:X7 w σ) (o:Obj):Stp w σ (w.alloc o) σ:=Stp.of_below h ((Below.refl _ _).alloc (Nat.le_refl _) o)
def J7 (σ:Q2) (a:Addr) (cs:List Value):Prop:=a.spot=none/\ ∃arr e b,σ a.block=some (.cells arr e b)/\ ∀i v,cs[i]? =some v->arr[a.off+i]? =some v
theorem J7.up {σ σ':Q2} {a:Addr} {cs:List Value} (h:J7 σ a cs) (g:Stp w σ w' σ'):J7 σ' a cs:=by
 obtain ⟨c,arr,e,b,d,f⟩:=h;exact ⟨c,arr,e,b,g.le _ _ d,f⟩
theorem J7.cell {σ:Q2} {a:Addr} {cs:List Value} (h:J7 σ a cs) (f:X7 w σ) {i:Nat} {v:Value} (g:cs[i]? =some v):w.cell? (a.add i)=some v:=by
 obtain ⟨b,arr,e,j,c,d⟩:=h;have:=f _ _ c;unfold World.cell?;rw[K0,this,Za,Qz b];exact d i v g
def Y8 (σ:Q2) (w:World) (b:Nat) (cs:List Value):Prop:=σ b=none/\ ∃e,w.heap[b]? =some (.cells cs.toArray e (0,0))
theorem Y8.lt {σ:Q2} {b:Nat} {cs:List Value} (h:Y8 σ w b cs):b<w.heap.size:=by
 obtain ⟨_,e,h⟩:=h;exact (Array.getElem?_eq_some_iff.1 h).1
theorem Y8.up {σ σ':Q2} {b:Nat} {cs:List Value} (h:Y8 σ w b cs) (a:Stp w σ w' σ'):Y8 σ' w' b cs:=by
 have c:=h.lt;obtain ⟨d,e,f⟩:=h;exact ⟨(a.old b c).trans d,e,(a.bel.block b c).trans f⟩
theorem Y8.cell {σ:Q2} {b:Nat} {cs:List Value} (h:Y8 σ w b cs) {i:Nat} {v:Value} (c:cs[i]? =some v):w.cell? ((⟨b,0,none⟩:Addr).add i)=some v:=by
 obtain ⟨_,e,a⟩:=h;unfold World.cell?;rw[K0,Za,Qz rfl];simp only[a]
 simpa using c
theorem Y8.keep {σ σ0:Q2} {b:Nat} {cs:List Value} (h:Y8 σ w b cs) (d:Stp w0 σ0 w σ) (m:w0.heap.size<=b): ∃σ',Stp w0 σ0 w σ'/\J7 σ' ⟨b,0,none⟩ cs/\(∀k o,σ k=some o->σ' k=some o)/\(∀k,k≠b->σ' k=σ k):=by
 obtain ⟨g,e,j⟩:=h;refine ⟨σ.put b (.cells cs.toArray e (0,0)),⟨d.bel,?_,?_,?_⟩,⟨rfl,cs.toArray,e,(0,0),by simp[Q2.put],?_⟩,?_,?_⟩
 .intro k o c
  by_cases a:k=b
  .subst a;simp only[Q2.put,if_true] at c;cases c;exact j
  .simp only[Q2.put,if_neg a] at c;exact d.sat k o c
 .intro k o c
  by_cases a:k=b
  .subst a;have:=d.le _ _ c;rw[g] at this;cases this
  .simp only[Q2.put,if_neg a];exact d.le _ _ c
 .intro k f
  simp only[Q2.put];rw[if_neg Q5];exact d.old k f
 .intro i v l;simpa using l
 .intro k o c
  by_cases a:k=b
  .subst a;rw[g] at c;cases c
  .simp only[Q2.put,if_neg a];exact c
 .intro k a;simp only[Q2.put,if_neg a]
theorem X1G (t:TypeId) (v:Value) (w:World):(Instr.box t v).run P w= .ok (.pointer (some ⟨w.heap.size,0,none⟩)) (w.alloc (.cells v.cells t)):=by
 simp[Instr.box,newVar,newRow]
theorem Q60 {σ:Q2} (a:X7 w σ) (cs:Array Value) (t:TypeId):Y8 σ (w.alloc (.cells cs t)) w.heap.size cs.toList:=
 ⟨a.none (Nat.le_refl _),t,by simpa using heap_alloc_new w (.cells cs t)⟩
theorem X2u {σ:Q2} (cs:Array Value) (t:TypeId):J7 (σ.put w.heap.size (.cells cs t)) ⟨w.heap.size,0,none⟩ cs.toList:=
 ⟨rfl,cs,t,(0,0),by simp[Q2.put],fun i v h=>by simpa using h⟩
theorem F4 {σ:Q2} {t:TypeId} {v:Value} (b:X7 w σ) (h: ∀a w' σ',Stp w σ w' σ'->J7 σ' a v.cells.toList->K (.pointer (some a)) w'):box P t v w K:=by
 unfold box;rw[Z0 (X1G t v w)];exact h _ _ _ (Stp.alloc b _) (X2u _ t)
theorem Q8I {σ:Q2} {t:TypeId} {v:Value} (a:X7 w σ) (h: ∀b w',w.heap.size<=b->Stp w σ w' σ->Y8 σ w' b v.cells.toList->K (.pointer (some ⟨b,0,none⟩)) w'):box P t v w K:=by
 unfold box;rw[Z0 (X1G t v w)];exact h _ _ (Nat.le_refl _) (Stp.own a _) (Q60 a _ t)
theorem Q0g {σ:Q2} {t:TypeId} {sz a:Nat} {z:Value} [tz:TZ P t sz a z] (c:X7 w σ) (h: ∀b w',w.heap.size<=b->Stp w σ w' σ->Y8 σ w' b z.cells.toList->K (.pointer (some ⟨b,0,none⟩)) w'):G9 P t w K:=by
 unfold G9
 have:(Instr.alloc t true (.tuple #[])).run P w= .ok (.pointer (some ⟨w.heap.size,0,none⟩)) (w.alloc (.cells z.cells t)):=by
  simp[Instr.alloc,Xh tz,newVar,newRow]
 rw[Z0 this];exact h _ _ (Nat.le_refl _) (Stp.own c _) (Q60 c _ t)
theorem Zb {t:TypeId} [tg:TG P t false] {a:Addr} {v:Value} (b:w.cell? a=some v) (h:K v w):Q6 P t (.pointer (some a)) w K:=by
 unfold Q6;rw[Z0 (v:=v) (w':=w) (by simp[Instr.loadAt,Instr.sureAddr,loadVar,Uc tg,b])]
 exact h
theorem Q0x {t:TypeId} {sz b:Nat} {z:Value} [tg:TG P t true] [tz:TZ P t sz b z] {a:Addr} {cs:List Value} (d:cs.length=sz) (c: ∀j v,cs[j]? =some v->w.cell? (a.add j)=some v) (h:K (.agg cs.toArray) w):Q6 P t (.pointer (some a)) w K:=by
 unfold Q6;have:=run_loadCells_list (P:=P) w a cs c;rw[d] at this;rw[Z0 (v:= .agg cs.toArray) (w':=w) (by simp[Instr.loadAt,Instr.sureAddr,loadVar,Uc tg,E8 tz,this])]
 exact h
theorem ld {σ:Q2} {t:TypeId} [TG P t false] {a:Addr} {cs:List Value} {i:Nat} {v:Value} (c:X7 w σ) (b:J7 σ a cs) (d:cs[i]? =some v) (h:K v w):Q6 P t (.pointer (some (a.add i))) w K:=
 Zb (b.cell c d) h
theorem Y6 {σ:Q2} {t:TypeId} [TG P t false] {a:Addr} {cs:List Value} {v:Value} (c:X7 w σ) (b:J7 σ a cs) (d:cs[0]? =some v) (h:K v w):Q6 P t (.pointer (some a)) w K:=by
 have:=ld (P:=P) (t:=t) c b d h
 rwa [add_zero] at this
theorem Y7 {σ:Q2} {t:TypeId} {sz b:Nat} {z:Value} [TG P t true] [TZ P t sz b z] {a:Addr} {cs:List Value} (f:X7 w σ) (c:J7 σ a cs) (d:cs.length=sz) (h:K (.agg cs.toArray) w):Q6 P t (.pointer (some a)) w K:=
 Q0x d (fun _ _ g=>c.cell f g) h
theorem I1 {σ:Q2} {t:TypeId} [TG P t false] {b:Nat} {cs:List Value} {i:Nat} {v:Value} (a:Y8 σ w b cs) (c:cs[i]? =some v) (h:K v w):Q6 P t (.pointer (some ((⟨b,0,none⟩:Addr).add i))) w K:=
 Zb (a.cell c) h
theorem Ou {σ:Q2} {t:TypeId} [TG P t false] {b:Nat} {cs:List Value} {v:Value} (a:Y8 σ w b cs) (c:cs[0]? =some v) (h:K v w):Q6 P t (.pointer (some ⟨b,0,none⟩)) w K:=by
 have:=I1 (P:=P) (t:=t) a c h
 rwa [add_zero] at this
theorem Bq {σ:Q2} {t:TypeId} {sz a:Nat} {z:Value} [TG P t true] [TZ P t sz a z] {b:Nat} {cs:List Value} (d:Y8 σ w b cs) (c:cs.length=sz) (h:K (.agg cs.toArray) w):Q6 P t (.pointer (some ⟨b,0,none⟩)) w K:=
 Q0x c (fun _ _ f=>d.cell f) h
theorem M4 {t:TypeId} {sz a:Nat} {z:Value} [tg:TG P t true] [tz:TZ P t sz a z] {σ:Q2} {b:Nat} {cs:List Value} {K:Value->Prop} (d:Y8 σ w b cs) (c:cs.length=sz) (h:K (.agg cs.toArray)):J5 P t (.pointer (some ⟨b,0,none⟩)) w K:=by
 rw[Q6k];refine ⟨_,?_,h⟩;have:=run_loadCells_list (P:=P) w ⟨b,0,none⟩ cs (fun _ _ f=>d.cell f);rw[c] at this
 simp[asAddr,loadVar,Uc tg,E8 tz,this]
structure Upd (w : World) (b : Nat) (w' : World) : Prop where
  os : w'.os = w.os
  tape : w'.tape = w.tape
  output : w'.output = w.output
  size : w'.heap.size = w.heap.size
  block : ∀ k, k ≠ b -> w'.heap[k]? = w.heap[k]?
theorem Upd.stp {σ0 σ:Q2} {b:Nat} (c:Upd w b w') (a:Stp w0 σ0 w σ) (h:w0.heap.size<=b) (g:σ b=none):Stp w0 σ0 w' σ:=by
 refine ⟨⟨c.os.trans a.bel.os,c.tape.trans a.bel.tape,c.output.trans a.bel.output,by rw[c.size];exact a.bel.size,fun k f=>(c.block k Q5).trans (a.bel.block k f)⟩,?_,a.le,a.old⟩
 intro k o d;rw[c.block k (by intro e;subst e;rw[g] at d;cases d)]
 exact a.sat k o d
theorem Y8.upd {σ:Q2} {b k:Nat} {cs:List Value} (h:Y8 σ w k cs) (f:Upd w b w') (a:k≠b):Y8 σ w' k cs:=by
 obtain ⟨c,e,d⟩:=h;exact ⟨c,e,(f.block k a).trans d⟩
theorem Rc {b:Nat} {cs:Array Value} {a:Array Value} {e:TypeId} (h:w.heap[b]? =some (.cells a e (0,0))):Upd w b (w.setRow b cs)/\(w.setRow b cs).heap[b]? =some (.cells cs e (0,0)):=by
 have d:=(Array.getElem?_eq_some_iff.1 h).1;refine ⟨⟨rfl,rfl,rfl,by simp[World.setRow],fun k c=>?_⟩,?_⟩
 .simp only[World.setRow,Array.getElem?_modify]
  rw[if_neg Q5]
 .simp only[World.setRow,Array.getElem?_modify,if_true,h]
  rfl
theorem Vk {t:TypeId} {sz a:Nat} {z:Value} [tz:TZ P t sz a z] {σ:Q2} {b:Nat} {cs ds:List Value} (l:Y8 σ w b cs) (k:cs.length=sz) (f:ds.length=sz) (g:ds.toArray.all (·.oneCell')=true)
 (h: ∀w',Upd w b w'->Y8 σ w' b ds->K undef w'):J9 P t (.pointer (some ⟨b,0,none⟩)) (.agg ds.toArray) w K:=by
 obtain ⟨n,e,d⟩:=l;unfold J9;obtain ⟨i,j,c,_⟩:=tz.info;have:=run_storeVar_row (P:=P) w b e t cs.toArray ds.toArray d (by simp[j,c,f]) (by simp[k,f]) g
 rw[Jy (w':=w.setRow b ds.toArray) (by simpa [Instr.storeAt,Instr.sureAddr] using this)]
 obtain ⟨m,hh⟩:=Rc (cs:=ds.toArray) d;exact h _ m ⟨n,e,hh⟩
theorem X1J {cs:List Value} {i:Nat} {v:Value} (a:i<cs.length):(cs.take i++[v]++cs.drop (i+1))=cs.set i v:=by
 rw[List.set_eq_take_append_cons_drop,if_pos a];simp
theorem Yj {t:TypeId} {c:Nat} {z:Value} [tz:TZ P t 1 c z] {σ:Q2} {b i:Nat} {cs:List Value} {v:Value} (l:Y8 σ w b cs) (k:i<cs.length) (j:v.cells= #[v]) (g:v.oneCell'=true)
 (h: ∀w',Upd w b w'->Y8 σ w' b (cs.set i v)->K undef w'):J9 P t (.pointer (some ((⟨b,0,none⟩:Addr).add i))) v w K:=by
 obtain ⟨n,e,d⟩:=l;unfold J9;have a:(⟨b,0,none⟩:Addr).add i=⟨b,i,none⟩:=by unfold Addr.add;split<;>simp_all
 have:=run_storeCells_at P b i e [v] 0 cs.toArray w d (by simp;omega) (by simpa using g)
 simp only[Nat.add_zero] at this;obtain ⟨m,hh⟩:=Rc (cs:=(cs.set i v).toArray) d
 have f:(List.take i cs.toArray.toList++[v]++List.drop (i+[v].length) cs.toArray.toList).toArray=(cs.set i v).toArray:=by
  rw[<-X1J k];simp
 rw[f] at this;rw[Jy (w':=w.setRow b (cs.set i v).toArray) (by simp[Instr.storeAt,Instr.sureAddr,a,storeVar,E8 tz,j,this])]
 exact h _ m ⟨n,e,hh⟩
theorem st0 {t:TypeId} {a:Nat} {z:Value} [tz:TZ P t 1 a z] {σ:Q2} {b:Nat} {cs:List Value} {v:Value} (g:Y8 σ w b cs) (f:0<cs.length) (d:v.cells= #[v]) (c:v.oneCell'=true)
 (h: ∀w',Upd w b w'->Y8 σ w' b (cs.set 0 v)->K undef w'):J9 P t (.pointer (some ⟨b,0,none⟩)) v w K:=by
 have:=Yj (P:=P) (t:=t) g f d c h
 rwa [add_zero] at this
class NZ (n : Nat) : Prop where
  h : (n == 0) = false
instance (n:Nat):NZ (n+1):=⟨rfl⟩
theorem fa {t:TypeId} {k b:Nat} {d:TypeId} {sz c:Nat} {z:Value} [tf:TF P t k b d] [tz:TZ P d sz c z] [nz:NZ sz] {a:Addr}:fieldAddr P t (.pointer (some a)) k w K=K (.pointer (some (a.add b))) w:=by
 unfold fieldAddr;have hh:=tf.h;unfold Q6T at hh
 split at hh
 .rename_i o n
  obtain ⟨f,m,g⟩:=Option.map_eq_some_iff.1 hh;simp only[Prod.mk.injEq] at g;obtain ⟨j,l⟩:=g;subst l j;have i: ¬sz=0:=by simpa using nz.h
  exact Z0 (by simp[Instr.fieldAt,run_underlying n,m,Instr.sureAddr,fieldPlace,E8 tz,i])
 .cases hh
theorem Ih {t e:TypeId} {sz b:Nat} {z:Value} [ts:TS P t e] [tz:TZ P e sz b z] {a:Addr} {n c:Nat} {k:IntKind} {i:Int} (d:0<=i) (f:i<n):indexAddr P t (.slice (some a) n c) (.int k i) w K=K (.pointer (some (a.add (i.toNat*sz)))) w:=by
 unfold indexAddr;exact Z0 (by simp[Instr.indexAt,run_underlying ts.h,asIntOf,E8 tz,d,f])
theorem Q9f {t e:TypeId} {n sz b:Nat} {z:Value} [ta:TA P t n e] [tz:TZ P e sz b z] {a:Addr} {k:IntKind} {i:Int} (c:0<=i) (d:i<n):indexAddr P t (.pointer (some a)) (.int k i) w K=K (.pointer (some (a.add (i.toNat*sz)))) w:=by
 unfold indexAddr;exact Z0 (by simp[Instr.indexAt,run_underlying ta.h,asIntOf,Instr.sureAddr,E8 tz,c,d])
theorem H7 {a:Addr}:nilCheck P (.pointer (some a)) w K=K (.pointer (some a)) w:=by
 unfold nilCheck;rw[Yw];unfold Yd
 simp[execOp]
class Rep {α : Type} (R : Q2 -> α -> List Value -> Prop) : Prop where
  up : ∀ {σ σ' : Q2} {x : α} {cs : List Value}, (∀ b o, σ b = some o -> σ' b = some o) -> R σ x cs -> R σ' x cs
  one : ∀ {σ : Q2} {x : α} {cs : List Value}, R σ x cs -> ∀ u ∈ cs, u.oneCell' = true
def Sl {α:Type} (sz:Nat) (R:Q2->α->List Value->Prop) (σ:Q2) (v:Value) (xs:List α):Prop:=
 ∃a c,v= .slice a xs.length c/\xs.length<=c/\c<=maxLen/\(a=none->c=0)/\
  ∀b,a=some b->(0<xs.length->b.spot=none)/\ ∀i x,xs[i]? =some x-> ∃cs,J7 σ (b.add (i*sz)) cs/\cs.length=sz/\R σ x cs
theorem J7.le {σ σ':Q2} {a:Addr} {cs:List Value} (h:J7 σ a cs) (i: ∀b o,σ b=some o->σ' b=some o):J7 σ' a cs:=by
 obtain ⟨d,arr,e,c,f,g⟩:=h;exact ⟨d,arr,e,c,i _ _ f,g⟩
variable {α : Type} {R : Q2 -> α -> List Value -> Prop} {sz : Nat} {σ σ' : Q2} {v : Value} {xs : List α}
theorem Sl.le [hr:Rep R] (h:Sl sz R σ v xs) (g: ∀b o,σ b=some o->σ' b=some o):Sl sz R σ' v xs:=by
 obtain ⟨a,c,m,n,p,q,d⟩:=h;refine ⟨a,c,m,n,p,q,fun b f=>⟨(d b f).1,fun i x r=>?_⟩⟩;obtain ⟨cs,j,k,l⟩:=(d b f).2 i x r;exact ⟨cs,j.le g,k,hr.up g l⟩
theorem Sl.up [Rep R] (h:Sl sz R σ v xs) (a:Stp w σ w' σ'):Sl sz R σ' v xs:=h.le a.le
theorem Sl.max (h:Sl sz R σ v xs):xs.length<=9223372036854775807:=by
 obtain ⟨a,b,d,f,c,g⟩:=h;simp only[maxLen] at c;omega
theorem Sl.nil:Sl sz R σ (.slice none 0 0) ([]:List α):=⟨none,0,rfl,by simp,by simp,fun _=>rfl,fun b a=>by cases a⟩
theorem Q47 {c e t:TypeId} {cs:List Bool} [ts:TS P c e] {a:Option Addr} {n b:Nat}:V0 P .len [c] t cs [.slice a n b] w K=K (I n) w:=by
 have h:(Builtin.len_ #[c] t #[.slice a n b]).run P w= .ok (I n) w:=by
  simp[Builtin.len_,run_underlying ts.h,goInt]
 exact Z0 h
theorem X8e {b e t:TypeId} {cs:List Bool} [ts:TS P b e] (h:Sl sz R σ v xs):V0 P .len [b] t cs [v] w K=K (I xs.length) w:=by
 obtain ⟨a,c,rfl,_⟩:=h;exact Q47
theorem X8L {t e:TypeId} {c:Nat} {z:Value} [TS P t e] [TZ P e sz c z] (h:Sl sz R σ v xs) {k:IntKind} {i:Int} (l:0<=i) (m:i.toNat<xs.length)
 (p: ∀a cs,J7 σ a cs->cs.length=sz->R σ xs[i.toNat] cs->K (.pointer (some a)) w):indexAddr P t v (.int k i) w K:=by
 obtain ⟨a,d,rfl,q,r,n,o⟩:=h;cases a with
 | none=>have:=n rfl;omega
 | some b=>
  rw[Ih l Q5];obtain ⟨cs,f,g,j⟩:=(o b rfl).2 i.toNat xs[i.toNat] (by simp[m])
  exact p _ cs f g j
theorem Stp.turn {σ0 σ:Q2} {row:Option Nat} (b:w.grownBy w' row) (a:Stp w0 σ0 w σ) (f: ∀k,row=some k->w0.heap.size<=k/\σ k=none):Stp w0 σ0 w' σ:=by
 refine ⟨⟨b.os.trans a.bel.os,b.tape.trans a.bel.tape,b.output.trans a.bel.output,Nat.le_trans a.bel.size b.size,fun k d=>?_⟩,?_,a.le,a.old⟩
 .refine (b.block k (Nat.lt_of_lt_of_le d a.bel.size) ?_).trans (a.bel.block k d)
  intro e;have:=(f k e.symm).1;omega
 .intro k o c
  refine (b.block k (a.sat.lt c) ?_).trans (a.sat k o c);intro e;rw[(f k e.symm).2] at c;cases c
theorem Y8.turn {σ:Q2} {row:Option Nat} {k:Nat} {cs:List Value} (h:Y8 σ w k cs) (d:w.grownBy w' row) (a:some k≠row):Y8 σ w' k cs:=by
 have f:=h.lt;obtain ⟨b,e,c⟩:=h;exact ⟨b,e,(d.block k f a).trans c⟩
def W7 {α:Type} (B:Nat) (e:TypeId) (sz:Nat) (R:Q2->α->List Value->Prop) (σ:Q2) (w:World) (v:Value) (xs:List α):Prop:=
 ∃cells,w.ownsRow B e sz v xs.length cells/\(∀k,v.ownBlock=some k->σ k=none)/\ ∀i x,xs[i]? =some x->R σ x ((cells.drop (i*sz)).take sz)
variable {B : Nat} {e : TypeId} {u : Value} {ys : List α}
theorem W7.nil:W7 B e sz R σ w (.slice none 0 0) ([]:List α):=⟨[],World.ownsRow_nil w B e sz,by intro k a;simp[Value.ownBlock] at a,by intro i x h;simp at h⟩
theorem W7.mem (h:W7 B e sz R σ w v xs): ∀k,v.ownBlock=some k->B<=k/\k<w.heap.size/\σ k=none:=by
 obtain ⟨cells,d,f,_⟩:=h;intro k c;obtain ⟨a,b⟩:=d.lt k c;exact ⟨a,b,f k c⟩
theorem W7.up [hr:Rep R] (h:W7 B e sz R σ w v xs) (a:Stp w σ w' σ'):W7 B e sz R σ' w' v xs:=by
 obtain ⟨cells,c,d,f⟩:=h;refine ⟨cells,c.kept ⟨a.bel.os,a.bel.tape,a.bel.output,a.bel.size,fun k g _=>a.bel.block k g⟩ (by cases b:v.ownBlock<;>simp) (row:=none),?_,fun i x j=>hr.up a.le (f i x j)⟩
 intro k b;rw[a.old k (c.lt k b).2];exact d k b
theorem Sl.cells (h:Sl sz R σ v xs) (E:X7 w σ) [hr:Rep R]: ∃(a:Option Addr) (d:Nat) (c:List Value),v= .slice a xs.length d/\(a=none->d=0)/\c.length=xs.length*sz/\(∀b,a=some b-> ∀j u,c[j]? =some u->w.cell? (b.add j)=some u)/\(∀u∈c,u.oneCell'=true)/\
 ∀i x,xs[i]? =some x->R σ x ((c.drop (i*sz)).take sz):=by
 obtain ⟨a,d,rfl,N,O,g,z⟩:=h;cases a with
 | none=>
  have M:=g rfl;have f:xs=[]:=List.eq_nil_of_length_eq_zero Q5;subst f;exact ⟨none,d,[],rfl,g,by simp,fun b D=>(by cases D),by simp,by simp⟩
 | some b=>
  obtain ⟨H,m⟩:=z b rfl;clear z
  have key: ∀(ys:List α) (k:Nat),(∀i x,ys[i]? =some x-> ∃cs,J7 σ (b.add ((k+i)*sz)) cs/\cs.length=sz/\R σ x cs)->
   ∃c:List Value,c.length=ys.length*sz/\(∀j u,c[j]? =some u->w.cell? (b.add (k*sz+j))=some u)/\(∀u∈c,u.oneCell'=true)/\ ∀i x,ys[i]? =some x->R σ x ((c.drop (i*sz)).take sz):=by
   intro ys
   induction ys with
   | nil=>intro k _;exact ⟨[],by simp,by simp,by simp,by simp⟩
   | cons y r J=>
    intro k A;obtain ⟨cs,C,s,t⟩:=A 0 y rfl
    obtain ⟨c,n,o,p,q⟩:=J (k+1) (fun i x f=>by
     have:=A (i+1) x (by simpa using f)
     rwa [show k+1+i=k+(i+1) by omega])
    refine ⟨cs++c,by simp[n,s,Nat.add_mul,Nat.add_comm],?_,?_,?_⟩
    .intro j u hu
     by_cases Q:j<sz
     .rw[List.getElem?_append_left Q5] at hu
      have:=C.cell E hu
      rwa [Q6z,Nat.add_zero] at this
     .rw[List.getElem?_append_right Q5] at hu
      have:=o _ _ hu
      rwa [s,show (k+1)*sz+(j-sz)=k*sz+j by rw[Nat.add_mul];omega] at this
    .intro u hu
     rcases List.mem_append.1 hu with hu | hu
     .exact hr.one t u hu
     .exact p u hu
    .intro i x f
     cases i with
     | zero=>
      simp at f;subst f
      simp only[Nat.zero_mul,List.drop_zero];rw[List.take_append_of_le_length Q5,List.take_of_length_le Q5];exact t
     | succ i=>
      have:=q i x (by simpa using f)
      rw[show (i+1)*sz=cs.length+i*sz by rw[Nat.add_mul];omega,List.drop_append]
      simpa [List.drop_eq_nil_of_le] using this
  obtain ⟨c,n,o,p,q⟩:=key xs 0 (fun i x f=>by rw[Nat.zero_add];exact m i x f)
  refine ⟨some b,d,c,rfl,g,n,?_,p,q⟩;intro L l j u hu;cases l;have:=o j u hu
  rwa [Nat.zero_mul,Nat.zero_add] at this
variable {σ0 : Q2}
theorem Oq (cells a:List Value) (n i:Nat) (c:cells.length=n*sz) (b:i<n):((cells++a).drop (i*sz)).take sz=(cells.drop (i*sz)).take sz:=by
 have h:i*sz+sz<=n*sz:=by rw[<-Nat.succ_mul];exact Nat.mul_le_mul_right _ b
 rw[List.drop_append_of_le_length Q5,List.take_append_of_le_length (by simp only[List.length_drop];omega)]
theorem app {t A:TypeId} {o:Nat} {z:Value} {cs:List Bool} [ts:TS P t e] [tz:TZ P e sz o z] [hr:Rep R] (C:Stp w0 σ0 w σ) (ha:W7 w0.heap.size e sz R σ w v xs) (V:Sl sz R σ u ys) (N:(z.cells.size==sz&&decide (0<sz))=true)
 (hb:(xs.length+ys.length)*o<=140737488355328) (hm:xs.length+ys.length<=9223372036854775807)
 (h: ∀f w',w.grownBy w' v.ownBlock->Stp w0 σ0 w' σ->W7 w0.heap.size e sz R σ w' f (xs++ys)->(f.ownBlock=v.ownBlock\/ ∀k,f.ownBlock=some k->w.heap.size<=k)->K f w'):V0 P .append [t,t] A cs [v,u] w K:=by
 obtain ⟨cells,s,Q,h3⟩:=ha;obtain ⟨a,l,c,rfl,W,X,n3,n4,n5⟩:=V.cells C.sat;obtain ⟨i,J,M,E,r⟩:=tz.info
 have p: ∀f w',(Builtin.append_ #[t,t] A #[v, .slice a ys.length l]).run P w= .ok f w'->w'.ownsRow w0.heap.size e sz f (xs.length+ys.length) (cells++c)->w.grownBy w' v.ownBlock->(f.ownBlock=v.ownBlock\/f.ownBlock=some w.heap.size)->V0 P .append [t,t] A cs [v, .slice a ys.length l] w K:=by
  intro f w' y d m hat
  have q:(builtin .append #[t,t] A cs.toArray #[v, .slice a ys.length l]).run P w= .ok (.value f) w':=by
   simp[builtin,y]
  unfold V0;rw[Yw];unfold Yd;rw[q];refine h f w' m (Stp.turn m C fun k n=>⟨(s.lt k n).1,Q k n⟩) ⟨cells++c,by rw[List.length_append];exact d,?_,?_⟩ ?_
  .intro k n
   rcases hat with hat | hat
   .exact Q k (hat▸n)
   .rw[hat] at n;cases n;exact C.sat.none (Nat.le_refl _)
  .intro j x D
   by_cases U:j<xs.length
   .rw[List.getElem?_append_left U] at D
    rw[Oq cells c xs.length j s.1 U];exact h3 j x D
   .rw[List.getElem?_append_right Q5] at D
    have:=n5 _ _ D;rw[show j*sz=cells.length+(j-xs.length)*sz by rw[s.1,<-Nat.add_mul];congr 1;omega,List.drop_append]
    simpa [List.drop_eq_nil_of_le] using this
  .rcases hat with hat | hat
   .exact .inl hat
   .right;intro k n;rw[hat] at n;cases n;exact Nat.le_refl _
 simp only[Bool.and_eq_true,beq_iff_eq,decide_eq_true_eq] at N;cases a with
 | some b=>
  obtain ⟨f,w',g1,g2,g3,_,g5⟩:=run_append_own_at (P:=P) w w0.heap.size t A e i z sz o ts.h J r M E N.1 N.2 v xs.length cells s b ys.length l c X (n3 b rfl) n4 (by simp only[maxLen];omega) hb C.bel.size
  exact p f w' g1 g2 g3 g5
 | none=>
  have hy:ys=[]:=List.eq_nil_of_length_eq_zero (by obtain ⟨a',O,Z,q1,_,q3,_⟩:=V;injection Z with _ e2 e3;have:=W rfl;subst e3;omega)
  have H:=W rfl;subst hy H;have hn:c=[]:=List.eq_nil_of_length_eq_zero (by simpa using X)
  subst hn;have d:=s
  rcases s.2 with ⟨rfl,h0⟩ | ⟨g,l,Y,rfl,ai,hg,L,_⟩
  .refine p (.slice none 0 0) w ?_ (by simpa using d) (World.grownBy.refl w _) (.inl rfl)
   simp[Builtin.append_,run_underlying ts.h,sizeOf,typeInfo,J,Builtin.lenOf,Builtin.firstCells]
  .refine p _ w ?_ (by simpa using d) (World.grownBy.refl w _) (.inl rfl)
   simp[Builtin.append_,run_underlying ts.h,sizeOf,typeInfo,J,Builtin.lenOf,Builtin.firstCells,L,storeCells]
theorem Q2.put_le {w:World} (d:X7 w σ) {b:Nat} (h:σ b=none) (o:Obj): ∀k p,σ k=some p->(σ.put b o) k=some p:=by
 intro k p c
 by_cases a:k=b
 .subst a;rw[h] at c;cases c
 .simp only[Q2.put,if_neg a];exact c
theorem Stp.put {b:Nat} {o:Obj} (c:Stp w0 σ0 w σ) (g:σ b=none) (h:w0.heap.size<=b) (f:w.heap[b]? =some o):Stp w0 σ0 w (σ.put b o):=by
 refine ⟨c.bel,?_,fun k p a=>Q2.put_le c.sat g o k p (c.le k p a),?_⟩
 .intro k p a
  by_cases d:k=b
  .subst d;simp only[Q2.put,if_true] at a;cases a;exact f
  .simp only[Q2.put,if_neg d] at a;exact c.sat k p a
 .intro k a
  simp only[Q2.put];rw[if_neg Q5];exact c.old k a
theorem W7.keep [hr:Rep R] (h:W7 w0.heap.size e sz R σ w v xs) (m:Stp w0 σ0 w σ): ∃σ',Stp w0 σ0 w σ'/\Sl sz R σ' v xs/\(∀k o,σ k=some o->σ' k=some o)/\(∀k,some k≠v.ownBlock->σ' k=σ k):=by
 obtain ⟨cells,r,z,A⟩:=h
 rcases r.2 with ⟨rfl,y⟩ | ⟨g,l,c,rfl,C,D,p,f,J,q⟩
 .have:xs=[]:=List.eq_nil_of_length_eq_zero y
  subst this;exact ⟨σ,m,Sl.nil,fun _ _ h=>h,fun _ _=>rfl⟩
 .have t:=z g rfl
  have a:=Q2.put_le m.sat t (.cells c e (0,0));refine ⟨σ.put g (.cells c e (0,0)),m.put t C D,⟨_,l,rfl,p,f,by simp,?_⟩,a,?_⟩
  .intro b n
   cases n;refine ⟨fun _=>rfl,fun i x s=>⟨(cells.drop (i*sz)).take sz,⟨Qz rfl _,c,e,(0,0),by rw[K0];simp[Q2.put],?_⟩,?_,hr.up a (A i x s)⟩⟩
   .intro j u d
    rw[Za];rw[List.getElem?_take] at d
    split at d
    .rw[List.getElem?_drop,<-q,List.getElem?_take] at d
     split at d
     .simpa using d
     .cases d
    .cases d
   .have E:i<xs.length:=(List.getElem?_eq_some_iff.1 s).1
    have h:i*sz+sz<=xs.length*sz:=by rw[<-Nat.succ_mul];exact Nat.mul_le_mul_right _ E
    rw[List.length_take,List.length_drop,r.1];omega
  .intro k H
   have:k≠g:=by intro e;subst e;exact H rfl
   simp only[Q2.put,if_neg this]
theorem Sl.piece {a:Option Addr} {n d:Nat} (h:Sl sz R σ (.slice a n d) xs) (l m:Nat) (O:l+m<=xs.length):Sl sz R σ (.slice (if d=l then a else a.map (·.add (l*sz))) m (d-l)) ((xs.drop l).take m):=by
 obtain ⟨L,j,H,M,N,D,k⟩:=h
 injection H with s t y
 subst s t y;have c:((xs.drop l).take m).length=m:=by simp;omega
 refine ⟨_,d-l,by rw[c],by rw[c];omega,by omega,?_,?_⟩
 .intro o
  split at o
  .omega
  .cases a with
   | none=>have:=D rfl;omega
   | some b=>simp at o
 .intro b f
  split at f
  .rename_i E
   obtain ⟨p,q⟩:=k b f;have J:m=0:=by omega
   subst J;exact ⟨fun h=>by simp at h,by simp⟩
  .cases a with
   | none=>simp at f
   | some r=>
    simp only[Option.map_some,Option.some.injEq] at f;obtain ⟨p,q⟩:=k r rfl;subst f;refine ⟨fun h=>Qz (p (by rw[c] at h;omega)) _,fun i x g=>?_⟩
    rw[List.getElem?_take] at g
    split at g
    .rw[List.getElem?_drop] at g
     obtain ⟨cs,z,A,C⟩:=q _ _ g;refine ⟨cs,?_,A,C⟩;rw[Q6z,<-Nat.add_mul];exact z
    .cases g
theorem Bn {t:TypeId} {f:Nat} {z:Value} [ts:TS P t e] [tz:TZ P e sz f z] (h:Sl sz R σ v xs) (d c:Option Value) (l m:Nat) (j:d=none/\l=0\/d=some (I l)) (g:c=none/\m=xs.length\/c=some (I m)) (i:l<=m) (D:m<=xs.length)
 (p: ∀k,Sl sz R σ k ((xs.drop l).take (m-l))->K k w):I3 P t v d c none w K:=by
 have o:=h;obtain ⟨a,b,rfl,s,y,A,C⟩:=h
 have hh: ∀w:World,(Instr.sliceBounds true xs.length b d c none).run P w= .ok (l,m,b) w:=by
  intro w;have q:(m:Int)<=b:=by omega
  have r:(l:Int)<=m:=by omega
  have n:m<=b:=by omega
  rcases j with ⟨rfl,rfl⟩ | rfl<;>rcases g with ⟨rfl,rfl⟩ | rfl<;>
   simp[Instr.sliceBounds,Instr.sliceBound,asIntOf,n,i]<;>intros<;>omega
 unfold I3
 have:(Instr.sliceAt t (.slice a xs.length b) d c none).run P w= .ok (.slice (if b=l then a else a.map (·.add (l*sz))) (m-l) (b-l)) w:=by
  simp[Instr.sliceAt,run_underlying ts.h,Instr.slice,hh,E8 tz]
 rw[Z0 this];exact p _ (o.piece l (m-l) Q5)
def en:Nat->List Value->List (Nat×Value)
 | _,[]=>[]
 | i,v::r=>(i,v)::en (i+1) r
theorem X3M (off:Nat): ∀(vs:List Value) (k:Nat) (cs:Array Value),off+k+vs.length<=cs.size->
 ((vs.zipIdx k).foldl (fun cs (p:Value×Nat)=>cs.setIfInBounds (off+p.2) p.1) cs).toList=cs.toList.take (off+k)++vs++cs.toList.drop (off+k+vs.length):=by
 intro vs
 induction vs with
 | nil=>intro k cs _;simp
 | cons v r ih=>
  intro k cs h;simp only[List.length_cons] at h;rw[List.zipIdx_cons,List.foldl_cons,ih (k+1) _ (by simp;omega)]
  simp only[Array.toList_setIfInBounds,List.length_cons];apply List.ext_getElem?;intro i;simp only[List.getElem?_append,List.length_take,List.length_set,Array.length_toList,List.getElem?_take,List.getElem?_drop,List.length_append,List.getElem?_set,List.length_cons]
  rcases Nat.lt_trichotomy i (off+k) with hi | hi | hi
  .simp[show i<off+(k+1) by omega,hi,show i<min (off+(k+1)) cs.size by omega,show i<min (off+(k+1)) cs.size+r.length by omega,show i<min (off+k) cs.size by omega,show i<min (off+k) cs.size+(r.length+1) by omega,show off+k≠i by omega]
  .subst hi
   simp[show off+k<off+(k+1) by omega,show off+k<min (off+(k+1)) cs.size by omega,show off+k<min (off+(k+1)) cs.size+r.length by omega,show¬off+k<min (off+k) cs.size by omega,show off+k<min (off+k) cs.size+(r.length+1) by omega,show off+k<cs.size by omega,show off+k-min (off+k) cs.size=0 by omega]
  .by_cases h2:i<off+(k+1)+r.length
   .simp[show¬i<min (off+(k+1)) cs.size by omega,show i<min (off+(k+1)) cs.size+r.length by omega,show¬i<min (off+k) cs.size by omega,show i<min (off+k) cs.size+(r.length+1) by omega,show i-min (off+k) cs.size=(i-min (off+(k+1)) cs.size)+1 by omega]
   .simp only[show¬i<min (off+(k+1)) cs.size+r.length by omega,show¬i<min (off+k) cs.size+(r.length+1) by omega,if_false]
    rw[show off+(k+1)+r.length+(i-(min (off+(k+1)) cs.size+r.length))=i by omega,show off+k+(r.length+1)+(i-(min (off+k) cs.size+(r.length+1)))=i by omega,if_neg Q5]
theorem X1n (sz:Nat): ∀(vs:List Value) (i:Nat) (cs:Array Value),(i+vs.length)*sz<=cs.size->(∀v∈vs,v.cells.size=sz)->
 ∃cs',Instr.fill (fun i=>some (i*sz,sz)) cs (en i vs)=some cs'/\cs'.toList=cs.toList.take (i*sz)++vs.flatMap (·.cells.toList)++cs.toList.drop ((i+vs.length)*sz):=by
 intro vs
 induction vs with
 | nil=>intro i cs _ _;exact ⟨cs,rfl,by simp⟩
 | cons v r ih=>
  intro i cs h hv;have hv0:=hv v U5;simp only[List.length_cons] at h
  have h1:i*sz+sz<=cs.size:=by
   have:(i+1)*sz<=(i+(r.length+1))*sz:=Nat.mul_le_mul_right _ Q5;rw[Nat.succ_mul] at this;omega
  have hset:=X3M (i*sz) v.cells.toList 0 cs (by simp;omega)
  simp only[Nat.add_zero] at hset
  have e1:v.cells.zipIdx.foldl (fun cs (p:Value×Nat)=>cs.setIfInBounds (i*sz+p.2) p.1) cs=(v.cells.toList.zipIdx 0).foldl (fun cs (p:Value×Nat)=>cs.setIfInBounds (i*sz+p.2) p.1) cs:=by
   rw[<-Array.foldl_toList,Array.toList_zipIdx]
  have hsz':((v.cells.toList.zipIdx 0).foldl (fun cs (p:Value×Nat)=>cs.setIfInBounds (i*sz+p.2) p.1) cs).size=cs.size:=by
   rw[<-Array.length_toList,hset]
   simp;omega
  obtain ⟨cs',q1,q2⟩:=ih (i+1) _ (by rw[hsz'];rw[show i+1+r.length=i+(r.length+1) by omega];exact h) (fun u hu=>hv u (by simp[hu]))
  refine ⟨cs',?_,?_⟩
  .simp only[en,Instr.fill]
   rw[if_neg (by simp[hv0];omega)]
   rw[e1];exact q1
  .rw[q2,hset]
   simp only[List.flatMap_cons,List.length_cons,Array.length_toList,hv0];have e2:(i+1)*sz=i*sz+sz:=by rw[Nat.succ_mul]
   have e3:(i+(r.length+1))*sz=i*sz+sz+r.length*sz:=by rw[Nat.add_mul,Nat.succ_mul];omega
   have e4:(i+1+r.length)*sz=i*sz+sz+r.length*sz:=by rw[Nat.add_mul,Nat.succ_mul]
   rw[e2,e3,e4];have t1:(cs.toList.take (i*sz)).length=i*sz:=by simp;omega
   have t2:(cs.toList.take (i*sz)++v.cells.toList).length=i*sz+sz:=by rw[List.length_append,t1];simp[hv0]
   have k1: ∀C:List Value,(cs.toList.take (i*sz)++v.cells.toList++C).take (i*sz+sz)=cs.toList.take (i*sz)++v.cells.toList:=by
    intro C;rw[List.take_append_of_le_length Q5,List.take_of_length_le Q5]
   have k2: ∀(C:List Value) (n:Nat),(cs.toList.take (i*sz)++v.cells.toList++C).drop (i*sz+sz+n)=C.drop n:=by
    intro C n;rw[List.drop_append,t2,List.drop_eq_nil_of_le Q5,List.nil_append]
    congr 1;omega
   rw[k1,k2,List.drop_drop];simp only[List.append_assoc]
theorem Fh {t:TypeId} {by_:Nat} {z:Value} [ts:TS P t e] [tz:TZ P e sz by_ z] (vs:List Value) (hv: ∀v∈vs,v.cells.size=sz) (hsm:vs.length*sz<=16777216) (w:World):
 ∃cells:Array Value,(Instr.buildSlice t vs.length (en 0 vs).toArray).run P w= .ok (.slice (some ⟨w.heap.size,0,none⟩) vs.length vs.length) (w.alloc (.cells cells e))/\cells.toList=vs.flatMap (·.cells.toList):=by
 have h2: ¬vs.length*sz>2 ^ 24:=by omega
 by_cases h:vs.length*sz=0
 .obtain ⟨cells,hf,hl⟩:=X1n sz vs 0 ((Array.range (vs.length*sz)).map ((#[]:Array Value)[· % (#[]:Array Value).size]!)) U5 hv
  refine ⟨cells,?_,by rw[hl];simp⟩
  simp only[Instr.buildSlice,Sem.run_bind,run_underlying ts.h,Result.andThen_ok,E8 tz,if_neg h2,if_pos h,Sem.run_pure,hf]
  simp[newRow]
 .obtain ⟨cells,hf,hl⟩:=X1n sz vs 0 ((Array.range (vs.length*sz)).map (z.cells[· % z.cells.size]!)) U5 hv
  refine ⟨cells,?_,by rw[hl];simp⟩
  simp only[Instr.buildSlice,Sem.run_bind,run_underlying ts.h,Result.andThen_ok,E8 tz,if_neg h2,if_neg h,Sem.run_pure,Xh tz,hf]
  simp[newRow]
theorem X2l {vs:List Value} (d: ∀v∈vs,v.cells.size=sz) (i:Nat) (v:Value) (h:vs[i]? =some v):((vs.flatMap (·.cells.toList)).drop (i*sz)).take sz=v.cells.toList:=by
 induction vs generalizing i with
 | nil=>simp at h
 | cons a r f=>
  have b:=d a U5;cases i with
  | zero=>
   simp at h;subst h
   rw[List.flatMap_cons,Nat.zero_mul,List.drop_zero,List.take_append_of_le_length (by simp[b]),List.take_of_length_le (by simp[b])]
  | succ i=>
   rw[List.flatMap_cons,Nat.succ_mul,List.drop_append,List.drop_eq_nil_of_le (by simp[b]),List.nil_append]
   rw[show i*sz+sz-a.cells.toList.length=i*sz by simp[b]]
   exact f (fun v c=>d v (by simp[c])) i (by simpa using h)
theorem Q5e {vs:List Value} (b: ∀v∈vs,v.cells.size=sz):(vs.flatMap (·.cells.toList)).length=vs.length*sz:=by
 induction vs with
 | nil=>simp
 | cons a r c=>
  rw[List.flatMap_cons,List.length_append,c (fun v h=>b v (by simp[h]))]
  simp[b a U5,Nat.succ_mul,Nat.add_comm]
def Q2y (R:Q2->α->List Value->Prop) (σ:Q2):List Value->List α->Prop
 | [],[]=>True
 | v::vs,x::xs=>R σ x v.cells.toList/\Q2y R σ vs xs
 | _,_=>False
theorem Q2y.len {vs:List Value} (h:Q2y R σ vs xs):vs.length=xs.length:=by
 induction vs generalizing xs with
 | nil=>cases xs with
  | nil=>rfl
  | cons=>exact h.elim
 | cons v r a=>cases xs with
  | nil=>exact h.elim
  | cons x y=>simp[a h.2]
theorem Q2y.get {vs:List Value} (h:Q2y R σ vs xs) {i:Nat} {x:α} (a:xs[i]? =some x): ∃v,vs[i]? =some v/\R σ x v.cells.toList:=by
 induction vs generalizing xs i with
 | nil=>cases xs with
  | nil=>simp at a
  | cons=>exact h.elim
 | cons v r b=>cases xs with
  | nil=>exact h.elim
  | cons y ys=>
   cases i with
   | zero=>simp at a;subst a;exact ⟨v,rfl,h.1⟩
   | succ i=>obtain ⟨u,c,d⟩:=b h.2 (i:=i) (by simpa using a);exact ⟨u,by simpa using c,d⟩
theorem Zh {t:TypeId} {g:Nat} {z:Value} {n:Nat} {a:List (Nat×Value)} [ts:TS P t e] [tz:TZ P e sz g z] (j:Stp w0 σ0 w σ) (vs:List Value) (xs:List α) (q:n=vs.length) (r:a=en 0 vs) (c: ∀v∈vs,v.cells.size=sz) (b:(decide (0<sz)&&decide (vs.length*sz<=16777216))=true) (o:Q2y R σ vs xs)
 (h: ∀v w',Stp w σ w' σ->W7 w0.heap.size e sz R σ w' v xs->(∀k,v.ownBlock=some k->w.heap.size<=k)->K v w'):buildSlice P t n a w K:=by
 subst q r;simp only[Bool.and_eq_true,decide_eq_true_eq] at b;obtain ⟨m,b⟩:=b;obtain ⟨cells,p,d⟩:=Fh (P:=P) (t:=t) vs c b w;unfold buildSlice;rw[Z0 p];have f:=o.len;refine h _ _ (Stp.own j.sat _) ⟨cells.toList,⟨by rw[d,Q5e c,f], .inr ⟨_,_,cells,by rw[f],j.bel.size,heap_alloc_new w _,by omega,?_,?_,?_⟩⟩,?_,?_⟩ ?_
 .simp only[maxLen]
  have:vs.length*1<=vs.length*sz:=Nat.mul_le_mul_left _ m;omega
 .rw[<-Array.length_toList,d,Q5e c,f]
 .rw[List.take_of_length_le (by rw[d,Q5e c,f];exact Nat.le_refl _)]
 .intro k l;cases l;exact j.sat.none (Nat.le_refl _)
 .intro i x s
  obtain ⟨v,y,A⟩:=o.get s;rw[d,X2l c i v y];exact A
 .intro k l;cases l;exact Nat.le_refl _
theorem P4 [Rep R] {t:TypeId} {b:Nat} {z:Value} {n:Nat} {a:List (Nat×Value)} [ts:TS P t e] [tz:TZ P e sz b z] (m:X7 w σ) (vs:List Value) (xs:List α) (k:n=vs.length) (l:a=en 0 vs) (o: ∀v∈vs,v.cells.size=sz) (c:(decide (0<sz)&&decide (vs.length*sz<=16777216))=true) (i:Q2y R σ vs xs)
 (h: ∀v w' σ',Stp w σ w' σ'->Sl sz R σ' v xs->K v w'):buildSlice P t n a w K:=by
 refine Zh (Stp.refl m) vs xs k l o c i fun v w' j g _=>?_;obtain ⟨σ',d,f,_⟩:=g.keep j;exact h v w' σ' d f
theorem X6M {t:TypeId} {k a:Nat} {b:TypeId} [tf:TF P t k a b] [tg:TG P b false] {cs:Array Value} {v:Value} (l:cs[a]? =some v):Xj P t (.agg cs) k w K=K v w:=by
 unfold Xj;have hh:=tf.h;unfold Q6T at hh
 split at hh
 .rename_i m j
  obtain ⟨f,i,c⟩:=Option.map_eq_some_iff.1 hh;simp only[Prod.mk.injEq] at c;obtain ⟨d,g⟩:=c;subst g d;exact Z0 (by simp[Instr.field,run_underlying j,i,asAgg,part,Uc tg,l])
 .cases hh
theorem Zc {f:Fn} {first caps:List Value}:C5 P f first caps w K=K (.func f first.toArray caps.toArray) w:=Z0 (by simp[Instr.makeFunc])
theorem N3 {t:TypeId} {a:List (Nat×Value)} {cells:Array Value} (h:P.built t a=some cells) (b:K (.agg cells) w):B7 P t a w K:=by
 unfold B7;rw[Z0 (run_build w t a.toArray cells h)];exact b
def F6 (o:Option Obj) (m:List (List UInt8×Value)):Prop:=
 ∃b a,o=some (.map b a)/\b.toList.map (fun e=>(e.key,e.val))=m.map (fun p=>(S p.1,p.2))/\(b.toList.map (·.born)).Pairwise (· < ·)/\ ∀e∈b.toList,e.born<a
def P6 (m:List (List UInt8×Value)) (k:List UInt8):Option Value:=match m with
 | []=>none
 | p::r=>if p.1=k then some p.2 else P6 r k
def Ow (m:List (List UInt8×Value)) (k:List UInt8) (v:Value):List (List UInt8×Value):=match m with
 | []=>[(k,v)]
 | p::r=>if p.1=k then (k,v)::r else p::Ow r k v
theorem Cj (a b:List UInt8):((⟨a.toArray⟩:ByteArray)==⟨b.toArray⟩)=decide (a=b):=by
 rw[<-Q6A]
 show (a.toArray==b.toArray)=_
 simp
theorem Pg (k:List UInt8): ∀(c:List MapEntry) (m:List (List UInt8×Value)) (i:Nat),c.map (fun e=>(e.key,e.val))=m.map (fun p=>(S p.1,p.2))->
 ∃r,Instr.findNow .string (S k) c i=some r/\r.map (·.2)=P6 m k/\(∀j v,r=some (j,v)->i<=j/\(∃e,c[j-i]? =some e/\e.key=S k)/\ ∀u,(c.modify (j-i) fun e=>{e with key:=S k,val:=u}).map (fun e=>(e.key,e.val))=(Ow m k u).map (fun p=>(S p.1,p.2)))/\
  (r=none-> ∀u,Ow m k u=m++[(k,u)]):=by
 intro c
 induction c with
 | nil=>
  intro m i h;cases m with
  | nil=>exact ⟨none,rfl,rfl,U5,fun _ u=>rfl⟩
  | cons=>simp at h
 | cons e r o=>
  intro m i h;cases m with
  | nil=>simp at h
  | cons p q=>
   simp only[List.map_cons,List.cons.injEq,Prod.mk.injEq] at h;obtain ⟨⟨d,g⟩,l⟩:=h;simp only[Instr.findNow,d,Instr.sameNow,Cj]
   by_cases a:p.1=k
   .have f:decide (k=p.1)=true:=by simp[a]
    simp only[f];refine ⟨_,rfl,by simp[P6,a,g],?_,by simp⟩
    intro j v b;cases b;refine ⟨Nat.le_refl _,⟨e,by simp,by rw[d,a]⟩,fun u=>?_⟩
    simp[Ow,a,l]
   .have f:decide (k=p.1)=false:=by simp;exact fun e=>a e.symm
    simp only[f];obtain ⟨A,s,t,y,z⟩:=o q (i+1) l;refine ⟨A,s,by simp[P6,a,t],?_,?_⟩
    .intro j v b
     obtain ⟨E,C,D⟩:=y j v b;refine ⟨by omega,by rw[show j-i=(j-(i+1))+1 by omega];simpa using C,fun u=>?_⟩
     have:=D u;rw[show j-i=(j-(i+1))+1 by omega]
     simp[Ow,a,d,g,this]
    .intro n u
     simp[Ow,a,z n u]
theorem Xb {t:TypeId} (a:P.underlying t=some .string) (b:Bool) (k:List UInt8) (w:World):(Instr.checkKey b 10000 t (S k)).run P w= .ok () w:=by
 unfold Instr.checkKey
 simp[run_underlying a]
theorem Q5h {t i g:TypeId} {sz d:Nat} {z:Value} [tm:TM P t i g] [tz:TZ P g sz d z] (b:P.underlying i=some .string) {r:Nat} {m:List (List UInt8×Value)} (q:F6 (w.heap[r]?) m) (k:List UInt8):
 lookup P t (.map (some r)) (S k) true w K=K (match P6 m k with | some v=> .tuple #[v, .bool true] | none=> .tuple #[z, .bool false]) w:=by
 obtain ⟨f,a,l,n,y,A⟩:=q;obtain ⟨s,j,c,C,D⟩:=Pg k f.toList m 0 n;unfold lookup;refine Z0 ?_;simp only[Instr.lookup,Sem.run_bind,run_underlying tm.h,Result.andThen_ok,Instr.findKey,run_underlying b,j,Xb b];have o:(getObj r).run P w= .ok (.map f a) w:=by simp[getObj,Sem.run,l]
 simp only[o,Result.andThen_ok,Sem.run_bind,Sem.run_pure,Xb b,run_underlying b,j];cases s with
 | none=>simp at c;rw[<-c];simp[Xh tz]
 | some p=>simp at c;rw[<-c];simp
theorem Q7I {t i f:TypeId} {sz c:Nat} {z:Value} [tm:TM P t i f] [tz:TZ P f sz c z] (g:P.underlying i=some .string) {r:Nat} {m:List (List UInt8×Value)} (o:F6 (w.heap[r]?) m) (k:List UInt8):
 lookup P t (.map (some r)) (S k) false w K=K ((P6 m k).getD z) w:=by
 obtain ⟨d,a,j,l,y,A⟩:=o;obtain ⟨s,q,b,C,D⟩:=Pg k d.toList m 0 l;unfold lookup;refine Z0 ?_;have n:(getObj r).run P w= .ok (.map d a) w:=by simp[getObj,Sem.run,j]
 simp only[Instr.lookup,Sem.run_bind,run_underlying tm.h,Result.andThen_ok,Instr.findKey,run_underlying g,q,Xb g,n,Sem.run_pure];cases s with
 | none=>simp at b;rw[<-b];simp[Xh tz]
 | some p=>simp at b;rw[<-b];simp
def P3 (σ:Q2) (w:World) (r:Nat) (m:List (List UInt8×Value)):Prop:=σ r=none/\F6 (w.heap[r]?) m
def Ji (σ:Q2) (r:Nat) (m:List (List UInt8×Value)):Prop:=F6 (σ r) m
theorem Ji.is {σ:Q2} {r:Nat} {m:List (List UInt8×Value)} (h:Ji σ r m) (f:X7 w σ):F6 (w.heap[r]?) m:=by
 obtain ⟨b,a,c,d⟩:=h;exact ⟨b,a,f _ _ c,d⟩
theorem Ji.le {σ σ':Q2} {r:Nat} {m:List (List UInt8×Value)} (h:Ji σ r m) (g: ∀b o,σ b=some o->σ' b=some o):Ji σ' r m:=by
 obtain ⟨c,a,d,f⟩:=h;exact ⟨c,a,g _ _ d,f⟩
theorem Ji.up {σ σ':Q2} {r:Nat} {m:List (List UInt8×Value)} (h:Ji σ r m) (a:Stp w σ w' σ'):Ji σ' r m:=h.le a.le
theorem P3.lt {σ:Q2} {r:Nat} {m:List (List UInt8×Value)} (h:P3 σ w r m):r<w.heap.size:=by
 obtain ⟨_,c,a,b,_⟩:=h;exact (Array.getElem?_eq_some_iff.1 b).1
theorem P3.up {σ σ':Q2} {r:Nat} {m:List (List UInt8×Value)} (h:P3 σ w r m) (a:Stp w σ w' σ'):P3 σ' w' r m:=by
 have b:=h.lt;exact ⟨(a.old r b).trans h.1,(a.bel.block r b).symm▸h.2⟩
theorem Q62 {t:TypeId} {σ:Q2} (a:X7 w σ) (h: ∀r w',w.heap.size<=r->Stp w σ w' σ->P3 σ w' r []->K (.map (some r)) w'):Oh P t none w K:=by
 unfold Oh;rw[Z0 (v:= .map (some w.heap.size)) (w':=w.alloc (.map #[] 0)) (by simp[Instr.makeMap])]
 exact h _ _ (Nat.le_refl _) (Stp.own a _) ⟨a.none (Nat.le_refl _), #[],0,heap_alloc_new w _,rfl,by simp,by simp⟩
theorem P3.keep {σ σ0:Q2} {r:Nat} {m:List (List UInt8×Value)} (h:P3 σ w r m) (d:Stp w0 σ0 w σ) (i:w0.heap.size<=r): ∃σ',Stp w0 σ0 w σ'/\Ji σ' r m/\(∀k o,σ k=some o->σ' k=some o)/\(∀k,k≠r->σ' k=σ k):=by
 obtain ⟨c,b,a,f,g⟩:=h;exact ⟨σ.put r (.map b a),d.put c i f,⟨b,a,by simp[Q2.put],g⟩,Q2.put_le d.sat c _,fun k j=>by simp only[Q2.put,if_neg j]⟩
theorem Q0B {t U Y:TypeId} [tm:TM P t U Y] (A:P.underlying U=some .string) {σ:Q2} {r:Nat} {m:List (List UInt8×Value)} (hm:P3 σ w r m) (k:List UInt8) (v:Value)
 (h: ∀w',Upd w r w'->P3 σ w' r (Ow m k v)->K undef w'):mapUpdate P t (.map (some r)) (S k) v w K:=by
 obtain ⟨L,l,d,D,M,N,E⟩:=hm;obtain ⟨r',V,q2,q3,q4⟩:=Pg k l.toList m 0 M;have Q:(getObj r).run P w= .ok (.map l d) w:=by simp[getObj,Sem.run,D]
 have hl:=(Array.getElem?_eq_some_iff.1 D).1
 have n: ∀o,o=Obj.map l d\/True->(∀c e f,o≠ .cells c e f)->(setObj r o).run P w= .ok () {w with heap:=w.heap.setIfInBounds r o}:=by
  intro o _ _
  simp[setObj,Sem.run,D]
 have C: ∀o,Upd w r {w with heap:=w.heap.setIfInBounds r o}:=fun o=>⟨rfl,rfl,rfl,by simp,fun k A=>by simp only[Array.getElem?_setIfInBounds];rw[if_neg Q5]⟩
 have z: ∀o,({w with heap:=w.heap.setIfInBounds r o}:World).heap[r]? =some o:=fun o=>by simp[Array.getElem?_setIfInBounds,hl]
 unfold mapUpdate;cases r' with
 | none=>
  rw[Jy (w':={w with heap:=w.heap.setIfInBounds r (.map (l.push {key:=S k,val:=v,born:=d}) (d+1))}) (by
   simp only[Instr.mapUpdate,Sem.run_bind,run_underlying tm.h,Result.andThen_ok,Instr.findKey,run_underlying A,V,Xb A,Q,Sem.run_pure];exact n _ (.inr trivial) (by intros;simp))]
  refine h _ (C _) ⟨L,_,_,z _,?_,?_,?_⟩
  .rw[q4 rfl];simp[M]
  .simp only[Array.toList_push,List.map_append,List.map_cons,List.map_nil]
   rw[List.pairwise_append];refine ⟨N,by simp,?_⟩
   intro a Z b O
   simp at O;subst O
   obtain ⟨e,s,rfl⟩:=List.mem_map.1 Z;exact E e s
  .intro e s
   simp at s
   rcases s with s | rfl
   .have:=E e (by simpa using s);omega
   .simp
 | some p=>
  obtain ⟨j,u⟩:=p;obtain ⟨z1,z2,W⟩:=q3 j u rfl;obtain ⟨e,J,X⟩:=z2;simp only[Nat.sub_zero] at J W
  have g:((l.modify j fun e=>{e with key:=S k,val:=v}).toList.map (·.born))=l.toList.map (·.born):=by
   apply List.ext_getElem?;intro i;simp only[Array.toList_modify,List.getElem?_map,List.getElem?_modify]
   by_cases H:j=i<;>cases l.toList[i]? <;>simp[H]
  have q:(Instr.keyThatStays (S k) (S k)).run P w= .ok (S k) w:=by
   simp[Instr.keyThatStays,Instr.sameBits,Cj]
  rw[Jy (w':={w with heap:=w.heap.setIfInBounds r (.map (l.modify j fun e=>{e with key:=S k,val:=v}) d)}) (by
   simp only[Instr.mapUpdate,Sem.run_bind,run_underlying tm.h,Result.andThen_ok,Instr.findKey,run_underlying A,V,Xb A,Q,Sem.run_pure];rw[show ((l[j]?).map (·.key)).getD (S k)=S k by rw[<-Array.getElem?_toList,J];simp[X]]
   simp only[q,Result.andThen_ok];exact n _ (.inr trivial) (by intros;simp))]
  refine h _ (C _) ⟨L,_,_,z _,?_,?_,?_⟩
  .simp only[Array.toList_modify];exact W v
  .rw[g];exact N
  .intro x hx
   have:x.born∈l.toList.map (·.born):=by rw[<-g];exact List.mem_map.2 ⟨x,hx,rfl⟩
   obtain ⟨y,hy,e⟩:=List.mem_map.1 this;rw[<-e];exact E y hy
variable {w1 : World}
theorem V4 {c b:Bool} {a:World->(Value->World->Prop)->Prop} (d:c=b->a w K) (e:c=(!b)->K undef w):Q1 (.bool c) b w a K:=by
 cases c<;>cases b
 .rw[D2];exact d rfl
 .rw[O3];exact e rfl
 .rw[G1];exact e rfl
 .rw[V9];exact d rfl
theorem Q4 {c:Bool} {t e:Prop} (a:c=true->t) (b:c=false->e):X1 (.bool c) t e:=by
 cases c
 .rw[F0];exact b rfl
 .rw[I0];exact a rfl
theorem Q7 {α:Type} {R:Q2->α->List Value->Prop} {sz:Nat} {σ:Q2} {v:Value} {xs:List α} {a e t:TypeId} {cs:List Bool} [ts:TS P a e] (h:Sl sz R σ v xs) (b:K (I xs.length) w):V0 P .len [a] t cs [v] w K:=by
 rw[X8e h];exact b
structure Kpt (D : Nat -> Prop) (w w' : World) : Prop where
  os : w'.os = w.os
  tape : w'.tape = w.tape
  output : w'.output = w.output
  size : w.heap.size <= w'.heap.size
  block : ∀ k, k < w.heap.size -> ¬ D k -> w'.heap[k]? = w.heap[k]?
theorem Kpt.refl {D:Nat->Prop}:Kpt D w w:=⟨rfl,rfl,rfl,Nat.le_refl _,fun _ _ _=>rfl⟩
theorem Kpt.trans {D:Nat->Prop} (h:Kpt D w w') (k:Kpt D w' w''):Kpt D w w'':=
 ⟨k.os.trans h.os,k.tape.trans h.tape,k.output.trans h.output,Nat.le_trans h.size k.size,fun i b a=>(k.block i (Nat.lt_of_lt_of_le b h.size) a).trans (h.block i b a)⟩
theorem Kpt.of_below {D:Nat->Prop} (h:Below w.heap.size w w'):Kpt D w w':=⟨h.os,h.tape,h.output,h.size,fun k a _=>h.block k a⟩
theorem Kpt.of_grown {D:Nat->Prop} {row:Option Nat} (h:w.grownBy w' row) (c: ∀k,row=some k->D k):Kpt D w w':=⟨h.os,h.tape,h.output,h.size,fun k b a=>h.block k b (fun e=>a (c k e.symm))⟩
theorem Kpt.of_upd {D:Nat->Prop} {b:Nat} (h:Upd w b w') (a:D b):Kpt D w w':=⟨h.os,h.tape,h.output,by rw[h.size];exact Nat.le_refl _,fun k d c=>h.block k (fun e=>c (e▸a))⟩
theorem Kpt.mono {D a:Nat->Prop} (h:Kpt D w w') (c: ∀k,k<w.heap.size->D k->a k):Kpt a w w':=⟨h.os,h.tape,h.output,h.size,fun k b d=>h.block k b (fun e=>d (c k b e))⟩
theorem Kpt.below {D:Nat->Prop} (h:Kpt D w w') (a: ∀k,¬D k):Below w.heap.size w w':=⟨h.os,h.tape,h.output,h.size,fun k b=>h.block k b (a k)⟩
theorem Stp.kp {σ0 σ:Q2} {D:Nat->Prop} (a:Stp w0 σ0 w σ) (b:Kpt D w w') (f: ∀k,D k->w0.heap.size<=k/\σ k=none):Stp w0 σ0 w' σ:=by
 refine ⟨⟨b.os.trans a.bel.os,b.tape.trans a.bel.tape,b.output.trans a.bel.output,Nat.le_trans a.bel.size b.size,fun k c=>?_⟩,?_,a.le,a.old⟩
 .refine (b.block k (Nat.lt_of_lt_of_le c a.bel.size) ?_).trans (a.bel.block k c)
  intro e;have:=(f k e).1;omega
 .intro k o d
  refine (b.block k (a.sat.lt d) ?_).trans (a.sat k o d);intro e;rw[(f k e).2] at d;cases d
theorem Y8.kp {σ:Q2} {D:Nat->Prop} {k:Nat} {cs:List Value} (h:Y8 σ w k cs) (d:Kpt D w w') (a: ¬D k):Y8 σ w' k cs:=by
 have f:=h.lt;obtain ⟨b,e,c⟩:=h;exact ⟨b,e,(d.block k f a).trans c⟩
theorem P3.kp {σ:Q2} {D:Nat->Prop} {r:Nat} {m:List (List UInt8×Value)} (h:P3 σ w r m) (b:Kpt D w w') (a: ¬D r):P3 σ w' r m:=
 ⟨h.1,(b.block r h.lt a).symm▸h.2⟩
theorem W7.kp {α:Type} {R:Q2->α->List Value->Prop} {B sz:Nat} {e:TypeId} {σ:Q2} {v:Value} {xs:List α} {D:Nat->Prop} (h:W7 B e sz R σ w v xs) (n:Kpt D w w') (d: ∀k,v.ownBlock=some k-> ¬D k):W7 B e sz R σ w' v xs:=by
 obtain ⟨cells,f,j,l⟩:=h;refine ⟨cells,⟨f.1,?_⟩,j,l⟩
 rcases f.2 with o | ⟨g,b,c,rfl,m,i,a⟩
 .exact .inl o
 .refine .inr ⟨g,b,c,rfl,m,?_,a⟩
  rw[n.block g (Array.getElem?_eq_some_iff.1 i).1 (d g rfl)];exact i
theorem bt {w w1 b:World} (a:Below w.heap.size w w1) (c:Below w1.heap.size w1 b):Below w.heap.size w b:=a.trans (c.mono a.size)
abbrev W6:Nat:=140737488351232
def M7 (_:Q2) (s:List UInt8) (cs:List Value):Prop:=cs=[S s]/\s.length<=W6
instance:Rep M7:=⟨fun _ h=>h,fun h u hu=>by rw[h.1] at hu;simp at hu;subst hu;rfl⟩
def H6 (_:Q2) (n:Int) (cs:List Value):Prop:=cs=[I n]/\ -9223372036854775808<=n/\n<=9223372036854775807
instance:Rep H6:=⟨fun _ h=>h,fun h u hu=>by rw[h.1] at hu;simp at hu;subst hu;rfl⟩
def Q5v (_:Q2) (b:Bool) (cs:List Value):Prop:=cs=[.bool b]
instance:Rep Q5v:=⟨fun _ h=>h,fun h u hu=>by rw[h] at hu;simp at hu;subst hu;rfl⟩
def UpI (N:Nat) (a:Nat->World->Prop) (x:Value) (w:World):Prop:= ∃n:Nat,x=I n/\n<=N/\a n w
def UpM (N:Nat) (x:Value):Nat:=match x with | .int _ n=>N-n.toNat | _=>0
theorem V7 {A:(Value->World->Prop)->Value->(Nat->Value)->World->Prop} (N:Nat) (a:Nat->World->Prop) (c:a 0 w)
 (b: ∀n w d,n<=N->a n w->A (fun y w'=>UpI N a y w'/\UpM N y<UpM N (I n)) (I n) d w):lp (α:=Value) (.int .i64 0) w A:=by
 refine Of (UpI N a) (fun x _=>UpM N x) ⟨0,rfl,Nat.zero_le _,c⟩ ?_;rintro _ d w' ⟨n,rfl,f,e⟩;exact b n w' d f e
theorem Z5 {N n:Nat} {a:Nat->World->Prop} (d:N<=9223372036854775807) (c:n<N) (b:a (n+1) w):UpI N a (.int .i64 (IntKind.i64.wrap (n+1))) w/\UpM N (.int .i64 (IntKind.i64.wrap (n+1)))<UpM N (I n):=by
 rw[Qr Q5 Q5];exact ⟨⟨n+1,rfl,c,b⟩,by simp only[UpM];omega⟩
def Py {α:Type} (N:Nat) (a:Nat->α->World->Prop) (x:α×Value) (w:World):Prop:= ∃n:Nat,x.2=I n/\n<=N/\a n x.1 w
def Dv {α:Type} (N:Nat) (x:α×Value):Nat:=UpM N x.2
theorem C4 {α:Type} {A:(α×Value->World->Prop)->α×Value->(Nat->Value)->World->Prop} {a:α} (N:Nat) (b:Nat->α->World->Prop) (g:b 0 a w)
 (c: ∀n a w d,n<=N->b n a w->A (fun y w'=>Py N b y w'/\Dv N y<Dv N (a,I n)) (a,I n) d w):lp (α:=α×Value) (a, .int .i64 0) w A:=by
 refine Of (Py N b) (fun x _=>Dv N x) ⟨0,rfl,Nat.zero_le _,g⟩ ?_;rintro ⟨a,x⟩ d w' ⟨n,f,h,e⟩;simp only at f e;subst f;exact c n a w' d h e
theorem V2 {α:Type} {a c:α} {N n:Nat} {b:Nat->α->World->Prop} (f:N<=9223372036854775807) (e:n<N) (d:b (n+1) c w):Py N b (c, .int .i64 (IntKind.i64.wrap (n+1))) w/\Dv N (c, .int .i64 (IntKind.i64.wrap (n+1)))<Dv N (a,I n):=by
 rw[Qr Q5 Q5];exact ⟨⟨n+1,rfl,e,d⟩,by simp only[Dv,UpM];omega⟩
theorem E5 {α:Type} {R:Q2->α->List Value->Prop} {sz:Nat} {σ:Q2} {v:Value} {xs:List α} {t e:TypeId} {b:Nat} {z:Value} [TS P t e] [TZ P e sz b z] (h:Sl sz R σ v xs) {n:Nat} (i:n<xs.length)
 (g: ∀a cs,J7 σ a cs->cs.length=sz->R σ xs[n] cs->K (.pointer (some a)) w):indexAddr P t v (I n) w K:=
 X8L h Q5 (by simpa using i) (fun a cs c d f=>g a cs c d (by simpa using f))
theorem J6 {t:TypeId} {sz c:Nat} {z:Value} {A:Value->Value->World->Prop} [tz:TZ P t sz c z] {σ:Q2} {cs:List Value} (o:X7 w σ) (r:z.cells.size=sz) (n:cs.length=sz) (k: ∀u∈cs,u.oneCell'=true)
 (h: ∀a w' e,Stp w σ w' e->J7 e a cs->A (.pointer (some a)) undef w'):G9 P t w (fun p w=>J9 P t p (.agg cs.toArray) w (fun u w=>A p u w)):=by
 refine Q0g o fun b w1 f m g=>?_;refine Vk g (by simpa using r) n (by rw[List.all_toArray];exact List.all_eq_true.2 k) fun s q d=>?_
 have l:Stp w σ s σ:=q.stp m f g.1;obtain ⟨e,i,j,_⟩:=d.keep l f;exact h _ _ _ i j
theorem L1 {t:TypeId} {d:Nat} {z:Value} {A:Value->Value->World->Prop} [tz:TZ P t 1 d z] {σ:Q2} {v:Value} (r:X7 w σ) (y:z.cells.size=1) (n:v.cells= #[v]) (l:v.oneCell'=true)
 (h: ∀a w' f,Stp w σ w' f->J7 f a [v]->A (.pointer (some a)) undef w'):G9 P t w (fun p w=>J9 P t p v w (fun u w=>A p u w)):=by
 refine Q0g r fun b w1 g o i=>?_;have q:z.cells.toList.length=1:=by simpa using y
 refine st0 i Q5 n l fun B s c=>?_;have m:Stp w σ B σ:=s.stp o g i.1
 have e:z.cells.toList.set 0 v=[v]:=by
  match hzl:z.cells.toList,q with
  | [x],_=>rfl
 rw[e] at c;obtain ⟨f,j,k,_⟩:=c.keep m g;exact h _ _ _ j k
theorem E7 {α:Type} {xs:List α} {p:α->Bool} {n:Nat} (h:n<xs.length):(xs.take (n+1)).any p=((xs.take n).any p||p xs[n]):=by
 rw[List.take_add_one,List.getElem?_eq_getElem h,List.any_append];simp
theorem K2 {α:Type} {xs:List α} {p:α->Bool} {n:Nat} (h:n<xs.length) (a:p xs[n]=true):xs.any p=true:=List.any_eq_true.2 ⟨_,List.getElem_mem h,a⟩
theorem B4 {α:Type} {xs:List α} {p:α->Bool} {n:Nat} (h: ¬n<xs.length):(xs.take n).any p=xs.any p:=by rw[List.take_of_length_le Q5]
end Go.Emb
namespace Go.Hm
open Go.Kd
structure Fld where
  name : X2
  kind : X2
  tr : Bool
deriving DecidableEq
structure Ins where
  op : X2
  n : Int
  s : X2
deriving DecidableEq
structure Cat where
  frm : Int
  to : Int
  at_ : Int
  cls : X2
deriving DecidableEq
structure Met where
  name : X2
  params : List X2
  result : X2
  abs : Bool
  locals : Int
  code : List Ins
  catches : List Cat
deriving DecidableEq
structure Cla where
  name : X2
  super : X2
  like : List X2
  iface : Bool
  abs : Bool
  fin : Bool
  fields : List Fld
  methods : List Hm.Met
deriving DecidableEq
def Fld.zero:Fld:=⟨[],[],false⟩
def Met.zero:Hm.Met:=⟨[],[],[],false,0,[],[]⟩
def Cla.zero:Cla:=⟨[],[],[],false,false,false,[],[]⟩
end Go.Hm
namespace Go.Emb
open Go.RowKit Go.Hm
abbrev Xv (n:Int):Prop:= -9223372036854775808<=n/\n<=9223372036854775807
def I7 (_:Q2) (f:Fld) (cs:List Value):Prop:=cs=[S f.name,S f.kind, .bool f.tr]/\f.name.length<=W6/\f.kind.length<=W6
def Ze (_:Q2) (i:Ins) (cs:List Value):Prop:=cs=[S i.op,I i.n,S i.s]/\i.op.length<=W6/\Xv i.n/\i.s.length<=W6
def Wq (_:Q2) (c:Cat) (cs:List Value):Prop:=cs=[I c.frm,I c.to,I c.at_,S c.cls]/\Xv c.frm/\Xv c.to/\Xv c.at_/\c.cls.length<=W6
def F5 (σ:Q2) (m:Hm.Met) (cs:List Value):Prop:= ∃pv a b,cs=[S m.name,pv,S m.result, .bool m.abs,I m.locals,a,b]/\Sl 1 M7 σ pv m.params/\Sl 3 Ze σ a m.code/\Sl 4 Wq σ b m.catches/\m.name.length<=W6/\m.result.length<=W6/\Xv m.locals
def M8 (σ:Q2) (c:Cla) (cs:List Value):Prop:= ∃b a mv,cs=[S c.name,S c.super,b, .bool c.iface, .bool c.abs, .bool c.fin,a,mv]/\Sl 1 M7 σ b c.like/\Sl 3 I7 σ a c.fields/\Sl 7 F5 σ mv c.methods/\c.name.length<=W6/\c.super.length<=W6
theorem Xp {α:Type} {sz:Nat} {R:Q2->α->List Value->Prop} {σ:Q2} {v:Value} {xs:List α} (h:Sl sz R σ v xs):v.oneCell'=true:=by
 obtain ⟨a,b,rfl,_⟩:=h;rfl
instance:Rep I7:=⟨fun _ h=>h,fun h u hu=>by rw[h.1] at hu;simp at hu;rcases hu with rfl | rfl | rfl<;>rfl⟩
instance:Rep Ze:=⟨fun _ h=>h,fun h u hu=>by rw[h.1] at hu;simp at hu;rcases hu with rfl | rfl | rfl<;>rfl⟩
instance:Rep Wq:=⟨fun _ h=>h,fun h u hu=>by rw[h.1] at hu;simp at hu;rcases hu with rfl | rfl | rfl | rfl<;>rfl⟩
instance:Rep F5:=⟨fun hk ⟨pv,cv,hv,h1,h2,h3,h4,h5⟩=>⟨pv,cv,hv,h1,h2.le hk,h3.le hk,h4.le hk,h5⟩,fun ⟨pv,cv,hv,h1,h2,h3,h4,h5⟩ u hu=>by
 rw[h1] at hu;simp at hu;rcases hu with rfl | rfl | rfl | rfl | rfl | rfl | rfl
 .rfl
 .exact Xp h2
 .rfl
 .rfl
 .rfl
 .exact Xp h3
 .exact Xp h4⟩
instance:Rep M8:=⟨fun hk ⟨pv,cv,hv,h1,h2,h3,h4,h5⟩=>⟨pv,cv,hv,h1,h2.le hk,h3.le hk,h4.le hk,h5⟩,fun ⟨pv,cv,hv,h1,h2,h3,h4,h5⟩ u hu=>by
 rw[h1] at hu;simp at hu;rcases hu with rfl | rfl | rfl | rfl | rfl | rfl | rfl | rfl
 .rfl
 .rfl
 .exact Xp h2
 .rfl
 .rfl
 .rfl
 .exact Xp h3
 .exact Xp h4⟩
end Go.Emb
namespace Go.Proofs.Y
open Go.Emb
instance z_x:TZ P T.x 1 0 (.tuple #[]):=⟨X8⟩
instance g_x:TG P T.x false:=⟨X8⟩
instance z_int64:TZ P T.a4 1 8 (.int .i64 0):=⟨X8⟩
instance g_int64:TG P T.a4 false:=⟨X8⟩
instance z_int:TZ P T.f 1 8 (.int .i64 0):=⟨X8⟩
instance g_int:TG P T.f false:=⟨X8⟩
instance z_bool:TZ P T.r 1 1 (.bool false):=⟨X8⟩
instance g_bool:TG P T.r false:=⟨X8⟩
instance z_uint8:TZ P T.a9 1 1 (.int .u8 0):=⟨X8⟩
instance g_uint8:TG P T.a9 false:=⟨X8⟩
instance z_string:TZ P T.b 1 16 (.string ⟨#[]⟩):=⟨X8⟩
instance g_string:TG P T.b false:=⟨X8⟩
instance z_uintptr:TZ P T.aC 1 8 (.int .u64 0):=⟨X8⟩
instance g_uintptr:TG P T.aC false:=⟨X8⟩
instance z_int32:TZ P T.ar 1 4 (.int .i32 0):=⟨X8⟩
instance g_int32:TG P T.ar false:=⟨X8⟩
instance z_S_squinchref09_Act:TZ P T.a8 1 24 (.slice none 0 0):=⟨X8⟩
instance g_S_squinchref09_Act:TG P T.a8 false:=⟨X8⟩
instance s_S_squinchref09_Act:TS P T.a8 54:=⟨X8⟩
instance z_api_Value:TZ P T.d 4 40 (.agg #[.int .i64 0, .int .i64 0, .string ⟨#[]⟩, .int .i64 0]):=⟨X8⟩
instance g_api_Value:TG P T.d true:=⟨X8⟩
instance f_api_Value_0:TF P T.d 0 0 3:=⟨X8⟩
instance f_api_Value_1:TF P T.d 1 1 2:=⟨X8⟩
instance f_api_Value_2:TF P T.d 2 2 9:=⟨X8⟩
instance f_api_Value_3:TF P T.d 3 3 3:=⟨X8⟩
instance z_A2_api_Value:TZ P T.a6 8 80 (.agg #[.int .i64 0, .int .i64 0, .string ⟨#[]⟩, .int .i64 0, .int .i64 0, .int .i64 0, .string ⟨#[]⟩, .int .i64 0]):=⟨X8⟩
instance g_A2_api_Value:TG P T.a6 true:=⟨X8⟩
instance a_A2_api_Value:TA P T.a6 2 24:=⟨X8⟩
instance z_P_heap_Heap:TZ P T.a1 1 8 (.pointer none):=⟨X8⟩
instance g_P_heap_Heap:TG P T.a1 false:=⟨X8⟩
instance z_S_api_Class:TZ P T.i 1 24 (.slice none 0 0):=⟨X8⟩
instance g_S_api_Class:TG P T.i false:=⟨X8⟩
instance s_S_api_Class:TS P T.i 122:=⟨X8⟩
instance z_S_api_Cell:TZ P T.g 1 24 (.slice none 0 0):=⟨X8⟩
instance g_S_api_Cell:TG P T.g false:=⟨X8⟩
instance s_S_api_Cell:TS P T.g 65:=⟨X8⟩
instance z_squinchref09_Heap:TZ P T.a 3 56 (.agg #[.slice none 0 0, .int .i64 0, .slice none 0 0]):=⟨X8⟩
instance g_squinchref09_Heap:TG P T.a true:=⟨X8⟩
instance f_squinchref09_Heap_0:TF P T.a 0 0 27:=⟨X8⟩
instance f_squinchref09_Heap_1:TF P T.a 1 1 3:=⟨X8⟩
instance f_squinchref09_Heap_2:TF P T.a 2 2 28:=⟨X8⟩
instance z_S_int:TZ P T.q 1 24 (.slice none 0 0):=⟨X8⟩
instance g_S_int:TG P T.q false:=⟨X8⟩
instance s_S_int:TS P T.q 3:=⟨X8⟩
instance z_M_int_int:TZ P T.a2 1 8 (.map none):=⟨X8⟩
instance g_M_int_int:TG P T.a2 false:=⟨X8⟩
instance m_M_int_int:TM P T.a2 3 3:=⟨X8⟩
instance z_S__2_int:TZ P T.aa 1 24 (.slice none 0 0):=⟨X8⟩
instance g_S__2_int:TG P T.aa false:=⟨X8⟩
instance s_S__2_int:TS P T.aa 46:=⟨X8⟩
instance z_A2_int:TZ P T.av 2 16 (.agg #[.int .i64 0, .int .i64 0]):=⟨X8⟩
instance g_A2_int:TG P T.av true:=⟨X8⟩
instance a_A2_int:TA P T.av 2 3:=⟨X8⟩
instance z_uint16:TZ P T.ay 1 2 (.int .u16 0):=⟨X8⟩
instance g_uint16:TG P T.ay false:=⟨X8⟩
instance z_squinchref09_Act:TZ P T.m 8 80 (.agg #[.int .i64 0, .string ⟨#[]⟩, .int .i64 0, .int .i64 0, .int .i64 0, .int .i64 0, .string ⟨#[]⟩, .int .i64 0]):=⟨X8⟩
instance g_squinchref09_Act:TG P T.m true:=⟨X8⟩
instance f_squinchref09_Act_0:TF P T.m 0 0 3:=⟨X8⟩
instance f_squinchref09_Act_1:TF P T.m 1 1 9:=⟨X8⟩
instance f_squinchref09_Act_2:TF P T.m 2 2 2:=⟨X8⟩
instance f_squinchref09_Act_3:TF P T.m 3 3 3:=⟨X8⟩
instance f_squinchref09_Act_4:TF P T.m 4 4 24:=⟨X8⟩
instance z_api_Errno:TZ P T.v 1 8 (.int .i64 0):=⟨X8⟩
instance g_api_Errno:TG P T.v false:=⟨X8⟩
instance z_func_string_bool:TZ P T.ac 1 8 .nilFunc:=⟨X8⟩
instance g_func_string_bool:TG P T.ac false:=⟨X8⟩
instance z_S_api_Value:TZ P T.l 1 24 (.slice none 0 0):=⟨X8⟩
instance g_S_api_Value:TG P T.l false:=⟨X8⟩
instance s_S_api_Value:TS P T.l 24:=⟨X8⟩
instance z_api_Cell:TZ P T.n 2 40 (.agg #[.string ⟨#[]⟩, .slice none 0 0]):=⟨X8⟩
instance g_api_Cell:TG P T.n true:=⟨X8⟩
instance f_api_Cell_0:TF P T.n 0 0 9:=⟨X8⟩
instance f_api_Cell_1:TF P T.n 1 1 63:=⟨X8⟩
instance z_graph_matcher:TZ P T.p 6 64 (.agg #[.pointer none, .pointer none, .map none, .map none, .slice none 0 0, .bool false]):=⟨X8⟩
instance g_graph_matcher:TG P T.p true:=⟨X8⟩
instance f_graph_matcher_0:TF P T.p 0 0 26:=⟨X8⟩
instance f_graph_matcher_1:TF P T.p 1 1 26:=⟨X8⟩
instance f_graph_matcher_2:TF P T.p 2 2 42:=⟨X8⟩
instance f_graph_matcher_3:TF P T.p 3 3 42:=⟨X8⟩
instance f_graph_matcher_4:TF P T.p 4 4 43:=⟨X8⟩
instance f_graph_matcher_5:TF P T.p 5 5 4:=⟨X8⟩
instance z_P_graph_matcher:TZ P T.a5 1 8 (.pointer none):=⟨X8⟩
instance g_P_graph_matcher:TG P T.a5 false:=⟨X8⟩
instance z_P_hier_Table:TZ P T.z 1 8 (.pointer none):=⟨X8⟩
instance g_P_hier_Table:TG P T.z false:=⟨X8⟩
instance z_func_int:TZ P T.aw 1 8 .nilFunc:=⟨X8⟩
instance g_func_int:TG P T.aw false:=⟨X8⟩
instance z_heap_Heap:TZ P T.t 4 48 (.agg #[.pointer none, .int .i64 0, .int .i64 0, .slice none 0 0]):=⟨X8⟩
instance g_heap_Heap:TG P T.t true:=⟨X8⟩
instance f_heap_Heap_0:TF P T.t 0 0 79:=⟨X8⟩
instance f_heap_Heap_1:TF P T.t 1 1 3:=⟨X8⟩
instance f_heap_Heap_2:TF P T.t 2 2 3:=⟨X8⟩
instance f_heap_Heap_3:TF P T.t 3 3 28:=⟨X8⟩
instance z_S_api_Field:TZ P T.k 1 24 (.slice none 0 0):=⟨X8⟩
instance g_S_api_Field:TG P T.k false:=⟨X8⟩
instance s_S_api_Field:TS P T.k 103:=⟨X8⟩
instance z_api_Field:TZ P T.o 3 40 (.agg #[.string ⟨#[]⟩, .string ⟨#[]⟩, .bool false]):=⟨X8⟩
instance g_api_Field:TG P T.o true:=⟨X8⟩
instance f_api_Field_0:TF P T.o 0 0 9:=⟨X8⟩
instance f_api_Field_1:TF P T.o 1 1 9:=⟨X8⟩
instance f_api_Field_2:TF P T.o 2 2 4:=⟨X8⟩
instance z_func_string_string:TZ P T.ag 1 8 .nilFunc:=⟨X8⟩
instance g_func_string_string:TG P T.ag false:=⟨X8⟩
instance z_M_string_int:TZ P T.a7 1 8 (.map none):=⟨X8⟩
instance g_M_string_int:TG P T.a7 false:=⟨X8⟩
instance m_M_string_int:TM P T.a7 9 3:=⟨X8⟩
instance z_hier_Table:TZ P T.a3 2 32 (.agg #[.slice none 0 0, .map none]):=⟨X8⟩
instance g_hier_Table:TG P T.a3 true:=⟨X8⟩
instance f_hier_Table_0:TF P T.a3 0 0 27:=⟨X8⟩
instance f_hier_Table_1:TF P T.a3 1 1 116:=⟨X8⟩
instance z_S_string:TZ P T.h 1 24 (.slice none 0 0):=⟨X8⟩
instance g_S_string:TG P T.h false:=⟨X8⟩
instance s_S_string:TS P T.h 9:=⟨X8⟩
instance z_S_api_Method:TZ P T.j 1 24 (.slice none 0 0):=⟨X8⟩
instance g_S_api_Method:TG P T.j false:=⟨X8⟩
instance s_S_api_Method:TS P T.j 133:=⟨X8⟩
instance z_api_Class:TZ P T.c 8 112 (.agg #[.string ⟨#[]⟩, .string ⟨#[]⟩, .slice none 0 0, .bool false, .bool false, .bool false, .slice none 0 0, .slice none 0 0]):=⟨X8⟩
instance g_api_Class:TG P T.c true:=⟨X8⟩
instance f_api_Class_0:TF P T.c 0 0 9:=⟨X8⟩
instance f_api_Class_1:TF P T.c 1 1 9:=⟨X8⟩
instance f_api_Class_2:TF P T.c 2 2 119:=⟨X8⟩
instance f_api_Class_3:TF P T.c 3 3 4:=⟨X8⟩
instance f_api_Class_4:TF P T.c 4 4 4:=⟨X8⟩
instance f_api_Class_5:TF P T.c 5 5 4:=⟨X8⟩
instance f_api_Class_6:TF P T.c 6 6 99:=⟨X8⟩
instance f_api_Class_7:TF P T.c 7 7 120:=⟨X8⟩
instance z_api_Instr:TZ P T.y 3 40 (.agg #[.string ⟨#[]⟩, .int .i64 0, .string ⟨#[]⟩]):=⟨X8⟩
instance g_api_Instr:TG P T.y true:=⟨X8⟩
instance f_api_Instr_0:TF P T.y 0 0 9:=⟨X8⟩
instance f_api_Instr_1:TF P T.y 1 1 2:=⟨X8⟩
instance f_api_Instr_2:TF P T.y 2 2 9:=⟨X8⟩
instance z_S_api_Instr:TZ P T.s 1 24 (.slice none 0 0):=⟨X8⟩
instance g_S_api_Instr:TG P T.s false:=⟨X8⟩
instance s_S_api_Instr:TS P T.s 129:=⟨X8⟩
instance z_S_api_Catch:TZ P T.u 1 24 (.slice none 0 0):=⟨X8⟩
instance g_S_api_Catch:TG P T.u false:=⟨X8⟩
instance s_S_api_Catch:TS P T.u 189:=⟨X8⟩
instance z_api_Method:TZ P T.e 7 120 (.agg #[.string ⟨#[]⟩, .slice none 0 0, .string ⟨#[]⟩, .bool false, .int .i64 0, .slice none 0 0, .slice none 0 0]):=⟨X8⟩
instance g_api_Method:TG P T.e true:=⟨X8⟩
instance f_api_Method_0:TF P T.e 0 0 9:=⟨X8⟩
instance f_api_Method_1:TF P T.e 1 1 119:=⟨X8⟩
instance f_api_Method_2:TF P T.e 2 2 9:=⟨X8⟩
instance f_api_Method_3:TF P T.e 3 3 4:=⟨X8⟩
instance f_api_Method_4:TF P T.e 4 4 3:=⟨X8⟩
instance f_api_Method_5:TF P T.e 5 5 130:=⟨X8⟩
instance f_api_Method_6:TF P T.e 6 6 131:=⟨X8⟩
instance z_S_S_bool:TZ P T.ad 1 24 (.slice none 0 0):=⟨X8⟩
instance g_S_S_bool:TG P T.ad false:=⟨X8⟩
instance s_S_S_bool:TS P T.ad 138:=⟨X8⟩
instance z_S_bool:TZ P T.ab 1 24 (.slice none 0 0):=⟨X8⟩
instance g_S_bool:TG P T.ab false:=⟨X8⟩
instance s_S_bool:TS P T.ab 4:=⟨X8⟩
instance z_A6_string:TZ P T.au 6 96 (.agg #[.string ⟨#[]⟩, .string ⟨#[]⟩, .string ⟨#[]⟩, .string ⟨#[]⟩, .string ⟨#[]⟩, .string ⟨#[]⟩]):=⟨X8⟩
instance g_A6_string:TG P T.au true:=⟨X8⟩
instance a_A6_string:TA P T.au 6 9:=⟨X8⟩
instance z_M_string_string:TZ P T.a0 1 8 (.map none):=⟨X8⟩
instance g_M_string_string:TG P T.a0 false:=⟨X8⟩
instance m_M_string_string:TM P T.a0 9 9:=⟨X8⟩
instance z_func_api_Method_string:TZ P T.ae 1 8 .nilFunc:=⟨X8⟩
instance g_func_api_Method_string:TG P T.ae false:=⟨X8⟩
instance z_func_api_Method_bool:TZ P T.ai 1 8 .nilFunc:=⟨X8⟩
instance g_func_api_Method_bool:TG P T.ai false:=⟨X8⟩
instance z_func_api_Field_string:TZ P T.af 1 8 .nilFunc:=⟨X8⟩
instance g_func_api_Field_string:TG P T.af false:=⟨X8⟩
instance z_func_api_Field_bool:TZ P T.am 1 8 .nilFunc:=⟨X8⟩
instance g_func_api_Field_bool:TG P T.am false:=⟨X8⟩
instance z_api_Catch:TZ P T.w 4 40 (.agg #[.int .i64 0, .int .i64 0, .int .i64 0, .string ⟨#[]⟩]):=⟨X8⟩
instance g_api_Catch:TG P T.w true:=⟨X8⟩
instance f_api_Catch_0:TF P T.w 0 0 3:=⟨X8⟩
instance f_api_Catch_1:TF P T.w 1 1 3:=⟨X8⟩
instance f_api_Catch_2:TF P T.w 2 2 3:=⟨X8⟩
instance f_api_Catch_3:TF P T.w 3 3 9:=⟨X8⟩
instance g_strings_asciiSet:TG P T.aj true:=⟨X8⟩
instance a_strings_asciiSet:TA P T.aj 256 4:=⟨X8⟩
instance g_A256_uint8:TG P T.aA true:=⟨X8⟩
instance a_A256_uint8:TA P T.aA 256 5:=⟨X8⟩
instance z_utf8_acceptRange:TZ P T.ao 2 2 (.agg #[.int .u8 0, .int .u8 0]):=⟨X8⟩
instance g_utf8_acceptRange:TG P T.ao true:=⟨X8⟩
instance f_utf8_acceptRange_0:TF P T.ao 0 0 5:=⟨X8⟩
instance f_utf8_acceptRange_1:TF P T.ao 1 1 5:=⟨X8⟩
instance z_A16_utf8_acceptRange:TZ P T.ap 32 32 (.agg #[.int .u8 0, .int .u8 0, .int .u8 0, .int .u8 0, .int .u8 0, .int .u8 0, .int .u8 0, .int .u8 0, .int .u8 0, .int .u8 0, .int .u8 0, .int .u8 0, .int .u8 0, .int .u8 0, .int .u8 0, .int .u8 0, .int .u8 0, .int .u8 0, .int .u8 0, .int .u8 0, .int .u8 0, .int .u8 0, .int .u8 0, .int .u8 0, .int .u8 0, .int .u8 0, .int .u8 0, .int .u8 0, .int .u8 0, .int .u8 0, .int .u8 0, .int .u8 0]):=⟨X8⟩
instance g_A16_utf8_acceptRange:TG P T.ap true:=⟨X8⟩
instance a_A16_utf8_acceptRange:TA P T.ap 16 209:=⟨X8⟩
instance z_func_api_Catch_bool:TZ P T.al 1 8 .nilFunc:=⟨X8⟩
instance g_func_api_Catch_bool:TG P T.al false:=⟨X8⟩
instance z_func_api_Instr_bool:TZ P T.an 1 8 .nilFunc:=⟨X8⟩
instance g_func_api_Instr_bool:TG P T.an false:=⟨X8⟩
instance z_S_uint8:TZ P T.az 1 24 (.slice none 0 0):=⟨X8⟩
instance g_S_uint8:TG P T.az false:=⟨X8⟩
instance s_S_uint8:TS P T.az 5:=⟨X8⟩
instance z_strings_Builder:TZ P T.aq 2 32 (.agg #[.pointer none, .slice none 0 0]):=⟨X8⟩
instance g_strings_Builder:TG P T.aq true:=⟨X8⟩
instance f_strings_Builder_0:TF P T.aq 0 0 219:=⟨X8⟩
instance f_strings_Builder_1:TF P T.aq 1 1 220:=⟨X8⟩
instance z_uint64:TZ P T.aE 1 8 (.int .u64 0):=⟨X8⟩
instance g_uint64:TG P T.aE false:=⟨X8⟩
instance z_P_uint8:TZ P T.aB 1 8 (.pointer none):=⟨X8⟩
instance g_P_uint8:TG P T.aB false:=⟨X8⟩
instance z_code_op:TZ P T.ah 3 24 (.agg #[.string ⟨#[]⟩, .bool false, .bool false]):=⟨X8⟩
instance g_code_op:TG P T.ah true:=⟨X8⟩
instance f_code_op_0:TF P T.ah 0 0 9:=⟨X8⟩
instance f_code_op_1:TF P T.ah 1 1 4:=⟨X8⟩
instance f_code_op_2:TF P T.ah 2 2 4:=⟨X8⟩
instance g_A42_code_op:TG P T.ak true:=⟨X8⟩
instance a_A42_code_op:TA P T.ak 42 241:=⟨X8⟩
instance z_S_code_op:TZ P T.ax 1 24 (.slice none 0 0):=⟨X8⟩
instance g_S_code_op:TG P T.ax false:=⟨X8⟩
instance s_S_code_op:TS P T.ax 241:=⟨X8⟩
instance z_uint32:TZ P T.aD 1 4 (.int .u32 0):=⟨X8⟩
instance g_uint32:TG P T.aD false:=⟨X8⟩
end Go.Proofs.Y
namespace Go.Emb
theorem aS {p:Prop} (h:p:=by (first | assumption | exact Stp.sat Q9 | exact Hst.sat Q9)):p:=h
theorem aL {p:Prop} (h:p:=by (first | assumption | exact Sl.lift Q9 (by (repeat (first | exact SLe.refl _ | refine SLe.more ?_ Q9 | refine SLe.more ?_ (Nxt.le Q9) | refine SLe.step ?_ Q9))) | exact J7.lift Q9 (by (repeat (first | exact SLe.refl _ | refine SLe.more ?_ Q9 | refine SLe.more ?_ (Nxt.le Q9) | refine SLe.step ?_ Q9))) | exact Ji.lift Q9 (by (repeat (first | exact SLe.refl _ | refine SLe.more ?_ Q9 | refine SLe.more ?_ (Nxt.le Q9) | refine SLe.step ?_ Q9))) | exact RCl_lift Q9 (by (repeat (first | exact SLe.refl _ | refine SLe.more ?_ Q9 | refine SLe.more ?_ (Nxt.le Q9) | refine SLe.step ?_ Q9))) | exact RMe_lift Q9 (by (repeat (first | exact SLe.refl _ | refine SLe.more ?_ Q9 | refine SLe.more ?_ (Nxt.le Q9) | refine SLe.step ?_ Q9))) | exact Glb.lift Q9 (by (repeat (first | exact SLe.refl _ | refine SLe.more ?_ Q9 | refine SLe.more ?_ (Nxt.le Q9) | refine SLe.step ?_ Q9))) | exact Tab.lift Q9 (by (repeat (first | exact SLe.refl _ | refine SLe.more ?_ Q9 | refine SLe.more ?_ (Nxt.le Q9) | refine SLe.step ?_ Q9))) | exact RIn_any Q9 | exact RFd_any Q9 | exact RCa_any Q9)):p:=h
theorem aR {p:Prop} (h:p:=by with_unfolding_all rfl):p:=h
theorem aF {p:Prop} (a:p:=by (refine Eq.subst (motive:=fun b=>K b _) ?_ (h _ _ (by (repeat (first | exact Stp.refl (by (first | assumption | exact Stp.sat Q9 | exact Hst.sat Q9)) | assumption | refine Stp.trans ?_ (by first | assumption | exact Hst.stp Q9)))));clear h;(try clear hA);(try clear hB);(try clear hC);first | rfl | ((try simp only[Bool.not_eq_true',Bool.not_eq_false',Bool.not_true,Bool.not_false,Bool.not_eq_true] at*);simp only[*,Mb,reduceIte];done) | (simp[*];done) | simp_all)):p:=a
theorem au {p:Prop} (h:p:=by (first | assumption | (first | assumption | exact Stp.sat Q9 | exact Hst.sat Q9) | (first | assumption | exact Sl.lift Q9 (by (repeat (first | exact SLe.refl _ | refine SLe.more ?_ Q9 | refine SLe.more ?_ (Nxt.le Q9) | refine SLe.step ?_ Q9))) | exact J7.lift Q9 (by (repeat (first | exact SLe.refl _ | refine SLe.more ?_ Q9 | refine SLe.more ?_ (Nxt.le Q9) | refine SLe.step ?_ Q9))) | exact Ji.lift Q9 (by (repeat (first | exact SLe.refl _ | refine SLe.more ?_ Q9 | refine SLe.more ?_ (Nxt.le Q9) | refine SLe.step ?_ Q9))) | exact RCl_lift Q9 (by (repeat (first | exact SLe.refl _ | refine SLe.more ?_ Q9 | refine SLe.more ?_ (Nxt.le Q9) | refine SLe.step ?_ Q9))) | exact RMe_lift Q9 (by (repeat (first | exact SLe.refl _ | refine SLe.more ?_ Q9 | refine SLe.more ?_ (Nxt.le Q9) | refine SLe.step ?_ Q9))) | exact Glb.lift Q9 (by (repeat (first | exact SLe.refl _ | refine SLe.more ?_ Q9 | refine SLe.more ?_ (Nxt.le Q9) | refine SLe.step ?_ Q9))) | exact Tab.lift Q9 (by (repeat (first | exact SLe.refl _ | refine SLe.more ?_ Q9 | refine SLe.more ?_ (Nxt.le Q9) | refine SLe.step ?_ Q9))) | exact RIn_any Q9 | exact RFd_any Q9 | exact RCa_any Q9) | exact Nat.le_trans Q9 W3 | omega)):p:=h
end Go.Emb
namespace Go.Proofs.Y
open Go.Emb
theorem X8R {a:List UInt8} {cs:List Bool} {r:TypeId} {w:World} {K:Value->World->Prop}:V0 P .len [T.b] r cs [S a] w K=K (I a.length) w:=G8 Z2
theorem X6b {c d:Operand} {a b:Bool} {w:World} {K:Value->World->Prop}:Z9 P .eql T.r c d (.bool a) (.bool b) w K=K (.bool (a==b)) w:=Q8G Q6v
theorem X6c {c d:Operand} {a b:Bool} {w:World} {K:Value->World->Prop}:Z9 P .neq T.r c d (.bool a) (.bool b) w K=K (.bool (!(a==b))) w:=Q8H Q6v
def Mm:=And.intro @fa <| And.intro @H7 <| And.intro @Zc <| And.intro @X8R <| And.intro @X6b @X6c
def M1:=And.intro Mm Mr
def M2:=And.intro Mm Mp
end Go.Proofs.Y
namespace Go.Proofs.Y
open Go.Emb Go.RowKit Go.Kd Go.Hm
variable {w : World} {K : Value -> World -> Prop} {σ : Q2}
def Og (m:Hm.Met):Bool:=decide (32<m.params.length)||decide (32<m.catches.length)||decide (200<m.code.length)||decide (64<m.locals)
def Vt (c:Cla):Bool:=c.methods.any Og||decide (32<c.like.length)||decide (32<c.fields.length)||decide (32<c.methods.length)
theorem X7L {c : Cla} {cs : List Value} (hs : X7 w σ) (hc : M8 σ c cs) (h : ∀ w', Below w.heap.size w w' -> K (.bool (Vt c)) w') : Q0 P F.cQ [.agg cs.toArray] w K := Q9D (by
  obtain ⟨lv, fv, mv, rfl, hl, hf, hm, hn, hsu⟩ := hc
  unfold Q2S
  simp only [N0]
  unfold Z8 Y1 V1 V3 Y0 X4 X5
  refine F4 hs fun a w1 σ1 hk ha => ?_
  have hs := hk.sat
  replace hl := hl.up hk
  replace hf := hf.up hk
  replace hm := hm.up hk
  simp only [Value.cells] at ha
  ((try simp only [↓M1, M1, Mb, reduceIte]); repeat ((first | refine ld (by assumption) (by assumption) rfl ?_ | refine Y6 (by assumption) (by assumption) rfl ?_ | refine Q7 (by assumption) ?_); (try simp only [↓M1, M1, Mb, reduceIte])))
  refine V7 c.methods.length (fun n w' => Below w1.heap.size w1 w' /\ ((c.methods.take n).any Og) = false) ⟨Below.refl _ _, by simp⟩ fun n w2 d hn hi => ?_
  obtain ⟨hb, hp⟩ := hi
  have hs2 := hs.below hb
  ((try simp only [↓M1, M1, Mb, reduceIte]); repeat ((first | refine ld (by assumption) (by assumption) rfl ?_ | refine Y6 (by assumption) (by assumption) rfl ?_ | refine Q7 (by assumption) ?_); (try simp only [↓M1, M1, Mb, reduceIte])))
  refine Q4 (fun hc => ?_) (fun hc => ?_)
  · have hn' : n < c.methods.length := by simpa using hc
    refine E5 hm hn' fun p cs hl1 hlen hr => ?_
    refine Y7 hs2 hl1 hlen ?_
    refine J6 hs2 (by rfl) hlen (Rep.one hr) fun q w3 σ3 hk3 hq => ?_
    obtain ⟨pv, cv, hv, rfl, g1, g2, g3, g4⟩ := hr
    have hs3 := hk3.sat
    replace g1 := g1.up hk3
    replace g2 := g2.up hk3
    replace g3 := g3.up hk3
    ((try simp only [↓M1, M1, Mb, reduceIte]); repeat ((first | refine ld (by assumption) (by assumption) rfl ?_ | refine Y6 (by assumption) (by assumption) rfl ?_ | refine Q7 (by assumption) ?_); (try simp only [↓M1, M1, Mb, reduceIte])))
    (repeat' ((first | refine V4 (fun hh => ?_) (fun hh => ?_) | refine Q4 (fun hh => ?_) (fun hh => ?_)) <;> (try simp only [hh, Bool.not_true, Bool.not_false, ↓M1, M1, Mb, reduceIte]) <;> ((try simp only [↓M1, M1, Mb, reduceIte]); repeat ((first | refine ld (by assumption) (by assumption) rfl ?_ | refine Y6 (by assumption) (by assumption) rfl ?_ | refine Q7 (by assumption) ?_); (try simp only [↓M1, M1, Mb, reduceIte])))))
    all_goals first
      | refine Z5 hm.max hn' ⟨bt hb hk3.bel, ?_⟩
        rw [E7 hn', hp]; simp only [Og]; (first | (simp only [decide_eq_true_eq, decide_eq_false_iff_not, Bool.not_true, Bool.not_false, Bool.not_eq_true', Bool.not_eq_false', Bool.or_eq_true, Bool.and_eq_true, Bool.or_eq_false_iff, Bool.and_eq_false_iff, Bool.false_or, Bool.true_and, Bool.or_false, Bool.and_true] at *; first | omega | (and_intros <;> omega)) | (rw [Bool.eq_iff_iff]; (simp only [decide_eq_true_eq, decide_eq_false_iff_not, Bool.not_true, Bool.not_false, Bool.not_eq_true', Bool.not_eq_false', Bool.or_eq_true, Bool.and_eq_true, Bool.or_eq_false_iff, Bool.and_eq_false_iff, Bool.false_or, Bool.true_and, Bool.or_false, Bool.and_true] at *; first | omega | (and_intros <;> omega))))
      | have e : Vt c = true := by
          have : Og c.methods[n] = true := by simp only [Og]; (first | (simp only [decide_eq_true_eq, decide_eq_false_iff_not, Bool.not_true, Bool.not_false, Bool.not_eq_true', Bool.not_eq_false', Bool.or_eq_true, Bool.and_eq_true, Bool.or_eq_false_iff, Bool.and_eq_false_iff, Bool.false_or, Bool.true_and, Bool.or_false, Bool.and_true] at *; first | omega | (and_intros <;> omega)) | (rw [Bool.eq_iff_iff]; (simp only [decide_eq_true_eq, decide_eq_false_iff_not, Bool.not_true, Bool.not_false, Bool.not_eq_true', Bool.not_eq_false', Bool.or_eq_true, Bool.and_eq_true, Bool.or_eq_false_iff, Bool.and_eq_false_iff, Bool.false_or, Bool.true_and, Bool.or_false, Bool.and_true] at *; first | omega | (and_intros <;> omega))))
          simp [Vt, K2 hn' this]
        rw [<- e]; exact h _ (bt hk.bel (bt hb hk3.bel))
  · have hn' : ¬ n < c.methods.length := by simpa using hc
    rw [B4 hn'] at hp
    have h := h w2 (bt hk.bel hb)
    ((try simp only [↓M1, M1, Mb, reduceIte]); repeat ((first | refine ld (by assumption) (by assumption) rfl ?_ | refine Y6 (by assumption) (by assumption) rfl ?_ | refine Q7 (by assumption) ?_); (try simp only [↓M1, M1, Mb, reduceIte])))
    (repeat' ((first | refine V4 (fun hh => ?_) (fun hh => ?_) | refine Q4 (fun hh => ?_) (fun hh => ?_)) <;> (try simp only [hh, Bool.not_true, Bool.not_false, ↓M1, M1, Mb, reduceIte]) <;> ((try simp only [↓M1, M1, Mb, reduceIte]); repeat ((first | refine ld (by assumption) (by assumption) rfl ?_ | refine Y6 (by assumption) (by assumption) rfl ?_ | refine Q7 (by assumption) ?_); (try simp only [↓M1, M1, Mb, reduceIte])))))
    all_goals
      refine Eq.subst (motive := fun b => K (.bool b) w2) ?_ h
      simp only [Vt, hp]
      (first | (simp only [decide_eq_true_eq, decide_eq_false_iff_not, Bool.not_true, Bool.not_false, Bool.not_eq_true', Bool.not_eq_false', Bool.or_eq_true, Bool.and_eq_true, Bool.or_eq_false_iff, Bool.and_eq_false_iff, Bool.false_or, Bool.true_and, Bool.or_false, Bool.and_true] at *; first | omega | (and_intros <;> omega)) | (rw [Bool.eq_iff_iff]; (simp only [decide_eq_true_eq, decide_eq_false_iff_not, Bool.not_true, Bool.not_false, Bool.not_eq_true', Bool.not_eq_false', Bool.or_eq_true, Bool.and_eq_true, Bool.or_eq_false_iff, Bool.and_eq_false_iff, Bool.false_or, Bool.true_and, Bool.or_false, Bool.and_true] at *; first | omega | (and_intros <;> omega)))))
end Go.Proofs.Y
namespace Go.Emb
open Go.RowKit Go.Hm
variable {H : Type} {enc : TypeId × Value -> H} {P : Program} {W : World} {t : TypeId} {cs : List Value} {fuel : Nat} {x : DataW H × List MemPlace}
def Wm (W:World):Q2:=fun b=>W.heap[b]?
theorem X4p:X7 W (Wm W):=fun b o h=>h
def Wt (P:Program) (t:TypeId) (d:DataW H):Prop:= ∀n∈d.weights P t,n<=reachBytes
theorem X70 {a:Addr} {n:Nat} (h:W.cells? 0 a n=some cs) (C:0<n):cs.length=n/\J7 (Wm W) a cs:=by
 obtain ⟨_,m,u⟩:=World.cells?_some h;refine ⟨m,?_⟩
 have key: ∀i v,cs[i]? =some v-> ∃arr e f,W.heap[a.block]? =some (.cells arr e f)/\(a.add i).spot=none/\arr[a.off+i]? =some v:=by
  intro i v g;have B:i<cs.length:=(List.getElem?_eq_some_iff.1 g).1;have b:=u i Q5;rw[g] at b;unfold World.cell? at b;rw[K0,Za] at b;cases p:W.heap[a.block]? with
  | none=>rw[p] at b;cases b
  | some o=>
   rw[p] at b;cases o with
   | cells arr e f=>
    simp only at b
    split at b
    .cases b
    .rename_i w
     exact ⟨arr,e,f,rfl,by simpa using w,b⟩
   | _=>cases b
 cases j:cs with
 | nil=>subst j;simp at m;omega
 | cons c r=>
  obtain ⟨arr,e,f,l,s,A⟩:=key 0 c (by rw[j];rfl)
  refine ⟨by simpa [Addr.add] using s,arr,e,f,l,fun i v g=>?_⟩
  obtain ⟨k,z,q,d,D,y⟩:=key i v (by rw[j];exact g)
  rw[l] at d
  injection d with d
  injection d with d
  subst d;exact y
theorem X44 (a:P.underlying t=some .string) (h:DataW.trod enc P W 0 (fun _=>true) true fuel t cs=some x) (b:Wt P t x.1): ∃s:Kd.X2,cs=[S s]/\s.length<=W6:=by
 obtain ⟨⟨⟨s⟩⟩,rfl,rfl,_⟩:=DataW.trod_string a h;refine ⟨s,rfl,?_⟩;have:=b s.length (by simp[DataW.weights])
 exact this
theorem Au (c:P.underlying t=some (.int .i64)) (h:DataW.trod enc P W 0 (fun _=>true) true fuel t cs=some x): ∃n,cs=[I n]/\Xv n:=by
 obtain ⟨n,b,_,a⟩:=DataW.trod_int c h;refine ⟨n,b,?_⟩;simp only[Lit.wf,Bool.and_eq_true,decide_eq_true_eq] at a;exact ⟨a.1,a.2⟩
theorem X71 {α:Type} {Q:Nat->α->Prop}: ∀(n:Nat),(∀i,i<n-> ∃y,Q i y)-> ∃xs:List α,xs.length=n/\ ∀i y,xs[i]? =some y->Q i y:=by
 intro n
 induction n with
 | zero=>intro _;exact ⟨[],rfl,by simp⟩
 | succ n f=>
  intro h;obtain ⟨xs,c,d⟩:=f fun i b=>h i Q5;obtain ⟨y,e⟩:=h n Q5;refine ⟨xs++[y],by simp[c],fun i z a=>?_⟩
  by_cases b:i<xs.length
  .rw[List.getElem?_append_left b] at a;exact d i z a
  .rw[List.getElem?_append_right Q5] at a
   have:i-xs.length=0:=by
    have:=(List.getElem?_eq_some_iff.1 a).1
    simp at this;omega
   rw[this] at a
   simp at a
   subst a;rw[show i=n by omega];exact e
theorem X4A {e:TypeId} {d:DataW H}: ∀{l:List (DataW H)},d∈l-> ∀n∈d.weights P e,n∈DataW.weightsAll P e l:=by
 intro l
 induction l with
 | nil=>intro h;simp at h
 | cons a r c=>
  intro h n b;simp only[DataW.weightsAll,List.mem_append]
  rcases List.mem_cons.1 h with rfl | h
  .exact .inl b
  .exact .inr (c h n b)
theorem X90 {α:Type} {R:Q2->α->List Value->Prop} {e:TypeId} {sz:Nat} (z:P.underlying t=some (.slice e)) (L:P.cellsOf e=sz) (Q:0<sz)
 (r: ∀fuel cs (x:DataW H×List MemPlace),DataW.trod enc P W 0 (fun _=>true) true fuel e cs=some x->Wt P e x.1-> ∃y,R (Wm W) y cs)
 (h:DataW.trod enc P W 0 (fun _=>true) true fuel t cs=some x) (O:Wt P t x.1): ∃v xs,cs=[v]/\Sl sz R (Wm W) v xs:=by
 rcases DataW.trod_slice z h with ⟨rfl,rfl⟩ | ⟨a,o,p,d,A,n,_,rfl,rfl,_,N,s,w,f,_⟩
 .exact ⟨_,[],rfl,Sl.nil⟩
 subst L
 have step: ∀i,i<o-> ∃y,∃c,J7 (Wm W) (a.add (i*P.cellsOf e)) c/\c.length=P.cellsOf e/\R (Wm W) y c:=by
  intro i M;have u:=f i M;have g:i<d.length:=by omega
  rw[List.getElem?_eq_getElem g] at u;obtain ⟨c,C,D⟩:=Option.bind_eq_some_iff.1 u;obtain ⟨E,q⟩:=X70 C Q
  obtain ⟨y,l⟩:=r n c _ D (fun m s=>O m (by
   simp only[DataW.weights,z,List.mem_cons,List.mem_append];exact .inr (.inl (X4A (List.mem_map.2 ⟨_,List.getElem_mem g,rfl⟩) m s))))
  exact ⟨y,c,q,E,l⟩
 obtain ⟨xs,j,k⟩:=X71 o step;refine ⟨_,xs,rfl,some a,p,by rw[j],by rw[j];exact N,s,by simp,fun b J=>?_⟩
 cases J;refine ⟨fun B=>?_,fun i y l=>k i y l⟩;obtain ⟨y,l⟩: ∃y,xs[0]? =some y:=⟨xs[0],List.getElem?_eq_getElem B⟩;obtain ⟨c,q,_,_⟩:=k 0 y l;have:=q.1
 simpa [Addr.add] using this
theorem X1R: ∀{a:List TypeId} {l:List (DataW H)} {i:Nat} {u:TypeId} {d:DataW H},a[i]? =some u->l[i]? =some d-> ∀n∈d.weights P u,n∈DataW.weightsEach P a l:=
 fun b c n e=>DataW.weights_mem_each b c n e
theorem Dq {c:Array Field} (g:P.underlying t=some (.struct c)) (h:DataW.trod enc P W 0 (fun _=>true) true fuel t cs=some x) (s:Wt P t x.1) (i:Nat) {o:Nat} {b:TypeId}
 (q:(c[i]?).map (fun f=>(f.type,f.offset))=some (b,o)) (l:P.cellsOf b=1): ∃n y,DataW.trod enc P W 0 (fun _=>true) true n b ((cs.drop o).take 1)=some y/\Wt P b y.1:=by
 obtain ⟨xs,n,_,rfl,v,j,k⟩:=DataW.trod_struct g h;obtain ⟨f,a,p⟩:=Option.map_eq_some_iff.1 q;cases p;have d:=k i f a;have e:i<xs.length:=by rw[j];exact (Array.getElem?_eq_some_iff.1 a).1
 rw[List.getElem?_eq_getElem e,l] at d;refine ⟨n,_,d,fun m r=>s m ?_⟩;simp only[DataW.weights,g];exact X1R (i:=i) (u:=f.type) (by rw[List.getElem?_map,Array.getElem?_toList,a];rfl) (by rw[List.getElem?_map,List.getElem?_eq_getElem e];rfl) m r
theorem X43 {a:Array Field} {k:Nat} (d:P.underlying t=some (.struct a)) (c:P.cellsOf t=k) (h:DataW.trod enc P W 0 (fun _=>true) true fuel t cs=some x):cs.length=k:=by
 obtain ⟨_,_,_,_,b,_,_⟩:=DataW.trod_struct d h;rw[b,c]
theorem X67 {α:Type} {l:List α} (h:l.length=3): ∃a b c,l=[a,b,c]:=by
 match l,h with
 | [a,b,c],_=>exact ⟨a,b,c,rfl⟩
theorem X8P {α:Type} {l:List α} (h:l.length=4): ∃a b c d,l=[a,b,c,d]:=by
 match l,h with
 | [a,b,c,d],_=>exact ⟨a,b,c,d,rfl⟩
theorem X8Q {α:Type} {l:List α} (h:l.length=8): ∃a b c d e f g i,l=[a,b,c,d,e,f,g,i]:=by
 match l,h with
 | [a,b,c,d,e,f,g,i],_=>exact ⟨a,b,c,d,e,f,g,i,rfl⟩
end Go.Emb
namespace Go.Proofs.Y
open Go.Emb Go.RowKit Go.Kd Go.Hm
theorem Q0U:P.cellsOf T.b=1:=by kernel_rfl
theorem X8j:P.cellsOf T.r=1:=by kernel_rfl
theorem Q8o:P.cellsOf T.f=1:=by kernel_rfl
end Go.Proofs.Y
