/- Parts of a proof about the given program: its functions as texts of their own, what each computes, plain laws of that. The conditions of each stand in its statement. -/
import Derived.Test.YtfppjenblllfaaaGreatDoorB1
import Derived.Below
import Derived.Maps.AppendAt
set_option linter.unnecessarySimpa false
set_option linter.defProp false
set_option linter.unusedSectionVars false
set_option linter.unusedVariables false
set_option linter.unusedSimpArgs false
set_option maxRecDepth 100000
namespace Go.Proofs.YtfppjenblllfaaaGreatDoor
open Go.Emb
def Mh (d c:Value) (w:World) (K:Value→World→Prop):Prop:= Q3 P .eql T.c (.tmp 7) (.const (.string ⟨#[]⟩)) d (.string ⟨#[]⟩) w fun j w=>Q1 j false w (fun w J=>J c w) fun g w=>Q1 j false w (Q3 P .eql T.c (.tmp 10) (.const (.string ⟨#[]⟩)) g (.string ⟨#[]⟩)) fun i w=>pick P j (.bool true) i w fun p w=>X1 p (K d w) (X5 P .len [T.c] T.e [false] [c] w fun l w=>Q3 P .eql T.e (.tmp 15) (.const (.int .i64 1)) l (.int .i64 1) w fun b w=>Q1 b true w (fun w J=>J c w) fun t w=>Q1 b true w (E2 P T.c t (.int .i64 0)) fun m w=>Q1 b true w (Q3 P .lss T.w (.tmp 19) (.const (.int .u8 128)) m (.int .u8 128)) fun s w=>pick P b s (.bool false) w fun k w=>X1 k (E2 P T.c c (.int .i64 0) w fun r w=>Q0 P F.cN [d,r] w fun h w=>K h w) (Q0 P F.bO [c] w fun e w=>ext P e 0 w fun f w=>ext P e 1 w fun o w=>W6 P T.a4 w fun a w=>Z2 P T.a4 a f w fun _u w=>X1 o (Q0 P F.af [d,a] w fun n w=>K n w) (Q0 P F.cI [d,c] w fun q w=>K q w)))
theorem Is {b a:Value} {w:World} {K:Value→World→Prop} (h:Mh b a w K):Q0 P F.bj [b,a] w K:=Q8 (List.replicate 12 none) Tryz.func38 rfl (by decide) (by kernel_rfl) h
def Mn (m f:Value) (w:World) (K:Value→World→Prop):Prop:= Q3 P .eql T.c (.tmp 6) (.const (.string ⟨#[110,117,108,108]⟩)) f (.string ⟨#[110,117,108,108]⟩) w fun l w=>X1 l (K (.bool true) w) (Q0 P F.bj [f,(.string ⟨#[91,93]⟩)] w fun k w=>Q0 P F.a1 [f] w fun a w=>Q1 a true w (fun w J=>J k w) fun d w=>Q1 a true w (Q0 P F.ac [d]) fun c w=>Q1 a true w (fun w J=>J c w) fun b w=>Q1 b false w (fun w J=>J m w) fun e w=>Q1 b false w (fun w J=>J k w) fun j w=>Q1 b false w (Q0 P F.k [e,j]) fun h w=>Q1 a true w (pick P b (.bool true) h) fun i w=>pick P a i (.bool false) w fun g w=>K g w)
theorem Ip {b a:Value} {w:World} {K:Value→World→Prop} (h:Mn b a w K):Q0 P F.v [b,a] w K:=Q8 (List.replicate 6 none) Tryz.func20 rfl (by decide) (by kernel_rfl) h
def Zd (c f:Value) (w:World) (K:Value→World→Prop):Prop:= Q3 P .neq T.c (.tmp 4) (.const (.string ⟨#[110,117,108,108]⟩)) c (.string ⟨#[110,117,108,108]⟩) w fun a w=>Q1 a true w (Q2 P T.r f) fun d w=>Q1 a true w (fun w J=>J c w) fun e w=>Q1 a true w (Q0 P F.v [d,e]) fun g w=>pick P a g (.bool false) w fun b w=>K b w
theorem Dw {b a:Value} {w:World} {K:Value→World→Prop} (h:Zd b a w K):Q0 P F.ag [b,a] w K:=Q8 (List.replicate 2 none) Tryz.func105 rfl (by decide) (by kernel_rfl) h
def Ze (c b:Value) (w:World) (K:Value→World→Prop):Prop:= Q2 P T.y b w fun d w=>Y9 P d [c] w fun e w=>J7 P .not e w fun a w=>K a w
theorem Hg {b a:Value} {w:World} {K:Value→World→Prop} (h:Ze b a w K):Q0 P F.ah [b,a] w K:=Q8 (List.replicate 2 none) Tryz.func106 rfl (by decide) (by kernel_rfl) h
def Tq (s:Value) (w:World) (K:Value→World→Prop):Prop:= box P T.b s w fun b w=>dr w fun a c=>Q6 a (fun l=> ∀w,c w→fieldAddr P T.b b 1 w (dk a l w)) fun l=>Q6 a (fun e=> ∀w,c w→fieldAddr P T.b b 2 w (dk a e w)) fun e=>Q6 a (fun k=> ∀i w,c w→l i w→Q2 P T.d i w (dk a k w)) fun k=>Q6 a (fun h=> ∀j w,c w→k j w→Q0 P F.cJ [j,(.string ⟨#[44]⟩)] w (dk a h w)) fun h=>Q6 a (fun g=> ∀m w,c w→h m w→Q3 P .add T.c (.const (.string ⟨#[40]⟩)) (.tmp 5) (.string ⟨#[40]⟩) m w (dk a g w)) fun g=>Q6 a (fun o=> ∀d w,c w→g d w→Q3 P .add T.c (.tmp 6) (.const (.string ⟨#[41]⟩)) d (.string ⟨#[41]⟩) w (dk a o w)) fun o=>Q6 a (fun p=> ∀f w,c w→e f w→Q2 P T.c f w (dk a p w)) fun p=>∀i f j m d r q w,c w→l i w→e f w→k j w→h m w→g d w→o r w→p q w→ Q3 P .add T.c (.tmp 7) (.tmp 9) r q w fun n w=>K n w
theorem Q4i {a:Value} {w:World} {K:Value→World→Prop} (h:Tq a w K):Q0 P F.bP [a] w K:=Q8 (List.replicate 2 none) Tryz.func110 rfl (by decide) (by kernel_rfl) h
def Xh (Z X a2 a3:Value) (w:World) (K:Value→World→Prop):Prop:= box P T.b Z w fun b w=>Q2 P T.q X w fun Y w=>fieldAddr P T.b b 0 w fun M w=>Q2 P T.c M w fun N w=>lookup P T.q Y N true w fun C w=>ext P C 0 w fun O w=>ext P C 1 w fun e w=>dr w fun a d=>Q6 a (fun y=> ∀w,d w→fieldAddr P T.b b 0 w (dk a y w)) fun y=>Q6 a (fun h=> ∀w,d w→fieldAddr P T.b b 0 w (dk a h w)) fun h=>Q6 a (fun o=> ∀w,d w→fieldAddr P T.a a2 0 w (dk a o w)) fun o=>Q6 a (fun g=> ∀w,d w→Q2 P T.q X w (dk a g w)) fun g=>Q6 a (fun i=> ∀s w,d w→y s w→Q2 P T.c s w (dk a i w)) fun i=>Q6 a (fun z=> ∀w,d w→Q2 P T.q a3 w (dk a z w)) fun z=>Q6 a (fun B=> ∀n w,d w→h n w→Q2 P T.c n w (dk a B w)) fun B=>Q6 a (fun p=> ∀w,d w→Q2 P T.b b w (dk a p w)) fun p=>Q6 a (fun t=> ∀l w,d w→p l w→Q0 P F.bP [l] w (dk a t w)) fun t=>Q6 a (fun A=> ∀v w,d w→o v w→Q2 P T.c v w (dk a A w)) fun A=>Q6 a (fun k=> ∀c u w,d w→g c w→i u w→mapEntry P T.q c u w (dk a k w)) fun k=>Q6 a (fun r=> ∀j w,d w→k j w→ext P j 1 w (dk a r w)) fun r=>Q6 a (fun f=> ∀c m q w,d w→g c w→r m w→t q w→entryStore P T.q c m q w (dk a f w)) fun f=>∀s n v c u H E l q D j m W w,d w→y s w→h n w→o v w→g c w→i u w→z H w→B E w→p l w→t q w→A D w→k j w→r m w→f W w→ mapUpdate P T.q H E D w fun _u w=>Q1 e true w (fun w J=>J O w) fun L w=>Q1 e true w (Q2 P T.b b) fun R w=>Q1 e true w (Q0 P F.bP [R]) fun U w=>Q1 e true w (Q3 P .neq T.c (.tmp 29) (.tmp 31) L U) fun V w=>pick P e V (.bool false) w fun Q w=>K Q w
theorem Oh {b a d c:Value} {w:World} {K:Value→World→Prop} (h:Xh b a d c w K):Q0 P F.aA [b,a,d,c] w K:=Q8 (List.replicate 4 none) Tryz.func109 rfl (by decide) (by kernel_rfl) h
def Yu (e d g:Value) (w:World) (K:Value→World→Prop):Prop:= box P T.a e w fun a w=>fieldAddr P T.a a 7 w fun h w=>Q2 P T.g h w fun f w=>M5 P (.func F.aA) [] [d,a,g] w fun b w=>Q0 P F.a [f,b] w fun c w=>K c w
theorem Et {b a c:Value} {w:World} {K:Value→World→Prop} (h:Yu b a c w K):Q0 P F.aK [b,a,c] w K:=Q8 (List.replicate 2 none) Tryz.func107 rfl (by decide) (by kernel_rfl) h
def Th (d c:Value) (w:World) (K:Value→World→Prop):Prop:= box P T.b d w fun a w=>fieldAddr P T.b a 0 w fun e w=>Q2 P T.c e w fun g w=>Q2 P T.c c w fun f w=>Q3 P .eql T.c (.tmp 5) (.tmp 6) g f w fun b w=>K b w
theorem Q3R {b a:Value} {w:World} {K:Value→World→Prop} (h:Th b a w K):Q0 P F.cO [b,a] w K:=Q8 (List.replicate 2 none) Tryz.func203 rfl (by decide) (by kernel_rfl) h
def Q1x (n q:Value) (w:World) (K:Value→World→Prop):Prop:= box P T.a n w fun b w=>box P T.c q w fun a w=>W6 P T.b w fun d w=>fieldAddr P T.a b 7 w fun o w=>Q2 P T.g o w fun p w=>M5 P (.func F.cO) [] [a] w fun m w=>Q0 P F.g [p,m] w fun c w=>Q3 P .lss T.e (.tmp 11) (.const (.int .i64 0)) c (.int .i64 0) w fun j w=>X1 j (N3 P T.b [] w fun f w=>Z2 P T.b d f w fun _u w=>U5 P T.b d w fun e=>K (.tuple #[e,(.bool false)]) w) (fieldAddr P T.a b 7 w fun i w=>Q2 P T.g i w fun g w=>indexAddr P T.g g c w fun l w=>Q2 P T.b l w fun k w=>Q0 P F.bH [k] w fun h w=>Z2 P T.b d h w fun _u w=>U5 P T.b d w fun e=>K (.tuple #[e,(.bool true)]) w)
theorem Q6D {b a:Value} {w:World} {K:Value→World→Prop} (h:Q1x b a w K):Q0 P F.cj [b,a] w K:=Q8 (List.replicate 6 none) Tryz.func168 rfl (by decide) (by kernel_rfl) h
def Ir:V2:=[none,none,none,some ([19],[6,8,10,11,12,13,14,15,19,20,21,22,23,24,25,26,27,28,29,30,31,32,33,34,35,36,37,38,39,40,41,42,43,44,45,46,47]),none,none,none,none,none,none,none,none,none,none,none,none]
def Mi (r M L:Value) (w:World) (K:Value→World→Prop):Prop:= box P T.a M w fun d w=>W6 P T.b w fun i w=>fieldAddr P T.a d 2 w fun D w=>Q2 P T.d D w fun p w=>X5 P .len [T.d] T.e [false] [p] w fun H w=>lp (α:=Value) (.int .i64 0) w fun c s N w=>Q3 P .lss T.e (.tmp 19) (.tmp 18) s H w fun E w=>X1 E (indexAddr P T.d p s w fun u w=>Q2 P T.c u w fun f w=>Q0 P F.h [r,f] w fun y w=>Q0 P F.cj [y,L] w fun j w=>ext P j 0 w fun q w=>ext P j 1 w fun A w=>W6 P T.b w fun a w=>Z2 P T.b a q w fun _u w=>X1 A (dr w fun n o=>Q6 n (fun e=> ∀w,o w→Q2 P T.b a w (dk n e w)) fun e=>∀m w,o w→e m w→ Z2 P T.b i m w fun _u w=>U5 P T.b i w fun l=>K (.tuple #[f,l,(.bool true)]) w) (Q0 P F.h [r,f] w fun B w=>Q0 P F.aI [r,B,L] w fun h w=>ext P h 0 w fun C w=>ext P h 1 w fun t w=>ext P h 2 w fun v w=>W6 P T.b w fun b w=>Z2 P T.b b t w fun _u w=>X1 v (dr w fun n o=>Q6 n (fun g=> ∀w,o w→Q2 P T.b b w (dk n g w)) fun g=>∀k w,o w→g k w→ Z2 P T.b i k w fun _u w=>U5 P T.b i w fun l=>K (.tuple #[C,l,(.bool true)]) w) (Q3 P .add T.e (.tmp 19) (.const (.int .i64 1)) s (.int .i64 1) w fun J w=>c J w))) (N3 P T.b [] w fun z w=>Z2 P T.b i z w fun _u w=>U5 P T.b i w fun l=>K (.tuple #[(.string ⟨#[]⟩),l,(.bool false)]) w)
theorem Ij {b a c:Value} {w:World} {K:Value→World→Prop} (h:Mi b a c w K):Q0 P F.aI [b,a,c] w K:=Q8 Ir Tryz.func169 rfl (by decide) (by kernel_rfl) h
def Sy:V2:=[none,none,none,none,none,some ([26],[6,8,11,12,13,26,27,28,29,30,31,32,33,34,35,36,37,38,39,40]),none,none,none,none,none,none,none,none,none,some ([43],[6,8,15,16,17,18,43,44,45,46,47,48,49,50,51,52,53,54,55,56,57,58]),none,none,none,none,none,none,none,none]
def Uu (Y a1 Z:Value) (w:World) (K:Value→World→Prop):Prop:= W6 P T.b w fun q w=>Q0 P F.aH [Y,a1] w fun e w=>Q0 P F.o [e] w fun ac w=>X5 P .len [T.h] T.e [false] [e] w fun D w=>lp (α:=Value) (.int .i64 0) w fun g C d_ w=>Q3 P .lss T.e (.tmp 26) (.tmp 25) C D w fun W w=>X1 W (indexAddr P T.h e C w fun V w=>Q2 P T.a V w fun z w=>W6 P T.a w fun a w=>Z2 P T.a a z w fun _u w=>Q2 P T.a a w fun M w=>Q0 P F.cj [M,Z] w fun s w=>ext P s 0 w fun U w=>ext P s 1 w fun N w=>W6 P T.b w fun c w=>Z2 P T.b c U w fun _u w=>X1 N (dr w fun i o=>Q6 i (fun h=> ∀w,o w→fieldAddr P T.a a 0 w (dk i h w)) fun h=>Q6 i (fun m=> ∀j w,o w→h j w→Q2 P T.c j w (dk i m w)) fun m=>Q6 i (fun l=> ∀w,o w→Q2 P T.b c w (dk i l w)) fun l=>∀j u t w,o w→h j w→m u w→l t w→ Z2 P T.b q t w fun _u w=>U5 P T.b q w fun r=>K (.tuple #[u,r,(.bool true)]) w) (Q3 P .add T.e (.tmp 26) (.const (.int .i64 1)) C (.int .i64 1) w fun A w=>g A w)) (X5 P .len [T.h] T.e [false] [e] w fun H w=>lp (α:=Value) (.int .i64 0) w fun f k d_ w=>Q3 P .lss T.e (.tmp 43) (.tmp 42) k H w fun O w=>X1 O (indexAddr P T.h e k w fun X w=>Q2 P T.a X w fun J w=>W6 P T.a w fun b w=>Z2 P T.a b J w fun _u w=>Q2 P T.a b w fun L w=>Q0 P F.aI [Y,L,Z] w fun n w=>ext P n 0 w fun B w=>ext P n 1 w fun y w=>ext P n 2 w fun R w=>W6 P T.b w fun d w=>Z2 P T.b d y w fun _u w=>X1 R (dr w fun i o=>Q6 i (fun p=> ∀w,o w→Q2 P T.b d w (dk i p w)) fun p=>∀v w,o w→p v w→ Z2 P T.b q v w fun _u w=>U5 P T.b q w fun r=>K (.tuple #[B,r,(.bool true)]) w) (Q3 P .add T.e (.tmp 43) (.const (.int .i64 1)) k (.int .i64 1) w fun E w=>f E w)) (N3 P T.b [] w fun Q w=>Z2 P T.b q Q w fun _u w=>U5 P T.b q w fun r=>K (.tuple #[(.string ⟨#[]⟩),r,(.bool false)]) w))
theorem Cw {b a c:Value} {w:World} {K:Value→World→Prop} (h:Uu b a c w K):Q0 P F.aX [b,a,c] w K:=Q8 Sy Tryz.func111 rfl (by decide) (by kernel_rfl) h
def Sp:V2:=[none,none,none,some ([21],[4,6,21,22,23,24,25,26,27,28,29,30,31,32]),none,none,none,none,none,none,none,none,none,some ([37],[4,9,37,38,39,40,41,42,43,44,45,46]),none,none,none,none,none,none,none,none,some ([50],[4,11,50,51,52,53,54,55,56,57,58,59,60,61,62,63,64,65,66,67,68,69,70]),none,none,none,none,none,none,none,none,none,none,none,none,none,none,none,some ([],[4,14,15,16,17,82,83,84,85,86,87,88,89,90,91,92,93,94,95,96,97,98,99,100]),none,none,none,none,none,none,none]
def Jw (a0 a1:Value) (w:World) (K:Value→World→Prop):Prop:= box P T.r a0 w fun v w=>box P T.a a1 w fun i w=>fieldAddr P T.a i 6 w fun bf w=>Q2 P T.i bf w fun s w=>X5 P .len [T.i] T.e [false] [s] w fun be w=>lp (α:=Value) (.int .i64 0) w fun f C d_ w=>Q3 P .lss T.e (.tmp 21) (.tmp 20) C be w fun W w=>X1 W (indexAddr P T.i s C w fun bn w=>Q2 P T.k bn w fun a3 w=>W6 P T.k w fun t6 w=>Z2 P T.k t6 a3 w fun _u w=>Q2 P T.r v w fun ap w=>fieldAddr P T.a i 1 w fun av w=>Q2 P T.c av w fun bl w=>fieldAddr P T.k t6 0 w fun ah w=>Q2 P T.c ah w fun am w=>Q0 P F.b9 [ap,bl,am] w fun N w=>Q3 P .geq T.e (.tmp 30) (.const (.int .i64 0)) N (.int .i64 0) w fun X w=>X1 X (K (.int .i64 64) w) (Q3 P .add T.e (.tmp 21) (.const (.int .i64 1)) C (.int .i64 1) w fun aa w=>f aa w)) (M5 P (.func F.ag) [] [v] w fun aw w=>W6 P T.y w fun u w=>Z2 P T.y u aw w fun _u w=>fieldAddr P T.a i 6 w fun bb w=>Q2 P T.i bb w fun t w=>X5 P .len [T.i] T.e [false] [t] w fun R w=>lp (α:=Value) (.int .i64 0) w fun d k d_ w=>Q3 P .lss T.e (.tmp 37) (.tmp 36) k R w fun Y w=>X1 Y (indexAddr P T.i t k w fun Q w=>Q2 P T.k Q w fun ai w=>W6 P T.k w fun t9 w=>Z2 P T.k t9 ai w fun _u w=>Q2 P T.y u w fun ba w=>fieldAddr P T.k t9 1 w fun J w=>Q2 P T.c J w fun ar w=>Y9 P ba [ar] w fun a5 w=>J7 P .not a5 w fun ak w=>X1 ak (K (.int .i64 65) w) (Q3 P .add T.e (.tmp 37) (.const (.int .i64 1)) k (.int .i64 1) w fun M w=>d M w)) (fieldAddr P T.a i 7 w fun D w=>Q2 P T.g D w fun o w=>X5 P .len [T.g] T.e [false] [o] w fun a2 w=>lp (α:=Value) (.int .i64 0) w fun c m d_ w=>Q3 P .lss T.e (.tmp 50) (.tmp 49) m a2 w fun a7 w=>X1 a7 (indexAddr P T.g o m w fun ao w=>Q2 P T.b ao w fun z w=>W6 P T.b w fun e w=>Z2 P T.b e z w fun _u w=>Q2 P T.y u w fun ab w=>fieldAddr P T.b e 2 w fun aj w=>Q2 P T.c aj w fun ag w=>Y9 P ab [ag] w fun ac w=>J7 P .not ac w fun g w=>Q1 g true w (fieldAddr P T.b e 2) fun ax w=>Q1 g true w (Q2 P T.c ax) fun bd w=>Q1 g true w (Q3 P .neq T.c (.tmp 61) (.const (.string ⟨#[]⟩)) bd (.string ⟨#[]⟩)) fun ad w=>pick P g ad (.bool false) w fun a w=>Q1 a false w (fieldAddr P T.b e 1) fun L w=>Q1 a false w (Q2 P T.d L) fun V w=>Q1 a false w (M5 P (.func F.ah) [] [u]) fun a6 w=>Q1 a false w (Q0 P F.d [V,a6]) fun an w=>pick P a (.bool true) an w fun bj w=>X1 bj (K (.int .i64 65) w) (Q3 P .add T.e (.tmp 50) (.const (.int .i64 1)) m (.int .i64 1) w fun U w=>c U w)) (Rr P T.q none w fun bc w=>Rr P T.q none w fun ae w=>W6 P T.q w fun p w=>W6 P T.q w fun l w=>Z2 P T.q p bc w fun _u w=>Z2 P T.q l ae w fun _u w=>Q2 P T.r v w fun af w=>fieldAddr P T.a i 0 w fun bm w=>Q2 P T.c bm w fun aq w=>M5 P (.func F.aK) [] [p,l] w fun y w=>Q0 P F.t [af,aq,y] w fun al w=>X1 al (K (.int .i64 66) w) (fieldAddr P T.a i 4 w fun bk w=>Q2 P T.p bk w fun O w=>X1 O (K (.int .i64 0) w) (Q2 P T.q l w fun bg w=>rng P T.q bg w fun r w=>lp (α:=Unit) () w fun b bq d_ w=>J1 P r false T.x w fun ay w=>ext P ay 0 w fun bi w=>X1 bi (Q6P P r w fun a9 w=>ext P a9 0 w fun B w=>Q2 P T.r v w fun Z w=>fieldAddr P T.a i 0 w fun a4 w=>Q2 P T.c a4 w fun az w=>Q0 P F.aX [Z,az,B] w fun h w=>ext P h 0 w fun bu w=>ext P h 1 w fun H w=>ext P h 2 w fun bh w=>W6 P T.b w fun q w=>Z2 P T.b q H w fun _u w=>J7 P .not bh w fun j w=>Q1 j false w (fieldAddr P T.b q 3) fun A w=>Q1 j false w (Q2 P T.p A) fun E w=>pick P j (.bool true) E w fun n w=>X1 n (K (.int .i64 67) w) (b () w)) (K (.int .i64 0) w))))))
theorem Si {b a:Value} {w:World} {K:Value→World→Prop} (h:Jw b a w K):Q0 P F.aP [b,a] w K:=Q8 Sp Tryz.func51 rfl (by decide) (by kernel_rfl) h
def Q6F:V2:=[none,none,none,none,none,some ([30],[2,3,4,7,8,9,30,31,32,33,34,35,36,37,38,39,40,41,42,43,44,45,46,47,48,49,50,51,52]),none,none,none,none,none,none,none,none,none,none,some ([58],[2,3,4,10,11,58,59,60,61,62,63,64,65,66,67,68,69,70,71,72,73,74,75,76,77]),none,none,none,none,none,none,none,none,none,some ([85],[2,3,4,12,13,14,85,86,87,88,89,90,91,92,93,94,95,96,97]),none,none,none,none,none,none,none,none,none,none,none,none,none,some ([114],[2,3,4,17,18,114,115,116,117,118,119,120,121,122,123,124,125,126,127,128,129,130,131,132,133]),none,none,none,none,none,none,none,none]
def Q1B (a0:Value) (w:World) (K:Value→World→Prop):Prop:= Q0 P F.cp [] w fun bi w=>Rr P T.v none w fun bw w=>N3 P T.u [(0,bi),(1,bw)] w fun bg w=>box P T.u bg w fun a w=>nilCheck P a w fun bn w=>fieldAddr P T.u bn 0 w fun bd w=>Q2 P T.h bd w fun bh w=>X5 P .len [T.h] T.e [false] [bh] w fun h w=>X5 P .len [T.h] T.e [false] [a0] w fun bb w=>lp (α:=Value) (.int .i64 0) w fun r x5 d_ w=>Q3 P .lss T.e (.tmp 30) (.tmp 29) x5 bb w fun a1 w=>X1 a1 (indexAddr P T.h a0 x5 w fun bj w=>Q2 P T.a bj w fun bu w=>W6 P T.a w fun t8 w=>Z2 P T.a t8 bu w fun _u w=>Q2 P T.a t8 w fun bp w=>Q0 P F.c8 [bp] w fun Y w=>Q3 P .neq T.s (.tmp 37) (.const (.int .i64 0)) Y (.int .i64 0) w fun a2 w=>X1 a2 (K (.tuple #[(.pointer none),x5,Y]) w) (dr w fun b c=>Q6 b (fun p=> ∀w,c w→nilCheck P a w (dk b p w)) fun p=>Q6 b (fun s=> ∀q w,c w→p q w→fieldAddr P T.u q 0 w (dk b s w)) fun s=>Q6 b (fun M=> ∀t w,c w→s t w→Q2 P T.h t w (dk b M w)) fun M=>Q6 b (fun n=> ∀w,c w→Q2 P T.a t8 w (dk b n w)) fun n=>Q6 b (fun k=> ∀j w,c w→n j w→Q0 P F.c9 [j] w (dk b k w)) fun k=>Q6 b (fun N=> ∀y w,c w→k y w→buildSlice P T.h 1 [(0,y)] w (dk b N w)) fun N=>∀q t ac j y W w,c w→p q w→s t w→M ac w→n j w→k y w→N W w→ X5 P .append [T.h,T.h] T.h [false,false] [ac,W] w fun bk w=>nilCheck P a w fun bf w=>fieldAddr P T.u bf 0 w fun bq w=>Z2 P T.h bq bk w fun _u w=>Q3 P .add T.e (.tmp 30) (.const (.int .i64 1)) x5 (.int .i64 1) w fun bc w=>r bc w)) (nilCheck P a w fun a4 w=>fieldAddr P T.u a4 0 w fun a7 w=>Q2 P T.h a7 w fun ab w=>X5 P .len [T.h] T.e [false] [ab] w fun a5 w=>lp (α:=Value) (.int .i64 0) w fun e g d_ w=>Q3 P .lss T.e (.tmp 58) (.tmp 57) g a5 w fun a3 w=>X1 a3 (indexAddr P T.h ab g w fun bv w=>Q2 P T.a bv w fun a6 w=>W6 P T.a w fun E w=>Z2 P T.a E a6 w fun _u w=>fieldAddr P T.a E 0 w fun ar w=>Q2 P T.c ar w fun aw w=>Q0 P F.k [a,aw] w fun az w=>X1 az (Q3 P .sub T.e (.tmp 67) (.tmp 68) g h w fun bm w=>K (.tuple #[(.pointer none),bm,(.int .i64 60)]) w) (dr w fun b c=>Q6 b (fun v=> ∀w,c w→nilCheck P a w (dk b v w)) fun v=>Q6 b (fun m=> ∀u w,c w→v u w→fieldAddr P T.u u 1 w (dk b m w)) fun m=>Q6 b (fun l=> ∀w,c w→fieldAddr P T.a E 0 w (dk b l w)) fun l=>Q6 b (fun J=> ∀o w,c w→m o w→Q2 P T.v o w (dk b J w)) fun J=>Q6 b (fun L=> ∀z w,c w→l z w→Q2 P T.c z w (dk b L w)) fun L=>∀u o z aa ag w,c w→v u w→m o w→l z w→J aa w→L ag w→ mapUpdate P T.v aa ag g w fun _u w=>Q3 P .add T.e (.tmp 58) (.const (.int .i64 1)) g (.int .i64 1) w fun a9 w=>e a9 w)) (nilCheck P a w fun ay w=>fieldAddr P T.u ay 0 w fun bx w=>Q2 P T.h bx w fun a8 w=>E6 P T.h a8 (some h) none none w fun ao w=>X5 P .len [T.h] T.e [false] [ao] w fun bs w=>lp (α:=Value) (.int .i64 0) w fun d i d_ w=>Q3 P .lss T.e (.tmp 85) (.tmp 84) i bs w fun ba w=>X1 ba (indexAddr P T.h ao i w fun bo w=>Q2 P T.a bo w fun b0 w=>W6 P T.a w fun af w=>Z2 P T.a af b0 w fun _u w=>Q2 P T.a af w fun ax w=>Q0 P F.aV [a,ax] w fun ah w=>Q3 P .neq T.s (.tmp 93) (.const (.int .i64 0)) ah (.int .i64 0) w fun bz w=>X1 bz (K (.tuple #[(.pointer none),i,ah]) w) (Q3 P .add T.e (.tmp 85) (.const (.int .i64 1)) i (.int .i64 1) w fun bl w=>d bl w)) (nilCheck P a w fun av w=>fieldAddr P T.u av 0 w fun Q w=>Q2 P T.h Q w fun U w=>E6 P T.h U (some h) none none w fun an w=>M5 P (.func F.b4) [a] [] w fun R w=>Q0 P F.n [an,R] w fun C w=>Q3 P .geq T.e (.tmp 107) (.const (.int .i64 0)) C (.int .i64 0) w fun ap w=>X1 ap (K (.tuple #[(.pointer none),C,(.int .i64 63)]) w) (Q0 P F.b5 [a,h] w fun D w=>X5 P .len [T.z] T.e [false] [D] w fun ae w=>lp (α:=Value) (.int .i64 0) w fun f H d_ w=>Q3 P .lss T.e (.tmp 114) (.tmp 113) H ae w fun aj w=>X1 aj (indexAddr P T.z D H w fun Z w=>Q2 P T.e Z w fun B w=>nilCheck P a w fun V w=>fieldAddr P T.u V 0 w fun ak w=>Q2 P T.h ak w fun O w=>indexAddr P T.h O B w fun al w=>Q2 P T.a al w fun ad w=>Q0 P F.aP [a,ad] w fun A w=>Q3 P .neq T.s (.tmp 127) (.const (.int .i64 0)) A (.int .i64 0) w fun ai w=>X1 ai (Q3 P .sub T.e (.tmp 129) (.tmp 130) B h w fun X w=>K (.tuple #[(.pointer none),X,A]) w) (Q3 P .add T.e (.tmp 114) (.const (.int .i64 1)) H (.int .i64 1) w fun am w=>f am w)) (K (.tuple #[a,(.int .i64 0),(.int .i64 0)]) w)))))
theorem Q6S {a:Value} {w:World} {K:Value→World→Prop} (h:Q1B a w K):Q0 P F.cF [a] w K:=Q8 Q6F Tryz.func25 rfl (by decide) (by kernel_rfl) h
def Js (w:World) (K:Value→World→Prop):Prop:= N3 P T.m [(0,(.string ⟨#[105,110,116]⟩)),(1,(.int .i64 1))] w fun n w=>N3 P T.m [(0,(.string ⟨#[114,101,116,117,114,110]⟩))] w fun r w=>buildSlice P T.l 2 [(0,n),(1,r)] w fun s w=>N3 P T.k [(0,(.string ⟨#[120]⟩)),(1,(.string ⟨#[105,110,116]⟩))] w fun t w=>N3 P T.k [(0,(.string ⟨#[110,101,120,116]⟩)),(1,(.string ⟨#[65]⟩))] w fun o w=>buildSlice P T.i 2 [(0,t),(1,o)] w fun p w=>buildSlice P T.d 2 [(0,(.string ⟨#[105,110,116]⟩)),(1,(.string ⟨#[65]⟩))] w fun q w=>N3 P T.b [(0,(.string ⟨#[102]⟩)),(1,q),(2,(.string ⟨#[105,110,116]⟩)),(4,(.int .i64 3)),(5,s)] w fun a w=>N3 P T.m [(0,(.string ⟨#[114,101,116,117,114,110]⟩))] w fun b w=>buildSlice P T.l 1 [(0,b)] w fun h w=>N3 P T.b [(0,(.string ⟨#[103]⟩)),(4,(.int .i64 1)),(5,h)] w fun c w=>buildSlice P T.g 2 [(0,a),(1,c)] w fun g w=>N3 P T.a [(0,(.string ⟨#[65]⟩)),(1,(.string ⟨#[79,98,106,101,99,116]⟩)),(6,p),(7,g)] w fun e w=>buildSlice P T.d 1 [(0,(.string ⟨#[73]⟩))] w fun j w=>N3 P T.k [(0,(.string ⟨#[108]⟩)),(1,(.string ⟨#[65,91,93]⟩))] w fun m w=>buildSlice P T.i 1 [(0,m)] w fun l w=>N3 P T.a [(0,(.string ⟨#[66]⟩)),(1,(.string ⟨#[65]⟩)),(2,j),(6,l)] w fun f w=>N3 P T.a [(0,(.string ⟨#[73]⟩)),(1,(.string ⟨#[79,98,106,101,99,116]⟩)),(3,(.bool true)),(4,(.bool true))] w fun k w=>N3 P T.a [(0,(.string ⟨#[68]⟩)),(1,(.string ⟨#[79,98,106,101,99,116]⟩)),(4,(.bool true))] w fun d w=>buildSlice P T.h 4 [(0,e),(1,f),(2,k),(3,d)] w fun i w=>K i w
theorem Sk {w:World} {K:Value→World→Prop} (h:Js w K):Q0 P F.av [] w K:=Q8 (List.replicate 3 none) Tryz.func26 rfl (by decide) (by kernel_rfl) h
def Be:V2:=[none,none,none,none,none,some ([1,3],[1,3,10,11,12,13,14,15,16,17,18,19,20,21,22,23]),none,none,none,none]
def Vp (w:World) (K:Value→World→Prop):Prop:= N3 P T.a [(0,(.string ⟨#[79,98,106,101,99,116]⟩))] w fun o w=>N3 P T.k [(0,(.string ⟨#[119,104,97,116]⟩)),(1,(.string ⟨#[116,101,120,116]⟩))] w fun p w=>buildSlice P T.i 1 [(0,p)] w fun l w=>N3 P T.a [(0,(.string ⟨#[70,97,117,108,116]⟩)),(1,(.string ⟨#[79,98,106,101,99,116]⟩)),(6,l)] w fun m w=>buildSlice P T.h 2 [(0,o),(1,m)] w fun n w=>buildSlice P T.d 6 [(0,(.string ⟨#[78,117,108,108,70,97,117,108,116]⟩)),(1,(.string ⟨#[73,110,100,101,120,70,97,117,108,116]⟩)),(2,(.string ⟨#[67,97,115,116,70,97,117,108,116]⟩)),(3,(.string ⟨#[90,101,114,111,70,97,117,108,116]⟩)),(4,(.string ⟨#[82,111,111,109,70,97,117,108,116]⟩)),(5,(.string ⟨#[67,97,108,108,70,97,117,108,116]⟩))] w fun k w=>lp (α:=Value×Value) (n,(.int .i64 0)) w fun a b q w=>X5 P .len [T.d] T.e [false] [k] w fun g w=>Q3 P .lss T.e (.tmp 10) (.tmp 12) b.2 g w fun c w=>X1 c (indexAddr P T.d k b.2 w fun f w=>Q2 P T.c f w fun i w=>N3 P T.a [(0,i),(1,(.string ⟨#[70,97,117,108,116]⟩)),(5,(.bool true))] w fun d w=>buildSlice P T.h 1 [(0,d)] w fun h w=>X5 P .append [T.h,T.h] T.h [false,false] [b.1,h] w fun j w=>Q3 P .add T.e (.tmp 14) (.const (.int .i64 1)) b.2 (.int .i64 1) w fun e w=>a (j,e) w) (K b.1 w)
theorem Fe {w:World} {K:Value→World→Prop} (h:Vp w K):Q0 P F.b6 [] w K:=Q8 Be Tryz.func52 rfl (by decide) (by kernel_rfl) h
def Km:V2:=[none,none,none,some ([3],[2,3,4,5,6,7,8,9,10,11,12,13,14,15,16,17,18,19,20,21,22,23,24,25,26,27,28,29,30,31,32,33,34,35,36,37]),none,none,none,none,none,none,none]
def Mu (Z:Value) (w:World) (K:Value→World→Prop):Prop:= box P T.a Z w fun b w=>lp (α:=Value) (.int .i64 0) w fun g n d_ w=>fieldAddr P T.a b 7 w fun t6 w=>Q2 P T.g t6 w fun t7 w=>X5 P .len [T.g] T.e [false] [t7] w fun t8 w=>Q3 P .lss T.e (.tmp 5) (.tmp 8) n t8 w fun Y w=>X1 Y (fieldAddr P T.a b 7 w fun A w=>Q2 P T.g A w fun o w=>indexAddr P T.g o n w fun r w=>Q2 P T.b r w fun O w=>W6 P T.b w fun a w=>Z2 P T.b a O w fun _u w=>fieldAddr P T.b a 1 w fun V w=>Q2 P T.d V w fun Q w=>X5 P .len [T.d] T.e [false] [Q] w fun u w=>Q3 P .gtr T.e (.tmp 19) (.const (.int .i64 32)) u (.int .i64 32) w fun e w=>Q1 e false w (fieldAddr P T.b a 6) fun D w=>Q1 e false w (Q2 P T.o D) fun W w=>Q1 e false w (X5 P .len [T.o] T.e [false] [W]) fun C w=>Q1 e false w (Q3 P .gtr T.e (.tmp 24) (.const (.int .i64 32)) C (.int .i64 32)) fun l w=>pick P e (.bool true) l w fun c w=>Q1 c false w (fieldAddr P T.b a 5) fun s w=>Q1 c false w (Q2 P T.l s) fun j w=>Q1 c false w (X5 P .len [T.l] T.e [false] [j]) fun v w=>Q1 c false w (Q3 P .gtr T.e (.tmp 30) (.const (.int .i64 200)) v (.int .i64 200)) fun E w=>pick P c (.bool true) E w fun h w=>Q1 h false w (fieldAddr P T.b a 4) fun N w=>Q1 h false w (Q2 P T.e N) fun H w=>Q1 h false w (Q3 P .gtr T.e (.tmp 35) (.const (.int .i64 64)) H (.int .i64 64)) fun B w=>pick P h (.bool true) B w fun R w=>X1 R (K (.bool true) w) (Q3 P .add T.e (.tmp 10) (.const (.int .i64 1)) n (.int .i64 1) w fun m w=>g m w)) (fieldAddr P T.a b 2 w fun L w=>Q2 P T.d L w fun z w=>X5 P .len [T.d] T.e [false] [z] w fun U w=>Q3 P .gtr T.e (.tmp 40) (.const (.int .i64 32)) U (.int .i64 32) w fun d w=>Q1 d false w (fieldAddr P T.a b 6) fun q w=>Q1 d false w (Q2 P T.i q) fun J w=>Q1 d false w (X5 P .len [T.i] T.e [false] [J]) fun X w=>Q1 d false w (Q3 P .gtr T.e (.tmp 45) (.const (.int .i64 32)) X (.int .i64 32)) fun t w=>pick P d (.bool true) t w fun f w=>Q1 f false w (fieldAddr P T.a b 7) fun y w=>Q1 f false w (Q2 P T.g y) fun p w=>Q1 f false w (X5 P .len [T.g] T.e [false] [p]) fun M w=>Q1 f false w (Q3 P .gtr T.e (.tmp 51) (.const (.int .i64 32)) M (.int .i64 32)) fun k w=>pick P f (.bool true) k w fun i w=>K i w)
theorem Kg {a:Value} {w:World} {K:Value→World→Prop} (h:Mu a w K):Q0 P F.bl [a] w K:=Q8 Km Tryz.func112 rfl (by decide) (by kernel_rfl) h
def Bu:V2:=[none,none,none,some ([4],[4,5,6,7]),none,none,none,none]
def Vz (a:Value) (w:World) (K:Value→World→Prop):Prop:= jn (α:=Value) w (fun b w=>Q3 P .eql T.c (.tmp 3) (.const (.string ⟨#[105,110,116]⟩)) a (.string ⟨#[105,110,116]⟩) w fun d w=>X1 d (b d w) (Q3 P .eql T.c (.tmp 3) (.const (.string ⟨#[98,111,111,108]⟩)) a (.string ⟨#[98,111,111,108]⟩) w fun c w=>X1 c (b c w) (Q3 P .eql T.c (.tmp 3) (.const (.string ⟨#[116,101,120,116]⟩)) a (.string ⟨#[116,101,120,116]⟩) w fun f w=>b f w))) fun e g w=>X1 e (K (.bool true) w) (K (.bool false) w)
theorem Bm {a:Value} {w:World} {K:Value→World→Prop} (h:Vz a w K):Q0 P F.ad [a] w K:=Q8 Bu Tryz.func62 rfl (by decide) (by kernel_rfl) h
def Kv:V2:=[none,none,none,some ([3],[2,3,4,5,6,7,8,9,10,11,12,13,14,15,16,17,18,19,20,21,22,23,24,25,26,27,28,29,30,31,32,33,34,35,36,37,38,39,40,41,42,43,44,45,46,47,48,49,50]),none,none,none,none,none,none,none]
def Mw (h:Value) (w:World) (K:Value→World→Prop):Prop:= lp (α:=Value) (.int .i64 0) w fun j i d_ w=>X5 P .len [T.c] T.e [false] [h] w fun t7 w=>Q3 P .lss T.e (.tmp 5) (.tmp 7) i t7 w fun t8 w=>X1 t8 (E2 P T.c h i w fun q w=>Q3 P .geq T.w (.tmp 13) (.const (.int .u8 97)) q (.int .u8 97) w fun d w=>Q1 d true w (fun w J=>J h w) fun R w=>Q1 d true w (fun w J=>J i w) fun Z w=>Q1 d true w (E2 P T.c R Z) fun U w=>Q1 d true w (Q3 P .leq T.w (.tmp 18) (.const (.int .u8 122)) U (.int .u8 122)) fun z w=>pick P d z (.bool false) w fun b w=>Q1 b false w (fun w J=>J h w) fun L w=>Q1 b false w (fun w J=>J i w) fun n w=>Q1 b false w (E2 P T.c L n) fun H w=>Q1 b false w (Q3 P .geq T.w (.tmp 24) (.const (.int .u8 65)) H (.int .u8 65)) fun p w=>Q1 b false w (fun w J=>J p w) fun c w=>Q1 c true w (fun w J=>J h w) fun X w=>Q1 c true w (fun w J=>J i w) fun v w=>Q1 c true w (E2 P T.c X v) fun k w=>Q1 c true w (Q3 P .leq T.w (.tmp 29) (.const (.int .u8 90)) k (.int .u8 90)) fun B w=>Q1 b false w (pick P c B (.bool false)) fun M w=>pick P b (.bool true) M w fun N w=>J7 P .not N w fun a w=>Q1 a true w (fun w J=>J i w) fun E w=>Q1 a true w (Q3 P .eql T.e (.tmp 36) (.const (.int .i64 0)) E (.int .i64 0)) fun V w=>Q1 a true w (fun w J=>J V w) fun f w=>Q1 f false w (fun w J=>J h w) fun D w=>Q1 f false w (fun w J=>J i w) fun l w=>Q1 f false w (E2 P T.c D l) fun Q w=>Q1 f false w (Q3 P .lss T.w (.tmp 41) (.const (.int .u8 48)) Q (.int .u8 48)) fun s w=>Q1 a true w (pick P f (.bool true) s) fun u w=>Q1 a true w (fun w J=>J u w) fun e w=>Q1 e false w (fun w J=>J h w) fun ab w=>Q1 e false w (fun w J=>J i w) fun y w=>Q1 e false w (E2 P T.c ab y) fun W w=>Q1 e false w (Q3 P .gtr T.w (.tmp 47) (.const (.int .u8 57)) W (.int .u8 57)) fun A w=>Q1 a true w (pick P e (.bool true) A) fun C w=>pick P a C (.bool false) w fun t w=>X1 t (K (.bool false) w) (Q3 P .add T.e (.tmp 9) (.const (.int .i64 1)) i (.int .i64 1) w fun m w=>j m w)) (X5 P .len [T.c] T.e [false] [h] w fun o w=>Q3 P .geq T.e (.tmp 52) (.const (.int .i64 1)) o (.int .i64 1) w fun g w=>Q1 g true w (fun w J=>J h w) fun aa w=>Q1 g true w (X5 P .len [T.c] T.e [false] [aa]) fun Y w=>Q1 g true w (Q3 P .leq T.e (.tmp 56) (.const (.int .i64 32)) Y (.int .i64 32)) fun O w=>pick P g O (.bool false) w fun r w=>K r w)
theorem Kp {a:Value} {w:World} {K:Value→World→Prop} (h:Mw a w K):Q0 P F.aJ [a] w K:=Q8 Kv Tryz.func204 rfl (by decide) (by kernel_rfl) h
def Wi (b:Value) (w:World) (K:Value→World→Prop):Prop:= Q0 P F.aJ [b] w fun a w=>Q1 a true w (fun w J=>J b w) fun f w=>Q1 a true w (E2 P T.c f (.int .i64 0)) fun c w=>Q1 a true w (Q3 P .leq T.w (.tmp 7) (.const (.int .u8 90)) c (.int .u8 90)) fun d w=>pick P a d (.bool false) w fun e w=>K e w
theorem Gt {a:Value} {w:World} {K:Value→World→Prop} (h:Wi a w K):Q0 P F.e [a] w K:=Q8 (List.replicate 2 none) Tryz.func170 rfl (by decide) (by kernel_rfl) h
def Kf:V2:=[none,none,none,some ([0,3],[0,3,4,5,6,7,8,9,10,11,12,13,14,15,16,17,18,19,20,21]),none,none,none,none]
def Mv (n:Value) (w:World) (K:Value→World→Prop):Prop:= lp (α:=Value×Value) (n,(.int .i64 0)) w fun a c q w=>X5 P .len [T.c] T.e [false] [c.1] w fun p w=>Q3 P .geq T.e (.tmp 5) (.const (.int .i64 2)) p (.int .i64 2) w fun b w=>Q1 b true w (fun w J=>J c.1 w) fun o w=>Q1 b true w (fun w J=>J c.1 w) fun m w=>Q1 b true w (X5 P .len [T.c] T.e [false] [m]) fun d w=>Q1 b true w (Q3 P .sub T.e (.tmp 10) (.const (.int .i64 2)) d (.int .i64 2)) fun e w=>Q1 b true w (E6 P T.c o (some e) none none) fun j w=>Q1 b true w (Q3 P .eql T.c (.tmp 12) (.const (.string ⟨#[91,93]⟩)) j (.string ⟨#[91,93]⟩)) fun f w=>pick P b f (.bool false) w fun i w=>X1 i (Q3 P .add T.e (.tmp 15) (.const (.int .i64 1)) c.2 (.int .i64 1) w fun k w=>X5 P .len [T.c] T.e [false] [c.1] w fun h w=>Q3 P .sub T.e (.tmp 19) (.const (.int .i64 2)) h (.int .i64 2) w fun l w=>E6 P T.c c.1 none (some l) none w fun g w=>a (g,k) w) (K c.2 w)
theorem Ko {a:Value} {w:World} {K:Value→World→Prop} (h:Mv a w K):Q0 P F.al [a] w K:=Q8 Kf Tryz.func177 rfl (by decide) (by kernel_rfl) h
def Wn (j:Value) (w:World) (K:Value→World→Prop):Prop:= Q0 P F.al [j] w fun m w=>X5 P .len [T.c] T.e [false] [j] w fun n w=>Q3 P .mul T.e (.const (.int .i64 2)) (.tmp 10) (.int .i64 2) m w fun e w=>Q3 P .sub T.e (.tmp 9) (.tmp 11) n e w fun d w=>E6 P T.c j none (some d) none w fun c w=>Q3 P .leq T.e (.tmp 14) (.const (.int .i64 3)) m (.int .i64 3) w fun a w=>Q1 a true w (fun w J=>J c w) fun k w=>Q1 a true w (Q0 P F.ad [k]) fun h w=>Q1 a true w (fun w J=>J h w) fun b w=>Q1 b false w (fun w J=>J c w) fun f w=>Q1 b false w (Q0 P F.e [f]) fun g w=>Q1 a true w (pick P b (.bool true) g) fun i w=>pick P a i (.bool false) w fun l w=>K l w
theorem Gp {a:Value} {w:World} {K:Value→World→Prop} (h:Wn a w K):Q0 P F.i [a] w K:=Q8 (List.replicate 4 none) Tryz.func120 rfl (by decide) (by kernel_rfl) h
def Vl (b:Value) (w:World) (K:Value→World→Prop):Prop:= Q0 P F.aJ [b] w fun a w=>Q1 a true w (fun w J=>J b w) fun f w=>Q1 a true w (E2 P T.c f (.int .i64 0)) fun c w=>Q1 a true w (Q3 P .geq T.w (.tmp 7) (.const (.int .u8 97)) c (.int .u8 97)) fun d w=>pick P a d (.bool false) w fun e w=>K e w
theorem Sz {a:Value} {w:World} {K:Value→World→Prop} (h:Vl a w K):Q0 P F.r [a] w K:=Q8 (List.replicate 2 none) Tryz.func171 rfl (by decide) (by kernel_rfl) h
end Go.Proofs.YtfppjenblllfaaaGreatDoor

set_option maxRecDepth 100000
namespace Go.Proofs.YtfppjenblllfaaaGreatDoor
open Go.Emb
def Nz (w:World) (K:Value→World→Prop):Prop:= buildSlice P T.d 42 [(0,(.string ⟨#[105,110,116]⟩)),(1,(.string ⟨#[116,114,117,101]⟩)),(2,(.string ⟨#[102,97,108,115,101]⟩)),(3,(.string ⟨#[119,111,114,100]⟩)),(4,(.string ⟨#[110,117,108,108]⟩)),(5,(.string ⟨#[108,111,97,100]⟩)),(6,(.string ⟨#[115,116,111,114,101]⟩)),(7,(.string ⟨#[112,111,112]⟩)),(8,(.string ⟨#[100,117,112]⟩)),(9,(.string ⟨#[115,119,97,112]⟩)),(10,(.string ⟨#[97,100,100]⟩)),(11,(.string ⟨#[115,117,98]⟩)),(12,(.string ⟨#[109,117,108]⟩)),(13,(.string ⟨#[100,105,118]⟩)),(14,(.string ⟨#[114,101,109]⟩)),(15,(.string ⟨#[110,101,103]⟩)),(16,(.string ⟨#[108,101,115,115]⟩)),(17,(.string ⟨#[115,97,109,101]⟩)),(18,(.string ⟨#[110,111,116]⟩)),(19,(.string ⟨#[98,111,116,104]⟩)),(20,(.string ⟨#[106,111,105,110]⟩)),(21,(.string ⟨#[115,105,122,101]⟩)),(22,(.string ⟨#[106,117,109,112]⟩)),(23,(.string ⟨#[98,114,97,110,99,104]⟩)),(24,(.string ⟨#[110,101,119]⟩)),(25,(.string ⟨#[103,101,116]⟩)),(26,(.string ⟨#[112,117,116]⟩)),(27,(.string ⟨#[99,97,108,108]⟩)),(28,(.string ⟨#[97,114,114,97,121]⟩)),(29,(.string ⟨#[97,116]⟩)),(30,(.string ⟨#[115,101,116]⟩)),(31,(.string ⟨#[105,115]⟩)),(32,(.string ⟨#[99,97,115,116]⟩)),(33,(.string ⟨#[114,101,116,117,114,110]⟩)),(34,(.string ⟨#[116,104,114,111,119]⟩)),(35,(.string ⟨#[111,117,116]⟩)),(36,(.string ⟨#[101,113,117,97,108]⟩)),(37,(.string ⟨#[97,110,100]⟩)),(38,(.string ⟨#[111,114]⟩)),(39,(.string ⟨#[120,111,114]⟩)),(40,(.string ⟨#[115,104,108]⟩)),(41,(.string ⟨#[115,104,114]⟩))] w fun a w=>K a w
theorem Pd {w:World} {K:Value→World→Prop} (h:Nz w K):Q0 P F.bs [] w K:=Q8 (List.replicate 2 none) Tryz.func63 rfl (by decide) (by kernel_rfl) h
def St:V2:=[none,none,none,none,some ([4],[2,4,6,7,8,9,10,11,12,13,14,15,16,17,18]),none,none,none,none,none,none]
def Vf (j:Value) (w:World) (K:Value→World→Prop):Prop:= Q0 P F.bs [] w fun g w=>lp (α:=Value) (.int .i64 0) w fun a b k w=>X5 P .len [T.d] T.e [false] [g] w fun h w=>Q3 P .lss T.e (.tmp 6) (.tmp 8) b h w fun i w=>X1 i (indexAddr P T.d g b w fun c w=>Q2 P T.c c w fun d w=>Q3 P .eql T.c (.tmp 15) (.tmp 16) d j w fun e w=>X1 e (K b w) (Q3 P .add T.e (.tmp 10) (.const (.int .i64 1)) b (.int .i64 1) w fun f w=>a f w)) (K (.int .i64 (-1)) w)
theorem Cm {a:Value} {w:World} {K:Value→World→Prop} (h:Vf a w K):Q0 P F.aU [a] w K:=Q8 St Tryz.func34 rfl (by decide) (by kernel_rfl) h
def Gi:V2:=[none,none,none,some ([4],[4,5,6,7,8,9]),none,none,none,none,none,some ([10],[10,11,12,13,14,15,16,17,18]),none,none,none,none,none,none,none,none,none,none,none,none]
def Wa (a:Value) (w:World) (K:Value→World→Prop):Prop:= jn (α:=Value) w (fun h w=>Q3 P .eql T.c (.tmp 3) (.const (.string ⟨#[105,110,116]⟩)) a (.string ⟨#[105,110,116]⟩) w fun q w=>X1 q (h q w) (Q3 P .eql T.c (.tmp 3) (.const (.string ⟨#[108,111,97,100]⟩)) a (.string ⟨#[108,111,97,100]⟩) w fun n w=>X1 n (h n w) (Q3 P .eql T.c (.tmp 3) (.const (.string ⟨#[115,116,111,114,101]⟩)) a (.string ⟨#[115,116,111,114,101]⟩) w fun o w=>X1 o (h o w) (Q3 P .eql T.c (.tmp 3) (.const (.string ⟨#[106,117,109,112]⟩)) a (.string ⟨#[106,117,109,112]⟩) w fun p w=>X1 p (h p w) (Q3 P .eql T.c (.tmp 3) (.const (.string ⟨#[98,114,97,110,99,104]⟩)) a (.string ⟨#[98,114,97,110,99,104]⟩) w fun r w=>h r w))))) fun s u w=>X1 s (K (.int .i64 1) w) (jn (α:=Value) w (fun b w=>Q3 P .eql T.c (.tmp 3) (.const (.string ⟨#[119,111,114,100]⟩)) a (.string ⟨#[119,111,114,100]⟩) w fun c w=>X1 c (b c w) (Q3 P .eql T.c (.tmp 3) (.const (.string ⟨#[110,101,119]⟩)) a (.string ⟨#[110,101,119]⟩) w fun g w=>X1 g (b g w) (Q3 P .eql T.c (.tmp 3) (.const (.string ⟨#[103,101,116]⟩)) a (.string ⟨#[103,101,116]⟩) w fun d w=>X1 d (b d w) (Q3 P .eql T.c (.tmp 3) (.const (.string ⟨#[112,117,116]⟩)) a (.string ⟨#[112,117,116]⟩) w fun f w=>X1 f (b f w) (Q3 P .eql T.c (.tmp 3) (.const (.string ⟨#[99,97,108,108]⟩)) a (.string ⟨#[99,97,108,108]⟩) w fun e w=>X1 e (b e w) (Q3 P .eql T.c (.tmp 3) (.const (.string ⟨#[97,114,114,97,121]⟩)) a (.string ⟨#[97,114,114,97,121]⟩) w fun i w=>X1 i (b i w) (Q3 P .eql T.c (.tmp 3) (.const (.string ⟨#[105,115]⟩)) a (.string ⟨#[105,115]⟩) w fun j w=>X1 j (b j w) (Q3 P .eql T.c (.tmp 3) (.const (.string ⟨#[99,97,115,116]⟩)) a (.string ⟨#[99,97,115,116]⟩) w fun m w=>b m w)))))))) fun t u w=>X1 t (K (.int .i64 2) w) (Q0 P F.aU [a] w fun l w=>Q3 P .lss T.e (.tmp 20) (.const (.int .i64 0)) l (.int .i64 0) w fun k w=>X1 k (K (.int .i64 (-1)) w) (K (.int .i64 0) w)))
theorem Bw {a:Value} {w:World} {K:Value→World→Prop} (h:Wa a w K):Q0 P F.b2 [a] w K:=Q8 Gi Tryz.func18 rfl (by decide) (by kernel_rfl) h
def Lf (i g:Value) (w:World) (K:Value→World→Prop):Prop:= X5 P .len [T.c] T.e [false] [i] w fun n w=>Q3 P .lss T.e (.tmp 5) (.tmp 7) g n w fun b w=>Q1 b true w (fun w J=>J i w) fun e w=>Q1 b true w (fun w J=>J g w) fun m w=>Q1 b true w (E2 P T.c e m) fun d w=>Q1 b true w (Q3 P .geq T.w (.tmp 12) (.const (.int .u8 128)) d (.int .u8 128)) fun c w=>pick P b c (.bool false) w fun a w=>Q1 a true w (fun w J=>J i w) fun f w=>Q1 a true w (fun w J=>J g w) fun l w=>Q1 a true w (E2 P T.c f l) fun j w=>Q1 a true w (Q3 P .lss T.w (.tmp 18) (.const (.int .u8 192)) j (.int .u8 192)) fun k w=>pick P a k (.bool false) w fun h w=>K h w
theorem Fz {b a:Value} {w:World} {K:Value→World→Prop} (h:Lf b a w K):Q0 P F.p [b,a] w K:=Q8 (List.replicate 2 none) Tryz.func242 rfl (by decide) (by kernel_rfl) h
def Iz:V2:=[none,none,some ([],[2,4,5,9,10,11,12,13,14,15,16,17,18,19,20,21,22,23,24,25,26,27,28,29,30,31,32,33,34,35,36,37,38,39,40,41,42,43,44,45,46,47,48,49,50,51,52,53,54,55,56,57,58,59,60,61,62,63,64,65,66,67,68,69,70,71,72,73,74,75,76,77,78,79,80,81,82,83,84,85,86,87,88,89,90,91,92,93,94,95,96,97,98,99,100,101,102,103,104,105,106]),none,none,none,none,none,none,none,none,none,none,none,none,none]
def Ma (c:Value) (w:World) (K:Value→World→Prop):Prop:= E2 P T.c c (.int .i64 0) w fun t7 w=>conv P T.w T.e t7 w fun H w=>jn (α:=Unit) w (fun J2 w=>Q3 P .lss T.e (.tmp 10) (.const (.int .i64 128)) H (.int .i64 128) w fun a9 w=>X1 a9 (K (.int .i64 1) w) (Q3 P .geq T.e (.tmp 13) (.const (.int .i64 194)) H (.int .i64 194) w fun aw w=>Q1 aw true w (fun w J=>J H w) fun bi w=>Q1 aw true w (Q3 P .lss T.e (.tmp 16) (.const (.int .i64 224)) bi (.int .i64 224)) fun b1 w=>pick P aw b1 (.bool false) w fun ay w=>Q1 ay true w (fun w J=>J c w) fun bw w=>Q1 ay true w (Q0 P F.p [bw,(.int .i64 1)]) fun bp w=>pick P ay bp (.bool false) w fun be w=>X1 be (K (.int .i64 2) w) (Q3 P .geq T.e (.tmp 24) (.const (.int .i64 224)) H (.int .i64 224) w fun ap w=>Q1 ap true w (fun w J=>J H w) fun bz w=>Q1 ap true w (Q3 P .lss T.e (.tmp 27) (.const (.int .i64 240)) bz (.int .i64 240)) fun bk w=>pick P ap bk (.bool false) w fun an w=>Q1 an true w (fun w J=>J c w) fun bf w=>Q1 an true w (Q0 P F.p [bf,(.int .i64 1)]) fun bh w=>pick P an bh (.bool false) w fun ar w=>Q1 ar true w (fun w J=>J c w) fun br w=>Q1 ar true w (Q0 P F.p [br,(.int .i64 2)]) fun bb w=>pick P ar bb (.bool false) w fun bm w=>X1 bm (dr w fun a b=>Q6 a (fun m=> ∀w,b w→Q3 P .rem T.e (.tmp 38) (.const (.int .i64 16)) H (.int .i64 16) w (dk a m w)) fun m=>Q6 a (fun V=> ∀p w,b w→m p w→Q3 P .mul T.e (.tmp 39) (.const (.int .i64 4096)) p (.int .i64 4096) w (dk a V w)) fun V=>Q6 a (fun D=> ∀w,b w→E2 P T.c c (.int .i64 1) w (dk a D w)) fun D=>Q6 a (fun C=> ∀k w,b w→D k w→Q3 P .rem T.w (.tmp 42) (.const (.int .u8 64)) k (.int .u8 64) w (dk a C w)) fun C=>Q6 a (fun Y=> ∀w,b w→E2 P T.c c (.int .i64 2) w (dk a Y w)) fun Y=>Q6 a (fun t=> ∀o w,b w→Y o w→Q3 P .rem T.w (.tmp 48) (.const (.int .u8 64)) o (.int .u8 64) w (dk a t w)) fun t=>Q6 a (fun R=> ∀M w,b w→C M w→conv P T.w T.e M w (dk a R w)) fun R=>Q6 a (fun L=> ∀X w,b w→R X w→Q3 P .mul T.e (.tmp 44) (.const (.int .i64 64)) X (.int .i64 64) w (dk a L w)) fun L=>Q6 a (fun al=> ∀y z w,b w→V y w→L z w→Q3 P .add T.e (.tmp 40) (.tmp 45) y z w (dk a al w)) fun al=>Q6 a (fun aj=> ∀Q w,b w→t Q w→conv P T.w T.e Q w (dk a aj w)) fun aj=>∀p y k M o Q X z a3 a6 w,b w→m p w→V y w→D k w→C M w→Y o w→t Q w→R X w→L z w→al a3 w→aj a6 w→ Q3 P .add T.e (.tmp 46) (.tmp 50) a3 a6 w fun ax w=>Q3 P .geq T.e (.tmp 52) (.const (.int .i64 2048)) ax (.int .i64 2048) w fun d w=>Q1 d true w (fun w J=>J ax w) fun bl w=>Q1 d true w (Q3 P .lss T.e (.tmp 55) (.const (.int .i64 55296)) bl (.int .i64 55296)) fun bj w=>Q1 d true w (fun w J=>J bj w) fun ak w=>Q1 ak false w (fun w J=>J ax w) fun bn w=>Q1 ak false w (Q3 P .gtr T.e (.tmp 58) (.const (.int .i64 57343)) bn (.int .i64 57343)) fun bg w=>Q1 d true w (pick P ak (.bool true) bg) fun bq w=>pick P d bq (.bool false) w fun bv w=>X1 bv (K (.int .i64 3) w) (J2 () w)) (Q3 P .geq T.e (.tmp 63) (.const (.int .i64 240)) H (.int .i64 240) w fun ai w=>Q1 ai true w (fun w J=>J H w) fun bd w=>Q1 ai true w (Q3 P .lss T.e (.tmp 66) (.const (.int .i64 245)) bd (.int .i64 245)) fun bs w=>pick P ai bs (.bool false) w fun ao w=>Q1 ao true w (fun w J=>J c w) fun bc w=>Q1 ao true w (Q0 P F.p [bc,(.int .i64 1)]) fun bu w=>pick P ao bu (.bool false) w fun am w=>Q1 am true w (fun w J=>J c w) fun b0 w=>Q1 am true w (Q0 P F.p [b0,(.int .i64 2)]) fun bo w=>pick P am bo (.bool false) w fun ah w=>Q1 ah true w (fun w J=>J c w) fun a8 w=>Q1 ah true w (Q0 P F.p [a8,(.int .i64 3)]) fun ba w=>pick P ah ba (.bool false) w fun bx w=>X1 bx (dr w fun a b=>Q6 a (fun f=> ∀w,b w→Q3 P .rem T.e (.tmp 81) (.const (.int .i64 8)) H (.int .i64 8) w (dk a f w)) fun f=>Q6 a (fun ac=> ∀N w,b w→f N w→Q3 P .mul T.e (.tmp 82) (.const (.int .i64 262144)) N (.int .i64 262144) w (dk a ac w)) fun ac=>Q6 a (fun af=> ∀w,b w→E2 P T.c c (.int .i64 1) w (dk a af w)) fun af=>Q6 a (fun v=> ∀h w,b w→af h w→Q3 P .rem T.w (.tmp 85) (.const (.int .u8 64)) h (.int .u8 64) w (dk a v w)) fun v=>Q6 a (fun l=> ∀w,b w→E2 P T.c c (.int .i64 2) w (dk a l w)) fun l=>Q6 a (fun aa=> ∀n w,b w→l n w→Q3 P .rem T.w (.tmp 91) (.const (.int .u8 64)) n (.int .u8 64) w (dk a aa w)) fun aa=>Q6 a (fun ae=> ∀w,b w→E2 P T.c c (.int .i64 3) w (dk a ae w)) fun ae=>Q6 a (fun Z=> ∀U w,b w→ae U w→Q3 P .rem T.w (.tmp 97) (.const (.int .u8 64)) U (.int .u8 64) w (dk a Z w)) fun Z=>Q6 a (fun u=> ∀A w,b w→v A w→conv P T.w T.e A w (dk a u w)) fun u=>Q6 a (fun i=> ∀r w,b w→u r w→Q3 P .mul T.e (.tmp 87) (.const (.int .i64 4096)) r (.int .i64 4096) w (dk a i w)) fun i=>Q6 a (fun q=> ∀B W w,b w→ac B w→i W w→Q3 P .add T.e (.tmp 83) (.tmp 88) B W w (dk a q w)) fun q=>Q6 a (fun E=> ∀O w,b w→aa O w→conv P T.w T.e O w (dk a E w)) fun E=>Q6 a (fun s=> ∀j w,b w→E j w→Q3 P .mul T.e (.tmp 93) (.const (.int .i64 64)) j (.int .i64 64) w (dk a s w)) fun s=>Q6 a (fun av=> ∀ad ab w,b w→q ad w→s ab w→Q3 P .add T.e (.tmp 89) (.tmp 94) ad ab w (dk a av w)) fun av=>Q6 a (fun aq=> ∀g w,b w→Z g w→conv P T.w T.e g w (dk a aq w)) fun aq=>∀N B h A n O U g r W ad j ab a4 a1 w,b w→f N w→ac B w→af h w→v A w→l n w→aa O w→ae U w→Z g w→u r w→i W w→q ad w→E j w→s ab w→av a4 w→aq a1 w→ Q3 P .add T.e (.tmp 95) (.tmp 99) a4 a1 w fun ag w=>Q3 P .geq T.e (.tmp 101) (.const (.int .i64 65536)) ag (.int .i64 65536) w fun e w=>Q1 e true w (fun w J=>J ag w) fun a2 w=>Q1 e true w (Q3 P .leq T.e (.tmp 104) (.const (.int .i64 1114111)) a2 (.int .i64 1114111)) fun az w=>pick P e az (.bool false) w fun a5 w=>X1 a5 (K (.int .i64 4) w) (J2 () w)) (J2 () w))))) fun z2 d_ w=>K (.int .i64 0) w
theorem Kh {a:Value} {w:World} {K:Value→World→Prop} (h:Ma a w K):Q0 P F.bq [a] w K:=Q8 Iz Tryz.func240 rfl (by decide) (by kernel_rfl) h
def Fo:V2:=[none,none,some ([0],[0,2,3,4,5,6,7,8,9,10,11,12]),none,none,none,none,none,none,none]
def Lr (f:Value) (w:World) (K:Value→World→Prop):Prop:= lp (α:=Value) f w fun a c h w=>Q3 P .neq T.c (.tmp 4) (.const (.string ⟨#[]⟩)) c (.string ⟨#[]⟩) w fun g w=>X1 g (Q0 P F.bq [c] w fun d w=>Q3 P .eql T.e (.tmp 8) (.const (.int .i64 0)) d (.int .i64 0) w fun e w=>X1 e (K (.bool false) w) (E6 P T.c c (some d) none none w fun b w=>a b w)) (K (.bool true) w)
theorem Fx {a:Value} {w:World} {K:Value→World→Prop} (h:Lr a w K):Q0 P F.bg [a] w K:=Q8 Fo Tryz.func232 rfl (by decide) (by kernel_rfl) h
def Bj:V2:=[none,none,none,some ([5],[2,3,4,5,6,7,8,9,10,11,12,13,14,15,16,17,18,19,20,21,22,23,24,25,26,27,28,29,30,31,32,33]),none,none,none,none,none,none]
def We (z:Value) (w:World) (K:Value→World→Prop):Prop:= lp (α:=Value) (.int .i64 0) w fun k t N w=>X5 P .len [T.c] T.e [false] [z] w fun M w=>Q3 P .lss T.e (.tmp 6) (.tmp 8) t M w fun L w=>X1 L (E2 P T.c z t w fun H w=>Q3 P .eql T.w (.tmp 14) (.const (.int .u8 46)) H (.int .u8 46) w fun E w=>X1 E (dr w fun b d=>Q6 b (fun u=> ∀w,d w→E6 P T.c z none (some t) none w (dk b u w)) fun u=>Q6 b (fun m=> ∀w,d w→Q3 P .add T.e (.tmp 20) (.const (.int .i64 1)) t (.int .i64 1) w (dk b m w)) fun m=>Q6 b (fun y=> ∀j w,d w→m j w→E6 P T.c z (some j) none none w (dk b y w)) fun y=>Q6 b (fun h=> ∀w,d w→E6 P T.c z none (some t) none w (dk b h w)) fun h=>Q6 b (fun c=> ∀f w,d w→h f w→Q0 P F.e [f] w (dk b c w)) fun c=>Q6 b (fun i=> ∀a w,d w→c a w→Q1 a true w (fun w J=>J z w) (dk b i w)) fun i=>Q6 b (fun g=> ∀a w,d w→c a w→Q1 a true w (fun w J=>J t w) (dk b g w)) fun g=>Q6 b (fun q=> ∀a e w,d w→c a w→g e w→Q1 a true w (Q3 P .add T.e (.tmp 29) (.const (.int .i64 1)) e (.int .i64 1)) (dk b q w)) fun q=>Q6 b (fun o=> ∀a s l w,d w→c a w→i s w→q l w→Q1 a true w (E6 P T.c s (some l) none none) (dk b o w)) fun o=>Q6 b (fun r=> ∀a n w,d w→c a w→o n w→Q1 a true w (Q0 P F.r [n]) (dk b r w)) fun r=>Q6 b (fun v=> ∀a p w,d w→c a w→r p w→pick P a p (.bool false) w (dk b v w)) fun v=>∀C j B f a s e l n p A w,d w→u C w→m j w→y B w→h f w→c a w→i s w→g e w→q l w→o n w→r p w→v A w→ K (.tuple #[C,B,A]) w) (Q3 P .add T.e (.tmp 10) (.const (.int .i64 1)) t (.int .i64 1) w fun D w=>k D w)) (K (.tuple #[(.string ⟨#[]⟩),(.string ⟨#[]⟩),(.bool false)]) w)
theorem Fv {a:Value} {w:World} {K:Value→World→Prop} (h:We a w K):Q0 P F.bh [a] w K:=Q8 Bj Tryz.func233 rfl (by decide) (by kernel_rfl) h
def Ge:V2:=[none,none,none,none,none,none,some ([4],[4,5,6,7,8,30,31,32,33,34,35,36,37,38,39,40,41,42,43,44,45,46,47,48,49,50,51,52,53,54,55,56,57,58,59,60,61,62,63,64,65,66,67,68,69,70,71,72,73,74,75,76,77,78,79,80,81,82,83,84,85,86,87,88,89,90,91,92,93,94,95,96,97,98,99,100,101,102,103,104,105,106,107,108,109,110]),none,none,none,none,none,some ([4,5],[4,5,59,60,61,62,63,64,65,66,67,68,69,70,71,72,73]),none,none,none,none,some ([82],[82,83,84]),none,none,none,none,none,none,none]
def Wm (a0:Value) (w:World) (K:Value→World→Prop):Prop:= box P T.m a0 w fun d w=>fieldAddr P T.m d 0 w fun t9 w=>Q2 P T.c t9 w fun ag w=>Q0 P F.b2 [ag] w fun j w=>Q3 P .lss T.e (.tmp 12) (.const (.int .i64 0)) j (.int .i64 0) w fun ak w=>X1 ak (K (.int .i64 40) w) (Q3 P .eql T.e (.tmp 14) (.const (.int .i64 1)) j (.int .i64 1) w fun k w=>Q1 k false w (fieldAddr P T.m d 1) fun bd w=>Q1 k false w (Q2 P T.al bd) fun a6 w=>Q1 k false w (Q3 P .eql T.al (.tmp 18) (.const (.int .i64 0)) a6 (.int .i64 0)) fun aq w=>pick P k (.bool true) aq w fun h w=>Q1 h true w (fun w J=>J j w) fun O w=>Q1 h true w (Q3 P .eql T.e (.tmp 22) (.const (.int .i64 2)) O (.int .i64 2)) fun be w=>Q1 h true w (fun w J=>J be w) fun l w=>Q1 l false w (fieldAddr P T.m d 2) fun aj w=>Q1 l false w (Q2 P T.c aj) fun ap w=>Q1 l false w (Q3 P .eql T.c (.tmp 26) (.const (.string ⟨#[]⟩)) ap (.string ⟨#[]⟩)) fun bb w=>Q1 h true w (pick P l (.bool true) bb) fun ab w=>pick P h ab (.bool false) w fun a w=>jn (α:=Value) w (fun n w=>Q3 P .eql T.e (.tmp 30) (.const (.int .i64 2)) j (.int .i64 2) w fun Q w=>X1 Q (fieldAddr P T.m d 0 w fun U w=>Q2 P T.c U w fun g w=>Q3 P .eql T.c (.tmp 33) (.const (.string ⟨#[119,111,114,100]⟩)) g (.string ⟨#[119,111,114,100]⟩) w fun E w=>X1 E (Q1 a true w (fieldAddr P T.m d 2) fun aw w=>Q1 a true w (Q2 P T.c aw) fun am w=>Q1 a true w (X5 P .len [T.c] T.e [false] [am]) fun a2 w=>Q1 a true w (Q3 P .leq T.e (.tmp 51) (.const (.int .i64 64)) a2 (.int .i64 64)) fun ai w=>pick P a ai (.bool false) w fun i w=>Q1 i true w (fieldAddr P T.m d 2) fun ad w=>Q1 i true w (Q2 P T.c ad) fun bc w=>Q1 i true w (Q0 P F.bg [bc]) fun W w=>pick P i W (.bool false) w fun al w=>lp (α:=Value×Value) (al,(.int .i64 0)) w fun f b d_ w=>fieldAddr P T.m d 2 w fun ar w=>Q2 P T.c ar w fun a5 w=>X5 P .len [T.c] T.e [false] [a5] w fun Y w=>Q3 P .lss T.e (.tmp 59) (.tmp 62) b.2 Y w fun V w=>X1 V (Q1 b.1 true w (fieldAddr P T.m d 2) fun ah w=>Q1 b.1 true w (Q2 P T.c ah) fun ax w=>Q1 b.1 true w (fun w J=>J b.2 w) fun N w=>Q1 b.1 true w (E2 P T.c ax N) fun a4 w=>Q1 b.1 true w (Q3 P .neq T.w (.tmp 71) (.const (.int .u8 10)) a4 (.int .u8 10)) fun Z w=>pick P b.1 Z (.bool false) w fun aa w=>Q3 P .add T.e (.tmp 64) (.const (.int .i64 1)) b.2 (.int .i64 1) w fun D w=>f (aa,D) w) (n b.1 w)) (Q3 P .eql T.c (.tmp 33) (.const (.string ⟨#[110,101,119]⟩)) g (.string ⟨#[110,101,119]⟩) w fun an w=>X1 an (Q1 a true w (fieldAddr P T.m d 2) fun ba w=>Q1 a true w (Q2 P T.c ba) fun L w=>Q1 a true w (Q0 P F.e [L]) fun a7 w=>pick P a a7 (.bool false) w fun ae w=>n ae w) (jn (α:=Value) w (fun o w=>Q3 P .eql T.c (.tmp 33) (.const (.string ⟨#[105,115]⟩)) g (.string ⟨#[105,115]⟩) w fun A w=>X1 A (o A w) (Q3 P .eql T.c (.tmp 33) (.const (.string ⟨#[99,97,115,116]⟩)) g (.string ⟨#[99,97,115,116]⟩) w fun a3 w=>o a3 w)) fun af d_ w=>X1 af (Q1 a true w (fieldAddr P T.m d 2) fun R w=>Q1 a true w (Q2 P T.c R) fun ay w=>Q1 a true w (Q0 P F.i [ay]) fun a9 w=>pick P a a9 (.bool false) w fun e w=>Q1 e true w (fieldAddr P T.m d 2) fun av w=>Q1 e true w (Q2 P T.c av) fun C w=>Q1 e true w (Q0 P F.ad [C]) fun a8 w=>Q1 e true w (J7 P .not a8) fun H w=>pick P e H (.bool false) w fun X w=>n X w) (Q3 P .eql T.c (.tmp 33) (.const (.string ⟨#[97,114,114,97,121]⟩)) g (.string ⟨#[97,114,114,97,121]⟩) w fun B w=>X1 B (Q1 a true w (fieldAddr P T.m d 2) fun q w=>Q1 a true w (Q2 P T.c q) fun v w=>Q1 a true w (Q0 P F.i [v]) fun z w=>pick P a z (.bool false) w fun c w=>Q1 c true w (fieldAddr P T.m d 2) fun s w=>Q1 c true w (Q2 P T.c s) fun r w=>Q1 c true w (Q0 P F.al [r]) fun u w=>Q1 c true w (Q3 P .lss T.e (.tmp 108) (.const (.int .i64 3)) u (.int .i64 3)) fun y w=>pick P c y (.bool false) w fun p w=>n p w) (fieldAddr P T.m d 2 w fun az w=>Q2 P T.c az w fun M w=>Q0 P F.bh [M] w fun m w=>ext P m 0 w fun bi w=>ext P m 1 w fun bh w=>ext P m 2 w fun ac w=>Q1 a true w (fun w J=>J ac w) fun ao w=>pick P a ao (.bool false) w fun a1 w=>n a1 w))))) (n a w)) fun z6 d_ w=>J7 P .not z6 w fun t w=>X1 t (K (.int .i64 41) w) (K (.int .i64 0) w))
theorem Fs {a:Value} {w:World} {K:Value→World→Prop} (h:Wm a w K):Q0 P F.bf [a] w K:=Q8 Ge Tryz.func221 rfl (by decide) (by kernel_rfl) h
def An:V2:=[none,none,none,some ([3],[2,3,4,5,6,7,8,9,10,11,12,13,14,15,16,17,18]),none,none,none,none,none,none,none]
def Nt (h:Value) (w:World) (K:Value→World→Prop):Prop:= lp (α:=Value) (.int .i64 0) w fun a g k w=>X5 P .len [T.l] T.e [false] [h] w fun i w=>Q3 P .lss T.e (.tmp 5) (.tmp 7) g i w fun j w=>X1 j (indexAddr P T.l h g w fun d w=>Q2 P T.m d w fun c w=>Q0 P F.bf [c] w fun b w=>Q3 P .neq T.s (.tmp 16) (.const (.int .i64 0)) b (.int .i64 0) w fun f w=>X1 f (K b w) (Q3 P .add T.e (.tmp 9) (.const (.int .i64 1)) g (.int .i64 1) w fun e w=>a e w)) (K (.int .i64 0) w)
theorem Am {a:Value} {w:World} {K:Value→World→Prop} (h:Nt a w K):Q0 P F.aN [a] w K:=Q8 An Tryz.func205 rfl (by decide) (by kernel_rfl) h
def Ct:V2:=[none,none,none,none,some ([3,4],[3,4,21,22,23,24,25,26,27,28,29,30,31,32,33,34,35,36]),none,none,none,none,none,none,none,none,none,some ([3,6],[3,6,7,60,61,62,63,64,65,66,67,68,69,70,71,72,73,74,75,76,77,78,79,80,81,82,83,84,85,86,87,88,89,90,91,92,93,94,95,96,97,98,99,100,101,102,103,104,105,106]),none,none,none,none,none]
def Uv (a0:Value) (w:World) (K:Value→World→Prop):Prop:= box P T.b a0 w fun d w=>fieldAddr P T.b d 0 w fun t8 w=>Q2 P T.c t8 w fun t9 w=>Q0 P F.r [t9] w fun h w=>Q1 h true w (fieldAddr P T.b d 2) fun ag w=>Q1 h true w (Q2 P T.c ag) fun a7 w=>Q1 h true w (Q3 P .eql T.c (.tmp 13) (.const (.string ⟨#[]⟩)) a7 (.string ⟨#[]⟩)) fun bg w=>Q1 h true w (fun w J=>J bg w) fun p w=>Q1 p false w (fieldAddr P T.b d 2) fun aw w=>Q1 p false w (Q2 P T.c aw) fun bz w=>Q1 p false w (Q0 P F.i [bz]) fun br w=>Q1 h true w (pick P p (.bool true) br) fun bb w=>pick P h bb (.bool false) w fun bq w=>lp (α:=Value×Value) (bq,(.int .i64 0)) w fun o e d_ w=>fieldAddr P T.b d 1 w fun ak w=>Q2 P T.d ak w fun b0 w=>X5 P .len [T.d] T.e [false] [b0] w fun bi w=>Q3 P .lss T.e (.tmp 21) (.tmp 24) e.2 bi w fun a5 w=>X1 a5 (Q1 e.1 true w (fieldAddr P T.b d 1) fun ae w=>Q1 e.1 true w (Q2 P T.d ae) fun al w=>Q1 e.1 true w (fun w J=>J e.2 w) fun ao w=>Q1 e.1 true w (indexAddr P T.d al ao) fun bc w=>Q1 e.1 true w (Q2 P T.c bc) fun bn w=>Q1 e.1 true w (Q0 P F.i [bn]) fun bk w=>pick P e.1 bk (.bool false) w fun ah w=>Q3 P .add T.e (.tmp 26) (.const (.int .i64 1)) e.2 (.int .i64 1) w fun bw w=>o (ah,bw) w) (fieldAddr P T.b d 3 w fun a6 w=>Q2 P T.p a6 w fun am w=>X1 am (Q1 e.1 true w (fieldAddr P T.b d 4) fun bm w=>Q1 e.1 true w (Q2 P T.e bm) fun ab w=>Q1 e.1 true w (Q3 P .eql T.e (.tmp 42) (.const (.int .i64 0)) ab (.int .i64 0)) fun ba w=>pick P e.1 ba (.bool false) w fun l w=>Q1 l true w (fieldAddr P T.b d 5) fun ac w=>Q1 l true w (Q2 P T.l ac) fun X w=>Q1 l true w (X5 P .len [T.l] T.e [false] [X]) fun ad w=>Q1 l true w (Q3 P .eql T.e (.tmp 48) (.const (.int .i64 0)) ad (.int .i64 0)) fun bf w=>pick P l bf (.bool false) w fun k w=>Q1 k true w (fieldAddr P T.b d 6) fun a4 w=>Q1 k true w (Q2 P T.o a4) fun V w=>Q1 k true w (X5 P .len [T.o] T.e [false] [V]) fun aq w=>Q1 k true w (Q3 P .eql T.e (.tmp 54) (.const (.int .i64 0)) aq (.int .i64 0)) fun ay w=>pick P k ay (.bool false) w fun ax w=>K ax w) (fieldAddr P T.b d 5 w fun ar w=>Q2 P T.l ar w fun a8 w=>X5 P .len [T.l] T.e [false] [a8] w fun r w=>lp (α:=Value×Value) (e.1,(.int .i64 0)) w fun j b d_ w=>fieldAddr P T.b d 6 w fun bp w=>Q2 P T.o bp w fun av w=>X5 P .len [T.o] T.e [false] [av] w fun ap w=>Q3 P .lss T.e (.tmp 60) (.tmp 63) b.2 ap w fun Y w=>X1 Y (fieldAddr P T.b d 6 w fun bl w=>Q2 P T.o bl w fun a3 w=>indexAddr P T.o a3 b.2 w fun ai w=>Q2 P T.n ai w fun bo w=>W6 P T.n w fun q w=>Z2 P T.n q bo w fun _u w=>Q1 b.1 true w (fieldAddr P T.n q 0) fun bx w=>Q1 b.1 true w (Q2 P T.e bx) fun a9 w=>Q1 b.1 true w (Q3 P .geq T.e (.tmp 75) (.const (.int .i64 0)) a9 (.int .i64 0)) fun U w=>pick P b.1 U (.bool false) w fun g w=>Q1 g true w (fieldAddr P T.n q 0) fun af w=>Q1 g true w (Q2 P T.e af) fun bs w=>Q1 g true w (fieldAddr P T.n q 1) fun az w=>Q1 g true w (Q2 P T.e az) fun bd w=>Q1 g true w (Q3 P .lss T.e (.tmp 80) (.tmp 82) bs bd) fun a2 w=>pick P g a2 (.bool false) w fun m w=>Q1 m true w (fieldAddr P T.n q 1) fun a1 w=>Q1 m true w (Q2 P T.e a1) fun an w=>Q1 m true w (fun w J=>J r w) fun bj w=>Q1 m true w (Q3 P .leq T.e (.tmp 87) (.tmp 88) an bj) fun bv w=>pick P m bv (.bool false) w fun n w=>Q1 n true w (fieldAddr P T.n q 2) fun be w=>Q1 n true w (Q2 P T.e be) fun aa w=>Q1 n true w (Q3 P .geq T.e (.tmp 93) (.const (.int .i64 0)) aa (.int .i64 0)) fun bu w=>pick P n bu (.bool false) w fun i w=>Q1 i true w (fieldAddr P T.n q 2) fun bh w=>Q1 i true w (Q2 P T.e bh) fun W w=>Q1 i true w (fun w J=>J r w) fun Z w=>Q1 i true w (Q3 P .lss T.e (.tmp 98) (.tmp 99) W Z) fun t w=>pick P i t (.bool false) w fun f w=>Q1 f true w (fieldAddr P T.n q 3) fun N w=>Q1 f true w (Q2 P T.c N) fun y w=>Q1 f true w (Q0 P F.e [y]) fun v w=>pick P f v (.bool false) w fun B w=>Q3 P .add T.e (.tmp 65) (.const (.int .i64 1)) b.2 (.int .i64 1) w fun aj w=>j (B,aj) w) (Q1 b.1 true w (fun w J=>J r w) fun R w=>Q1 b.1 true w (Q3 P .gtr T.e (.tmp 109) (.const (.int .i64 0)) R (.int .i64 0)) fun u w=>pick P b.1 u (.bool false) w fun a w=>Q1 a true w (fieldAddr P T.b d 4) fun C w=>Q1 a true w (Q2 P T.e C) fun O w=>Q1 a true w (fieldAddr P T.b d 1) fun E w=>Q1 a true w (Q2 P T.d E) fun A w=>Q1 a true w (X5 P .len [T.d] T.e [false] [A]) fun z w=>Q1 a true w (Q3 P .gtr T.e (.tmp 114) (.tmp 117) O z) fun D w=>pick P a D (.bool false) w fun c w=>Q1 c true w (fieldAddr P T.b d 5) fun H w=>Q1 c true w (Q2 P T.l H) fun s w=>Q1 c true w (Q0 P F.aN [s]) fun L w=>Q1 c true w (Q3 P .eql T.s (.tmp 123) (.const (.int .i64 0)) L (.int .i64 0)) fun M w=>pick P c M (.bool false) w fun Q w=>K Q w)))
theorem Sw {a:Value} {w:World} {K:Value→World→Prop} (h:Uv a w K):Q0 P F.w [a] w K:=Q8 Ct Tryz.func172 rfl (by decide) (by kernel_rfl) h
def Fj:V2:=[none,none,none,none,some ([3,4],[3,4,5,26,27,28,29,30,31,32,33,34,35,36,37,38,39,40,41,42,43,44,45,46,47,48,49,50,51,52,53,54,55,56,57,58,59,60,61,62,63,64,65,66,67,68,69,70]),none,none,none,none,none,some ([3,5],[3,5,52,53,54,55,56,57,58,59,60,61,62,63,64,65,66,67,68,69,70]),none,none,none,none,none,some ([3,6],[3,6,7,71,72,73,74,75,76,77,78,79,80,81,82,83,84,85,86,87,88,89,90,91,92,93,94,95,96,97,98,99,100,101,102,103,104,105,106,107,108,109,110,111,112,113,114,115,116,117,118,119,120,121,122]),none,none,none,none,none,some ([3,7],[3,7,102,103,104,105,106,107,108,109,110,111,112,113,114,115,116,117,118,119,120,121,122]),none,none,none,none,none,some ([3,8],[3,8,9,10,123,124,125,126,127,128,129,130,131,132,133,134,135,136,137,138,139,140,141,142,143,144,145,146,147,148,149,150,151,152,153,154,155,156,157,158,159,160,161,162,163,164,165,166,167,168,169,170,171,172,173,174]),none,none,none,none,none,none,some ([3,10],[3,10,158,159,160,161,162,163,164,165,166,167,168,169,170,171,172,173,174]),none,none,none,none]
def Ln (a0:Value) (w:World) (K:Value→World→Prop):Prop:= box P T.a a0 w fun i w=>fieldAddr P T.a i 0 w fun ep w=>Q2 P T.c ep w fun eu w=>Q0 P F.e [eu] w fun bv w=>Q1 bv true w (fieldAddr P T.a i 1) fun e3 w=>Q1 bv true w (Q2 P T.c e3) fun d4 w=>Q1 bv true w (Q0 P F.e [d4]) fun e8 w=>pick P bv e8 (.bool false) w fun ah w=>Q1 ah true w (fieldAddr P T.a i 0) fun eg w=>Q1 ah true w (Q2 P T.c eg) fun eb w=>Q1 ah true w (fieldAddr P T.a i 1) fun ex w=>Q1 ah true w (Q2 P T.c ex) fun e9 w=>Q1 ah true w (Q3 P .neq T.c (.tmp 21) (.tmp 23) eb e9) fun e4 w=>pick P ah e4 (.bool false) w fun d9 w=>lp (α:=Value×Value) (d9,(.int .i64 0)) w fun a7 x4 d_ w=>fieldAddr P T.a i 2 w fun el w=>Q2 P T.d el w fun d5 w=>X5 P .len [T.d] T.e [false] [d5] w fun d8 w=>Q3 P .lss T.e (.tmp 26) (.tmp 29) x4.2 d8 w fun es w=>X1 es (dr w fun a b=>Q6 a (fun bq=> ∀w,b w→Q1 x4.1 true w (fieldAddr P T.a i 2) (dk a bq w)) fun bq=>Q6 a (fun bz=> ∀w,b w→Q1 x4.1 true w (fun w J=>J x4.2 w) (dk a bz w)) fun bz=>Q6 a (fun a5=> ∀bb w,b w→bq bb w→Q1 x4.1 true w (Q2 P T.d bb) (dk a a5 w)) fun a5=>Q6 a (fun b1=> ∀a1 a8 w,b w→a5 a1 w→bz a8 w→Q1 x4.1 true w (indexAddr P T.d a1 a8) (dk a b1 w)) fun b1=>Q6 a (fun bi=> ∀a2 w,b w→b1 a2 w→Q1 x4.1 true w (Q2 P T.c a2) (dk a bi w)) fun bi=>Q6 a (fun ba=> ∀az w,b w→bi az w→Q1 x4.1 true w (Q0 P F.e [az]) (dk a ba w)) fun ba=>Q6 a (fun j=> ∀a4 w,b w→ba a4 w→pick P x4.1 a4 (.bool false) w (dk a j w)) fun j=>Q6 a (fun bu=> ∀c w,b w→j c w→Q1 c true w (fieldAddr P T.a i 2) (dk a bu w)) fun bu=>Q6 a (fun bw=> ∀c w,b w→j c w→Q1 c true w (fun w J=>J x4.2 w) (dk a bw w)) fun bw=>Q6 a (fun bc=> ∀c w,b w→j c w→Q1 c true w (fieldAddr P T.a i 0) (dk a bc w)) fun bc=>Q6 a (fun a9=> ∀c bx w,b w→j c w→bu bx w→Q1 c true w (Q2 P T.d bx) (dk a a9 w)) fun a9=>Q6 a (fun bn=> ∀c b2 br w,b w→j c w→a9 b2 w→bw br w→Q1 c true w (indexAddr P T.d b2 br) (dk a bn w)) fun bn=>Q6 a (fun b9=> ∀c bh w,b w→j c w→bn bh w→Q1 c true w (Q2 P T.c bh) (dk a b9 w)) fun b9=>Q6 a (fun cc=> ∀c bj w,b w→j c w→bc bj w→Q1 c true w (Q2 P T.c bj) (dk a cc w)) fun cc=>∀bb a8 a1 a2 az a4 c bx br bj b2 bh d0 dq w,b w→bq bb w→bz a8 w→a5 a1 w→b1 a2 w→bi az w→ba a4 w→j c w→bu bx w→bw br w→bc bj w→a9 b2 w→bn bh w→b9 d0 w→cc dq w→ Q1 c true w (Q3 P .neq T.c (.tmp 47) (.tmp 49) d0 dq) fun ea w=>pick P c ea (.bool false) w fun ee w=>lp (α:=Value×Value) (ee,(.int .i64 0)) w fun al e d_ w=>Q3 P .lss T.e (.tmp 52) (.tmp 53) e.2 x4.2 w fun ey w=>X1 ey (dr w fun a b=>Q6 a (fun be=> ∀w,b w→Q1 e.1 true w (fieldAddr P T.a i 2) (dk a be w)) fun be=>Q6 a (fun bs=> ∀w,b w→Q1 e.1 true w (fun w J=>J e.2 w) (dk a bs w)) fun bs=>Q6 a (fun bl=> ∀w,b w→Q1 e.1 true w (fieldAddr P T.a i 2) (dk a bl w)) fun bl=>Q6 a (fun b4=> ∀w,b w→Q1 e.1 true w (fun w J=>J x4.2 w) (dk a b4 w)) fun b4=>Q6 a (fun a3=> ∀bm w,b w→be bm w→Q1 e.1 true w (Q2 P T.d bm) (dk a a3 w)) fun a3=>Q6 a (fun a6=> ∀b0 bd w,b w→a3 b0 w→bs bd w→Q1 e.1 true w (indexAddr P T.d b0 bd) (dk a a6 w)) fun a6=>Q6 a (fun ca=> ∀bp w,b w→a6 bp w→Q1 e.1 true w (Q2 P T.c bp) (dk a ca w)) fun ca=>Q6 a (fun bf=> ∀ax w,b w→bl ax w→Q1 e.1 true w (Q2 P T.d ax) (dk a bf w)) fun bf=>Q6 a (fun ay=> ∀bg bk w,b w→bf bg w→b4 bk w→Q1 e.1 true w (indexAddr P T.d bg bk) (dk a ay w)) fun ay=>Q6 a (fun cb=> ∀b3 w,b w→ay b3 w→Q1 e.1 true w (Q2 P T.c b3) (dk a cb w)) fun cb=>∀bm bd ax bk b0 bp cp bg b3 cv w,b w→be bm w→bs bd w→bl ax w→b4 bk w→a3 b0 w→a6 bp w→ca cp w→bf bg w→ay b3 w→cb cv w→ Q1 e.1 true w (Q3 P .neq T.c (.tmp 63) (.tmp 68) cp cv) fun ej w=>pick P e.1 ej (.bool false) w fun ew w=>Q3 P .add T.e (.tmp 55) (.const (.int .i64 1)) e.2 (.int .i64 1) w fun e7 w=>al (ew,e7) w) (Q3 P .add T.e (.tmp 31) (.const (.int .i64 1)) x4.2 (.int .i64 1) w fun d3 w=>a7 (e.1,d3) w)) (lp (α:=Value×Value) (x4.1,(.int .i64 0)) w fun aj f d_ w=>fieldAddr P T.a i 6 w fun ez w=>Q2 P T.i ez w fun e0 w=>X5 P .len [T.i] T.e [false] [e0] w fun ek w=>Q3 P .lss T.e (.tmp 71) (.tmp 74) f.2 ek w fun e2 w=>X1 e2 (Q1 f.1 true w (fieldAddr P T.a i 6) fun e5 w=>Q1 f.1 true w (Q2 P T.i e5) fun e1 w=>Q1 f.1 true w (fun w J=>J f.2 w) fun ec w=>Q1 f.1 true w (indexAddr P T.i e1 ec) fun eh w=>Q1 f.1 true w (fieldAddr P T.k eh 0) fun ef w=>Q1 f.1 true w (Q2 P T.c ef) fun eo w=>Q1 f.1 true w (Q0 P F.r [eo]) fun d7 w=>pick P f.1 d7 (.bool false) w fun o w=>Q1 o true w (fieldAddr P T.a i 6) fun ei w=>Q1 o true w (Q2 P T.i ei) fun d2 w=>Q1 o true w (fun w J=>J f.2 w) fun er w=>Q1 o true w (indexAddr P T.i d2 er) fun ed w=>Q1 o true w (fieldAddr P T.k ed 1) fun eq w=>Q1 o true w (Q2 P T.c eq) fun e6 w=>Q1 o true w (Q0 P F.i [e6]) fun et w=>pick P o et (.bool false) w fun bo w=>Q1 bo true w (fieldAddr P T.a i 3) fun em w=>Q1 bo true w (Q2 P T.p em) fun d1 w=>Q1 bo true w (J7 P .not d1) fun c6 w=>pick P bo c6 (.bool false) w fun da w=>lp (α:=Value×Value) (da,(.int .i64 0)) w fun am d d_ w=>Q3 P .lss T.e (.tmp 102) (.tmp 103) d.2 f.2 w fun db w=>X1 db (dr w fun a b=>Q6 a (fun L=> ∀w,b w→Q1 d.1 true w (fieldAddr P T.a i 6) (dk a L w)) fun L=>Q6 a (fun y=> ∀w,b w→Q1 d.1 true w (fun w J=>J d.2 w) (dk a y w)) fun y=>Q6 a (fun R=> ∀w,b w→Q1 d.1 true w (fieldAddr P T.a i 6) (dk a R w)) fun R=>Q6 a (fun W=> ∀w,b w→Q1 d.1 true w (fun w J=>J f.2 w) (dk a W w)) fun W=>Q6 a (fun Q=> ∀ad w,b w→L ad w→Q1 d.1 true w (Q2 P T.i ad) (dk a Q w)) fun Q=>Q6 a (fun q=> ∀r z w,b w→Q r w→y z w→Q1 d.1 true w (indexAddr P T.i r z) (dk a q w)) fun q=>Q6 a (fun N=> ∀X w,b w→q X w→Q1 d.1 true w (fieldAddr P T.k X 0) (dk a N w)) fun N=>Q6 a (fun ak=> ∀Y w,b w→N Y w→Q1 d.1 true w (Q2 P T.c Y) (dk a ak w)) fun ak=>Q6 a (fun ag=> ∀E w,b w→R E w→Q1 d.1 true w (Q2 P T.i E) (dk a ag w)) fun ag=>Q6 a (fun ab=> ∀t u w,b w→ag t w→W u w→Q1 d.1 true w (indexAddr P T.i t u) (dk a ab w)) fun ab=>Q6 a (fun V=> ∀B w,b w→ab B w→Q1 d.1 true w (fieldAddr P T.k B 0) (dk a V w)) fun V=>Q6 a (fun ap=> ∀H w,b w→V H w→Q1 d.1 true w (Q2 P T.c H) (dk a ap w)) fun ap=>∀ad z E u r X Y b8 t B H b7 w,b w→L ad w→y z w→R E w→W u w→Q r w→q X w→N Y w→ak b8 w→ag t w→ab B w→V H w→ap b7 w→ Q1 d.1 true w (Q3 P .neq T.c (.tmp 114) (.tmp 120) b8 b7) fun c2 w=>pick P d.1 c2 (.bool false) w fun cd w=>Q3 P .add T.e (.tmp 105) (.const (.int .i64 1)) d.2 (.int .i64 1) w fun cr w=>am (cd,cr) w) (Q3 P .add T.e (.tmp 76) (.const (.int .i64 1)) f.2 (.int .i64 1) w fun d6 w=>aj (d.1,d6) w)) (lp (α:=Value×Value) (f.1,(.int .i64 0)) w fun aw h d_ w=>fieldAddr P T.a i 7 w fun dv w=>Q2 P T.g dv w fun dz w=>X5 P .len [T.g] T.e [false] [dz] w fun de w=>Q3 P .lss T.e (.tmp 123) (.tmp 126) h.2 de w fun c4 w=>X1 c4 (fieldAddr P T.a i 7 w fun ch w=>Q2 P T.g ch w fun dd w=>indexAddr P T.g dd h.2 w fun dw w=>Q2 P T.b dw w fun cn w=>W6 P T.b w fun t9 w=>Z2 P T.b t9 cn w fun _u w=>Q1 h.1 true w (Q2 P T.b t9) fun ck w=>Q1 h.1 true w (Q0 P F.w [ck]) fun dg w=>pick P h.1 dg (.bool false) w fun m w=>Q1 m true w (fieldAddr P T.b t9 3) fun cw w=>Q1 m true w (Q2 P T.p cw) fun ci w=>Q1 m true w (J7 P .not ci) fun ce w=>Q1 m true w (fun w J=>J ce w) fun av w=>Q1 av false w (fieldAddr P T.a i 4) fun dh w=>Q1 av false w (Q2 P T.p dh) fun cx w=>Q1 m true w (pick P av (.bool true) cx) fun ct w=>pick P m ct (.bool false) w fun k w=>Q1 k true w (fieldAddr P T.a i 3) fun du w=>Q1 k true w (Q2 P T.p du) fun cy w=>Q1 k true w (J7 P .not cy) fun dt w=>Q1 k true w (fun w J=>J dt w) fun ao w=>Q1 ao false w (fieldAddr P T.b t9 3) fun dn w=>Q1 ao false w (Q2 P T.p dn) fun cu w=>Q1 k true w (pick P ao (.bool true) cu) fun c9 w=>pick P k c9 (.bool false) w fun c7 w=>lp (α:=Value×Value) (c7,(.int .i64 0)) w fun an g d_ w=>Q3 P .lss T.e (.tmp 158) (.tmp 159) g.2 h.2 w fun cl w=>X1 cl (dr w fun a b=>Q6 a (fun M=> ∀w,b w→Q1 g.1 true w (fieldAddr P T.a i 7) (dk a M w)) fun M=>Q6 a (fun ac=> ∀w,b w→Q1 g.1 true w (fun w J=>J g.2 w) (dk a ac w)) fun ac=>Q6 a (fun A=> ∀w,b w→Q1 g.1 true w (fieldAddr P T.b t9 0) (dk a A w)) fun A=>Q6 a (fun Z=> ∀p w,b w→M p w→Q1 g.1 true w (Q2 P T.g p) (dk a Z w)) fun Z=>Q6 a (fun U=> ∀O ae w,b w→Z O w→ac ae w→Q1 g.1 true w (indexAddr P T.g O ae) (dk a U w)) fun U=>Q6 a (fun s=> ∀D w,b w→U D w→Q1 g.1 true w (fieldAddr P T.b D 0) (dk a s w)) fun s=>Q6 a (fun aq=> ∀C w,b w→s C w→Q1 g.1 true w (Q2 P T.c C) (dk a aq w)) fun aq=>Q6 a (fun ai=> ∀aa w,b w→A aa w→Q1 g.1 true w (Q2 P T.c aa) (dk a ai w)) fun ai=>∀p ae aa O D C b6 b5 w,b w→M p w→ac ae w→A aa w→Z O w→U D w→s C w→aq b6 w→ai b5 w→ Q1 g.1 true w (Q3 P .neq T.c (.tmp 170) (.tmp 172) b6 b5) fun cq w=>pick P g.1 cq (.bool false) w fun dp w=>Q3 P .add T.e (.tmp 161) (.const (.int .i64 1)) g.2 (.int .i64 1) w fun c1 w=>an (dp,c1) w) (Q3 P .add T.e (.tmp 128) (.const (.int .i64 1)) h.2 (.int .i64 1) w fun dm w=>aw (g.1,dm) w)) (Q1 h.1 true w (fieldAddr P T.a i 3) fun dj w=>Q1 h.1 true w (Q2 P T.p dj) fun cm w=>Q1 h.1 true w (J7 P .not cm) fun cs w=>Q1 h.1 true w (fun w J=>J cs w) fun n w=>Q1 n false w (fieldAddr P T.a i 4) fun ds w=>Q1 n false w (Q2 P T.p ds) fun c8 w=>Q1 n false w (fun w J=>J c8 w) fun v w=>Q1 v true w (fieldAddr P T.a i 1) fun c0 w=>Q1 v true w (Q2 P T.c c0) fun c5 w=>Q1 v true w (Q3 P .eql T.c (.tmp 185) (.const (.string ⟨#[79,98,106,101,99,116]⟩)) c5 (.string ⟨#[79,98,106,101,99,116]⟩)) fun di w=>Q1 n false w (pick P v di (.bool false)) fun cf w=>Q1 h.1 true w (pick P n (.bool true) cf) fun dx w=>pick P h.1 dx (.bool false) w fun l w=>Q1 l true w (fieldAddr P T.a i 4) fun dl w=>Q1 l true w (Q2 P T.p dl) fun cj w=>Q1 l true w (fun w J=>J cj w) fun ar w=>Q1 ar true w (fieldAddr P T.a i 5) fun dy w=>Q1 ar true w (Q2 P T.p dy) fun co w=>Q1 l true w (pick P ar co (.bool false)) fun cz w=>Q1 l true w (J7 P .not cz) fun dc w=>pick P l dc (.bool false) w fun df w=>K df w)))
theorem Gk {a:Value} {w:World} {K:Value→World→Prop} (h:Ln a w K):Q0 P F.ba [a] w K:=Q8 Fj Tryz.func113 rfl (by decide) (by kernel_rfl) h
def Vw (d:Value) (w:World) (K:Value→World→Prop):Prop:= box P T.a d w fun a w=>Q2 P T.a a w fun c w=>Q0 P F.bl [c] w fun e w=>X1 e (K (.int .i64 51) w) (Q2 P T.a a w fun g w=>Q0 P F.ba [g] w fun f w=>J7 P .not f w fun b w=>X1 b (K (.int .i64 50) w) (K (.int .i64 0) w))
theorem Gh {a:Value} {w:World} {K:Value→World→Prop} (h:Vw a w K):Q0 P F.b7 [a] w K:=Q8 (List.replicate 8 none) Tryz.func53 rfl (by decide) (by kernel_rfl) h
def Iq:V2:=[none,none,none,some ([5],[4,5,6,7,8,9,10,11,12,13,14,15,16,17,18,19]),none,none,none,none,none,none]
def Mf (h j:Value) (w:World) (K:Value→World→Prop):Prop:= lp (α:=Value) (.int .i64 0) w fun a b l w=>X5 P .len [T.h] T.e [false] [h] w fun i w=>Q3 P .lss T.e (.tmp 6) (.tmp 8) b i w fun k w=>X1 k (indexAddr P T.h h b w fun c w=>fieldAddr P T.a c 0 w fun e w=>Q2 P T.c e w fun d w=>Q3 P .eql T.c (.tmp 16) (.tmp 17) d j w fun f w=>X1 f (K b w) (Q3 P .add T.e (.tmp 10) (.const (.int .i64 1)) b (.int .i64 1) w fun g w=>a g w)) (K (.int .i64 (-1)) w)
theorem Ks {b a:Value} {w:World} {K:Value→World→Prop} (h:Mf b a w K):Q0 P F.c [b,a] w K:=Q8 Iq Tryz.func54 rfl (by decide) (by kernel_rfl) h
def Cx:V2:=[none,none,none,none,none,none,none,some ([6],[4,6,7,28,29,30,31,32,33,34,35,36,37,38,39,40,41,42,43,44,45,46,47,48,49,50,51]),none,none,none,none,none,none,none]
def Vi (g W:Value) (w:World) (K:Value→World→Prop):Prop:= box P T.a W w fun a w=>fieldAddr P T.a a 1 w fun V w=>Q2 P T.c V w fun j w=>Q0 P F.c [g,j] w fun f w=>Q3 P .lss T.e (.tmp 12) (.const (.int .i64 0)) f (.int .i64 0) w fun c w=>Q1 c false w (fun w J=>J g w) fun n w=>Q1 c false w (fun w J=>J f w) fun H w=>Q1 c false w (indexAddr P T.h n H) fun l w=>Q1 c false w (fieldAddr P T.a l 3) fun L w=>Q1 c false w (Q2 P T.p L) fun q w=>pick P c (.bool true) q w fun d w=>Q1 d false w (fun w J=>J g w) fun z w=>Q1 d false w (fun w J=>J f w) fun R w=>Q1 d false w (indexAddr P T.h z R) fun y w=>Q1 d false w (fieldAddr P T.a y 5) fun k w=>Q1 d false w (Q2 P T.p k) fun o w=>pick P d (.bool true) o w fun O w=>X1 O (K (.int .i64 61) w) (lp (α:=Value) (.int .i64 0) w fun e E X w=>fieldAddr P T.a a 2 w fun i w=>Q2 P T.d i w fun s w=>X5 P .len [T.d] T.e [false] [s] w fun A w=>Q3 P .lss T.e (.tmp 28) (.tmp 31) E A w fun B w=>X1 B (fieldAddr P T.a a 2 w fun v w=>Q2 P T.d v w fun M w=>indexAddr P T.d M E w fun u w=>Q2 P T.c u w fun Q w=>Q0 P F.c [g,Q] w fun h w=>Q3 P .lss T.e (.tmp 42) (.const (.int .i64 0)) h (.int .i64 0) w fun b w=>Q1 b false w (fun w J=>J g w) fun U w=>Q1 b false w (fun w J=>J h w) fun p w=>Q1 b false w (indexAddr P T.h U p) fun N w=>Q1 b false w (fieldAddr P T.a N 3) fun r w=>Q1 b false w (Q2 P T.p r) fun t w=>Q1 b false w (J7 P .not t) fun m w=>pick P b (.bool true) m w fun C w=>X1 C (K (.int .i64 62) w) (Q3 P .add T.e (.tmp 33) (.const (.int .i64 1)) E (.int .i64 1) w fun D w=>e D w)) (K (.int .i64 0) w))
theorem Co {b a:Value} {w:World} {K:Value→World→Prop} (h:Vi b a w K):Q0 P F.aW [b,a] w K:=Q8 Cx Tryz.func55 rfl (by decide) (by kernel_rfl) h
def Gf:V2:=[none,none,none,none,some ([3,4],[3,4,5,6,7,8,13,14,15,16,17,18,19,20,21,22,23,24,25,26,27,28,29,30,31,32,33,34,35,36,37,38,39,40,41,42,43,44,45,46,47,48,49,50,51,52,53,54]),none,none,none,none,none,none,none,some ([7],[7,8,34,35,36,37,38,39,40,41,42,43,44,45,46,47,48,49,50]),none,none,some ([],[8,40,41,42,43,44,45,46,47,48,49,50]),none,none,none,none,some ([9],[9,10,11,55,56,57,58,59,60,61,62,63,64,65,66,67,68,69,70,71,72,73,74,75,76,77,78,79,80,81,82,83,84,85,86,87,88,89,90,91,92,93,94,95,96,97,98,99,100,101,102,103]),none,none,none,none,some ([10],[10,11,61,62,63,64,65,66,67,68,69,70,71,72,73,74,75,76,77,78,79,80,81,82,83,84,85,86,87,88,89,90,91,92,93,94,95,96,97,98,99,100,101,102,103]),none,none,none,none,some ([11],[11,67,68,69,70,71,72,73,74,75,76,77,78,79,80,81,82,83,84,85,86,87,88,89,90,91,92,93,94,95,96,97,98,99,100,101,102,103]),none,none,none,none]
def Wq (a0:Value) (w:World) (K:Value→World→Prop):Prop:= buildSlice P T.a1 0 [] w fun bk w=>lp (α:=Value×Value) (bk,(.int .i64 0)) w fun ad r d_ w=>X5 P .len [T.h] T.e [false] [a0] w fun bz w=>Q3 P .lss T.e (.tmp 13) (.tmp 15) r.2 bz w fun br w=>X1 br (X5 P .len [T.h] T.e [false] [a0] w fun be w=>Na P T.a0 be be w fun a9 w=>dr w fun b d=>Q6 b (fun v=> ∀w,d w→indexAddr P T.h a0 r.2 w (dk b v w)) fun v=>Q6 b (fun af=> ∀an w,d w→v an w→fieldAddr P T.a an 1 w (dk b af w)) fun af=>Q6 b (fun O=> ∀w,d w→indexAddr P T.h a0 r.2 w (dk b O w)) fun O=>Q6 b (fun ap=> ∀C w,d w→O C w→fieldAddr P T.a C 2 w (dk b ap w)) fun ap=>Q6 b (fun V=> ∀ae w,d w→af ae w→Q2 P T.c ae w (dk b V w)) fun V=>Q6 b (fun a2=> ∀ah w,d w→V ah w→buildSlice P T.d 1 [(0,ah)] w (dk b a2 w)) fun a2=>Q6 b (fun a4=> ∀L w,d w→ap L w→Q2 P T.d L w (dk b a4 w)) fun a4=>∀an ae C L ah bf a7 w,d w→v an w→af ae w→O C w→ap L w→V ah w→a2 bf w→a4 a7 w→ X5 P .append [T.d,T.d] T.d [false,false] [bf,a7] w fun ba w=>lp (α:=Value) (.int .i64 0) w fun p a3 d_ w=>X5 P .len [T.d] T.e [false] [ba] w fun bl w=>Q3 P .lss T.e (.tmp 34) (.tmp 36) a3 bl w fun bu w=>X1 bu (jn (α:=Unit) w (fun bb w=>indexAddr P T.d ba a3 w fun bx w=>Q2 P T.c bx w fun b1 w=>Q0 P F.c [a0,b1] w fun a8 w=>Q3 P .geq T.e (.tmp 46) (.const (.int .i64 0)) a8 (.int .i64 0) w fun bi w=>X1 bi (indexAddr P T.a0 a9 a8 w fun bw w=>Z2 P T.p bw (.bool true) w fun _u w=>bb () w) (bb () w)) fun b4 d_ w=>Q3 P .add T.e (.tmp 38) (.const (.int .i64 1)) a3 (.int .i64 1) w fun bj w=>p bj w) (buildSlice P T.a1 1 [(0,a9)] w fun bg w=>X5 P .append [T.a1,T.a1] T.a1 [false,false] [r.1,bg] w fun bp w=>Q3 P .add T.e (.tmp 17) (.const (.int .i64 1)) r.2 (.int .i64 1) w fun b2 w=>ad (bp,b2) w)) (lp (α:=Value) (.int .i64 0) w fun n N d_ w=>X5 P .len [T.h] T.e [false] [a0] w fun bq w=>Q3 P .lss T.e (.tmp 55) (.tmp 57) N bq w fun bv w=>X1 bv (lp (α:=Value) (.int .i64 0) w fun k l d_ w=>X5 P .len [T.h] T.e [false] [a0] w fun bo w=>Q3 P .lss T.e (.tmp 61) (.tmp 63) l bo w fun bh w=>X1 bh (lp (α:=Value) (.int .i64 0) w fun m o d_ w=>X5 P .len [T.h] T.e [false] [a0] w fun b3 w=>Q3 P .lss T.e (.tmp 67) (.tmp 69) o b3 w fun bm w=>X1 bm (dr w fun b d=>Q6 b (fun Z=> ∀w,d w→indexAddr P T.a1 r.1 l w (dk b Z w)) fun Z=>Q6 b (fun t=> ∀w,d w→indexAddr P T.a1 r.1 l w (dk b t w)) fun t=>Q6 b (fun a5=> ∀ag w,d w→Z ag w→Q2 P T.a0 ag w (dk b a5 w)) fun a5=>Q6 b (fun W=> ∀av w,d w→t av w→Q2 P T.a0 av w (dk b W w)) fun W=>Q6 b (fun ax=> ∀aa w,d w→W aa w→indexAddr P T.a0 aa o w (dk b ax w)) fun ax=>Q6 b (fun e=> ∀ac w,d w→ax ac w→Q2 P T.p ac w (dk b e w)) fun e=>Q6 b (fun Y=> ∀a w,d w→e a w→Q1 a false w (fun w J=>J r.1 w) (dk b Y w)) fun Y=>Q6 b (fun X=> ∀a w,d w→e a w→Q1 a false w (fun w J=>J l w) (dk b X w)) fun X=>Q6 b (fun u=> ∀a ab M w,d w→e a w→Y ab w→X M w→Q1 a false w (indexAddr P T.a1 ab M) (dk b u w)) fun u=>Q6 b (fun z=> ∀a w,d w→e a w→Q1 a false w (fun w J=>J N w) (dk b z w)) fun z=>Q6 b (fun H=> ∀a ao w,d w→e a w→u ao w→Q1 a false w (Q2 P T.a0 ao) (dk b H w)) fun H=>Q6 b (fun A=> ∀a aj E w,d w→e a w→H aj w→z E w→Q1 a false w (indexAddr P T.a0 aj E) (dk b A w)) fun A=>Q6 b (fun ar=> ∀a B w,d w→e a w→A B w→Q1 a false w (Q2 P T.p B) (dk b ar w)) fun ar=>Q6 b (fun f=> ∀a al w,d w→e a w→ar al w→Q1 a false w (fun w J=>J al w) (dk b f w)) fun f=>Q6 b (fun Q=> ∀c w,d w→f c w→Q1 c true w (fun w J=>J r.1 w) (dk b Q w)) fun Q=>Q6 b (fun ak=> ∀c w,d w→f c w→Q1 c true w (fun w J=>J N w) (dk b ak w)) fun ak=>Q6 b (fun U=> ∀c aw D w,d w→f c w→Q aw w→ak D w→Q1 c true w (indexAddr P T.a1 aw D) (dk b U w)) fun U=>Q6 b (fun aq=> ∀c w,d w→f c w→Q1 c true w (fun w J=>J o w) (dk b aq w)) fun aq=>Q6 b (fun ay=> ∀c R w,d w→f c w→U R w→Q1 c true w (Q2 P T.a0 R) (dk b ay w)) fun ay=>Q6 b (fun ai=> ∀c am s w,d w→f c w→ay am w→aq s w→Q1 c true w (indexAddr P T.a0 am s) (dk b ai w)) fun ai=>Q6 b (fun i=> ∀c y w,d w→f c w→ai y w→Q1 c true w (Q2 P T.p y) (dk b i w)) fun i=>Q6 b (fun j=> ∀a c g w,d w→e a w→f c w→i g w→Q1 a false w (pick P c g (.bool false)) (dk b j w)) fun j=>Q6 b (fun q=> ∀a h w,d w→e a w→j h w→pick P a (.bool true) h w (dk b q w)) fun q=>∀ag av a6 aa ac a ab M ao E aj B al c aw D R s am y g h a1 w,d w→Z ag w→t av w→a5 a6 w→W aa w→ax ac w→e a w→Y ab w→X M w→u ao w→z E w→H aj w→A B w→ar al w→f c w→Q aw w→ak D w→U R w→aq s w→ay am w→ai y w→i g w→j h w→q a1 w→ indexAddr P T.a0 a6 o w fun bd w=>Z2 P T.p bd a1 w fun _u w=>Q3 P .add T.e (.tmp 71) (.const (.int .i64 1)) o (.int .i64 1) w fun bs w=>m bs w) (Q3 P .add T.e (.tmp 65) (.const (.int .i64 1)) l (.int .i64 1) w fun bn w=>k bn w)) (Q3 P .add T.e (.tmp 59) (.const (.int .i64 1)) N (.int .i64 1) w fun b0 w=>n b0 w)) (K r.1 w))
theorem Gu {a:Value} {w:World} {K:Value→World→Prop} (h:Wq a w K):Q0 P F.az [a] w K:=Q8 Gf Tryz.func56 rfl (by decide) (by kernel_rfl) h
def Pv:V2:=[none,none,none,none,none,none,some ([9],[8,9,16,17,18,19,20,21,22,23,24,25,26,27,28]),none,none,none,none,none,none,none,none,some ([1,11],[1,11,41,42,43,44,45,46,47,48,49,50,51,52,53,54,55,56]),none,none,none,none]
def Nu (y v X s:Value) (w:World) (K:Value→World→Prop):Prop:= Q3 P .lss T.e (.tmp 12) (.tmp 13) s X w fun L w=>X1 L (K v w) (lp (α:=Value) (.int .i64 0) w fun m B Y w=>X5 P .len [T.z] T.e [false] [v] w fun R w=>Q3 P .lss T.e (.tmp 16) (.tmp 18) B R w fun H w=>X1 H (indexAddr P T.z v B w fun M w=>Q2 P T.e M w fun A w=>Q3 P .eql T.e (.tmp 25) (.tmp 26) A s w fun U w=>X1 U (K v w) (Q3 P .add T.e (.tmp 20) (.const (.int .i64 1)) B (.int .i64 1) w fun C w=>m C w)) (dr w fun a o=>Q6 a (fun j=> ∀w,o w→indexAddr P T.h y s w (dk a j w)) fun j=>Q6 a (fun l=> ∀h w,o w→j h w→fieldAddr P T.a h 1 w (dk a l w)) fun l=>Q6 a (fun f=> ∀w,o w→indexAddr P T.h y s w (dk a f w)) fun f=>Q6 a (fun g=> ∀n w,o w→f n w→fieldAddr P T.a n 2 w (dk a g w)) fun g=>Q6 a (fun d=> ∀k w,o w→l k w→Q2 P T.c k w (dk a d w)) fun d=>Q6 a (fun p=> ∀e w,o w→d e w→buildSlice P T.d 1 [(0,e)] w (dk a p w)) fun p=>Q6 a (fun q=> ∀i w,o w→g i w→Q2 P T.d i w (dk a q w)) fun q=>∀h k n i e u t w,o w→j h w→l k w→f n w→g i w→d e w→p u w→q t w→ X5 P .append [T.d,T.d] T.d [false,false] [u,t] w fun r w=>lp (α:=Value×Value) (v,(.int .i64 0)) w fun c b Y w=>X5 P .len [T.d] T.e [false] [r] w fun D w=>Q3 P .lss T.e (.tmp 41) (.tmp 43) b.2 D w fun N w=>X1 N (indexAddr P T.d r b.2 w fun z w=>Q2 P T.c z w fun Q w=>Q0 P F.c [y,Q] w fun W w=>Q0 P F.aL [y,b.1,X,W] w fun V w=>Q3 P .add T.e (.tmp 45) (.const (.int .i64 1)) b.2 (.int .i64 1) w fun E w=>c (V,E) w) (buildSlice P T.z 1 [(0,s)] w fun O w=>X5 P .append [T.z,T.z] T.z [false,false] [b.1,O] w fun J w=>K J w)))
theorem Af {b a d c:Value} {w:World} {K:Value→World→Prop} (h:Nu b a d c w K):Q0 P F.aL [b,a,d,c] w K:=Q8 Pv Tryz.func57 rfl (by decide) (by kernel_rfl) h
end Go.Proofs.YtfppjenblllfaaaGreatDoor

set_option maxRecDepth 100000
namespace Go.Proofs.YtfppjenblllfaaaGreatDoor
open Go.Emb
def T8 (u A:Value) (w:World) (K:Value→World→Prop):Prop:= Q0 P F.c [u,A] w fun z w=>Q3 P .lss T.e (.tmp 9) (.const (.int .i64 0)) z (.int .i64 0) w fun v w=>X1 v (K (.slice none 0 0) w) (dr w fun a b=>Q6 a (fun j=> ∀w,b w→indexAddr P T.h u z w (dk a j w)) fun j=>Q6 a (fun p=> ∀f w,b w→j f w→fieldAddr P T.a f 1 w (dk a p w)) fun p=>Q6 a (fun m=> ∀w,b w→indexAddr P T.h u z w (dk a m w)) fun m=>Q6 a (fun g=> ∀i w,b w→m i w→fieldAddr P T.a i 6 w (dk a g w)) fun g=>Q6 a (fun h=> ∀w,b w→buildSlice P T.i 0 [] w (dk a h w)) fun h=>Q6 a (fun c=> ∀k w,b w→p k w→Q2 P T.c k w (dk a c w)) fun c=>Q6 a (fun e=> ∀n w,b w→c n w→Q0 P F.x [u,n] w (dk a e w)) fun e=>Q6 a (fun q=> ∀d l w,b w→h d w→e l w→X5 P .append [T.i,T.i] T.i [false,false] [d,l] w (dk a q w)) fun q=>Q6 a (fun r=> ∀o w,b w→g o w→Q2 P T.i o w (dk a r w)) fun r=>∀f k i o d n l s t w,b w→j f w→p k w→m i w→g o w→h d w→c n w→e l w→q s w→r t w→ X5 P .append [T.i,T.i] T.i [false,false] [s,t] w fun y w=>K y w)
theorem Ut {b a:Value} {w:World} {K:Value→World→Prop} (h:T8 b a w K):Q0 P F.x [b,a] w K:=Q8 (List.replicate 6 none) Tryz.func173 rfl (by decide) (by kernel_rfl) h
def Bz:V2:=[none,none,none,none,some ([8],[6,8,12,13,14,15,16,17,18,19,20,21,22,23,24,25]),none,none,none,none,none,none]
def Ll (l k m:Value) (w:World) (K:Value→World→Prop):Prop:= Q0 P F.x [l,k] w fun b w=>lp (α:=Value) (.int .i64 0) w fun a c n w=>X5 P .len [T.i] T.e [false] [b] w fun d w=>Q3 P .lss T.e (.tmp 12) (.tmp 14) c d w fun g w=>X1 g (indexAddr P T.i b c w fun e w=>fieldAddr P T.k e 0 w fun f w=>Q2 P T.c f w fun h w=>Q3 P .eql T.c (.tmp 22) (.tmp 23) h m w fun i w=>X1 i (K c w) (Q3 P .add T.e (.tmp 16) (.const (.int .i64 1)) c (.int .i64 1) w fun j w=>a j w)) (K (.int .i64 (-1)) w)
theorem Gc {b a c:Value} {w:World} {K:Value→World→Prop} (h:Ll b a c w K):Q0 P F.bb [b,a,c] w K:=Q8 Bz Tryz.func114 rfl (by decide) (by kernel_rfl) h
def Lw (b:Value) (w:World) (K:Value→World→Prop):Prop:= X5 P .len [T.c] T.e [false] [b] w fun f w=>Q0 P F.al [b] w fun c w=>Q3 P .mul T.e (.const (.int .i64 2)) (.tmp 7) (.int .i64 2) c w fun d w=>Q3 P .sub T.e (.tmp 5) (.tmp 8) f d w fun e w=>E6 P T.c b none (some e) none w fun a w=>K a w
theorem Ik {a:Value} {w:World} {K:Value→World→Prop} (h:Lw a w K):Q0 P F.aF [a] w K:=Q8 (List.replicate 2 none) Tryz.func121 rfl (by decide) (by kernel_rfl) h
def Ml (q d:Value) (w:World) (K:Value→World→Prop):Prop:= Q3 P .eql T.c (.tmp 5) (.const (.string ⟨#[110,117,108,108]⟩)) d (.string ⟨#[110,117,108,108]⟩) w fun c w=>Q1 c false w (fun w J=>J d w) fun r w=>Q1 c false w (Q0 P F.i [r]) fun p w=>Q1 c false w (fun w J=>J p w) fun a w=>Q1 a true w (fun w J=>J d w) fun e w=>Q1 a true w (Q0 P F.aF [e]) fun j w=>Q1 a true w (Q0 P F.ad [j]) fun f w=>Q1 a true w (fun w J=>J f w) fun b w=>Q1 b false w (fun w J=>J q w) fun h w=>Q1 b false w (fun w J=>J d w) fun l w=>Q1 b false w (Q0 P F.aF [l]) fun o w=>Q1 b false w (Q0 P F.c [h,o]) fun n w=>Q1 b false w (Q3 P .geq T.e (.tmp 18) (.const (.int .i64 0)) n (.int .i64 0)) fun i w=>Q1 a true w (pick P b (.bool true) i) fun m w=>Q1 c false w (pick P a m (.bool false)) fun g w=>pick P c (.bool true) g w fun k w=>K k w
theorem Kr {b a:Value} {w:World} {K:Value→World→Prop} (h:Ml b a w K):Q0 P F.bk [b,a] w K:=Q8 (List.replicate 2 none) Tryz.func61 rfl (by decide) (by kernel_rfl) h
def Wg (g d:Value) (w:World) (K:Value→World→Prop):Prop:= Q3 P .neq T.c (.tmp 5) (.const (.string ⟨#[110,117,108,108]⟩)) d (.string ⟨#[110,117,108,108]⟩) w fun a w=>Q1 a true w (fun w J=>J g w) fun e w=>Q1 a true w (fun w J=>J d w) fun f w=>Q1 a true w (Q0 P F.bk [e,f]) fun b w=>pick P a b (.bool false) w fun c w=>K c w
theorem Bg {b a:Value} {w:World} {K:Value→World→Prop} (h:Wg b a w K):Q0 P F.bc [b,a] w K:=Q8 (List.replicate 2 none) Tryz.func115 rfl (by decide) (by kernel_rfl) h
def Ku:V2:=[none,none,none,none,some ([3,4],[3,4,5,6,7,8,9,10,11,12,13,14,15,16,17,18,19,20,21,22]),none,none,none,some ([3],[3,12,13,14,15]),none,none]
def Md (s:Value) (w:World) (K:Value→World→Prop):Prop:= box P T.b s w fun a w=>lp (α:=Value×Value) ((.string ⟨#[40]⟩),(.int .i64 0)) w fun b c y w=>fieldAddr P T.b a 1 w fun t w=>Q2 P T.d t w fun u w=>X5 P .len [T.d] T.e [false] [u] w fun v w=>Q3 P .lss T.e (.tmp 5) (.tmp 8) c.2 v w fun r w=>X1 r (jn (α:=Value) w (fun p w=>Q3 P .gtr T.e (.tmp 12) (.const (.int .i64 0)) c.2 (.int .i64 0) w fun f w=>X1 f (Q3 P .add T.c (.tmp 14) (.const (.string ⟨#[44]⟩)) c.1 (.string ⟨#[44]⟩) w fun h w=>p h w) (p c.1 w)) fun q y w=>fieldAddr P T.b a 1 w fun o w=>Q2 P T.d o w fun m w=>indexAddr P T.d m c.2 w fun l w=>Q2 P T.c l w fun g w=>Q3 P .add T.c (.tmp 16) (.tmp 21) q g w fun k w=>Q3 P .add T.e (.tmp 10) (.const (.int .i64 1)) c.2 (.int .i64 1) w fun e w=>b (k,e) w) (Q3 P .add T.c (.tmp 23) (.const (.string ⟨#[41]⟩)) c.1 (.string ⟨#[41]⟩) w fun j w=>fieldAddr P T.b a 2 w fun d w=>Q2 P T.c d w fun i w=>Q3 P .add T.c (.tmp 24) (.tmp 26) j i w fun n w=>K n w)
theorem Kb {a:Value} {w:World} {K:Value→World→Prop} (h:Md a w K):Q0 P F.aE [a] w K:=Q8 Ku Tryz.func116 rfl (by decide) (by kernel_rfl) h
def Tg:V2:=[none,none,none,some ([5],[4,5,6,7,8,9,10,11,12,13,14,15,16,17,18,19,20,21]),none,none,none,none,none,none]
def Nw (m p:Value) (w:World) (K:Value→World→Prop):Prop:= box P T.a m w fun a w=>lp (α:=Value) (.int .i64 0) w fun b c q w=>fieldAddr P T.a a 7 w fun n w=>Q2 P T.g n w fun o w=>X5 P .len [T.g] T.e [false] [o] w fun l w=>Q3 P .lss T.e (.tmp 6) (.tmp 9) c l w fun d w=>X1 d (fieldAddr P T.a a 7 w fun e w=>Q2 P T.g e w fun f w=>indexAddr P T.g f c w fun h w=>fieldAddr P T.b h 0 w fun k w=>Q2 P T.c k w fun j w=>Q3 P .eql T.c (.tmp 18) (.tmp 19) j p w fun i w=>X1 i (K c w) (Q3 P .add T.e (.tmp 11) (.const (.int .i64 1)) c (.int .i64 1) w fun g w=>b g w)) (K (.int .i64 (-1)) w)
theorem Aa {b a:Value} {w:World} {K:Value→World→Prop} (h:Nw b a w K):Q0 P F.aM [b,a] w K:=Q8 Tg Tryz.func174 rfl (by decide) (by kernel_rfl) h
def Gg:V2:=[none,none,none,some ([9],[6,8,9,10,11,12,13,14,15,16,17,18,19,20,21,22,23,24,25,26,27,28,29,30,31,32,33,34,35,36,37,38,39,40,41,42,43,44,45,46,47,48,49,50,51,52,53,54]),none,none,none,none,none,none,none,none,none,none,none,none]
def Vy (B a1 a2:Value) (w:World) (K:Value→World→Prop):Prop:= box P T.a a1 w fun d w=>W6 P T.b w fun s w=>lp (α:=Value) (.int .i64 0) w fun h D d_ w=>fieldAddr P T.a d 2 w fun W w=>Q2 P T.d W w fun aa w=>X5 P .len [T.d] T.e [false] [aa] w fun X w=>Q3 P .lss T.e (.tmp 15) (.tmp 18) D X w fun L w=>X1 L (fieldAddr P T.a d 2 w fun Q w=>Q2 P T.d Q w fun C w=>indexAddr P T.d C D w fun Z w=>Q2 P T.c Z w fun Y w=>Q0 P F.c [B,Y] w fun A w=>indexAddr P T.h B A w fun M w=>Q2 P T.a M w fun R w=>W6 P T.a w fun a w=>Z2 P T.a a R w fun _u w=>Q2 P T.a a w fun U w=>Q0 P F.aM [U,a2] w fun z w=>Q3 P .geq T.e (.tmp 35) (.const (.int .i64 0)) z (.int .i64 0) w fun O w=>X1 O (dr w fun b e=>Q6 b (fun j=> ∀w,e w→fieldAddr P T.a a 0 w (dk b j w)) fun j=>Q6 b (fun i=> ∀w,e w→fieldAddr P T.a a 7 w (dk b i w)) fun i=>Q6 b (fun r=> ∀m w,e w→j m w→Q2 P T.c m w (dk b r w)) fun r=>Q6 b (fun l=> ∀k w,e w→i k w→Q2 P T.g k w (dk b l w)) fun l=>Q6 b (fun f=> ∀n w,e w→l n w→indexAddr P T.g n z w (dk b f w)) fun f=>Q6 b (fun o=> ∀g w,e w→f g w→Q2 P T.b g w (dk b o w)) fun o=>∀m k v n g t w,e w→j m w→i k w→r v w→l n w→f g w→o t w→ Z2 P T.b s t w fun _u w=>U5 P T.b s w fun u=>K (.tuple #[v,u,(.bool true)]) w) (Q2 P T.a a w fun J w=>Q0 P F.aB [B,J,a2] w fun p w=>ext P p 0 w fun N w=>ext P p 1 w fun E w=>ext P p 2 w fun V w=>W6 P T.b w fun c w=>Z2 P T.b c E w fun _u w=>X1 V (dr w fun b e=>Q6 b (fun q=> ∀w,e w→Q2 P T.b c w (dk b q w)) fun q=>∀y w,e w→q y w→ Z2 P T.b s y w fun _u w=>U5 P T.b s w fun u=>K (.tuple #[N,u,(.bool true)]) w) (Q3 P .add T.e (.tmp 20) (.const (.int .i64 1)) D (.int .i64 1) w fun H w=>h H w))) (N3 P T.b [] w fun ab w=>Z2 P T.b s ab w fun _u w=>U5 P T.b s w fun u=>K (.tuple #[(.string ⟨#[]⟩),u,(.bool false)]) w)
theorem Gm {b a c:Value} {w:World} {K:Value→World→Prop} (h:Vy b a c w K):Q0 P F.aB [b,a,c] w K:=Q8 Gg Tryz.func175 rfl (by decide) (by kernel_rfl) h
def Ci:V2:=[none,none,none,some ([9],[6,8,9,10,18,19,20,21,22,23,24,25,26,27,28,29,30,31,32,33,34,35,36,37,38,39,40,41,42,43,44,45,46,47]),none,none,none,none,none,none,none,none,some ([11],[6,8,11,12,13,14,51,52,53,54,55,56,57,58,59,60,61,62,63,64,65,66,67,68,69,70,71,72,73]),none,none,none,none,none,none,none]
def Va (c a1 a2:Value) (w:World) (K:Value→World→Prop):Prop:= W6 P T.b w fun y w=>Q0 P F.c [c,a1] w fun ag w=>lp (α:=Value) ag w fun i z d_ w=>Q3 P .geq T.e (.tmp 18) (.const (.int .i64 0)) z (.int .i64 0) w fun W w=>X1 W (indexAddr P T.h c z w fun J w=>Q2 P T.a J w fun X w=>Q0 P F.aM [X,a2] w fun D w=>Q3 P .geq T.e (.tmp 33) (.const (.int .i64 0)) D (.int .i64 0) w fun ac w=>X1 ac (dr w fun a b=>Q6 a (fun k=> ∀w,b w→indexAddr P T.h c z w (dk a k w)) fun k=>Q6 a (fun m=> ∀q w,b w→k q w→fieldAddr P T.a q 0 w (dk a m w)) fun m=>Q6 a (fun f=> ∀w,b w→indexAddr P T.h c z w (dk a f w)) fun f=>Q6 a (fun e=> ∀g w,b w→f g w→fieldAddr P T.a g 7 w (dk a e w)) fun e=>Q6 a (fun s=> ∀o w,b w→m o w→Q2 P T.c o w (dk a s w)) fun s=>Q6 a (fun l=> ∀h w,b w→e h w→Q2 P T.g h w (dk a l w)) fun l=>Q6 a (fun p=> ∀n w,b w→l n w→indexAddr P T.g n D w (dk a p w)) fun p=>Q6 a (fun t=> ∀j w,b w→p j w→Q2 P T.b j w (dk a t w)) fun t=>∀q o g h C n j H w,b w→k q w→m o w→f g w→e h w→s C w→l n w→p j w→t H w→ Z2 P T.b y H w fun _u w=>U5 P T.b y w fun B=>K (.tuple #[C,B,(.bool true)]) w) (indexAddr P T.h c z w fun ah w=>fieldAddr P T.a ah 1 w fun Z w=>Q2 P T.c Z w fun N w=>Q0 P F.c [c,N] w fun V w=>i V w)) (Q0 P F.c [c,a1] w fun R w=>lp (α:=Value) R w fun d r d_ w=>Q3 P .geq T.e (.tmp 51) (.const (.int .i64 0)) r (.int .i64 0) w fun M w=>X1 M (indexAddr P T.h c r w fun O w=>Q2 P T.a O w fun U w=>Q0 P F.aB [c,U,a2] w fun u w=>ext P u 0 w fun L w=>ext P u 1 w fun ae w=>ext P u 2 w fun Y w=>W6 P T.b w fun A w=>Z2 P T.b A ae w fun _u w=>X1 Y (dr w fun a b=>Q6 a (fun v=> ∀w,b w→Q2 P T.b A w (dk a v w)) fun v=>∀E w,b w→v E w→ Z2 P T.b y E w fun _u w=>U5 P T.b y w fun B=>K (.tuple #[L,B,(.bool true)]) w) (indexAddr P T.h c r w fun ad w=>fieldAddr P T.a ad 1 w fun ab w=>Q2 P T.c ab w fun Q w=>Q0 P F.c [c,Q] w fun aa w=>d aa w)) (N3 P T.b [] w fun af w=>Z2 P T.b y af w fun _u w=>U5 P T.b y w fun B=>K (.tuple #[(.string ⟨#[]⟩),B,(.bool false)]) w))
theorem Sr {b a c:Value} {w:World} {K:Value→World→Prop} (h:Va b a c w K):Q0 P F.aY [b,a,c] w K:=Q8 Ci Tryz.func117 rfl (by decide) (by kernel_rfl) h
def Rz:V2:=[none,none,none,none,some ([6],[4,6,24,25,26,27,28,29,30,31,32,33,34,35,36,37,38,39,40,41]),none,none,none,none,none,none,none,none,some ([7,8],[7,8,43,44,45,46,47,48,49,50,51,52,53,54,55,56,57,58]),none,none,none,none,none,some ([7,9],[7,9,59,60,61,62,63,64,65,66,67,68,69,70,71,72,73,74,75,76,77,78,79,80,81,82,83,84,85,86,87,88,89]),none,none,some ([7],[7,66,67,68,69,70,71,72,73,74,75,76,77,78,79,80,81,82,83,84,85,86,87,88,89]),none,none,none,none,some ([10],[4,10,90,91,92,93,94,95,96,97,98,99,100,101,102]),none,none,none,none,none,none,none,none,none,some ([12,13],[12,13,106,107,108,109,110,111,112,113,114,115,116,117,118,119,120,121,122,123,124,125,126,127,128,129,130]),none,none,some ([12],[12,112,113,114,115,116,117,118,119,120,121,122,123,124,125,126,127,128,129,130]),none,none,none,some ([14],[4,14,15,131,132,133,134,135,136,137,138,139,140,141,142,143,144,145,146,147,148,149,150,151,152,153,154,155,156,157,158,159,160,161,162,163,164,165]),none,none,none,none,some ([15],[4,15,137,138,139,140,141,142,143,144,145,146,147,148,149,150,151,152,153,154,155,156,157,158,159,160,161,162,163,164,165]),none,none,none,none,none,none,none,some ([16],[4,16,17,18,19,166,167,168,169,170,171,172,173,174,175,176,177,178,179,180,181,182,183,184,185,186,187,188,189,190,191,192,193,194,195]),none,none,none,none,none,none,none]
def Ug (a0 a1:Value) (w:World) (K:Value→World→Prop):Prop:= indexAddr P T.h a0 a1 w fun dz w=>Q2 P T.a dz w fun eh w=>W6 P T.a w fun t5 w=>Z2 P T.a t5 eh w fun _u w=>lp (α:=Value) (.int .i64 0) w fun a5 x4 d_ w=>fieldAddr P T.a t5 6 w fun c9 w=>Q2 P T.i c9 w fun db w=>X5 P .len [T.i] T.e [false] [db] w fun dm w=>Q3 P .lss T.e (.tmp 24) (.tmp 27) x4 dm w fun c3 w=>X1 c3 (dr w fun b c=>Q6 b (fun bd=> ∀w,c w→fieldAddr P T.a t5 1 w (dk b bd w)) fun bd=>Q6 b (fun a4=> ∀w,c w→fieldAddr P T.a t5 6 w (dk b a4 w)) fun a4=>Q6 b (fun bj=> ∀a3 w,c w→bd a3 w→Q2 P T.c a3 w (dk b bj w)) fun bj=>Q6 b (fun a9=> ∀be w,c w→a4 be w→Q2 P T.i be w (dk b a9 w)) fun a9=>Q6 b (fun bb=> ∀a7 w,c w→a9 a7 w→indexAddr P T.i a7 x4 w (dk b bb w)) fun bb=>Q6 b (fun bc=> ∀bf w,c w→bb bf w→fieldAddr P T.k bf 0 w (dk b bc w)) fun bc=>Q6 b (fun bl=> ∀a2 w,c w→bc a2 w→Q2 P T.c a2 w (dk b bl w)) fun bl=>∀a3 be b5 a7 bf a2 bv w,c w→bd a3 w→a4 be w→bj b5 w→a9 a7 w→bb bf w→bc a2 w→bl bv w→ Q0 P F.bb [a0,b5,bv] w fun c4 w=>Q3 P .geq T.e (.tmp 40) (.const (.int .i64 0)) c4 (.int .i64 0) w fun dg w=>X1 dg (K (.int .i64 64) w) (Q3 P .add T.e (.tmp 29) (.const (.int .i64 1)) x4 (.int .i64 1) w fun du w=>a5 du w)) (buildSlice P T.d 0 [] w fun cz w=>lp (α:=Value×Value) (cz,(.int .i64 0)) w fun az aw d_ w=>fieldAddr P T.a t5 6 w fun ea w=>Q2 P T.i ea w fun d5 w=>X5 P .len [T.i] T.e [false] [d5] w fun dt w=>Q3 P .lss T.e (.tmp 43) (.tmp 46) aw.2 dt w fun ef w=>X1 ef (fieldAddr P T.a t5 6 w fun df w=>Q2 P T.i df w fun d6 w=>indexAddr P T.i d6 aw.2 w fun d1 w=>fieldAddr P T.k d1 1 w fun c5 w=>Q2 P T.c c5 w fun eg w=>buildSlice P T.d 1 [(0,eg)] w fun d2 w=>X5 P .append [T.d,T.d] T.d [false,false] [aw.1,d2] w fun da w=>Q3 P .add T.e (.tmp 48) (.const (.int .i64 1)) aw.2 (.int .i64 1) w fun d9 w=>az (da,d9) w) (lp (α:=Value×Value) (aw.1,(.int .i64 0)) w fun ar j d_ w=>fieldAddr P T.a t5 7 w fun d8 w=>Q2 P T.g d8 w fun dh w=>X5 P .len [T.g] T.e [false] [dh] w fun d3 w=>Q3 P .lss T.e (.tmp 59) (.tmp 62) j.2 d3 w fun c0 w=>X1 c0 (jn (α:=Value) w (fun cu w=>fieldAddr P T.a t5 7 w fun eb w=>Q2 P T.g eb w fun c8 w=>indexAddr P T.g c8 j.2 w fun dy w=>fieldAddr P T.b dy 1 w fun ec w=>Q2 P T.d ec w fun d4 w=>X5 P .append [T.d,T.d] T.d [false,false] [j.1,d4] w fun cn w=>fieldAddr P T.a t5 7 w fun dn w=>Q2 P T.g dn w fun d7 w=>indexAddr P T.g d7 j.2 w fun c6 w=>fieldAddr P T.b c6 2 w fun dl w=>Q2 P T.c dl w fun dw w=>Q3 P .neq T.c (.tmp 79) (.const (.string ⟨#[]⟩)) dw (.string ⟨#[]⟩) w fun ee w=>X1 ee (fieldAddr P T.a t5 7 w fun dc w=>Q2 P T.g dc w fun di w=>indexAddr P T.g di j.2 w fun dp w=>fieldAddr P T.b dp 2 w fun c7 w=>Q2 P T.c c7 w fun d0 w=>buildSlice P T.d 1 [(0,d0)] w fun de w=>X5 P .append [T.d,T.d] T.d [false,false] [cn,de] w fun dj w=>cu dj w) (cu cn w)) fun dx d_ w=>Q3 P .add T.e (.tmp 64) (.const (.int .i64 1)) j.2 (.int .i64 1) w fun ds w=>ar (dx,ds) w) (lp (α:=Value) (.int .i64 0) w fun al bm d_ w=>X5 P .len [T.d] T.e [false] [j.1] w fun dd w=>Q3 P .lss T.e (.tmp 90) (.tmp 92) bm dd w fun dq w=>X1 dq (indexAddr P T.d j.1 bm w fun cy w=>Q2 P T.c cy w fun cf w=>Q0 P F.bc [a0,cf] w fun ch w=>J7 P .not ch w fun b8 w=>X1 b8 (K (.int .i64 65) w) (Q3 P .add T.e (.tmp 94) (.const (.int .i64 1)) bm (.int .i64 1) w fun dv w=>al dv w)) (Q0 P F.az [a0] w fun ci w=>buildSlice P T.g 0 [] w fun cg w=>lp (α:=Value×Value) (cg,(.int .i64 0)) w fun aj f d_ w=>X5 P .len [T.h] T.e [false] [a0] w fun cw w=>Q3 P .lss T.e (.tmp 106) (.tmp 108) f.2 cw w fun cs w=>X1 cs (jn (α:=Value) w (fun cj w=>Q3 P .eql T.e (.tmp 112) (.tmp 113) f.2 a1 w fun g w=>Q1 g false w (fun w J=>J ci w) fun bx w=>Q1 g false w (fun w J=>J a1 w) fun bw w=>Q1 g false w (indexAddr P T.a1 bx bw) fun b6 w=>Q1 g false w (Q2 P T.a0 b6) fun cc w=>Q1 g false w (fun w J=>J f.2 w) fun ck w=>Q1 g false w (indexAddr P T.a0 cc ck) fun ca w=>Q1 g false w (Q2 P T.p ca) fun bo w=>pick P g (.bool true) bo w fun cd w=>X1 cd (indexAddr P T.h a0 f.2 w fun ce w=>fieldAddr P T.a ce 7 w fun b9 w=>Q2 P T.g b9 w fun cp w=>X5 P .append [T.g,T.g] T.g [false,false] [f.1,cp] w fun br w=>cj br w) (cj f.1 w)) fun c1 d_ w=>Q3 P .add T.e (.tmp 110) (.const (.int .i64 1)) f.2 (.int .i64 1) w fun b3 w=>aj (c1,b3) w) (lp (α:=Value) (.int .i64 0) w fun ai ax d_ w=>X5 P .len [T.g] T.e [false] [f.1] w fun ct w=>Q3 P .lss T.e (.tmp 131) (.tmp 133) ax ct w fun bz w=>X1 bz (lp (α:=Value) (.int .i64 0) w fun ak a6 d_ w=>Q3 P .lss T.e (.tmp 137) (.tmp 138) a6 ax w fun cm w=>X1 cm (dr w fun b c=>Q6 b (fun r=> ∀w,c w→indexAddr P T.g f.1 ax w (dk b r w)) fun r=>Q6 b (fun af=> ∀ab w,c w→r ab w→fieldAddr P T.b ab 0 w (dk b af w)) fun af=>Q6 b (fun H=> ∀w,c w→indexAddr P T.g f.1 a6 w (dk b H w)) fun H=>Q6 b (fun Y=> ∀aa w,c w→H aa w→fieldAddr P T.b aa 0 w (dk b Y w)) fun Y=>Q6 b (fun B=> ∀R w,c w→af R w→Q2 P T.c R w (dk b B w)) fun B=>Q6 b (fun t=> ∀ag w,c w→Y ag w→Q2 P T.c ag w (dk b t w)) fun t=>Q6 b (fun d=> ∀u v w,c w→B u w→t v w→Q3 P .eql T.c (.tmp 146) (.tmp 151) u v w (dk b d w)) fun d=>Q6 b (fun C=> ∀a w,c w→d a w→Q1 a true w (fun w J=>J f.1 w) (dk b C w)) fun C=>Q6 b (fun Q=> ∀a w,c w→d a w→Q1 a true w (fun w J=>J ax w) (dk b Q w)) fun Q=>Q6 b (fun ad=> ∀a ac p w,c w→d a w→C ac w→Q p w→Q1 a true w (indexAddr P T.g ac p) (dk b ad w)) fun ad=>Q6 b (fun O=> ∀a w,c w→d a w→Q1 a true w (fun w J=>J f.1 w) (dk b O w)) fun O=>Q6 b (fun E=> ∀a w,c w→d a w→Q1 a true w (fun w J=>J a6 w) (dk b E w)) fun E=>Q6 b (fun V=> ∀a m l w,c w→d a w→O m w→E l w→Q1 a true w (indexAddr P T.g m l) (dk b V w)) fun V=>Q6 b (fun A=> ∀a N w,c w→d a w→ad N w→Q1 a true w (Q2 P T.b N) (dk b A w)) fun A=>Q6 b (fun av=> ∀a M w,c w→d a w→A M w→Q1 a true w (Q0 P F.aE [M]) (dk b av w)) fun av=>Q6 b (fun ay=> ∀a Z w,c w→d a w→V Z w→Q1 a true w (Q2 P T.b Z) (dk b ay w)) fun ay=>∀ab R aa ag u v a ac p N m l Z M bi bh w,c w→r ab w→af R w→H aa w→Y ag w→B u w→t v w→d a w→C ac w→Q p w→ad N w→O m w→E l w→V Z w→A M w→av bi w→ay bh w→ Q1 a true w (Q0 P F.aE [bh]) fun bs w=>Q1 a true w (Q3 P .neq T.c (.tmp 158) (.tmp 163) bi bs) fun cl w=>pick P a cl (.bool false) w fun bp w=>X1 bp (K (.int .i64 66) w) (Q3 P .add T.e (.tmp 140) (.const (.int .i64 1)) a6 (.int .i64 1) w fun b4 w=>ak b4 w)) (Q3 P .add T.e (.tmp 135) (.const (.int .i64 1)) ax (.int .i64 1) w fun cb w=>ai cb w)) (lp (α:=Value) (.int .i64 0) w fun an bk d_ w=>X5 P .len [T.g] T.e [false] [f.1] w fun b7 w=>Q3 P .lss T.e (.tmp 166) (.tmp 168) bk b7 w fun y w=>Q1 y true w (fieldAddr P T.a t5 4) fun cr w=>Q1 y true w (Q2 P T.p cr) fun bu w=>Q1 y true w (J7 P .not bu) fun b2 w=>pick P y b2 (.bool false) w fun cq w=>X1 cq (dr w fun b c=>Q6 b (fun U=> ∀w,c w→fieldAddr P T.a t5 0 w (dk b U w)) fun U=>Q6 b (fun D=> ∀w,c w→indexAddr P T.g f.1 bk w (dk b D w)) fun D=>Q6 b (fun s=> ∀n w,c w→D n w→fieldAddr P T.b n 0 w (dk b s w)) fun s=>Q6 b (fun W=> ∀o w,c w→U o w→Q2 P T.c o w (dk b W w)) fun W=>Q6 b (fun X=> ∀z w,c w→s z w→Q2 P T.c z w (dk b X w)) fun X=>Q6 b (fun h=> ∀q L w,c w→W q w→X L w→Q0 P F.aY [a0,q,L] w (dk b h w)) fun h=>Q6 b (fun aq=> ∀e w,c w→h e w→ext P e 0 w (dk b aq w)) fun aq=>Q6 b (fun ae=> ∀e w,c w→h e w→ext P e 1 w (dk b ae w)) fun ae=>Q6 b (fun ao=> ∀e w,c w→h e w→ext P e 2 w (dk b ao w)) fun ao=>Q6 b (fun ba=> ∀w,c w→W6 P T.b w (dk b ba w)) fun ba=>Q1c b (fun am=> ∀k i w,c w→ba k w→ae i w→Z2 P T.b k i w (dk b (am [k,i]) w)) fun am=>∀o n z q L e bq i bg k cx w,c w→U o w→D n w→s z w→W q w→X L w→h e w→aq bq w→ae i w→ao bg w→ba k w→am [k,i] cx w→ J7 P .not bg w fun ap w=>Q1 ap false w (fieldAddr P T.b k 3) fun co w=>Q1 ap false w (Q2 P T.p co) fun cv w=>pick P ap (.bool true) cv w fun b0 w=>X1 b0 (K (.int .i64 67) w) (Q3 P .add T.e (.tmp 175) (.const (.int .i64 1)) bk (.int .i64 1) w fun b1 w=>an b1 w)) (K (.int .i64 0) w)))))))
theorem So {b a:Value} {w:World} {K:Value→World→Prop} (h:Ug b a w K):Q0 P F.aQ [b,a] w K:=Q8 Rz Tryz.func58 rfl (by decide) (by kernel_rfl) h
def Au:V2:=[none,none,none,none,none,some ([5,7],[2,3,4,5,7,8,21,22,23,24,25,26,27,28,29,30,31,32,33,34,35,36,37,38,39,40,41,42]),none,none,none,none,none,none,none,none,none,some ([9],[2,3,4,9,43,44,45,46,47,48,49,50,51,52,53,54,55,56,57,58,59,60]),none,none,none,none,none,none,none,some ([10],[2,3,4,10,11,61,62,63,64,65,66,67,68,69,70,71,72,73,74,75,76]),none,none,none,none,none,none,none,none,none,some ([13],[2,3,4,13,79,80,81,82,83,84,85,86,87,88,89,90,91,92,93,94,95,96]),none,none,none,none,none,none,none,none,some ([14,15],[14,15,98,99,100,101,102,103,104,105,106,107,108,109,110]),none,none,none,none,none,some ([16],[2,3,4,16,17,111,112,113,114,115,116,117,118,119,120,121,122,123,124,125,126,127,128,129,130,131]),none,none,none,none,none,none,none]
def Ny (l:Value) (w:World) (K:Value→World→Prop):Prop:= Q0 P F.b6 [] w fun L w=>X5 P .len [T.h] T.e [false] [L] w fun b w=>lp (α:=Value×Value) (L,(.int .i64 0)) w fun m c D w=>X5 P .len [T.h] T.e [false] [l] w fun V w=>Q3 P .lss T.e (.tmp 21) (.tmp 23) c.2 V w fun an w=>X1 an (indexAddr P T.h l c.2 w fun R w=>Q2 P T.a R w fun ah w=>Q0 P F.b7 [ah] w fun z w=>Q3 P .neq T.s (.tmp 32) (.const (.int .i64 0)) z (.int .i64 0) w fun ae w=>X1 ae (K (.tuple #[(.slice none 0 0),c.2,z]) w) (indexAddr P T.h l c.2 w fun aj w=>Q2 P T.a aj w fun U w=>buildSlice P T.h 1 [(0,U)] w fun ax w=>X5 P .append [T.h,T.h] T.h [false,false] [c.1,ax] w fun ab w=>Q3 P .add T.e (.tmp 25) (.const (.int .i64 1)) c.2 (.int .i64 1) w fun ac w=>m (ab,ac) w)) (lp (α:=Value) (.int .i64 0) w fun k f D w=>X5 P .len [T.h] T.e [false] [l] w fun a4 w=>Q3 P .lss T.e (.tmp 43) (.tmp 45) f a4 w fun ad w=>X1 ad (indexAddr P T.h l f w fun X w=>fieldAddr P T.a X 0 w fun Q w=>Q2 P T.c Q w fun av w=>Q0 P F.c [c.1,av] w fun a3 w=>Q3 P .add T.e (.tmp 56) (.tmp 57) b f w fun Z w=>Q3 P .neq T.e (.tmp 55) (.tmp 58) a3 Z w fun aq w=>X1 aq (K (.tuple #[(.slice none 0 0),f,(.int .i64 60)]) w) (Q3 P .add T.e (.tmp 47) (.const (.int .i64 1)) f (.int .i64 1) w fun af w=>k af w)) (lp (α:=Value) (.int .i64 0) w fun d o D w=>X5 P .len [T.h] T.e [false] [l] w fun ar w=>Q3 P .lss T.e (.tmp 61) (.tmp 63) o ar w fun Y w=>X1 Y (indexAddr P T.h l o w fun am w=>Q2 P T.a am w fun ay w=>Q0 P F.aW [c.1,ay] w fun J w=>Q3 P .neq T.s (.tmp 73) (.const (.int .i64 0)) J (.int .i64 0) w fun a2 w=>X1 a2 (K (.tuple #[(.slice none 0 0),o,J]) w) (Q3 P .add T.e (.tmp 65) (.const (.int .i64 1)) o (.int .i64 1) w fun ao w=>d ao w)) (Q0 P F.az [c.1] w fun W w=>lp (α:=Value) (.int .i64 0) w fun e h D w=>X5 P .len [T.h] T.e [false] [l] w fun O w=>Q3 P .lss T.e (.tmp 79) (.tmp 81) h O w fun ag w=>X1 ag (Q3 P .add T.e (.tmp 86) (.tmp 87) b h w fun ap w=>indexAddr P T.a1 W ap w fun a1 w=>Q2 P T.a0 a1 w fun ak w=>Q3 P .add T.e (.tmp 91) (.tmp 92) b h w fun aa w=>indexAddr P T.a0 ak aa w fun az w=>Q2 P T.p az w fun ai w=>X1 ai (K (.tuple #[(.slice none 0 0),h,(.int .i64 63)]) w) (Q3 P .add T.e (.tmp 83) (.const (.int .i64 1)) h (.int .i64 1) w fun aw w=>e aw w)) (buildSlice P T.z 0 [] w fun al w=>lp (α:=Value×Value) (al,(.int .i64 0)) w fun i a D w=>X5 P .len [T.h] T.e [false] [l] w fun r w=>Q3 P .lss T.e (.tmp 98) (.tmp 100) a.2 r w fun v w=>X1 v (Q3 P .add T.e (.tmp 107) (.tmp 108) b a.2 w fun N w=>Q0 P F.aL [c.1,a.1,b,N] w fun t w=>Q3 P .add T.e (.tmp 102) (.const (.int .i64 1)) a.2 (.int .i64 1) w fun H w=>i (t,H) w) (lp (α:=Value) (.int .i64 0) w fun g n D w=>X5 P .len [T.z] T.e [false] [a.1] w fun u w=>Q3 P .lss T.e (.tmp 111) (.tmp 113) n u w fun M w=>X1 M (indexAddr P T.z a.1 n w fun y w=>Q2 P T.e y w fun B w=>Q0 P F.aQ [c.1,B] w fun p w=>Q3 P .neq T.s (.tmp 123) (.const (.int .i64 0)) p (.int .i64 0) w fun E w=>X1 E (dr w fun Tr Br=>Q6 Tr (fun j=> ∀w,Br w→indexAddr P T.z a.1 n w (dk Tr j w)) fun j=>∀q w,Br w→j q w→ Q2 P T.e q w fun A w=>Q3 P .sub T.e (.tmp 128) (.tmp 129) A b w fun s w=>K (.tuple #[(.slice none 0 0),s,p]) w) (Q3 P .add T.e (.tmp 115) (.const (.int .i64 1)) n (.int .i64 1) w fun C w=>g C w)) (K (.tuple #[c.1,(.int .i64 0),(.int .i64 0)]) w))))))
theorem Tb {a:Value} {w:World} {K:Value→World→Prop} (h:Ny a w K):Q0 P F.br [a] w K:=Q8 Au Tryz.func27 rfl (by decide) (by kernel_rfl) h
def Vc (w:World) (K:Value→World→Prop):Prop:= Q0 P F.av [] w fun o w=>Q0 P F.cF [o] w fun a w=>ext P a 0 w fun e w=>ext P a 1 w fun p w=>ext P a 2 w fun g w=>Q0 P F.av [] w fun h w=>Q0 P F.br [h] w fun d w=>ext P d 0 w fun m w=>ext P d 1 w fun q w=>ext P d 2 w fun i w=>Q3 P .neq T.s (.tmp 20) (.const (.int .i64 0)) g (.int .i64 0) w fun c w=>Q1 c false w (fun w J=>J i w) fun n w=>Q1 c false w (Q3 P .neq T.s (.tmp 23) (.const (.int .i64 0)) n (.int .i64 0)) fun j w=>pick P c (.bool true) j w fun b w=>Q1 b false w (fun w J=>J e w) fun l w=>Q1 b false w (Q3 P .eql T.r (.tmp 27) (.const (.pointer none)) l (.pointer none)) fun k w=>pick P b (.bool true) k w fun f w=>X1 f (K (.tuple #[(.pointer none),(.slice none 0 0)]) w) (K (.tuple #[e,m]) w)
theorem Su {w:World} {K:Value→World→Prop} (h:Vc w K):Q0 P F.aT [] w K:=Q8 (List.replicate 7 none) Tryz.func10 rfl (by decide) (by kernel_rfl) h
def Ic (v:Value) (w:World) (K:Value→World→Prop):Prop:= box P T.f v w fun a w=>W6 P T.f w fun q w=>dr w fun b c=>Q6 b (fun k=> ∀w,c w→fieldAddr P T.f a 1 w (dk b k w)) fun k=>Q6 b (fun f=> ∀w,c w→fieldAddr P T.f a 2 w (dk b f w)) fun f=>Q6 b (fun j=> ∀g w,c w→k g w→Q2 P T.d g w (dk b j w)) fun j=>Q6 b (fun o=> ∀h w,c w→j h w→Q0 P F.b [h] w (dk b o w)) fun o=>Q6 b (fun i=> ∀d w,c w→f d w→Q2 P T.d d w (dk b i w)) fun i=>Q6 b (fun p=> ∀w,c w→fieldAddr P T.f a 1 w (dk b p w)) fun p=>Q6 b (fun n=> ∀e w,c w→i e w→Q0 P F.b [e] w (dk b n w)) fun n=>∀g d h t e r s w,c w→k g w→f d w→j h w→o t w→i e w→p r w→n s w→ Z2 P T.d r t w fun _u w=>fieldAddr P T.f a 2 w fun l w=>Z2 P T.d l s w fun _u w=>Q2 P T.f a w fun m w=>Z2 P T.f q m w fun _u w=>U5 P T.f q w fun u=>K u w
theorem Q3p {a:Value} {w:World} {K:Value→World→Prop} (h:Ic a w K):Q0 P F.bG [a] w K:=Q8 (List.replicate 3 none) Tryz.func28 rfl (by decide) (by kernel_rfl) h
def Jj (a f:Value) (w:World) (K:Value→World→Prop):Prop:= Q0 P F.a5 [a,f] w fun g w=>J7 P .not g w fun h w=>X1 h (K (.tuple #[a,(.bool false)]) w) (X5 P .len [T.c] T.e [false] [a] w fun b w=>X5 P .len [T.c] T.e [false] [f] w fun d w=>Q3 P .sub T.e (.tmp 13) (.tmp 15) b d w fun c w=>E6 P T.c a none (some c) none w fun e w=>K (.tuple #[e,(.bool true)]) w)
theorem Hu {b a:Value} {w:World} {K:Value→World→Prop} (h:Jj b a w K):Q0 P F.bN [b,a] w K:=Q8 (List.replicate 5 none) Tryz.func206 rfl (by decide) (by kernel_rfl) h
def Mj (e c:Value) (w:World) (K:Value→World→Prop):Prop:= Q0 P F.bN [e,c] w fun b w=>ext P b 0 w fun d w=>ext P b 1 w fun a w=>K (.tuple #[d,a]) w
theorem Kq {b a:Value} {w:World} {K:Value→World→Prop} (h:Mj b a w K):Q0 P F.bo [b,a] w K:=Q8 (List.replicate 2 none) Tryz.func176 rfl (by decide) (by kernel_rfl) h
def Q0t (g:Value) (w:World) (K:Value→World→Prop):Prop:= Q0 P F.bo [g,(.string ⟨#[91,93]⟩)] w fun f w=>ext P f 0 w fun h w=>ext P f 1 w fun i w=>J7 P .not i w fun a w=>Q1 a false w (fun w J=>J g w) fun c w=>Q1 a false w (Q0 P F.a1 [c]) fun b w=>Q1 a false w (J7 P .not b) fun e w=>pick P a (.bool true) e w fun d w=>X1 d (K (.string ⟨#[]⟩) w) (K h w)
theorem Q5P {a:Value} {w:World} {K:Value→World→Prop} (h:Q0t a w K):Q0 P F.cB [a] w K:=Q8 (List.replicate 6 none) Tryz.func118 rfl (by decide) (by kernel_rfl) h
def Vv (d c:Value) (w:World) (K:Value→World→Prop):Prop:= box P T.a d w fun a w=>fieldAddr P T.a a 0 w fun e w=>Q2 P T.c e w fun g w=>Q2 P T.c c w fun f w=>Q3 P .eql T.c (.tmp 5) (.tmp 6) g f w fun b w=>K b w
theorem Bq {b a:Value} {w:World} {K:Value→World→Prop} (h:Vv b a w K):Q0 P F.bd [b,a] w K:=Q8 (List.replicate 2 none) Tryz.func119 rfl (by decide) (by kernel_rfl) h
def Nq (f d z:Value) (w:World) (K:Value→World→Prop):Prop:= box P T.c z w fun a w=>Q0 P F.v [f,d] w fun e w=>J7 P .not e w fun b w=>Q1 b false w (fun w J=>J f w) fun g w=>Q1 b false w (Q2 P T.c a) fun k w=>Q1 b false w (Q0 P F.v [g,k]) fun i w=>Q1 b false w (J7 P .not i) fun q w=>pick P b (.bool true) q w fun y w=>X1 y (K (.bool false) w) (Q2 P T.c a w fun r w=>Q3 P .eql T.c (.tmp 19) (.tmp 20) d r w fun h w=>X1 h (K (.bool true) w) (Q0 P F.ac [d] w fun c w=>Q1 c false w (Q2 P T.c a) fun j w=>Q1 c false w (Q0 P F.ac [j]) fun u w=>pick P c (.bool true) u w fun t w=>X1 t (K (.bool false) w) (Q3 P .eql T.c (.tmp 30) (.const (.string ⟨#[110,117,108,108]⟩)) d (.string ⟨#[110,117,108,108]⟩) w fun m w=>X1 m (K (.bool true) w) (Q0 P F.cB [d] w fun o w=>Q3 P .neq T.c (.tmp 34) (.const (.string ⟨#[]⟩)) o (.string ⟨#[]⟩) w fun n w=>X1 n (Q2 P T.c a w fun l w=>Q3 P .eql T.c (.tmp 36) (.const (.string ⟨#[79,98,106,101,99,116]⟩)) l (.string ⟨#[79,98,106,101,99,116]⟩) w fun s w=>K s w) (M5 P (.func F.bd) [] [a] w fun v w=>Q0 P F.t [f,d,v] w fun p w=>K p w)))))
theorem Pr {b a c:Value} {w:World} {K:Value→World→Prop} (h:Nq b a c w K):Q0 P F.a9 [b,a,c] w K:=Q8 (List.replicate 13 none) Tryz.func59 rfl (by decide) (by kernel_rfl) h
def Kx:V2:=[none,none,none,none,none,none,none,none,none,none,some ([7],[6,7,40,41,42,43,44,45,46,47,48,49,50,51]),none,none,none,none,none,none]
def Me (d h g:Value) (w:World) (K:Value→World→Prop):Prop:= Q0 P F.a9 [d,h,g] w fun o w=>X1 o (K g w) (Q0 P F.a9 [d,g,h] w fun s w=>X1 s (K h w) (Q0 P F.v [d,h] w fun y w=>J7 P .not y w fun b w=>Q1 b false w (fun w J=>J d w) fun l w=>Q1 b false w (fun w J=>J g w) fun v w=>Q1 b false w (Q0 P F.v [l,v]) fun u w=>Q1 b false w (J7 P .not u) fun i w=>pick P b (.bool true) i w fun e w=>Q1 e false w (fun w J=>J h w) fun r w=>Q1 e false w (Q0 P F.ac [r]) fun n w=>pick P e (.bool true) n w fun f w=>Q1 f false w (fun w J=>J g w) fun p w=>Q1 f false w (Q0 P F.ac [p]) fun t w=>pick P f (.bool true) t w fun q w=>X1 q (K (.string ⟨#[]⟩) w) (lp (α:=Value) h w fun a c A w=>Q0 P F.k [d,c] w fun j w=>X1 j (Q0 P F.a9 [d,g,c] w fun k w=>X1 k (K c w) (Q0 P F.h [d,c] w fun z w=>Lq P T.a z 1 w fun m w=>a m w)) (K (.string ⟨#[79,98,106,101,99,116]⟩) w))))
theorem Kt {b a c:Value} {w:World} {K:Value→World→Prop} (h:Me b a c w K):Q0 P F.aC [b,a,c] w K:=Q8 Kx Tryz.func29 rfl (by decide) (by kernel_rfl) h
def Q40:V2:=[none,none,none,none,none,none,none,none,none,none,none,some ([49],[7,9,10,11,49,50,51,52,53,54,55,56,57,58,59,60,61,62,63,64,65,66,67,68,69,70,71]),none,none,none,none,none,none,none,none,none,none,some ([75],[12,13,14,75,76,77,78,79,80,81,82,83,84,85,86,87,88,89,90,91,92,93,94,95,96,97,98,99,100,101,102,103,104]),none,none,none,none,none,some ([14],[14,80,81,82,83,84,85,86,87,88,89,90,91,92,93,94,95,96,97]),none,none]
def Aq (a0 a1 a2:Value) (w:World) (K:Value→World→Prop):Prop:= box P T.f a1 w fun j w=>box P T.f a2 w fun i w=>W6 P T.f w fun f w=>fieldAddr P T.f j 0 w fun af w=>Q2 P T.p af w fun bj w=>J7 P .not bj w fun be w=>X1 be (Q2 P T.f i w fun ax w=>Q0 P F.bG [ax] w fun bd w=>Z2 P T.f f bd w fun _u w=>U5 P T.f f w fun g=>K (.tuple #[g,(.int .i64 0)]) w) (fieldAddr P T.f i 0 w fun V w=>Q2 P T.p V w fun bk w=>J7 P .not bk w fun a8 w=>X1 a8 (Q2 P T.f j w fun ap w=>Q0 P F.bG [ap] w fun aw w=>Z2 P T.f f aw w fun _u w=>U5 P T.f f w fun g=>K (.tuple #[g,(.int .i64 0)]) w) (fieldAddr P T.f j 1 w fun ai w=>Q2 P T.d ai w fun am w=>X5 P .len [T.d] T.e [false] [am] w fun N w=>fieldAddr P T.f i 1 w fun W w=>Q2 P T.d W w fun ab w=>X5 P .len [T.d] T.e [false] [ab] w fun ay w=>Q3 P .neq T.e (.tmp 30) (.tmp 33) N ay w fun a w=>Q1 a false w (fieldAddr P T.f j 2) fun R w=>Q1 a false w (Q2 P T.d R) fun aq w=>Q1 a false w (X5 P .len [T.d] T.e [false] [aq]) fun Y w=>Q1 a false w (fieldAddr P T.f i 2) fun Q w=>Q1 a false w (Q2 P T.d Q) fun aj w=>Q1 a false w (X5 P .len [T.d] T.e [false] [aj]) fun bb w=>Q1 a false w (Q3 P .neq T.e (.tmp 38) (.tmp 41) Y bb) fun E w=>pick P a (.bool true) E w fun av w=>X1 av (N3 P T.f [] w fun a9 w=>Z2 P T.f f a9 w fun _u w=>U5 P T.f f w fun g=>K (.tuple #[g,(.int .i64 75)]) w) (N3 P T.f [(0,(.bool true))] w fun ak w=>W6 P T.f w fun k w=>Z2 P T.f k ak w fun _u w=>fieldAddr P T.f j 1 w fun L w=>Q2 P T.d L w fun l w=>X5 P .len [T.d] T.e [false] [l] w fun M w=>lp (α:=Value) (.int .i64 0) w fun c h d_ w=>Q3 P .lss T.e (.tmp 49) (.tmp 48) h M w fun ar w=>X1 ar (indexAddr P T.d l h w fun ao w=>Q2 P T.c ao w fun y w=>fieldAddr P T.f i 1 w fun ah w=>Q2 P T.d ah w fun ad w=>indexAddr P T.d ad h w fun aa w=>Q2 P T.c aa w fun az w=>Q0 P F.aC [a0,y,az] w fun u w=>Q3 P .eql T.c (.tmp 62) (.const (.string ⟨#[]⟩)) u (.string ⟨#[]⟩) w fun ac w=>X1 ac (N3 P T.f [] w fun B w=>Z2 P T.f f B w fun _u w=>U5 P T.f f w fun g=>K (.tuple #[g,(.int .i64 75)]) w) (fieldAddr P T.f k 1 w fun H w=>Q2 P T.d H w fun X w=>buildSlice P T.d 1 [(0,u)] w fun an w=>X5 P .append [T.d,T.d] T.d [false,false] [X,an] w fun a6 w=>fieldAddr P T.f k 1 w fun U w=>Z2 P T.d U a6 w fun _u w=>Q3 P .add T.e (.tmp 49) (.const (.int .i64 1)) h (.int .i64 1) w fun bc w=>c bc w)) (fieldAddr P T.f j 2 w fun ag w=>Q2 P T.d ag w fun r w=>X5 P .len [T.d] T.e [false] [r] w fun bi w=>lp (α:=Value) (.int .i64 0) w fun d e d_ w=>Q3 P .lss T.e (.tmp 75) (.tmp 74) e bi w fun v w=>X1 v (indexAddr P T.d r e w fun bh w=>Q2 P T.c bh w fun p w=>jn (α:=Value) w (fun q w=>Q3 P .neq T.c (.tmp 80) (.const (.string ⟨#[]⟩)) p (.string ⟨#[]⟩) w fun b w=>Q1 b true w (fieldAddr P T.f i 2) fun bf w=>Q1 b true w (Q2 P T.d bf) fun ba w=>Q1 b true w (fun w J=>J e w) fun A w=>Q1 b true w (indexAddr P T.d ba A) fun al w=>Q1 b true w (Q2 P T.c al) fun Z w=>Q1 b true w (Q3 P .neq T.c (.tmp 87) (.const (.string ⟨#[]⟩)) Z (.string ⟨#[]⟩)) fun a7 w=>pick P b a7 (.bool false) w fun bg w=>X1 bg (fieldAddr P T.f i 2 w fun a3 w=>Q2 P T.d a3 w fun D w=>indexAddr P T.d D e w fun O w=>Q2 P T.c O w fun ae w=>Q0 P F.aC [a0,p,ae] w fun a4 w=>q a4 w) (q (.string ⟨#[]⟩) w)) fun a5 d_ w=>fieldAddr P T.f k 2 w fun z w=>Q2 P T.d z w fun C w=>buildSlice P T.d 1 [(0,a5)] w fun n w=>X5 P .append [T.d,T.d] T.d [false,false] [C,n] w fun s w=>fieldAddr P T.f k 2 w fun t w=>Z2 P T.d t s w fun _u w=>Q3 P .add T.e (.tmp 75) (.const (.int .i64 1)) e (.int .i64 1) w fun o w=>d o w) (Q2 P T.f k w fun m w=>Z2 P T.f f m w fun _u w=>U5 P T.f f w fun g=>K (.tuple #[g,(.int .i64 0)]) w)))))
theorem Q4k {b a c:Value} {w:World} {K:Value→World→Prop} (h:Aq b a c w K):Q0 P F.cm [b,a,c] w K:=Q8 Q40 Tryz.func13 rfl (by decide) (by kernel_rfl) h
def Ky:V2:=[none,none,none,none,none,none,some ([5],[4,5,11,12,13,14,15,16,17,18,19,20,21,22,23,24,25]),none,none,none,none,none,none]
def Mq (n s:Value) (w:World) (K:Value→World→Prop):Prop:= X5 P .len [T.d] T.e [false] [n] w fun u w=>X5 P .len [T.d] T.e [false] [s] w fun t w=>Q3 P .neq T.e (.tmp 7) (.tmp 9) u t w fun m w=>X1 m (K (.bool false) w) (lp (α:=Value) (.int .i64 0) w fun c l v w=>X5 P .len [T.d] T.e [false] [n] w fun p w=>Q3 P .lss T.e (.tmp 11) (.tmp 13) l p w fun q w=>X1 q (dr w fun f j=>Q6 f (fun a=> ∀w,j w→indexAddr P T.d n l w (dk f a w)) fun a=>Q6 f (fun e=> ∀w,j w→indexAddr P T.d s l w (dk f e w)) fun e=>Q6 f (fun h=> ∀b w,j w→a b w→Q2 P T.c b w (dk f h w)) fun h=>Q6 f (fun g=> ∀d w,j w→e d w→Q2 P T.c d w (dk f g w)) fun g=>∀b d k i w,j w→a b w→e d w→h k w→g i w→ Q3 P .neq T.c (.tmp 20) (.tmp 24) k i w fun o w=>X1 o (K (.bool false) w) (Q3 P .add T.e (.tmp 15) (.const (.int .i64 1)) l (.int .i64 1) w fun r w=>c r w)) (K (.bool true) w))
theorem Kj {b a:Value} {w:World} {K:Value→World→Prop} (h:Mq b a w K):Q0 P F.aD [b,a] w K:=Q8 Ky Tryz.func31 rfl (by decide) (by kernel_rfl) h
def Mo (p t:Value) (w:World) (K:Value→World→Prop):Prop:= box P T.f p w fun b w=>box P T.f t w fun a w=>fieldAddr P T.f b 0 w fun u w=>Q2 P T.p u w fun q w=>fieldAddr P T.f a 0 w fun r w=>Q2 P T.p r w fun s w=>Q3 P .eql T.p (.tmp 6) (.tmp 8) q s w fun d w=>Q1 d true w (fieldAddr P T.f b 1) fun e w=>Q1 d true w (Q2 P T.d e) fun k w=>Q1 d true w (fieldAddr P T.f a 1) fun f w=>Q1 d true w (Q2 P T.d f) fun j w=>Q1 d true w (Q0 P F.aD [k,j]) fun h w=>pick P d h (.bool false) w fun c w=>Q1 c true w (fieldAddr P T.f b 2) fun n w=>Q1 c true w (Q2 P T.d n) fun i w=>Q1 c true w (fieldAddr P T.f a 2) fun m w=>Q1 c true w (Q2 P T.d m) fun g w=>Q1 c true w (Q0 P F.aD [i,g]) fun l w=>pick P c l (.bool false) w fun o w=>K o w
theorem Kk {b a:Value} {w:World} {K:Value→World→Prop} (h:Mo b a w K):Q0 P F.aj [b,a] w K:=Q8 (List.replicate 2 none) Tryz.func15 rfl (by decide) (by kernel_rfl) h
def Wx:V2:=[none,none,none,none,none,none,some ([13],[4,5,13,14,15,16,17,18,19,20,21,22,23,24,25]),none,none,none,none,none,none,none]
def I8 (n s:Value) (w:World) (K:Value→World→Prop):Prop:= X5 P .len [T.d] T.e [false] [n] w fun u w=>X5 P .len [T.d] T.e [false] [s] w fun t w=>Q3 P .neq T.e (.tmp 7) (.tmp 9) u t w fun m w=>X1 m (K (.bool false) w) (X5 P .len [T.d] T.e [false] [n] w fun q w=>lp (α:=Value) (.int .i64 0) w fun d l v w=>Q3 P .lss T.e (.tmp 13) (.tmp 12) l q w fun p w=>X1 p (dr w fun f j=>Q6 f (fun a=> ∀w,j w→indexAddr P T.d n l w (dk f a w)) fun a=>Q6 f (fun e=> ∀w,j w→indexAddr P T.d s l w (dk f e w)) fun e=>Q6 f (fun g=> ∀c w,j w→a c w→Q2 P T.c c w (dk f g w)) fun g=>Q6 f (fun h=> ∀b w,j w→e b w→Q2 P T.c b w (dk f h w)) fun h=>∀c b i k w,j w→a c w→e b w→g i w→h k w→ Q3 P .neq T.c (.tmp 19) (.tmp 23) i k w fun r w=>X1 r (K (.bool false) w) (Q3 P .add T.e (.tmp 13) (.const (.int .i64 1)) l (.int .i64 1) w fun o w=>d o w)) (K (.bool true) w))
theorem Lk {b a:Value} {w:World} {K:Value→World→Prop} (h:I8 b a w K):Q0 P F.a0 [b,a] w K:=Q8 Wx Tryz.func32 rfl (by decide) (by kernel_rfl) h
def Q0s (p t:Value) (w:World) (K:Value→World→Prop):Prop:= box P T.f p w fun b w=>box P T.f t w fun a w=>fieldAddr P T.f b 0 w fun u w=>Q2 P T.p u w fun q w=>fieldAddr P T.f a 0 w fun r w=>Q2 P T.p r w fun s w=>Q3 P .eql T.p (.tmp 6) (.tmp 8) q s w fun d w=>Q1 d true w (fieldAddr P T.f b 1) fun e w=>Q1 d true w (Q2 P T.d e) fun k w=>Q1 d true w (fieldAddr P T.f a 1) fun f w=>Q1 d true w (Q2 P T.d f) fun j w=>Q1 d true w (Q0 P F.a0 [k,j]) fun h w=>pick P d h (.bool false) w fun c w=>Q1 c true w (fieldAddr P T.f b 2) fun n w=>Q1 c true w (Q2 P T.d n) fun i w=>Q1 c true w (fieldAddr P T.f a 2) fun m w=>Q1 c true w (Q2 P T.d m) fun g w=>Q1 c true w (Q0 P F.a0 [i,g]) fun l w=>pick P c l (.bool false) w fun o w=>K o w
theorem Q5C {b a:Value} {w:World} {K:Value→World→Prop} (h:Q0s b a w K):Q0 P F.cA [b,a] w K:=Q8 (List.replicate 2 none) Tryz.func16 rfl (by decide) (by kernel_rfl) h
def On (e l:Value) (w:World) (K:Value→World→Prop):Prop:= nilCheck P e w fun n w=>fieldAddr P T.t n 4 w fun m w=>Q2 P T.s m w fun j w=>Q3 P .eql T.s (.tmp 7) (.const (.int .i64 0)) j (.int .i64 0) w fun k w=>X1 k (nilCheck P e w fun i w=>fieldAddr P T.t i 3 w fun c w=>fieldAddr P T.f c 1 w fun b w=>Q2 P T.d b w fun a w=>X5 P .append [T.d,T.d] T.d [false,false] [a,l] w fun d w=>nilCheck P e w fun h w=>fieldAddr P T.t h 3 w fun f w=>fieldAddr P T.f f 1 w fun g w=>Z2 P T.d g d w fun _u w=>K (.tuple #[]) w) (K (.tuple #[]) w)
theorem Q0p {b a:Value} {w:World} {K:Value→World→Prop} (h:On b a w K):Q0 P F.bE [b,a] w K:=Q8 (List.replicate 1 none) Tryz.func123 rfl (by decide) (by kernel_rfl) h
def Q0x (c:Value) (w:World) (K:Value→World→Prop):Prop:= box P T.c c w fun a w=>M5 P (.func F.cK) [] [a] w fun b w=>K b w
theorem Q5x {a:Value} {w:World} {K:Value→World→Prop} (h:Q0x a w K):Q0 P F.aO [a] w K:=Q8 (List.replicate 2 none) Tryz.func64 rfl (by decide) (by kernel_rfl) h
def Kw:V2:=[none,some ([],[7,8,9,10,11,12,13,14,15,16,17,18,19]),none,none]
def Lv (c q p:Value) (w:World) (K:Value→World→Prop):Prop:= jn (α:=Unit) w (fun o w=>J7 P .not q w fun a w=>Q1 a true w (fun w J=>J c w) fun b w=>Q1 a true w (nilCheck P b) fun d w=>Q1 a true w (fieldAddr P T.t d 4) fun j w=>Q1 a true w (Q2 P T.s j) fun e w=>Q1 a true w (Q3 P .eql T.s (.tmp 13) (.const (.int .i64 0)) e (.int .i64 0)) fun i w=>pick P a i (.bool false) w fun g w=>X1 g (nilCheck P c w fun m w=>fieldAddr P T.t m 4 w fun h w=>Z2 P T.s h p w fun _u w=>o () w) (o () w)) fun r s w=>nilCheck P c w fun f w=>fieldAddr P T.t f 4 w fun l w=>Q2 P T.s l w fun n w=>Q3 P .eql T.s (.tmp 23) (.const (.int .i64 0)) n (.int .i64 0) w fun k w=>K k w
theorem Iu {b a c:Value} {w:World} {K:Value→World→Prop} (h:Lv b a c w K):Q0 P F.ak [b,a,c] w K:=Q8 Kw Tryz.func37 rfl (by decide) (by kernel_rfl) h
end Go.Proofs.YtfppjenblllfaaaGreatDoor

set_option maxRecDepth 100000
namespace Go.Proofs.YtfppjenblllfaaaGreatDoor
open Go.Emb
def Oc (b c:Value) (w:World) (K:Value→World→Prop):Prop:= nilCheck P b w fun J w=>fieldAddr P T.t J 3 w fun e w=>fieldAddr P T.f e 1 w fun g w=>Q2 P T.d g w fun o w=>X5 P .len [T.d] T.e [false] [o] w fun h w=>Q3 P .geq T.e (.tmp 13) (.tmp 14) h c w fun j w=>Q0 P F.ak [b,j,(.int .i64 72)] w fun A w=>J7 P .not A w fun D w=>X1 D (Na P T.d c c w fun l w=>K l w) (nilCheck P b w fun i w=>fieldAddr P T.t i 3 w fun q w=>fieldAddr P T.f q 1 w fun E w=>Q2 P T.d E w fun p w=>X5 P .len [T.d] T.e [false] [p] w fun f w=>Q3 P .sub T.e (.tmp 25) (.tmp 26) f c w fun a w=>nilCheck P b w fun d w=>fieldAddr P T.t d 3 w fun m w=>fieldAddr P T.f m 1 w fun r w=>Q2 P T.d r w fun v w=>E6 P T.d v (some a) none none w fun y w=>Q0 P F.b [y] w fun s w=>nilCheck P b w fun u w=>fieldAddr P T.t u 3 w fun n w=>fieldAddr P T.f n 1 w fun C w=>Q2 P T.d C w fun z w=>E6 P T.d z none (some a) (some a) w fun t w=>nilCheck P b w fun H w=>fieldAddr P T.t H 3 w fun k w=>fieldAddr P T.f k 1 w fun B w=>Z2 P T.d B t w fun _u w=>K s w)
theorem Ab {b a:Value} {w:World} {K:Value→World→Prop} (h:Oc b a w K):Q0 P F.bt [b,a] w K:=Q8 (List.replicate 8 none) Tryz.func70 rfl (by decide) (by kernel_rfl) h
def Mt (c f h:Value) (w:World) (K:Value→World→Prop):Prop:= nilCheck P c w fun e w=>fieldAddr P T.t e 0 w fun g w=>Q2 P T.r g w fun b w=>Q0 P F.a9 [b,f,h] w fun a w=>Q0 P F.ak [c,a,(.int .i64 73)] w fun d w=>K (.tuple #[]) w
theorem Ka {b a c:Value} {w:World} {K:Value→World→Prop} (h:Mt b a c w K):Q0 P F.bm [b,a,c] w K:=Q8 [] Tryz.func132 rfl (by decide) (by kernel_rfl) h
def Q0o:V2:=[none,none,none,some ([7],[7,15,16,17,18,19,20,21,22,23,24,25,26,27,28]),none,none,none,none]
def Oo (o y v:Value) (w:World) (K:Value→World→Prop):Prop:= X5 P .len [T.d] T.e [false] [v] w fun n w=>Q0 P F.bt [o,n] w fun i w=>X5 P .len [T.d] T.e [false] [i] w fun p w=>Q3 P .sub T.e (.tmp 13) (.const (.int .i64 1)) p (.int .i64 1) w fun s w=>lp (α:=Value) s w fun b m B w=>Q3 P .geq T.e (.tmp 15) (.const (.int .i64 0)) m (.int .i64 0) w fun t w=>X1 t (dr w fun f j=>Q6 f (fun e=> ∀w,j w→indexAddr P T.d i m w (dk f e w)) fun e=>Q6 f (fun d=> ∀w,j w→indexAddr P T.d v m w (dk f d w)) fun d=>Q6 f (fun h=> ∀c w,j w→e c w→Q2 P T.c c w (dk f h w)) fun h=>Q6 f (fun g=> ∀a w,j w→d a w→Q2 P T.c a w (dk f g w)) fun g=>∀c a l k w,j w→e c w→d a w→h l w→g k w→ Q0 P F.bm [o,l,k] w fun z w=>Q3 P .sub T.e (.tmp 17) (.const (.int .i64 1)) m (.int .i64 1) w fun u w=>b u w) (Q3 P .neq T.c (.tmp 29) (.const (.string ⟨#[]⟩)) y (.string ⟨#[]⟩) w fun r w=>X1 r (buildSlice P T.d 1 [(0,y)] w fun q w=>Q0 P F.bE [o,q] w fun A w=>K (.tuple #[]) w) (K (.tuple #[]) w))
theorem Q0i {b a c:Value} {w:World} {K:Value→World→Prop} (h:Oo b a c w K):Q0 P F.a4 [b,a,c] w K:=Q8 Q0o Tryz.func126 rfl (by decide) (by kernel_rfl) h
def Cf (b a d:Value) (w:World) (K:Value→World→Prop):Prop:= Q2 P T.c a w fun e w=>Q2 P T.d d w fun c w=>Q0 P F.a4 [b,e,c] w fun f w=>K (.tuple #[]) w
theorem Q2h {b a c:Value} {w:World} {K:Value→World→Prop} (h:Cf b a c w K):Q0 P F.c4 [b,a,c] w K:=Q8 [] Tryz.func125 rfl (by decide) (by kernel_rfl) h
def Al (d c:Value) (w:World) (K:Value→World→Prop):Prop:= box P T.c d w fun b w=>box P T.d c w fun a w=>M5 P (.func F.c4) [] [b,a] w fun e w=>K e w
theorem Q43 {b a:Value} {w:World} {K:Value→World→Prop} (h:Al b a w K):Q0 P F.a2 [b,a] w K:=Q8 (List.replicate 2 none) Tryz.func71 rfl (by decide) (by kernel_rfl) h
def Vd (b:Value) (w:World) (K:Value→World→Prop):Prop:= buildSlice P T.d 2 [(0,(.string ⟨#[105,110,116]⟩)),(1,(.string ⟨#[105,110,116]⟩))] w fun a w=>Q0 P F.a4 [b,(.string ⟨#[98,111,111,108]⟩),a] w fun c w=>K (.tuple #[]) w
theorem Ck {a:Value} {w:World} {K:Value→World→Prop} (h:Vd a w K):Q0 P F.ax [a] w K:=Q8 [] Tryz.func72 rfl (by decide) (by kernel_rfl) h
def Ws (b:Value) (w:World) (K:Value→World→Prop):Prop:= buildSlice P T.d 2 [(0,(.string ⟨#[105,110,116]⟩)),(1,(.string ⟨#[105,110,116]⟩))] w fun a w=>Q0 P F.a4 [b,(.string ⟨#[105,110,116]⟩),a] w fun c w=>K (.tuple #[]) w
theorem Gb {a:Value} {w:World} {K:Value→World→Prop} (h:Ws a w K):Q0 P F.b8 [a] w K:=Q8 [] Tryz.func86 rfl (by decide) (by kernel_rfl) h
def Q4N:V2:=[none,none,none,none,some ([26],[3,26,27,28,29,30,31]),none,none,none,none,none]
def Pp (w:World) (K:Value→World→Prop):Prop:= Rr P T.j none w fun a w=>Q0 P F.aO [(.string ⟨#[105,110,116]⟩)] w fun B w=>mapUpdate P T.j a (.string ⟨#[105,110,116]⟩) B w fun _u w=>Q0 P F.aO [(.string ⟨#[98,111,111,108]⟩)] w fun y w=>mapUpdate P T.j a (.string ⟨#[116,114,117,101]⟩) y w fun _u w=>Q0 P F.aO [(.string ⟨#[98,111,111,108]⟩)] w fun z w=>mapUpdate P T.j a (.string ⟨#[102,97,108,115,101]⟩) z w fun _u w=>Q0 P F.aO [(.string ⟨#[116,101,120,116]⟩)] w fun A w=>mapUpdate P T.j a (.string ⟨#[119,111,114,100]⟩) A w fun _u w=>Q0 P F.aO [(.string ⟨#[110,117,108,108]⟩)] w fun v w=>mapUpdate P T.j a (.string ⟨#[110,117,108,108]⟩) v w fun _u w=>mapUpdate P T.j a (.string ⟨#[108,111,97,100]⟩) (.func (.func F.cc) #[] #[]) w fun _u w=>mapUpdate P T.j a (.string ⟨#[115,116,111,114,101]⟩) (.func (.func F.c5) #[] #[]) w fun _u w=>mapUpdate P T.j a (.string ⟨#[100,117,112]⟩) (.func (.func F.cq) #[] #[]) w fun _u w=>mapUpdate P T.j a (.string ⟨#[115,119,97,112]⟩) (.func (.func F.cd) #[] #[]) w fun _u w=>mapUpdate P T.j a (.string ⟨#[112,111,112]⟩) (.func (.func F.cG) #[] #[]) w fun _u w=>buildSlice P T.d 1 [(0,(.string ⟨#[105,110,116]⟩))] w fun c w=>Q0 P F.a2 [(.string ⟨#[105,110,116]⟩),c] w fun e w=>mapUpdate P T.j a (.string ⟨#[110,101,103]⟩) e w fun _u w=>buildSlice P T.d 1 [(0,(.string ⟨#[98,111,111,108]⟩))] w fun k w=>Q0 P F.a2 [(.string ⟨#[98,111,111,108]⟩),k] w fun f w=>mapUpdate P T.j a (.string ⟨#[110,111,116]⟩) f w fun _u w=>buildSlice P T.d 2 [(0,(.string ⟨#[98,111,111,108]⟩)),(1,(.string ⟨#[98,111,111,108]⟩))] w fun j w=>Q0 P F.a2 [(.string ⟨#[98,111,111,108]⟩),j] w fun h w=>mapUpdate P T.j a (.string ⟨#[98,111,116,104]⟩) h w fun _u w=>buildSlice P T.d 2 [(0,(.string ⟨#[116,101,120,116]⟩)),(1,(.string ⟨#[116,101,120,116]⟩))] w fun o w=>Q0 P F.a2 [(.string ⟨#[116,101,120,116]⟩),o] w fun t w=>mapUpdate P T.j a (.string ⟨#[106,111,105,110]⟩) t w fun _u w=>mapUpdate P T.j a (.string ⟨#[108,101,115,115]⟩) (.func (.func F.ax) #[] #[]) w fun _u w=>mapUpdate P T.j a (.string ⟨#[115,97,109,101]⟩) (.func (.func F.ax) #[] #[]) w fun _u w=>mapUpdate P T.j a (.string ⟨#[115,105,122,101]⟩) (.func (.func F.ce) #[] #[]) w fun _u w=>mapUpdate P T.j a (.string ⟨#[106,117,109,112]⟩) (.func (.func F.cH) #[] #[]) w fun _u w=>buildSlice P T.d 1 [(0,(.string ⟨#[98,111,111,108]⟩))] w fun q w=>Q0 P F.a2 [(.string ⟨#[]⟩),q] w fun i w=>mapUpdate P T.j a (.string ⟨#[98,114,97,110,99,104]⟩) i w fun _u w=>mapUpdate P T.j a (.string ⟨#[110,101,119]⟩) (.func (.func F.c2) #[] #[]) w fun _u w=>mapUpdate P T.j a (.string ⟨#[103,101,116]⟩) (.func (.func F.cr) #[] #[]) w fun _u w=>mapUpdate P T.j a (.string ⟨#[112,117,116]⟩) (.func (.func F.cf) #[] #[]) w fun _u w=>mapUpdate P T.j a (.string ⟨#[99,97,108,108]⟩) (.func (.func F.cg) #[] #[]) w fun _u w=>mapUpdate P T.j a (.string ⟨#[97,114,114,97,121]⟩) (.func (.func F.c6) #[] #[]) w fun _u w=>mapUpdate P T.j a (.string ⟨#[97,116]⟩) (.func (.func F.cy) #[] #[]) w fun _u w=>mapUpdate P T.j a (.string ⟨#[115,101,116]⟩) (.func (.func F.cs) #[] #[]) w fun _u w=>mapUpdate P T.j a (.string ⟨#[105,115]⟩) (.func (.func F.cz) #[] #[]) w fun _u w=>mapUpdate P T.j a (.string ⟨#[99,97,115,116]⟩) (.func (.func F.ch) #[] #[]) w fun _u w=>mapUpdate P T.j a (.string ⟨#[114,101,116,117,114,110]⟩) (.func (.func F.ci) #[] #[]) w fun _u w=>buildSlice P T.d 1 [(0,(.string ⟨#[70,97,117,108,116]⟩))] w fun p w=>Q0 P F.a2 [(.string ⟨#[]⟩),p] w fun g w=>mapUpdate P T.j a (.string ⟨#[116,104,114,111,119]⟩) g w fun _u w=>buildSlice P T.d 1 [(0,(.string ⟨#[105,110,116]⟩))] w fun l w=>Q0 P F.a2 [(.string ⟨#[]⟩),l] w fun u w=>mapUpdate P T.j a (.string ⟨#[111,117,116]⟩) u w fun _u w=>mapUpdate P T.j a (.string ⟨#[101,113,117,97,108]⟩) (.func (.func F.c7) #[] #[]) w fun _u w=>N3 P T.ah [(0,(.string ⟨#[97,100,100]⟩)),(1,(.string ⟨#[115,117,98]⟩)),(2,(.string ⟨#[109,117,108]⟩)),(3,(.string ⟨#[100,105,118]⟩)),(4,(.string ⟨#[114,101,109]⟩)),(5,(.string ⟨#[97,110,100]⟩)),(6,(.string ⟨#[111,114]⟩)),(7,(.string ⟨#[120,111,114]⟩)),(8,(.string ⟨#[115,104,108]⟩)),(9,(.string ⟨#[115,104,114]⟩))] w fun d w=>lp (α:=Value) (.int .i64 0) w fun b n C w=>Q3 P .lss T.e (.tmp 26) (.const (.int .i64 10)) n (.int .i64 10) w fun s w=>X1 s (E2 P T.ah d n w fun r w=>mapUpdate P T.j a r (.func (.func F.b8) #[] #[]) w fun _u w=>Q3 P .add T.e (.tmp 26) (.const (.int .i64 1)) n (.int .i64 1) w fun m w=>b m w) (K a w)
theorem Q4Y {w:World} {K:Value→World→Prop} (h:Pp w K):Q0 P F.co [] w K:=Q8 Q4N Tryz.func36 rfl (by decide) (by kernel_rfl) h
def Q2L (a0 a1 a2 a3:Value) (w:World) (K:Value→World→Prop):Prop:= box P T.b a1 w fun Q w=>box P T.m a2 w fun i w=>box P T.f a3 w fun h w=>W6 P T.f w fun X w=>drR w fun a b=>Q6 a (fun m=> ∀c,Ap c→ ∀w,b w→fieldAddr P T.f h 1 w (dk a m w)) fun m=>Q6 a (fun k=> ∀c,Ap c→ ∀w,b w→fieldAddr P T.f h 2 w (dk a k w)) fun k=>Q6 a (fun O=> ∀c,Ap c→ ∀w,b w→Q2 P T.b Q w (dk a O w)) fun O=>Q6 a (fun V=> ∀c,Ap c→ ∀w,b w→Q2 P T.m i w (dk a V w)) fun V=>Q6 a (fun l=> ∀B c,Ap c→ ∀w,b w→m B w→Q2 P T.d B w (dk a l w)) fun l=>Q26 a (fun o=> ∀J c,Ap c→ ∀w,b w→l J w→Q0 P F.b [J] w (dkR a o w)) fun o=>Q6 a (fun r=> ∀u c,Ap c→ ∀w,b w→k u w→Q2 P T.d u w (dk a r w)) fun r=>Q26 a (fun v=> ∀C c,Ap c→ ∀w,b w→r C w→Q0 P F.b [C] w (dkR a v w)) fun v=>Q6 a (fun W=> ∀D q c,Ap c→ ∀w,b w→o (c 6) D w→v (c 8) q w→N3 P T.f [(0,(.bool true)),(1,D),(2,q)] w (dk a W w)) fun W=>∀B u ab Z J D C q ac c,Ap c→ ∀w,b w→m B w→k u w→O ab w→V Z w→l J w→o (c 6) D w→r C w→v (c 8) q w→W ac w→ N3 P T.t [(0,a0),(1,ab),(2,Z),(3,ac)] w fun ag w=>box P T.t ag w fun f w=>dr w fun a b=>Q6 a (fun j=> ∀w,b w→fieldAddr P T.m i 0 w (dk a j w)) fun j=>Q6 a (fun z=> ∀w,b w→Q0 P F.co [] w (dk a z w)) fun z=>Q6 a (fun p=> ∀H w,b w→j H w→Q2 P T.c H w (dk a p w)) fun p=>Q6 a (fun g=> ∀s E w,b w→z s w→p E w→lookup P T.j s E true w (dk a g w)) fun g=>Q6 a (fun U=> ∀d w,b w→g d w→ext P d 0 w (dk a U w)) fun U=>Q6 a (fun R=> ∀d w,b w→g d w→ext P d 1 w (dk a R w)) fun R=>∀H s E d aa ad w,b w→j H w→z s w→p E w→g d w→U aa w→R ad w→ J7 P .not ad w fun al w=>X1 al (N3 P T.f [] w fun av w=>Z2 P T.f X av w fun _u w=>U5 P T.f X w fun Y=>K (.tuple #[Y,(.int .i64 76)]) w) (Y9 P aa [f] w fun a8 w=>nilCheck P f w fun af w=>fieldAddr P T.t af 3 w fun aw w=>fieldAddr P T.f aw 1 w fun ai w=>Q2 P T.d ai w fun ak w=>X5 P .len [T.d] T.e [false] [ak] w fun ap w=>Q3 P .leq T.e (.tmp 44) (.const (.int .i64 24)) ap (.int .i64 24) w fun ax w=>Q0 P F.ak [f,ax,(.int .i64 72)] w fun a4 w=>nilCheck P f w fun am w=>fieldAddr P T.t am 4 w fun ao w=>Q2 P T.s ao w fun aj w=>Q3 P .neq T.s (.tmp 50) (.const (.int .i64 0)) aj (.int .i64 0) w fun ar w=>X1 ar (dr w fun a b=>Q6 a (fun t=> ∀w,b w→nilCheck P f w (dk a t w)) fun t=>Q6 a (fun n=> ∀y w,b w→t y w→fieldAddr P T.t y 4 w (dk a n w)) fun n=>Q6 a (fun A=> ∀w,b w→N3 P T.f [] w (dk a A w)) fun A=>Q6 a (fun N=> ∀L w,b w→n L w→Q2 P T.s L w (dk a N w)) fun N=>Q1c a (fun M=> ∀e w,b w→A e w→Z2 P T.f X e w (dk a (M [e]) w)) fun M=>∀y L e ae u5 w,b w→t y w→n L w→A e w→N ae w→M [e] u5 w→ U5 P T.f X w fun Y=>K (.tuple #[Y,ae]) w) (nilCheck P f w fun ah w=>fieldAddr P T.t ah 3 w fun aq w=>Q2 P T.f aq w fun an w=>Z2 P T.f X an w fun _u w=>U5 P T.f X w fun Y=>K (.tuple #[Y,(.int .i64 0)]) w))
theorem Q7W {b a d c:Value} {w:World} {K:Value→World→Prop} (h:Q2L b a d c w K):Q0 P F.cM [b,a,d,c] w K:=Q8 (List.replicate 12 none) Tryz.func19 rfl (by decide) (by kernel_rfl) h
def Lo (w:World) (K:Value→World→Prop):Prop:= Q0 P F.aT [] w fun t8 w=>ext P t8 0 w fun l w=>ext P t8 1 w fun k w=>Q3 P .eql T.r (.tmp 11) (.const (.pointer none)) l (.pointer none) w fun e w=>Q1 e false w (fun w J=>J k w) fun z w=>Q1 e false w (X5 P .len [T.h] T.e [false] [z]) fun s w=>Q1 e false w (Q3 P .eql T.e (.tmp 15) (.const (.int .i64 0)) s (.int .i64 0)) fun Q w=>pick P e (.bool true) Q w fun X w=>X1 X (K (.bool false) w) (N3 P T.b [] w fun R w=>N3 P T.m [(0,(.string ⟨#[97,100,100]⟩))] w fun r w=>buildSlice P T.d 2 [(0,(.string ⟨#[105,110,116]⟩)),(1,(.string ⟨#[105,110,116]⟩))] w fun B w=>N3 P T.f [(0,(.bool true)),(1,B)] w fun m w=>Q0 P F.cM [l,R,r,m] w fun i w=>ext P i 0 w fun o w=>ext P i 1 w fun t w=>W6 P T.f w fun a w=>Z2 P T.f a o w fun _u w=>buildSlice P T.d 1 [(0,(.string ⟨#[110,117,108,108]⟩))] w fun j w=>N3 P T.f [(0,(.bool true)),(1,j)] w fun y w=>buildSlice P T.d 1 [(0,(.string ⟨#[116,101,120,116,91,93]⟩))] w fun C w=>N3 P T.f [(0,(.bool true)),(1,C)] w fun H w=>Q0 P F.cm [l,y,H] w fun h w=>ext P h 0 w fun N w=>ext P h 1 w fun D w=>W6 P T.f w fun c w=>Z2 P T.f c N w fun _u w=>Q2 P T.f a w fun A w=>buildSlice P T.d 1 [(0,(.string ⟨#[105,110,116]⟩))] w fun U w=>N3 P T.f [(0,(.bool true)),(1,U)] w fun E w=>Q0 P F.aj [A,E] w fun g w=>Q1 g true w (fun w J=>J t w) fun O w=>Q1 g true w (Q3 P .eql T.s (.tmp 41) (.const (.int .i64 0)) O (.int .i64 0)) fun q w=>pick P g q (.bool false) w fun b w=>Q1 b true w (Q2 P T.f c) fun Z w=>Q1 b true w (buildSlice P T.d 1 [(0,(.string ⟨#[116,101,120,116,91,93]⟩))]) fun u w=>Q1 b true w (N3 P T.f [(0,(.bool true)),(1,u)]) fun V w=>Q1 b true w (Q0 P F.aj [Z,V]) fun v w=>pick P b v (.bool false) w fun f w=>Q1 f true w (fun w J=>J D w) fun L w=>Q1 f true w (Q3 P .eql T.s (.tmp 51) (.const (.int .i64 0)) L (.int .i64 0)) fun n w=>pick P f n (.bool false) w fun d w=>Q1 d true w (Q2 P T.f a) fun Y w=>Q1 d true w (Q2 P T.f a) fun W w=>Q1 d true w (Q0 P F.cA [Y,W]) fun M w=>pick P d M (.bool false) w fun p w=>K p w)
theorem Ft {w:World} {K:Value→World→Prop} (h:Lo w K):Q0 P F.ab [] w K:=Q8 (List.replicate 8 none) Tryz.func11 rfl (by decide) (by kernel_rfl) h
end Go.Proofs.YtfppjenblllfaaaGreatDoor

set_option maxRecDepth 100000
namespace Go.Proofs.YtfppjenblllfaaaGreatDoor
open Go.Emb
def Q4q:V2:=[none,none,none,some ([5],[5,11,12,13,14,15,16,17,18,19]),none,none,none]
def Px (v A:Value) (w:World) (K:Value→World→Prop):Prop:= box P T.b A w fun a w=>W6 P T.f w fun s w=>buildSlice P T.d 1 [(0,v)] w fun y w=>fieldAddr P T.b a 1 w fun z w=>Q2 P T.d z w fun u w=>X5 P .append [T.d,T.d] T.d [false,false] [y,u] w fun d w=>lp (α:=Value) d w fun b c B w=>X5 P .len [T.d] T.e [false] [c] w fun l w=>fieldAddr P T.b a 4 w fun f w=>Q2 P T.e f w fun k w=>X5 P .min [T.e,T.e] T.e [false,true] [k,(.int .i64 1000)] w fun h w=>Q3 P .lss T.e (.tmp 12) (.tmp 15) l h w fun o w=>X1 o (buildSlice P T.d 1 [(0,(.string ⟨#[]⟩))] w fun p w=>X5 P .append [T.d,T.d] T.d [false,false] [c,p] w fun j w=>b j w) (fieldAddr P T.b a 4 w fun g w=>Q2 P T.e g w fun m w=>X5 P .len [T.d] T.e [false] [c] w fun n w=>X5 P .min [T.e,T.e] T.e [false,false] [m,n] w fun e w=>X5 P .max [T.e,T.e] T.e [false,true] [e,(.int .i64 0)] w fun i w=>E6 P T.d c none (some i) none w fun r w=>N3 P T.f [(0,(.bool true)),(2,r)] w fun q w=>Z2 P T.f s q w fun _u w=>U5 P T.f s w fun t=>K t w)
theorem Q4p {b a:Value} {w:World} {K:Value→World→Prop} (h:Px b a w K):Q0 P F.cn [b,a] w K:=Q8 Q4q Tryz.func21 rfl (by decide) (by kernel_rfl) h
def Bo:V2:=[none,none,none,none,some ([6],[6,7,9,10,11,12,13,14,15,16,17,18,19,20,21,22,23,24,25,26,27,28,29,30,31,32,33,34,35,36,37,38]),none,none,none,none,some ([7],[7,19,20,21,22,23,24,25,26,27,28,29,30,31,32]),none,none,none]
def Vo (L Q:Value) (w:World) (K:Value→World→Prop):Prop:= box P T.b Q w fun b w=>W6 P T.f w fun E w=>N3 P T.f [(0,(.bool true))] w fun M w=>W6 P T.f w fun a w=>Z2 P T.f a M w fun _u w=>lp (α:=Value) (.int .i64 0) w fun c e O w=>fieldAddr P T.b b 4 w fun f w=>Q2 P T.e f w fun h w=>Q3 P .lss T.e (.tmp 9) (.tmp 11) e h w fun d w=>Q1 d true w (fun w J=>J e w) fun n w=>Q1 d true w (Q3 P .lss T.e (.tmp 14) (.const (.int .i64 1000)) n (.int .i64 1000)) fun i w=>pick P d i (.bool false) w fun u w=>X1 u (jn (α:=Value) w (fun v w=>Q3 P .eql T.e (.tmp 19) (.const (.int .i64 0)) e (.int .i64 0) w fun y w=>X1 y (v L w) (fieldAddr P T.b b 1 w fun D w=>Q2 P T.d D w fun p w=>X5 P .len [T.d] T.e [false] [p] w fun g w=>Q3 P .leq T.e (.tmp 22) (.tmp 25) e g w fun j w=>X1 j (fieldAddr P T.b b 1 w fun C w=>Q2 P T.d C w fun B w=>Q3 P .sub T.e (.tmp 29) (.const (.int .i64 1)) e (.int .i64 1) w fun l w=>indexAddr P T.d B l w fun q w=>Q2 P T.c q w fun s w=>v s w) (v (.string ⟨#[]⟩) w))) fun N O w=>fieldAddr P T.f a 2 w fun k w=>Q2 P T.d k w fun t w=>buildSlice P T.d 1 [(0,N)] w fun o w=>X5 P .append [T.d,T.d] T.d [false,false] [t,o] w fun A w=>fieldAddr P T.f a 2 w fun r w=>Z2 P T.d r A w fun _u w=>Q3 P .add T.e (.tmp 17) (.const (.int .i64 1)) e (.int .i64 1) w fun z w=>c z w) (Q2 P T.f a w fun m w=>Z2 P T.f E m w fun _u w=>U5 P T.f E w fun H=>K H w)
theorem Gj {b a:Value} {w:World} {K:Value→World→Prop} (h:Vo b a w K):Q0 P F.b3 [b,a] w K:=Q8 Bo Tryz.func22 rfl (by decide) (by kernel_rfl) h
def Yf (t N:Value) (w:World) (K:Value→World→Prop):Prop:= box P T.b N w fun b w=>fieldAddr P T.b b 1 w fun M w=>Q2 P T.d M w fun H w=>X5 P .len [T.d] T.e [false] [H] w fun L w=>Q3 P .gtr T.e (.tmp 7) (.const (.int .i64 100)) L (.int .i64 100) w fun q w=>Q1 q false w (fieldAddr P T.b b 4) fun s w=>Q1 q false w (Q2 P T.e s) fun u w=>Q1 q false w (Q3 P .gtr T.e (.tmp 11) (.const (.int .i64 1000)) u (.int .i64 1000)) fun z w=>pick P q (.bool true) z w fun e w=>Q1 e false w (fun w J=>J t w) fun v w=>Q1 e false w (X5 P .len [T.c] T.e [false] [v]) fun A w=>Q1 e false w (Q3 P .gtr T.e (.tmp 16) (.const (.int .i64 100)) A (.int .i64 100)) fun E w=>pick P e (.bool true) E w fun B w=>X1 B (Q0 P F.ab [] w fun y w=>K y w) (dr w fun d m=>Q6 d (fun c=> ∀w,m w→Q0 P F.ab [] w (dk d c w)) fun c=>Q6 d (fun g=> ∀a w,m w→c a w→Q1 a true w (fun w J=>J t w) (dk d g w)) fun g=>Q6 d (fun k=> ∀a w,m w→c a w→Q1 a true w (fun w J=>J t w) (dk d k w)) fun k=>Q6 d (fun i=> ∀a w,m w→c a w→Q1 a true w (Q2 P T.b b) (dk d i w)) fun i=>Q6 d (fun j=> ∀a f h w,m w→c a w→g f w→i h w→Q1 a true w (Q0 P F.cn [f,h]) (dk d j w)) fun j=>Q6 d (fun l=> ∀a w,m w→c a w→Q1 a true w (Q2 P T.b b) (dk d l w)) fun l=>∀a f n h p o w,m w→c a w→g f w→k n w→i h w→j p w→l o w→ Q1 a true w (Q0 P F.b3 [n,o]) fun D w=>Q1 a true w (Q0 P F.aj [p,D]) fun C w=>pick P a C (.bool false) w fun r w=>K r w)
theorem Di {b a:Value} {w:World} {K:Value→World→Prop} (h:Yf b a w K):Q0 P F.bx [b,a] w K:=Q8 (List.replicate 5 none) Tryz.func8 rfl (by decide) (by kernel_rfl) h
end Go.Proofs.YtfppjenblllfaaaGreatDoor


namespace Go.Emb
open Go.RowKit (Below)
variable {P : Program} {w w' : World} {K : Value → World → Prop}
theorem Y0 {s:Sem Value} {v:Value} (h:s.run P w= .ok v w'):op P (sv s) w K=K v w':=by
 rw[K9];unfold I2 sv;simp[h]
theorem Nd {s:Sem Unit} (h:s.run P w= .ok () w'):op P (su s) w K=K undef w':=by
 rw[K9];unfold I2 su;simp[h]
abbrev S (l:List UInt8):Value:= .string ⟨l.toArray⟩
abbrev I (n:Int):Value:= .int .i64 n
theorem Np {b:Bool} {x y:Value}:pick P (.bool b) x y w K=K (if b then x else y) w:=by
 unfold pick;rw[K9];unfold I2;cases b<;>simp[asBool]
theorem Rp {x y:Value}:pick P (.bool true) x y w K=K x w:=by rw[Np];rfl
theorem Dh {x y:Value}:pick P (.bool false) x y w K=K y w:=by rw[Np];rfl
theorem Q9r {a b:Bool} {u:Value}:pick P (.bool a) (if a=true then .bool b else u) (.bool false) w K=K (.bool (a&&b)) w:=by
 rw[Np];cases a<;>rfl
theorem X11 {a b:Bool} {u:Value}:pick P (.bool a) (.bool true) (if a=false then .bool b else u) w K=K (.bool (a||b)) w:=by
 rw[Np];cases a<;>rfl
theorem G7 {c:World→(Value→World→Prop)→Prop}:Q1 (.bool true) true w c K=c w K:=by rw[Nr];simp[Wo]
theorem Vg {c:World→(Value→World→Prop)→Prop}:Q1 (.bool false) false w c K=c w K:=by rw[Nr];simp[Wo]
theorem Td {c:World→(Value→World→Prop)→Prop}:Q1 (.bool true) false w c K=K undef w:=by rw[Nr];simp[Wo]
theorem Jx {c:World→(Value→World→Prop)→Prop}:Q1 (.bool false) true w c K=K undef w:=by rw[Nr];simp[Wo]
theorem Py {b:Bool} {c:World→(Value→World→Prop)→Prop}:Q1 undef b w c K=K undef w:=by rw[Nr];rfl
theorem Q8W {a b:Bool} {v:Value}:Q1 (.bool a) b w (fun w J=>J v w) K=K (if a=b then v else undef) w:=by
 rw[Nr];unfold Wo;by_cases h:a=b<;>simp[h]
theorem Q4J {b:Bool} {t e:Prop}:X1 (.bool b) t e=if b=true then t else e:=by rw[Q4x];cases b<;>rfl
theorem Nf {t e:Prop}:X1 (.bool true) t e=t:=by rw[Q4J];simp
theorem Uq {t e:Prop}:X1 (.bool false) t e=e:=by rw[Q4J];simp
section ints
variable {k : IntKind} {t : TypeId} {ox oy : Operand} {a b : Int}
theorem Ch:Q3 P .add t ox oy (.int k a) (.int k b) w K=K (.int k (k.wrap (a+b))) w:=Y0 (by simp[eqGuard,Go.binOp,Op.intArith])
theorem Q0a:Q3 P .sub t ox oy (.int k a) (.int k b) w K=K (.int k (k.wrap (a-b))) w:=Y0 (by simp[eqGuard,Go.binOp,Op.intArith])
theorem Q6k:Q3 P .mul t ox oy (.int k a) (.int k b) w K=K (.int k (k.wrap (a*b))) w:=Y0 (by simp[eqGuard,Go.binOp,Op.intArith])
theorem Q2s:Q3 P .lss t ox oy (.int k a) (.int k b) w K=K (.bool (decide (a<b))) w:=Y0 (by simp[eqGuard,Go.binOp,Op.intCmp])
theorem Q2n:Q3 P .leq t ox oy (.int k a) (.int k b) w K=K (.bool (decide (a≤b))) w:=Y0 (by simp[eqGuard,Go.binOp,Op.intCmp])
theorem Q2b:Q3 P .gtr t ox oy (.int k a) (.int k b) w K=K (.bool (decide (b<a))) w:=Y0 (by simp[eqGuard,Go.binOp,Op.intCmp])
theorem Q0c:Q3 P .geq t ox oy (.int k a) (.int k b) w K=K (.bool (decide (b≤a))) w:=Y0 (by simp[eqGuard,Go.binOp,Op.intCmp])
theorem Q07:Q3 P .eql t ox oy (.int k a) (.int k b) w K=K (.bool (decide (a=b))) w:=Y0 (by
 simp[eqGuard,Go.binOp,Op.intCmp];rfl)
theorem Q2t:Q3 P .neq t ox oy (.int k a) (.int k b) w K=K (.bool (!decide (a=b))) w:=Y0 (by
 simp[eqGuard,Go.binOp,Op.intCmp];rfl)
end ints
theorem Q24 {b:Bool}:J7 P .not (.bool b) w K=K (.bool (!b)) w:=Y0 (by simp[Op.unary])
section bools
variable {t : TypeId} {ox oy : Operand} {a b : Bool}
theorem Q0U (d:Nat) (h:P.underlying t=some .bool):(Op.equalIn (d+1) t (.bool a) (.bool b)).run P w= .ok (a==b) w:=by
 simp[Op.equalIn,run_underlying h]
theorem Cv (h:P.underlying t=some .bool):(Op.equal t (.bool a) (.bool b)).run P w= .ok (a==b) w:=Q0U 9999 h
theorem Q3P (h:P.underlying t=some .bool):Q3 P .eql t ox oy (.bool a) (.bool b) w K=K (.bool (a==b)) w:=Y0 (by
 simp[eqGuard,Go.binOp,Cv h])
theorem Q4P (h:P.underlying t=some .bool):Q3 P .neq t ox oy (.bool a) (.bool b) w K=K (.bool (!(a==b))) w:=Y0 (by
 simp[eqGuard,Go.binOp,Cv h])
end bools
theorem Zc {vs:List Value} {i:Nat} {v:Value} (h:vs[i]? =some v):ext P (.tuple vs.toArray) i w K=K v w:=Y0 (by
 simp[Instr.extract,h])
theorem X1E {a b:Value}:ext P (.tuple #[a,b]) 0 w K=K a w:=Zc (vs:=[a,b]) rfl
theorem X1n {a b:Value}:ext P (.tuple #[a,b]) 1 w K=K b w:=Zc (vs:=[a,b]) rfl
theorem X01 {a b c:Value}:ext P (.tuple #[a,b,c]) 0 w K=K a w:=Zc (vs:=[a,b,c]) rfl
theorem X0f {a b c:Value}:ext P (.tuple #[a,b,c]) 1 w K=K b w:=Zc (vs:=[a,b,c]) rfl
theorem X0b {a b c:Value}:ext P (.tuple #[a,b,c]) 2 w K=K c w:=Zc (vs:=[a,b,c]) rfl
theorem B1 {n:Int} (c: -9223372036854775808≤n) (d:n≤9223372036854775807):IntKind.i64.wrap n=n:=by
 have e:n % 18446744073709551616=n∨n % 18446744073709551616=n+18446744073709551616:=by omega
 show (if (true&&decide (n % 18446744073709551616≥9223372036854775808))=true then n % 18446744073709551616-18446744073709551616 else n % 18446744073709551616)=n
 simp only[Bool.true_and,decide_eq_true_eq]
 split<;>omega
theorem w32 {n:Int} (c: -2147483648≤n) (d:n≤2147483647):IntKind.i32.wrap n=n:=by
 show (if (true&&decide (n % 4294967296≥2147483648))=true then n % 4294967296-4294967296 else n % 4294967296)=n
 simp only[Bool.true_and,decide_eq_true_eq]
 split<;>omega
section strs
variable {t : TypeId} {ox oy : Operand} {a b : List UInt8}
theorem Q2q (a b:List UInt8):(a==b)=decide (a=b):=by rw[Bool.eq_iff_iff];simp
theorem Ru:Q3 P .eql t ox oy (S a) (S b) w K=K (.bool (decide (a=b))) w:=Y0 (by
 simp[eqGuard,Go.binOp,Op.stringOp,Q2q])
theorem Sm:Q3 P .neq t ox oy (S a) (S b) w K=K (.bool (!decide (a=b))) w:=Y0 (by
 simp[eqGuard,Go.binOp,Op.stringOp,Q2q])
theorem C9 (l:List UInt8):(ByteArray.mk l.toArray).size=l.length:=by simp[ByteArray.size]
theorem Q7X (a b:List UInt8):ByteArray.mk a.toArray++ByteArray.mk b.toArray=ByteArray.mk (a++b).toArray:=by
 apply ByteArray.ext;simp
theorem X2d:IntKind.i64.max=9223372036854775807:=by decide
theorem Q5p (h:a.length+b.length≤9223372036854775807):Q3 P .add t ox oy (S a) (S b) w K=K (S (a++b)) w:=Y0 (by
 have c: ¬(((a.length+b.length:Nat):Int)>IntKind.i64.max):=by rw[X2d];omega
 simp only[eqGuard,Go.binOp,Op.stringOp,C9,Q7X]
 simp only[if_neg c]
 simp)
theorem D2 {cs:List Bool} {r:TypeId} (c:P.underlying t=some .string):X5 P .len [t] r cs [S a] w K=K (I a.length) w:=by
 have h:(Builtin.len_ #[t] r #[S a]).run P w= .ok (I a.length) w:=by
  simp[Builtin.len_,run_underlying c,C9,goInt]
 exact Y0 h
theorem Qd {i:Int} (c:P.underlying t=some .string) (d:0≤i) (h:i.toNat<a.length):E2 P t (S a) (I i) w K=K (.int .u8 (a[i.toNat]'h).toNat) w:=Y0 (by
 simp only[Instr.index,asIntOf,Sem.run_bind,Sem.run_pure,Result.andThen_ok,run_underlying c,d,if_true]
 have:(ByteArray.mk a.toArray)[i.toNat]? =some (a[i.toNat]'h):=by
  rw[getElem?_pos _ _ (by rw[C9];exact h)]
  rfl
 rw[this];simp)
theorem Q1C (l:List UInt8) (i j:Nat):(ByteArray.mk l.toArray).extract i j=ByteArray.mk ((l.take j).drop i).toArray:=by
 apply ByteArray.ext
 apply Array.ext'
 simp[List.drop_take]
theorem Wz {i:Int} (c:P.underlying t=some .string) (d:0≤i) (h:i≤a.length):E6 P t (S a) (some (I i)) none none w K=K (S (a.drop i.toNat)) w:=Y0 (by
 simp[Instr.sliceAt,Instr.slice,Instr.sliceBounds,Instr.sliceBound,asIntOf,run_underlying c,d,h,C9,Q1C])
theorem I7 {i:Int} (c:P.underlying t=some .string) (d:0≤i) (h:i≤a.length):E6 P t (S a) none (some (I i)) none w K=K (S (a.take i.toNat)) w:=Y0 (by
 simp[Instr.sliceAt,Instr.slice,Instr.sliceBounds,Instr.sliceBound,asIntOf,run_underlying c,d,h,C9,Q1C])
end strs
theorem Q0Z {s d:TypeId} {k j:IntKind} {n:Int} {ds:TypeDesc} (e:P.underlying s=some ds) (c:P.underlying d=some (.int k)):conv P s d (.int j n) w K=K (.int k (k.wrap n)) w:=Y0 (by
 simp[Go.convert,run_underlying e,run_underlying c,Conv.intToInt])
def Ta (w:World) (r:Nat) (o:Obj):World:={w with heap:=w.heap.setIfInBounds r o}
theorem Q2F {B r:Nat} {a w:World} {o:Obj} (h:Below B a w) (c:B≤r):Below B a (Ta w r o):=
 h.trans ⟨rfl,rfl,rfl,by simp[Ta],fun k d=>by simp only[Ta];rw[Array.getElem?_setIfInBounds_ne (by omega)]⟩
theorem Q6i {w:World} {r:Nat} {o:Obj} (h:r<w.heap.size):(Ta w r o).heap[r]? =some o:=by
 simp only[Ta];rw[Array.getElem?_setIfInBounds_self_of_lt h]
theorem X0u {t:TypeId} {a:List UInt8} (c:P.underlying t=some .string):rng P t (S a) w K=K (.pointer (some ⟨w.heap.size,0,none⟩)) (w.alloc (.stringIter ⟨a.toArray⟩ 0)):=Y0 (by
 simp[Instr.range,run_underlying c])
theorem X0T {t:TypeId} {r pos:Nat} {s:ByteArray} (h:w.heap[r]? =some (.stringIter s pos)) (c:pos<s.size):
 J1 P (.pointer (some ⟨r,0,none⟩)) true t w K=K (.tuple #[.bool true,I pos, .int .i32 (Utf8.decode s pos).1]) (Ta w r (.stringIter s (pos+(Utf8.decode s pos).2))):=Y0 (by
 have e: ∀(k:Obj→Sem Value),(getObj r>>=k).run P w=(k (.stringIter s pos)).run P w:=by
  intro k;rw[Sem.run_bind];simp[getObj,Sem.run,h]
 have d: ∀o,(setObj r o).run P w= .ok () (Ta w r o):=by intro o;simp[setObj,Sem.run,h,Ta]
 unfold Instr.next
 simp only[e,c,if_true]
 simp[d,goInt])
theorem Q5I {t:TypeId} {r pos:Nat} {s:ByteArray} (h:w.heap[r]? =some (.stringIter s pos)) (c: ¬pos<s.size):
 J1 P (.pointer (some ⟨r,0,none⟩)) true t w K=K (.tuple #[.bool false]) w:=Y0 (by
 have d: ∀(k:Obj→Sem Value),(getObj r>>=k).run P w=(k (.stringIter s pos)).run P w:=by
  intro k;rw[Sem.run_bind];simp[getObj,Sem.run,h]
 unfold Instr.next
 simp only[d,c,if_false]
 simp)
theorem Q9O {a:Value}:ext P (.tuple #[a]) 0 w K=K a w:=Zc (vs:=[a]) rfl
theorem Q75 {s:ByteArray} {i:Nat} (h:(s.get! i).toNat<128):Utf8.decode s i=((s.get! i).toNat,1):=by
 unfold Utf8.decode
 simp only[Nat.add_zero]
 rw[if_pos h]
theorem Q5r {s:ByteArray} {i:Nat} (h: ¬(s.get! i).toNat<128):128≤(Utf8.decode s i).1:=by
 unfold Utf8.decode
 simp only[Nat.add_zero]
 rw[if_neg h]
 repeat' split
 all_goals (simp only[Utf8.runeError] at*;try omega)
 all_goals (simp only[Bool.and_eq_true,decide_eq_true_eq,ge_iff_le] at*;omega)
theorem Q4I {s:ByteArray} {i:Nat}:1≤(Utf8.decode s i).2:=by
 unfold Utf8.decode
 simp only
 repeat' split
 all_goals simp
def Fm (p:Int→Bool) (s:ByteArray):Nat→Nat→Bool
 | 0,_=>true
 | n+1,i=>if i<s.size then p (Utf8.decode s i).1&&Fm p s n (i+(Utf8.decode s i).2) else true
theorem Q2z {a:List UInt8} {i:Nat} (h:i<a.length):(ByteArray.mk a.toArray).get! i=a[i]:=by
 show (ByteArray.mk a.toArray).data[i]! =a[i]
 simp[h]
theorem Q6Z (p:Int→Bool) (e: ∀c:Int,128≤c→p c=false) (a:List UInt8): ∀(n i:Nat),a.length-i≤n→Fm p ⟨a.toArray⟩ n i=(a.drop i).all (fun b=>p b.toNat):=by
 intro n
 induction n with
 | zero=>intro i h;rw[List.drop_eq_nil_of_le (by omega)];rfl
 | succ n g=>
  intro i h
  simp only[Fm,C9]
  split
  ·rename_i d
   rw[List.drop_eq_getElem_cons d,List.all_cons]
   by_cases f:a[i].toNat<128
   ·rw[Q75 (by rw[Q2z d];exact f),Q2z d]
    simp only
    rw[g (i+1) (by omega)]
   ·have j:=Q5r (s:=⟨a.toArray⟩) (i:=i) (by rw[Q2z d];exact f)
    rw[e _ (by omega),e _ (by omega)];rfl
  ·rename_i d;rw[List.drop_eq_nil_of_le (by omega)];rfl
theorem V5 {α:Type} {A:(α→World→Prop)→World→Prop} {B:α→(Nat→Value)→World→Prop} (h:A (fun x w=> ∀d,B x d w) w):jn w A B:=Xy _ h (fun _ d _ c=>c d)
theorem X2 {e:World→World→Prop} {A c:(Value→World→Prop)→Prop} (V:Value) (h:A (fun v _=>v=V)) (d:c (fun v _=>v=V)):Q6 e A c:=
 W5 _ (fun _ _ _ h _=>h) h d
theorem Mz {w w0:World} {A:(World→World→Prop)→(World→Prop)→Prop} (e:Below w0.heap.size w0 w)
 (h:A (fun w w'=>Below w.heap.size w w') (fun w'=>Below w0.heap.size w0 w')):dr w A:=
 Q00 _ _ e.drew (fun _ _ c d=>c.trans (d.mono c.size)) h
theorem Q1r {w w':World} {v V:Value} (c:Below w.heap.size w w') (h:v=V):dk (fun w w'=>Below w.heap.size w w') (fun v _=>v=V) w v w':=⟨c,h⟩
theorem X6 {w:World} {v V:Value} (h:v=V):dk (fun w w'=>Below w.heap.size w w') (fun v _=>v=V) w v w:=⟨Below.refl _ _,h⟩
theorem Q5h {n:Nat} {fn:Func} {e:Array Value→Sem Value} {xs:List Value} {v:Value} (m:P.funcs[n]? =some fn) (l:(fn.name== "runtime.NumGoroutine")=false) (j:fn.body.isNone=true)
 (g:(Extern.findNext fn).isNone=true) (o:Extern.find fn=some e) (i:(e xs.toArray).run P w= .ok v w) (h:K v w):Q0 P n xs w K:=by
 have d:Extern.findNext fn=none:=by simpa using g
 have f: ¬fn.name= "runtime.NumGoroutine":=by simpa using l
 have c:fn.body=none:=by simpa using j
 unfold Q0
 rw[K9]
 unfold I2 callFunc
 simp[m,f,c,d,o,i,h]
theorem Q1E {α:Type} (p:α→Bool) (c:Nat→Bool): ∀(l:List α),(∀i (h:i<l.length),c i=p l[i])→(List.range l.length).find? c=l.findIdx? p
 | [],_=>rfl
 | x::l,h=>by
  rw[List.length_cons,List.range_succ_eq_map,List.find?_cons,List.findIdx?_cons]
  have d:c 0=p x:=h 0 (by simp)
  rw[d]
  cases p x
  ·simp only[Bool.false_eq_true,if_false]
   rw[List.find?_map]
   have:=Q1E p (c ∘ Nat.succ) l (fun i e=>h (i+1) (by simpa using e))
   rw[this]
  ·rfl
def Mr:=And.intro @Rp <| And.intro @Dh <| And.intro @Py <| And.intro @Ch <| And.intro @Q0a <| And.intro @Q6k <| And.intro @Q2s <| And.intro @Q2n <| And.intro @Q2b <| And.intro @Q0c <| And.intro @Q07 <| And.intro @Q2t <| And.intro @Q24 <| And.intro @Ru <| And.intro @Sm <| And.intro @X1E <| And.intro @X1n <| And.intro @X01 <| And.intro @X0f <| And.intro @X0b <| And.intro @Q9O <| And.intro @Q9r <| And.intro @X11 <| And.intro @G7 <| And.intro @Vg <| And.intro @Td <| And.intro @Jx <| And.intro @Q8W <| And.intro @Nf <| @Uq
def Mp:=And.intro @Rp <| And.intro @Dh <| And.intro @Py <| And.intro @Ch <| And.intro @Q0a <| And.intro @Q6k <| And.intro @Q2s <| And.intro @Q2n <| And.intro @Q2b <| And.intro @Q0c <| And.intro @Q07 <| And.intro @Q2t <| And.intro @Q24 <| And.intro @Ru <| And.intro @Sm <| And.intro @X1E <| And.intro @X1n <| And.intro @X01 <| And.intro @X0f <| And.intro @X0b <| And.intro @Q9O <| And.intro @G7 <| And.intro @Vg <| And.intro @Td <| And.intro @Jx <| And.intro @Nf <| @Uq
def Mb:=And.intro @Bool.true_eq_false <| And.intro @Bool.false_eq_true <| And.intro @Bool.not_true <| And.intro @Bool.not_false <| And.intro @Bool.and_true <| And.intro @Bool.true_and <| And.intro @Bool.and_false <| And.intro @Bool.false_and <| And.intro @Bool.or_true <| And.intro @Bool.true_or <| And.intro @Bool.or_false <| @Bool.false_or
end Go.Emb

namespace Go.Kd
abbrev X0:=List UInt8
def T6 (c:Int):Bool:=decide (65≤c)&&decide (c≤90)
def I3 (c:Int):Bool:=decide (97≤c)&&decide (c≤122)
def R0 (c:Int):Bool:=decide (48≤c)&&decide (c≤57)
def D9 (c:Int):Bool:=T6 c||I3 c||R0 c
def name (s:X0):Bool:=match s with
 | []=>false
 | c::_=>decide (s.length≤32)&& !R0 c.toNat&&s.all (fun b=>D9 b.toNat)
def W2 (s:X0):Bool:=match s with
 | []=>false
 | c::_=>name s&&T6 c.toNat
def L8 (s:X0):Bool:=match s with
 | []=>false
 | c::_=>name s&&I3 c.toNat
def plain (s:X0):Bool:=decide (s=[105,110,116])||decide (s=[98,111,111,108])||decide (s=[116,101,120,116])
def D3 (s:X0):Bool:=decide (2≤s.length)&&decide (s.drop (s.length-2)=[91,93])
def cutA (s:X0):X0:=s.take (s.length-2)
def Qx:Nat→X0→X0×Nat
 | 0,s=>(s,0)
 | n+1,s=>if D3 s then ((Qx n (cutA s)).1,(Qx n (cutA s)).2+1) else (s,0)
def base (s:X0):X0×Nat:=Qx s.length s
def right (s:X0):Bool:=decide ((base s).2≤3)&&(plain (base s).1||W2 (base s).1)
def elem (s:X0):X0:=if D3 s&&right s then cutA s else []
def Q1f (s:X0):Nat:=if right s then (base s).2 else 0
def T0 (s:X0):X0×X0×Bool:=match s with
 | []=>([],[],false)
 | c::r=>if c=46 then ([],r,true) else ((c::(T0 r).1),(T0 r).2.1,(T0 r).2.2)
def Xq (s:X0):Bool:=(T0 s).2.2&&W2 (T0 s).1&&L8 (T0 s).2.1
def Q03 (c:UInt8) (s:X0):Int:=match s.findIdx? (fun b=>decide (b=c)) with
 | some i=>i
 | none=> -1
def Q1R (s:X0) (o:Option Nat):X0×X0×Bool:=match o with
 | some i=>(s.take i,s.drop (i+1),true)
 | none=>(s,[],false)
theorem Fc (s:X0):T0 s=Q1R s (s.findIdx? (fun b=>decide (b=46))):=by
 induction s with
 | nil=>rfl
 | cons c r a=>
  rw[List.findIdx?_cons]
  simp only[T0]
  by_cases h:c=46
  ·simp[h,Q1R]
  ·simp only[h,if_false,decide_false,Bool.false_eq_true]
   rw[a]
   cases r.findIdx? (fun b=>decide (b=46)) with
   | none=>simp[Q1R]
   | some i=>simp[Q1R]
end Go.Kd

namespace Go.Proofs.YtfppjenblllfaaaGreatDoor
open Go.Emb Go.RowKit Go.Kd
variable {w : World} {K : Value → World → Prop}
theorem X7:P.underlying T.c=some .string:=by kernel_rfl
theorem Q1Z:P.underlying T.e=some (.int .i64):=by kernel_rfl
theorem Pn:P.underlying T.p=some .bool:=by kernel_rfl
theorem Q2d:P.underlying T.w=some (.int .u8):=by kernel_rfl
theorem Q61:P.underlying T.af=some (.int .i32):=by kernel_rfl
theorem Q66 (c:Int) (h:K (.bool (T6 c)) w):Q0 P F.bQ [.int .i32 c] w K:=Q4f (by
 unfold Pj
 (try simp only[↓Mr,Mr,Mb,reduceIte])
 cases a:decide (65≤c)<;>simp only[a,↓Mr,Mr,Mb,reduceIte]<;>simpa [T6,a] using h)
theorem Q65 (c:Int) (h:K (.bool (I3 c)) w):Q0 P F.bS [.int .i32 c] w K:=Q5c (by
 unfold As
 (try simp only[↓Mr,Mr,Mb,reduceIte])
 cases a:decide (97≤c)<;>simp only[a,↓Mr,Mr,Mb,reduceIte]<;>simpa [I3,a] using h)
theorem X13 (c:Int) (h:K (.bool (D9 c)) w):Q0 P F.bL [.int .i32 c] w K:=Q3r (by
 unfold Ia
 refine Q66 c ?_
 cases a:T6 c
 ·(try simp only[↓Mr,Mr,Mb,reduceIte])
  refine Q65 c ?_
  cases b:I3 c
  ·(try simp only[↓Mr,Mr,Mb,reduceIte])
   cases d:decide (48≤c)
   ·(try simp only[↓Mr,Mr,Mb,reduceIte])
    simpa [D9,R0,a,b,d] using h
   ·(try simp only[↓Mr,Mr,Mb,reduceIte])
    simpa [D9,R0,a,b,d] using h
  ·(try simp only[↓Mr,Mr,Mb,reduceIte])
   simpa [D9,a,b] using h
 ·(try simp only[↓Mr,Mr,Mb,reduceIte])
  simpa [D9,a] using h)
theorem X2j (a:List UInt8) (f:Value) (p:Int→Bool) (l: ∀(c:Int) (w:World) (K:Value→World→Prop),K (.bool (p c)) w→Y9 P f [.int .i32 c] w K)
 (h: ∀w',Below w.heap.size w w'→K (.bool (Fm p ⟨a.toArray⟩ a.length 0)) w'):Q0 P F.ck [S a,f] w K:=Q6U (by
 unfold Q1N
 rw[X0u X7]
 refine Ym (fun _ w'=> ∃pos n:Nat,a.length-pos≤n∧Fm p ⟨a.toArray⟩ a.length 0=Fm p ⟨a.toArray⟩ n pos∧Below w.heap.size w w'∧w'.heap[w.heap.size]? =some (.stringIter ⟨a.toArray⟩ pos))
  (fun _ w'=>match w'.heap[w.heap.size]? with | some (.stringIter _ pos)=>a.length-pos | _=>0) ⟨0,a.length,by omega,rfl,(Below.refl _ _).alloc (Nat.le_refl _) _,heap_alloc_new w _⟩ ?_
 rintro _ _ w1 ⟨pos,n,r,b,j,e⟩
 by_cases g:pos<a.length
 ·rw[X0T e (by rw[C9];exact g)]
  (try simp only[↓Mr,Mr,Mb,reduceIte])
  refine l _ _ _ ?_
  obtain ⟨n,rfl⟩: ∃m,n=m+1:=⟨n-1,by omega⟩
  simp only[Fm,C9,g,if_true] at b
  have q:=Q4I (s:=⟨a.toArray⟩) (i:=pos)
  have d:w.heap.size<w1.heap.size:=(Array.getElem?_eq_some_iff.1 e).1
  cases k:p (Utf8.decode ⟨a.toArray⟩ pos).1
  ·(try simp only[↓Mr,Mr,Mb,reduceIte])
   rw[k] at b
   have:=h _ (Q2F (o:= .stringIter ⟨a.toArray⟩ (pos+(Utf8.decode ⟨a.toArray⟩ pos).2)) j (Nat.le_refl _))
   rw[b] at this
   exact this
  ·(try simp only[↓Mr,Mr,Mb,reduceIte])
   rw[k] at b
   refine ⟨⟨_,n,?_,b,Q2F j (Nat.le_refl _),Q6i d⟩,?_⟩
   ·omega
   ·simp only[Q6i d,e];omega
 ·rw[Q5I e (by rw[C9];exact g)]
  (try simp only[↓Mr,Mr,Mb,reduceIte])
  have:Fm p ⟨a.toArray⟩ n pos=true:=by
   cases n with
   | zero=>rfl
   | succ n=>simp only[Fm,C9,g,if_false]
  rw[←this,←b]
  exact h _ j)
theorem Q6K (c:Int) (h:128≤c):D9 c=false:=by
 simp[D9,T6,I3,R0];omega
theorem Q4H (a:List UInt8) (n:a.length≤140737488355328) (h: ∀w',Below w.heap.size w w'→K (.bool (name a)) w'):Q0 P F.bF [S a] w K:=Q5n (by
 unfold Q0N
 have e: ∀c r,a=c::r→(decide (a.length≤32)&& !R0 c.toNat)=true→Q0 P F.ck [S a,(.func (.func F.bL) #[] #[])] w K:=by
  intro c r l b
  refine X2j a _ D9 (fun c w K h=>Y7 (first:=[]) (caps:=[]) (X13 c h)) fun w' m=>?_
  rw[Q6Z _ Q6K a _ _ (by omega)]
  have:=h w' m
  rw[l] at this b⊢
  simp only[name] at this
  rw[b,Bool.true_and] at this
  simpa using this
 cases a with
 | nil=>
  simp only[↓Mr,Mr,Mb,reduceIte,decide_true]
  exact h w (Below.refl _ _)
 | cons c r=>
  have g:decide (c::r=[])=false:=by simp
  simp only[↓Mr,Mr,Mb,reduceIte,g,D2 X7]
  by_cases k:(c::r).length≤32
  ·have d:r.length≤31:=by simpa using k
   have b:decide ((32:Int)<((c::r).length:Int))=false:=by simp only[decide_eq_false_iff_not];omega
   simp only[↓Mr,Mr,Mb,reduceIte,b]
   rw[Qd X7 (by omega) (by simp)]
   (try simp only[↓Mr,Mr,Mb,reduceIte])
   have i:(c::r)[(0:Int).toNat]'(by simp)=c:=rfl
   simp only[i]
   cases f:decide ((48:Int)≤(c.toNat:Int))
   ·(try simp only[↓Mr,Mr,Mb,reduceIte])
    exact e c r rfl (by simp[R0,d,f])
   ·(try simp only[↓Mr,Mr,Mb,reduceIte])
    rw[Qd X7 (by omega) (by simp)]
    simp only[↓Mr,Mr,Mb,reduceIte,i]
    cases j:decide ((c.toNat:Int)≤57)
    ·(try simp only[↓Mr,Mr,Mb,reduceIte])
     exact e c r rfl (by simp only[R0,f,j];simp[d])
    ·(try simp only[↓Mr,Mr,Mb,reduceIte])
     have:name (c::r)=false:=by simp only[name,R0,f,j];simp
     rw[←this];exact h w (Below.refl _ _)
  ·have b:decide ((32:Int)<((c::r).length:Int))=true:=by simp only[decide_eq_true_eq];omega
   simp only[↓Mr,Mr,Mb,reduceIte,b]
   have:name (c::r)=false:=by simp only[name];rw[decide_eq_false k];rfl
   rw[←this];exact h w (Below.refl _ _))
theorem Dq (a:List UInt8) (e:a.length≤140737488355328) (h: ∀w',Below w.heap.size w w'→K (.bool (W2 a)) w'):Q0 P F.ae [S a] w K:=Q41 (by
 unfold Ti
 refine Q4H a e fun w1 b=>?_
 cases a with
 | nil=>
  simp only[name,↓Mr,Mr,Mb,reduceIte]
  exact h w1 b
 | cons c r=>
  cases d:name (c::r)
  ·(try simp only[↓Mr,Mr,Mb,reduceIte])
   have:=h w1 b
   simp only[W2,d] at this
   simpa using this
  ·(try simp only[↓Mr,Mr,Mb,reduceIte])
   rw[Qd X7 (by omega) (by simp)]
   have f:(c::r)[(0:Int).toNat]'(by simp)=c:=rfl
   simp only[f]
   rw[Q0Z Q2d Q61,w32 (by omega) (by have:=c.toNat_lt;omega)]
   refine Q66 _ ?_
   (try simp only[↓Mr,Mr,Mb,reduceIte])
   have:=h w1 b
   simp only[W2,d] at this
   simpa using this)
theorem Vk (a:List UInt8) (h:K (.bool (plain a)) w):Q0 P F.ac [S a] w K:=Q4Z (by
 unfold Tj
 (try simp only[↓Mr,Mr,Mb,reduceIte])
 cases b:decide (a=[105,110,116])<;>(try simp only[↓Mr,Mr,Mb,reduceIte])
 ·cases c:decide (a=[98,111,111,108])<;>(try simp only[↓Mr,Mr,Mb,reduceIte])<;>simpa [plain,b,c] using h
 ·simpa [plain,b] using h)
def Zn (a b:List UInt8):Bool:=decide (b.length≤a.length)&&decide (a.drop (a.length-b.length)=b)
theorem Nc (a b:List UInt8) (e:a.length≤140737488355328) (f:b.length≤140737488355328) (h:K (.bool (Zn a b)) w):Q0 P F.a5 [S a,S b] w K:=Ht (by
 unfold Jd
 rw[D2 X7,D2 X7]
 (try simp only[↓Mr,Mr,Mb,reduceIte])
 by_cases d:b.length≤a.length
 ·have c:decide ((b.length:Int)≤a.length)=true:=by simp only[decide_eq_true_eq];omega
  simp only[↓Mr,Mr,Mb,reduceIte,c,D2 X7]
  rw[B1 (by omega) (by omega),Wz X7 (by omega) (by omega)]
  (try simp only[↓Mr,Mr,Mb,reduceIte])
  rw[show ((a.length:Int)-b.length).toNat=a.length-b.length from by omega]
  simpa [Zn,d] using h
 ·have c:decide ((b.length:Int)≤a.length)=false:=by simp only[decide_eq_false_iff_not];omega
  simp only[↓Mr,Mr,Mb,reduceIte,c]
  simpa [Zn,d] using h)
theorem Q5S (a b:List UInt8) (c:a.length≤140737488355328) (d:b.length≤140737488355328) (h:K (.bool (Zn a b)) w):Q0 P F.bn [S a,S b] w K:=Kl (by
 unfold Lz
 exact Nc a b c d h)
def Ng (a b:List UInt8):List UInt8:=if Zn a b then a.take (a.length-b.length) else a
theorem Q2I {a b:List UInt8} (h:Zn a b=true):b.length≤a.length:=by
 simp only[Zn,Bool.and_eq_true,decide_eq_true_eq] at h;exact h.1
theorem Q47 (a b:List UInt8) (d:a.length≤140737488355328) (e:b.length≤140737488355328) (h:K (S (Ng a b)) w):Q0 P F.be [S a,S b] w K:=Bx (by
 unfold Ls
 refine Ey ?_
 unfold Zl
 refine Nc a b d e ?_
 cases c:Zn a b
 ·(try simp only[↓Mr,Mr,Mb,reduceIte])
  simpa [Ng,c] using h
 ·have f:=Q2I c
  simp only[↓Mr,Mr,Mb,reduceIte,D2 X7]
  rw[B1 (by omega) (by omega),I7 X7 (by omega) (by omega)]
  rw[show ((a.length:Int)-b.length).toNat=a.length-b.length from by omega]
  simpa [Ng,c] using h)
theorem Q5D (a b:List UInt8) (d:a.length≤140737488355328) (e:b.length≤140737488355328) (h:K (.tuple #[S (Ng a b), .bool (Zn a b)]) w):Q0 P F.bo [S a,S b] w K:=Kq (by
 unfold Mj
 refine Hu ?_
 unfold Jj
 refine Nc a b d e ?_
 cases c:Zn a b
 ·(try simp only[↓Mr,Mr,Mb,reduceIte])
  simpa [Ng,c] using h
 ·have f:=Q2I c
  simp only[↓Mr,Mr,Mb,reduceIte,D2 X7]
  rw[B1 (by omega) (by omega),I7 X7 (by omega) (by omega)]
  rw[show ((a.length:Int)-b.length).toNat=a.length-b.length from by omega]
  (try simp only[↓Mr,Mr,Mb,reduceIte])
  simpa [Ng,c] using h)
theorem Q1Q (a:List UInt8):Zn a [91,93]=D3 a:=rfl
theorem Q0I (a:List UInt8):Ng a [91,93]=if D3 a then Kd.cutA a else a:=rfl
theorem P7 {a:List UInt8} (h:D3 a=true):(Kd.cutA a).length+2=a.length:=by
 simp only[D3,Bool.and_eq_true,decide_eq_true_eq] at h
 simp only[Kd.cutA,List.length_take];omega
theorem Q1p: ∀(n m:Nat) (a:List UInt8),a.length≤n→a.length≤m→Qx n a=Qx m a
 | 0,0,a,_,_=>rfl
 | 0,m+1,a,h,_=>by
  have:a=[]:=List.eq_nil_of_length_eq_zero (by omega)
  subst this;rfl
 | n+1,0,a,_,h=>by
  have:a=[]:=List.eq_nil_of_length_eq_zero (by omega)
  subst this;rfl
 | n+1,m+1,a,c,b=>by
  simp only[Qx]
  split
  ·rename_i h
   have:=P7 h
   rw[Q1p n m (Kd.cutA a) (by omega) (by omega)]
  ·rfl
theorem Zv (a:List UInt8):base a=if D3 a then ((base (Kd.cutA a)).1,(base (Kd.cutA a)).2+1) else (a,0):=by
 unfold base
 cases b:a.length with
 | zero=>
  have:a=[]:=List.eq_nil_of_length_eq_zero b
  subst this;rfl
 | succ n=>
  simp only[Qx]
  split
  ·rename_i h
   have:=P7 h
   rw[Q1p n (Kd.cutA a).length (Kd.cutA a) (by omega) (Nat.le_refl _)]
  ·rfl
theorem Ax (a:List UInt8):(base a).1.length+2*(base a).2=a.length:=by
 have key: ∀n (a:List UInt8),(Qx n a).1.length+2*(Qx n a).2=a.length:=by
  intro n
  induction n with
  | zero=>intro a;simp[Qx]
  | succ n b=>
   intro a
   simp only[Qx]
   split
   ·rename_i h
    have:=P7 h
    have:=b (Kd.cutA a)
    simp only;omega
   ·simp
 exact key _ a
theorem Q7H (a:List UInt8) (e:a.length≤140737488355328) (h:K (.tuple #[S (base a).1,I (base a).2]) w):Q0 P F.c3 [S a] w K:=Q5t (by
 unfold Q0y
 refine Ym (fun x w'=>w'=w∧ ∃(b:List UInt8) (n:Nat),x=(S b,I n)∧b.length+2*n=a.length∧base a=((base b).1,(base b).2+n)) (fun x _=>match x.1 with | .string s=>s.size | _=>0)
  ⟨rfl,a,0,rfl,by omega,rfl⟩ ?_
 rintro _ _ _ ⟨rfl,b,n,rfl,g,d⟩
 refine Q5S b _ (by omega) (by simp) ?_
 rw[Q1Q]
 cases c:D3 b
 ·(try simp only[↓Mr,Mr,Mb,reduceIte])
  rw[Zv b,c] at d
  simp only[Bool.false_eq_true,if_false,Nat.zero_add] at d
  rw[d] at h;exact h
 ·(try simp only[↓Mr,Mr,Mb,reduceIte])
  refine Q47 b _ (by omega) (by simp) ?_
  rw[Q0I,c]
  simp only[↓Mr,Mr,Mb,reduceIte,if_true]
  have f:=P7 c
  rw[B1 (by omega) (by omega)]
  refine ⟨⟨by first | rfl | trivial,Kd.cutA b,n+1,by simp,by omega,?_⟩,?_⟩
  ·rw[d,Zv b,c];simp;omega
  ·simp only[C9];omega)
theorem Zz (a:List UInt8) (e:a.length≤140737488355328) (h: ∀w',Below w.heap.size w w'→K (.bool (right a)) w'):Q0 P F.a1 [S a] w K:=Q3S (by
 unfold Pm
 have f:=Ax a
 refine Q7H a e ?_
 (try simp only[↓Mr,Mr,Mb,reduceIte])
 by_cases b:(base a).2≤3
 ·have c:decide (((base a).2:Int)≤3)=true:=by simp only[decide_eq_true_eq];omega
  simp only[↓Mr,Mr,Mb,reduceIte,c]
  refine Vk _ ?_
  cases d:plain (base a).1
  ·(try simp only[↓Mr,Mr,Mb,reduceIte])
   refine Dq _ (by omega) fun w1 g=>?_
   (try simp only[↓Mr,Mr,Mb,reduceIte])
   have:=h w1 g
   simp only[right,b,d] at this
   simpa using this
  ·(try simp only[↓Mr,Mr,Mb,reduceIte])
   have:=h w (Below.refl _ _)
   simp only[right,b,d] at this
   simpa using this
 ·have c:decide (((base a).2:Int)≤3)=false:=by simp only[decide_eq_false_iff_not];omega
  simp only[↓Mr,Mr,Mb,reduceIte,c]
  have:=h w (Below.refl _ _)
  simp only[right,b] at this
  simpa using this)
theorem X1m (a:List UInt8) (c:a.length≤140737488355328) (h: ∀w',Below w.heap.size w w'→K (S (elem a)) w'):Q0 P F.cB [S a] w K:=Q5P (by
 unfold Q0t
 refine Q5D a _ c (by simp) ?_
 rw[Q1Q,Q0I]
 (try simp only[↓Mr,Mr,Mb,reduceIte])
 cases b:D3 a
 ·(try simp only[↓Mr,Mr,Mb,reduceIte])
  have:=h w (Below.refl _ _)
  simp only[elem,b] at this
  exact this
 ·(try simp only[↓Mr,Mr,Mb,reduceIte])
  refine Zz a c fun w1 e=>?_
  have:=h w1 e
  cases d:right a
  ·(try simp only[↓Mr,Mr,Mb,reduceIte])
   simp only[elem,b,d] at this
   exact this
  ·simp only[↓Mr,Mr,Mb,reduceIte,if_true]
   simp only[elem,b,d] at this
   exact this)
theorem X28 (a:List UInt8) (b:a.length≤140737488355328) (h: ∀w',Below w.heap.size w w'→K (I (Q1f a)) w'):Q0 P F.cE [S a] w K:=Q5f (by
 unfold Q0P
 refine Q7H a b ?_
 (try simp only[↓Mr,Mr,Mb,reduceIte])
 refine Zz a b fun w1 d=>?_
 have:=h w1 d
 cases c:right a<;>(try simp only[↓Mr,Mr,Mb,reduceIte])<;>simpa [Q1f,c] using this)
end Go.Proofs.YtfppjenblllfaaaGreatDoor

namespace Go.Proofs.YtfppjenblllfaaaGreatDoor
open Go.Emb Go.RowKit Go.Kd
variable {w : World} {K : Value → World → Prop}
theorem Q0k (a:List UInt8) (c:UInt8) (h:K (I (Q03 c a)) w):Q0 P F.bD [S a, .int .u8 c.toNat] w K:=by
 refine Q5h (e:=Extern.BytealgIndexByte.indexByte) Tryz.func235 (by decide) rfl (by kernel_rfl) (by kernel_rfl) ?_ h
 have f:((List.range (ByteArray.mk a.toArray).size).find? fun i=>(ByteArray.mk a.toArray)[i]! ==c)=a.findIdx? (fun b=>decide (b=c)):=by
  rw[C9]
  refine Q1E _ _ a fun i g=>?_
  have:(ByteArray.mk a.toArray)[i]! =a[i]:=by
   rw[getElem!_pos _ _ (by rw[C9];exact g)];rfl
  rw[this,Bool.eq_iff_iff];simp
 have d:((c.toNat:Int).toNat.toUInt8)=c:=by simp
 have:=run_indexByte_string (P:=P) ⟨a.toArray⟩ c.toNat w
 rw[d] at this
 refine this.trans ?_
 unfold firstIdx Q03
 rw[f]
 cases a.findIdx? (fun b=>decide (b=c))<;>rfl
theorem Q9q (a:List UInt8) (c:UInt8) (h:K (I (Q03 c a)) w):Q0 P F.bp [S a,S [c]] w K:=Kn (by
 unfold Ly
 simp only[D2 X7]
 have i:decide ((([c]:List UInt8).length:Int)=0)=false:=rfl
 have g:decide ((([c]:List UInt8).length:Int)=1)=true:=rfl
 simp only[Q07,i,g]
 simp only[↓Mr,Mr,Mb,reduceIte]
 have d:E2 P T.c (S [c]) (I 0) w fun e w=>Q0 P F.ar [S a,e] w fun b w=>K b w:=by
  rw[Qd X7 (by omega) (by simp)]
  refine Hs ?_
  unfold Jg
  exact Q0k a c h
 cases f:decide ([c]=a)
 ·(try simp only[↓Mr,Mr,Mb,reduceIte])
  exact d
 ·(try simp only[↓Mr,Mr,Mb,reduceIte])
  have j:[c]=a:=by simpa using f
  have:Q03 c a=0:=by rw[←j];simp[Q03,List.findIdx?_cons]
  rw[this] at h;exact h)
theorem Q9f {c:UInt8} {a:List UInt8} {i:Nat} (h:a.findIdx? (fun b=>decide (b=c))=some i):i<a.length:=by
 have:=List.findIdx?_eq_some_iff_getElem.1 h
 exact this.1
theorem X2p (a:List UInt8) (f:a.length≤140737488355328) (h: ∀w',Below w.heap.size w w'→K (.tuple #[S (T0 a).1,S (T0 a).2.1, .bool (T0 a).2.2]) w'):Q0 P F.cb [S a,S [46]] w K:=Q3n (by
 unfold Gw
 refine Q0l ?_
 unfold Om
 refine Q9q a 46 ?_
 rw[Fc] at h
 unfold Q03
 cases c:a.findIdx? (fun b=>decide (b=46)) with
 | none=>
  simp only[↓Mr,Mr,Mb,reduceIte,show decide ((0:Int)≤ -1)=false from rfl]
  have:=h w (Below.refl _ _)
  rw[c] at this;exact this
 | some i=>
  have g:=Q9f c
  have d:decide ((0:Int)≤(i:Int))=true:=by simp
  simp only[Q0c,d]
  simp only[↓Mr,Mr,Mb,reduceIte]
  refine Mz (Below.refl _ w) ?_
  refine X2 (S (a.take i)) (fun w1 _=>?_) ?_
  ·rw[I7 X7 (by omega) (by omega)];exact X6 (by simp)
  refine X2 (I 1) (fun w1 _=>?_) ?_
  ·rw[D2 X7];exact X6 rfl
  refine X2 (I (i+1)) ?_ ?_
  ·rintro _ w1 _ rfl
   rw[Ch,B1 (by omega) (by omega)];exact X6 rfl
  refine X2 (S (a.drop (i+1))) ?_ ?_
  ·rintro _ w1 _ rfl
   rw[Wz X7 (by omega) (by omega)];exact X6 (by simp)
  rintro _ _ _ _ w1 e rfl rfl rfl rfl
  (try simp only[↓Mr,Mr,Mb,reduceIte])
  have:=h w1 e
  rw[c] at this;exact this)
theorem X1h (a:List UInt8) (y:a.length≤140737488355328) (h: ∀w',Below w.heap.size w w'→K (if Xq a then .tuple #[S (T0 a).1,S (T0 a).2.1,I 0] else .tuple #[S [],S [],I 30]) w'):Q0 P F.cu [S a] w K:=Q4L (by
 unfold Po
 refine X2p a y fun w1 e=>?_
 have s:(T0 a).1.length≤a.length∧(T0 a).2.1.length≤a.length:=by
  rw[Fc]
  cases a.findIdx? (fun b=>decide (b=46))<;>simp[Q1R]
  omega
 generalize z:(T0 a).1=p at h s
 generalize t:(T0 a).2.1=q at h s
 have g:Xq a=((T0 a).2.2&&W2 p&&L8 q):=by rw[Xq,z,t]
 cases l:(T0 a).2.2
 ·simp only[↓Mr,Mr,Mb,reduceIte]
  have:=h w1 e
  rw[g,l] at this;simpa using this
 ·simp only[↓Mr,Mr,Mb,reduceIte]
  refine Dq p (by omega) fun v j=>?_
  have d:=e.trans (j.mono e.size)
  cases o:W2 p
  ·(try simp only[↓Mr,Mr,Mb,reduceIte])
   have:=h v d
   rw[g,l,o] at this;simpa using this
  ·(try simp only[↓Mr,Mr,Mb,reduceIte])
   refine Q4H q (by omega) fun A m=>?_
   have f:=d.trans (m.mono d.size)
   have:=h A f
   rw[g,l,o] at this
   cases n:name q
   ·(try simp only[↓Mr,Mr,Mb,reduceIte])
    have k:L8 q=false:=by cases q with | nil=>rfl | cons c r=>simp[L8,n]
    rw[k] at this;simpa using this
   ·(try simp only[↓Mr,Mr,Mb,reduceIte])
    cases q with
    | nil=>simp[name] at n
    | cons c r=>
     rw[Qd X7 (by omega) (by simp)]
     have i:(c::r)[(0:Int).toNat]'(by simp)=c:=rfl
     (try simp only[↓Mr,Mr,Mb,reduceIte])
     rw[i,Q0Z Q2d Q61,w32 (by omega) (by have:=c.toNat_lt;omega)]
     refine Q65 _ ?_
     have k:L8 (c::r)=I3 c.toNat:=by simp[L8,n]
     rw[k] at this
     cases u:I3 c.toNat<;>(try simp only[↓Mr,Mr,Mb,reduceIte])<;>rw[u] at this<;>simpa using this)
theorem Pl (a:List UInt8) (h:K (.bool (plain a)) w):Q0 P F.ad [S a] w K:=Bm (by
 unfold Vz
 refine V5 ?_
 (try simp only[↓Mr,Mr,Mb,reduceIte])
 cases b:decide (a=[105,110,116])
 ·cases c:decide (a=[98,111,111,108])
  ·cases d:decide (a=[116,101,120,116])<;>(try simp only[↓Mr,Mr,Mb,reduceIte])<;>intro _<;>(try simp only[↓Mr,Mr,Mb,reduceIte])<;>simpa [plain,b,c,d] using h
  ·(try simp only[↓Mr,Mr,Mb,reduceIte])
   intro _
   (try simp only[↓Mr,Mr,Mb,reduceIte])
   simpa [plain,b,c] using h
 ·(try simp only[↓Mr,Mr,Mb,reduceIte])
  intro _
  (try simp only[↓Mr,Mr,Mb,reduceIte])
  simpa [plain,b] using h)
def X05 (a:List UInt8) (w:World) (x:Value) (w':World):Prop:=
 w=w'∧ ∃i:Nat,x=I i∧i≤a.length∧(0<i→(a.head?.map fun c=>R0 c.toNat)=some false)∧(a.take i).all (fun b=>D9 b.toNat)=true
def Q3C (a:List UInt8) (x:Value):Nat:=match x with | .int _ i=>a.length-i.toNat | _=>0
theorem Q51 (a:List UInt8) (Q:a.length≤140737488355328) (h:K (.bool (name a)) w):Q0 P F.aJ [S a] w K:=Kp (by
 unfold Mw
 refine Ym (X05 a w) (fun x _=>Q3C a x) ⟨rfl,0,rfl,by omega,by omega,by simp⟩ ?_
 rintro _ _ _ ⟨rfl,i,rfl,O,M,j⟩
 rw[D2 X7]
 (try simp only[↓Mr,Mr,Mb,reduceIte])
 by_cases l:i<a.length
 ·have D:decide ((i:Int)<a.length)=true:=by simp only[decide_eq_true_eq];omega
  simp only[D,↓Mr,Mr,Mb,reduceIte]
  have d: ∀A:Value→World→Prop,E2 P T.c (S a) (I i) w A=A (.int .u8 (a[i]'l).toNat) w:=fun A=>by
   rw[Qd X7 (by omega) (by simpa using l)];simp
  generalize p:a[i]=c at d
  have e:D9 c.toNat=false∨(i=0∧R0 c.toNat=true)→name a=false:=by
   intro v
   cases a with
   | nil=>rfl
   | cons L r=>
    simp only[name]
    rcases v with v | ⟨rfl,v⟩
    ·have:(L::r).all (fun b=>D9 b.toNat)=false:=by
      rw[List.all_eq_false]
      exact ⟨c,by rw[←p];exact List.getElem_mem _,by simp[v]⟩
     rw[this];simp
    ·simp only[List.getElem_cons_zero] at p
     rw[p,v];simp
  have f:D9 c.toNat=true→(i=0→R0 c.toNat=false)→X05 a w (I (IntKind.i64.wrap ((i:Int)+1))) w∧Q3C a (I (IntKind.i64.wrap ((i:Int)+1)))<Q3C a (I i):=by
   intro C H
   rw[B1 (by omega) (by omega)]
   refine ⟨⟨rfl,i+1,by simp,by omega,fun _=>?_,?_⟩,by simp only[Q3C];omega⟩
   ·by_cases q:0<i
    ·exact M q
    ·obtain rfl:i=0:=by omega
     cases a with
     | nil=>simp at l
     | cons L r=>simp only[List.getElem_cons_zero] at p;subst p;simp[H rfl]
   ·rw[List.take_add_one,List.getElem?_eq_getElem l,p]
    simp[j,C]
  have B:=c.toNat_lt
  have t:decide ((i:Int)=0)=decide (i=0):=by rw[Bool.eq_iff_iff];simp
  by_cases n:97≤(c.toNat:Int)
  ·by_cases z:(c.toNat:Int)≤122
   ·simp only[d,decide_eq_true n,decide_eq_true z,↓Mr,Mr,Mb,reduceIte]
    exact f (by simp[D9,I3,n,z]) (fun _=>by simp[R0];omega)
   ·have o:(65:Int)≤c.toNat:=by omega
    have s: ¬(c.toNat:Int)≤90:=by omega
    have g: ¬(c.toNat:Int)<48:=by omega
    have k:(57:Int)<c.toNat:=by omega
    simp only[d,decide_eq_true n,decide_eq_false z,decide_eq_true o,decide_eq_false s,decide_eq_false g,decide_eq_true k,t,↓Mr,Mr,Mb,reduceIte]
    have m:=e (.inl (by simp[D9,T6,I3,R0];omega))
    rw[m] at h
    cases decide (i=0)<;>(try simp only[d,decide_eq_false g,decide_eq_true k,↓Mr,Mr,Mb,reduceIte])<;>exact h
  ·by_cases o:(65:Int)≤c.toNat
   ·by_cases s:(c.toNat:Int)≤90
    ·simp only[d,decide_eq_false n,decide_eq_true o,decide_eq_true s,↓Mr,Mr,Mb,reduceIte]
     exact f (by simp[D9,T6,o,s]) (fun _=>by simp[R0];omega)
    ·have g: ¬(c.toNat:Int)<48:=by omega
     have k:(57:Int)<c.toNat:=by omega
     simp only[d,decide_eq_false n,decide_eq_true o,decide_eq_false s,decide_eq_false g,decide_eq_true k,t,↓Mr,Mr,Mb,reduceIte]
     have m:=e (.inl (by simp[D9,T6,I3,R0];omega))
     rw[m] at h
     cases decide (i=0)<;>(try simp only[d,decide_eq_false g,decide_eq_true k,↓Mr,Mr,Mb,reduceIte])<;>exact h
   ·by_cases g:(c.toNat:Int)<48
    ·simp only[d,decide_eq_false n,decide_eq_false o,decide_eq_true g,t,↓Mr,Mr,Mb,reduceIte]
     have m:=e (.inl (by simp[D9,T6,I3,R0];omega))
     rw[m] at h
     cases decide (i=0)<;>(try simp only[d,decide_eq_true g,↓Mr,Mr,Mb,reduceIte])<;>exact h
    ·by_cases k:(57:Int)<c.toNat
     ·simp only[d,decide_eq_false n,decide_eq_false o,decide_eq_false g,decide_eq_true k,t,↓Mr,Mr,Mb,reduceIte]
      have m:=e (.inl (by simp[D9,T6,I3,R0];omega))
      rw[m] at h
      cases decide (i=0)<;>(try simp only[d,decide_eq_false g,decide_eq_true k,↓Mr,Mr,Mb,reduceIte])<;>exact h
     ·have u:R0 c.toNat=true:=by simp[R0];omega
      simp only[d,decide_eq_false n,decide_eq_false o,decide_eq_false g,decide_eq_false k,t,↓Mr,Mr,Mb,reduceIte]
      by_cases q:i=0
      ·have m:=e (.inr ⟨q,u⟩)
       rw[m] at h
       simp only[decide_eq_true q,d,decide_eq_false g,decide_eq_false k,↓Mr,Mr,Mb,reduceIte]
       exact h
      ·simp only[decide_eq_false q,d,decide_eq_false g,decide_eq_false k,↓Mr,Mr,Mb,reduceIte]
       exact f (by simp[D9,u]) (fun h=>absurd h q)
 ·have D:decide ((i:Int)<a.length)=false:=by simp only[decide_eq_false_iff_not];omega
  obtain rfl:i=a.length:=by omega
  simp only[D,↓Mr,Mr,Mb,reduceIte]
  rw[D2 X7]
  cases a with
  | nil=>
   have E:decide ((1:Int)≤(([]:List UInt8).length:Int))=false:=rfl
   simp only[E,↓Mr,Mr,Mb,reduceIte];exact h
  | cons c r=>
   have E:decide ((1:Int)≤((c::r).length:Int))=true:=by simp only[decide_eq_true_eq,List.length_cons];omega
   have y:=M (by simp)
   simp only[List.head?_cons,Option.map_some,Option.some.injEq] at y
   simp only[List.take_length] at j
   have J:name (c::r)=decide ((c::r).length≤32):=by simp only[name,y,j];simp
   have N:decide (((c::r).length:Int)≤32)=decide ((c::r).length≤32):=by rw[Bool.eq_iff_iff];simp only[decide_eq_true_eq];omega
   simp only[E,D2 X7,N,↓Mr,Mr,Mb,reduceIte]
   rw[←J];exact h)
theorem Bn {c:UInt8} {r:List UInt8} (h:name (c::r)=true):D9 c.toNat=true∧R0 c.toNat=false:=by
 simp only[name,Bool.and_eq_true,List.all_cons,Bool.not_eq_true'] at h
 exact ⟨h.2.1,h.1.2⟩
theorem Qm (a:List UInt8) (e:a.length≤140737488355328) (h:K (.bool (W2 a)) w):Q0 P F.e [S a] w K:=Gt (by
 unfold Wi
 refine Q51 a e ?_
 cases a with
 | nil=>simp only[name,↓Mr,Mr,Mb,reduceIte];exact h
 | cons c r=>
  cases d:name (c::r)
  ·(try simp only[↓Mr,Mr,Mb,reduceIte])
   simpa [W2,d] using h
  ·(try simp only[↓Mr,Mr,Mb,reduceIte])
   rw[Qd X7 (by omega) (by simp)]
   have b:(c::r)[(0:Int).toNat]'(by simp)=c:=rfl
   (try simp only[↓Mr,Mr,Mb,reduceIte])
   rw[b]
   obtain ⟨g,f⟩:=Bn d
   have:decide ((c.toNat:Int)≤90)=T6 c.toNat:=by
    simp only[D9,T6,I3,R0,Bool.or_eq_true,Bool.and_eq_true,Bool.and_eq_false_iff,decide_eq_true_eq,decide_eq_false_iff_not] at g f⊢
    rw[Bool.eq_iff_iff];simp only[Bool.and_eq_true,decide_eq_true_eq];omega
   rw[this]
   simpa [W2,d] using h)
theorem Bh (a:List UInt8) (e:a.length≤140737488355328) (h:K (.bool (L8 a)) w):Q0 P F.r [S a] w K:=Sz (by
 unfold Vl
 refine Q51 a e ?_
 cases a with
 | nil=>simp only[name,↓Mr,Mr,Mb,reduceIte];exact h
 | cons c r=>
  cases d:name (c::r)
  ·(try simp only[↓Mr,Mr,Mb,reduceIte])
   simpa [L8,d] using h
  ·(try simp only[↓Mr,Mr,Mb,reduceIte])
   rw[Qd X7 (by omega) (by simp)]
   have b:(c::r)[(0:Int).toNat]'(by simp)=c:=rfl
   (try simp only[↓Mr,Mr,Mb,reduceIte])
   rw[b]
   obtain ⟨g,f⟩:=Bn d
   have:decide ((97:Int)≤c.toNat)=I3 c.toNat:=by
    simp only[D9,T6,I3,R0,Bool.or_eq_true,Bool.and_eq_true,Bool.and_eq_false_iff,decide_eq_true_eq,decide_eq_false_iff_not] at g f⊢
    rw[Bool.eq_iff_iff];simp only[Bool.and_eq_true,decide_eq_true_eq];omega
   rw[this]
   simpa [L8,d] using h)
def X2q (a:List UInt8) (w:World) (x:Value×Value) (w':World):Prop:=
 w=w'∧ ∃(b:List UInt8) (n:Nat),x=(S b,I n)∧b.length+2*n=a.length∧(base a).2=(base b).2+n
def X0l (x:Value×Value):Nat:=match x.1 with | .string s=>s.size | _=>0
theorem Q0W (a:List UInt8) (j:a.length≤140737488355328) (h:K (I (base a).2) w):Q0 P F.al [S a] w K:=Ko (by
 unfold Mv
 refine Ym (X2q a w) (fun x _=>X0l x) ⟨rfl,a,0,rfl,by omega,rfl⟩ ?_
 rintro _ _ _ ⟨rfl,b,n,rfl,k,c⟩
 rw[D2 X7]
 (try simp only[↓Mr,Mr,Mb,reduceIte])
 by_cases f:2≤b.length
 ·have e:decide ((2:Int)≤b.length)=true:=by simp only[decide_eq_true_eq];omega
  simp only[e,D2 X7,↓Mr,Mr,Mb,reduceIte]
  rw[B1 (by omega) (by omega),Wz X7 (by omega) (by omega)]
  rw[show ((b.length:Int)-2).toNat=b.length-2 from by omega]
  have i:decide (b.drop (b.length-2)=[91,93])=D3 b:=by simp[D3,f]
  simp only[i,↓Mr,Mr,Mb,reduceIte]
  cases d:D3 b
  ·(try simp only[↓Mr,Mr,Mb,reduceIte])
   rw[Zv b,d] at c
   simp only[Bool.false_eq_true,if_false,Nat.zero_add] at c
   rw[c] at h;exact h
  ·(try simp only[D2 X7,↓Mr,Mr,Mb,reduceIte])
   rw[I7 X7 (by omega) (by omega)]
   rw[show ((b.length:Int)-2).toNat=b.length-2 from by omega]
   have g:=P7 d
   refine ⟨⟨rfl,Kd.cutA b,n+1,?_,by omega,?_⟩,?_⟩
   ·simp only[Kd.cutA,Prod.mk.injEq,true_and]
    first | rfl | (rw[B1 (by omega) (by omega)];rfl)
   ·rw[c,Zv b,d];simp;omega
   ·simp only[X0l,C9,List.length_take];omega
 ·have e:decide ((2:Int)≤b.length)=false:=by simp only[decide_eq_false_iff_not];omega
  simp only[e,↓Mr,Mr,Mb,reduceIte]
  have d:D3 b=false:=by simp[D3,f]
  rw[Zv b,d] at c
  simp only[Bool.false_eq_true,if_false,Nat.zero_add] at c
  rw[c] at h;exact h)
theorem Q30 (a:List UInt8):a.take (a.length-2*(base a).2)=(base a).1:=by
 have key: ∀n (a:List UInt8),a.take (a.length-2*(Qx n a).2)=(Qx n a).1:=by
  intro n
  induction n with
  | zero=>intro a;simp[Qx]
  | succ n b=>
   intro a
   simp only[Qx]
   split
   ·rename_i h
    have c:=P7 h
    simp only
    rw[←b (Kd.cutA a)]
    rw[Kd.cutA,List.take_take,List.length_take]
    congr 1
    omega
   ·simp
 exact key _ a
theorem Ve (a:List UInt8) (e:a.length≤140737488355328) (h:K (.bool (right a)) w):Q0 P F.i [S a] w K:=Gp (by
 unfold Wn
 have f:=Ax a
 refine Q0W a e ?_
 rw[D2 X7]
 (try simp only[↓Mr,Mr,Mb,reduceIte])
 rw[B1 (n:=2*((base a).2:Int)) (by omega) (by omega),B1 (by omega) (by omega),I7 X7 (by omega) (by omega)]
 rw[show ((a.length:Int)-2*((base a).2:Int)).toNat=a.length-2*(base a).2 from by omega,Q30]
 (try simp only[↓Mr,Mr,Mb,reduceIte])
 by_cases b:(base a).2≤3
 ·have c:decide (((base a).2:Int)≤3)=true:=by simp only[decide_eq_true_eq];omega
  simp only[c,↓Mr,Mr,Mb,reduceIte]
  refine Pl _ ?_
  cases d:plain (base a).1
  ·(try simp only[↓Mr,Mr,Mb,reduceIte])
   refine Qm _ (by omega) ?_
   (try simp only[↓Mr,Mr,Mb,reduceIte])
   simpa [right,b,d] using h
  ·(try simp only[↓Mr,Mr,Mb,reduceIte])
   simpa [right,b,d] using h
 ·have c:decide (((base a).2:Int)≤3)=false:=by simp only[decide_eq_false_iff_not];omega
  simp only[c,↓Mr,Mr,Mb,reduceIte]
  simpa [right,b] using h)
def X1p (a:List UInt8) (w:World) (x:Value) (w':World):Prop:=
 w=w'∧ ∃n:Nat,x=I n∧n≤a.length∧(∀i,(h:i<n)→(b:i<a.length)→a[i]≠46)
def Q8F (a:List UInt8) (x:Value):Nat:=match x with | .int _ n=>(a.length-n).toNat | _=>0
theorem Q2P (a:List UInt8) (L:a.length≤140737488355328) (h: ∀w',Below w.heap.size w w'→K (if (T0 a).2.2 then .tuple #[S (T0 a).1,S (T0 a).2.1, .bool (Xq a)] else .tuple #[S [],S [], .bool false]) w'):Q0 P F.bh [S a] w K:=Fv (by
 unfold We
 refine Ym (X1p a w) (fun x _=>Q8F a x) ⟨rfl,0,rfl,by omega,by omega⟩ ?_
 rintro _ _ _ ⟨rfl,n,rfl,M,v⟩
 rw[D2 X7]
 (try simp only[↓Mr,Mr,Mb,reduceIte])
 by_cases H:n<a.length
 ·have o:decide ((n:Int)<a.length)=true:=by simp only[decide_eq_true_eq];omega
  simp only[o,↓Mr,Mr,Mb,reduceIte]
  rw[Qd X7 (by omega) (by omega)]
  (try simp only[↓Mr,Mr,Mb,reduceIte])
  simp only[Int.toNat_natCast]
  have C:decide (((a[n]).toNat:Int)=46)=decide (a[n]=46):=by
   rw[Bool.eq_iff_iff];simp only[decide_eq_true_eq]
   constructor
   ·intro e;exact UInt8.toNat_inj.1 (by have:(46:UInt8).toNat=46:=rfl;omega)
   ·intro e;rw[e];rfl
  rw[C]
  by_cases m:a[n]=46
  ·simp only[m,decide_true,↓Mr,Mr,Mb,reduceIte]
   have l:T0 a=(a.take n,a.drop (n+1),true):=by
    have:a.findIdx? (fun b=>decide (b=46))=some n:=by
     rw[List.findIdx?_eq_some_iff_getElem]
     exact ⟨H,by simpa using m,fun j D=>by simpa using v j D (by omega)⟩
    rw[Fc,this];rfl
   have q:Xq a=(W2 (a.take n)&&L8 (a.drop (n+1))):=by simp[Xq,l]
   rw[l,q] at h
   have u:((n:Int)+1).toNat=n+1:=by omega
   have p:(a.take n).length≤140737488355328:=by simp only[List.length_take];omega
   have y:(a.drop (n+1)).length≤140737488355328:=by simp only[List.length_drop];omega
   have B: ∀{w:World} {K:Value→World→Prop},K (S (a.take n)) w→E6 P T.c (S a) none (some (I n)) none w K:=by
    intro w K h
    rw[I7 X7 (by omega) (by omega),show ((n:Int)).toNat=n from by omega];exact h
   have A: ∀{w:World} {K:Value→World→Prop},K (S (a.drop (n+1))) w→E6 P T.c (S a) (some (I (n+1))) none none w K:=by
    intro w K h
    rw[Wz X7 (by omega) (by omega),u];exact h
   refine Mz (Below.refl _ _) ?_
   refine X2 (S (a.take n)) (fun w c=>B (X6 rfl)) ?_
   refine X2 (I (n+1)) (fun w c=>X6 (by rw[B1 (by omega) (by omega)])) ?_
   refine X2 (S (a.drop (n+1))) (fun t w c e=>by rw[e];exact A (X6 rfl)) ?_
   refine X2 (S (a.take n)) (fun w c=>B (X6 rfl)) ?_
   refine X2 (.bool (W2 (a.take n))) (fun t w c e=>by rw[e];exact Qm _ p (X6 rfl)) ?_
   cases g:W2 (a.take n)
   ·refine X2 undef (fun t w c e=>by rw[e,Jx];exact X6 rfl) ?_
    refine X2 undef (fun t w c e=>by rw[e,Jx];exact X6 rfl) ?_
    refine X2 undef (fun t f w c e d=>by rw[e,Jx];exact X6 rfl) ?_
    refine X2 undef (fun t f r w c e d k=>by rw[e,Jx];exact X6 rfl) ?_
    refine X2 undef (fun t f w c e d=>by rw[e,Jx];exact X6 rfl) ?_
    refine X2 (.bool false) (fun t f w c e d=>by rw[e,Dh];exact X6 rfl) ?_
    rintro _ _ _ _ _ _ _ _ _ _ _ w1 c rfl rfl rfl rfl rfl rfl rfl rfl rfl rfl rfl
    rw[g] at h
    exact h w1 (by simpa using c)
   ·refine X2 (S a) (fun t w c e=>by rw[e,G7];exact X6 rfl) ?_
    refine X2 (I n) (fun t w c e=>by rw[e,G7];exact X6 rfl) ?_
    refine X2 (I (n+1)) (fun t f w c e d=>by rw[e,d,G7];simp only[↓Mr,Mr,Mb,reduceIte];exact X6 (by rw[B1 (by omega) (by omega)])) ?_
    refine X2 (S (a.drop (n+1))) (fun t f r w c e d k=>by rw[e,d,k,G7];exact A (X6 rfl)) ?_
    refine X2 (.bool (L8 (a.drop (n+1)))) (fun t f w c e d=>by rw[e,d,G7];exact Bh _ y (X6 rfl)) ?_
    refine X2 (.bool (L8 (a.drop (n+1)))) (fun t f w c e d=>by rw[e,d,Rp];exact X6 rfl) ?_
    rintro _ _ _ _ _ _ _ _ _ _ _ w1 c rfl rfl rfl rfl rfl rfl rfl rfl rfl rfl rfl
    rw[g] at h
    exact h w1 (by simpa using c)
  ·simp only[m,decide_false,↓Mr,Mr,Mb,reduceIte]
   rw[B1 (by omega) (by omega)]
   refine ⟨⟨rfl,n+1,rfl,by omega,fun i z J=>?_⟩,?_⟩
   ·by_cases s:i=n
    ·subst s;exact m
    ·exact v i (by omega) J
   ·simp only[Q8F];omega
 ·have o:decide ((n:Int)<a.length)=false:=by simp only[decide_eq_false_iff_not];omega
  simp only[o,↓Mr,Mr,Mb,reduceIte]
  have l:(T0 a).2.2=false∧(T0 a).1=a∧(T0 a).2.1=[]:=by
   have:a.findIdx? (fun b=>decide (b=46))=none:=by
    rw[List.findIdx?_eq_none_iff]
    intro x E
    obtain ⟨i,z,rfl⟩:=List.getElem_of_mem E
    simpa using v i (by omega) z
   rw[Fc,this];exact ⟨rfl,rfl,rfl⟩
  rw[l.1] at h
  exact h w (Below.refl _ _))
end Go.Proofs.YtfppjenblllfaaaGreatDoor

namespace Go.Emb
open Go.RowKit
class TZ (P : Program) (t : TypeId) (sz b : outParam Nat) (z : outParam Value) : Prop where
  h : (P.info? t).map (fun i => (i.size, i.bytes, i.zero)) = some (sz, b, some z)
def Q8v:Option TypeDesc→Bool
 | some (.struct _)=>true
 | some (.array _ _)=>true
 | none=>true
 | _=>false
class TG (P : Program) (t : TypeId) (g : outParam Bool) : Prop where
  h : (Q8v (P.underlying t), (P.underlying t).isSome) = (g, true)
class TS (P : Program) (t : TypeId) (e : outParam TypeId) : Prop where
  h : P.underlying t = some (.slice e)
class TA (P : Program) (t : TypeId) (n : outParam Nat) (e : outParam TypeId) : Prop where
  h : P.underlying t = some (.array n e)
class TM (P : Program) (t : TypeId) (k e : outParam TypeId) : Prop where
  h : P.underlying t = some (.map k e)
def Q2o (d:Option TypeDesc) (k:Nat):Option (Nat×TypeId):=match d with
 | some (.struct a)=>(a[k]?).map fun f=>(f.offset,f.type)
 | _=>none
class TF (P : Program) (t : TypeId) (k : Nat) (off : outParam Nat) (ft : outParam TypeId) : Prop where
  h : Q2o (P.underlying t) k = some (off, ft)
variable {P : Program} {w w0 w1 w' w'' : World} {K : Value → World → Prop}
theorem TZ.info {t:TypeId} {sz b:Nat} {z:Value} (h:TZ P t sz b z): ∃i,P.info? t=some i∧i.size=sz∧i.bytes=b∧i.zero=some z:=by
 obtain ⟨i,a,e⟩:=Option.map_eq_some_iff.1 h.h
 simp only[Prod.mk.injEq] at e
 exact ⟨i,a,e.1,e.2.1,e.2.2⟩
theorem W4 {t:TypeId} {sz b:Nat} {z:Value} (h:TZ P t sz b z) (w:World):(sizeOf t).run P w= .ok sz w:=by
 obtain ⟨i,a,rfl,_⟩:=h.info
 simp[sizeOf,typeInfo,a]
theorem Xp {t:TypeId} {sz b:Nat} {z:Value} (h:TZ P t sz b z) (w:World):(zeroValue t).run P w= .ok z w:=by
 obtain ⟨i,c,_,_,a⟩:=h.info
 simp[zeroValue,typeInfo,c,a]
theorem Yw {t:TypeId} {g:Bool} (h:TG P t g) (w:World):(isAgg t).run P w= .ok g w:=by
 have hh:=h.h
 simp only[Prod.mk.injEq] at hh
 obtain ⟨c,b⟩:=hh
 cases a:P.underlying t with
 | none=>rw[a] at b;cases b
 | some d=>
  rw[a] at c
  have:=run_underlying (P:=P) (w:=w) a
  simp only[isAgg,Sem.run_bind,this,Result.andThen_ok]
  cases d<;>simp_all [Q8v]
theorem Cr (a:Addr) (i j:Nat):(a.add i).add j=a.add (i+j):=by
 unfold Addr.add
 by_cases c:i=0
 ·simp[c]
 ·by_cases b:j=0
  ·simp[b]
  ·simp[c,b,Nat.add_assoc]
theorem add_zero (a:Addr):a.add 0=a:=by simp[Addr.add]
theorem C0 (a:Addr) (i:Nat):(a.add i).block=a.block:=by unfold Addr.add;split<;>rfl
theorem Xt (a:Addr) (i:Nat):(a.add i).off=a.off+i:=by unfold Addr.add;split<;>simp_all
theorem G5 {a:Addr} (h:a.spot=none) (i:Nat):(a.add i).spot=none:=by unfold Addr.add;split<;>simp_all
abbrev Q4:=Nat→Option Obj
def X4 (w:World) (σ:Q4):Prop:= ∀b o,σ b=some o→w.heap[b]? =some o
structure Stp (w : World) (σ : Q4) (w' : World) (σ' : Q4) : Prop where
  bel : Below w.heap.size w w'
  sat : X4 w' σ'
  le : ∀ b o, σ b = some o → σ' b = some o
  old : ∀ b, b < w.heap.size → σ' b = σ b
theorem X4.lt {σ:Q4} (h:X4 w σ) {b:Nat} {o:Obj} (a:σ b=some o):b<w.heap.size:=(Array.getElem?_eq_some_iff.1 (h b o a)).1
theorem X4.below {σ:Q4} (h:X4 w σ) (a:Below w.heap.size w w'):X4 w' σ:=fun b o e=>(a.block b (h.lt e)).trans (h b o e)
theorem Stp.refl {σ:Q4} (h:X4 w σ):Stp w σ w σ:=⟨Below.refl _ _,h,fun _ _ e=>e,fun _ _=>rfl⟩
theorem Stp.trans {σ0 σ1 c:Q4} (h:Stp w σ0 w' σ1) (k:Stp w' σ1 w'' c):Stp w σ0 w'' c:=
 ⟨h.bel.trans (k.bel.mono h.bel.size),k.sat,fun b o e=>k.le b o (h.le b o e),fun b a=>(k.old b (Nat.lt_of_lt_of_le a h.bel.size)).trans (h.old b a)⟩
theorem Stp.of_below {σ:Q4} (h:X4 w σ) (a:Below w.heap.size w w'):Stp w σ w' σ:=⟨a,h.below a,fun _ _ e=>e,fun _ _=>rfl⟩
def Q4.put (σ:Q4) (b:Nat) (o:Obj):Q4:=fun k=>if k=b then some o else σ k
theorem X4.none {σ:Q4} (h:X4 w σ) {b:Nat} (a:w.heap.size≤b):σ b=none:=by
 cases e:σ b with
 | none=>rfl
 | some o=>have:=h.lt e;omega
theorem Stp.alloc {σ:Q4} (h:X4 w σ) (o:Obj):Stp w σ (w.alloc o) (σ.put w.heap.size o):=by
 refine ⟨(Below.refl _ _).alloc (Nat.le_refl _) o,?_,?_,?_⟩
 ·intro b p e
  by_cases a:b=w.heap.size
  ·subst a
   simp only[Q4.put,if_true] at e
   cases e
   exact heap_alloc_new w o
  ·simp only[Q4.put,if_neg a] at e
   rw[Below.heap_alloc w o b (h.lt e)];exact h b p e
 ·intro b p e
  have:=h.lt e
  simp only[Q4.put];rw[if_neg (by omega)];exact e
 ·intro b a
  simp only[Q4.put];rw[if_neg (by omega)]
theorem Stp.own {σ:Q4} (h:X4 w σ) (o:Obj):Stp w σ (w.alloc o) σ:=Stp.of_below h ((Below.refl _ _).alloc (Nat.le_refl _) o)
def Z3 (σ:Q4) (a:Addr) (cs:List Value):Prop:=a.spot=none∧ ∃D3 e b,σ a.block=some (.cells D3 e b)∧ ∀i v,cs[i]? =some v→D3[a.off+i]? =some v
theorem Z3.up {σ σ':Q4} {a:Addr} {cs:List Value} (h:Z3 σ a cs) (f:Stp w σ w' σ'):Z3 σ' a cs:=by
 obtain ⟨d,D3,e,g,c,b⟩:=h
 exact ⟨d,D3,e,g,f.le _ _ c,b⟩
theorem Z3.cell {σ:Q4} {a:Addr} {cs:List Value} (h:Z3 σ a cs) (f:X4 w σ) {i:Nat} {v:Value} (g:cs[i]? =some v):w.cell? (a.add i)=some v:=by
 obtain ⟨d,D3,e,j,c,b⟩:=h
 have:=f _ _ c
 unfold World.cell?
 rw[C0,this,Xt,G5 d]
 exact b i v g
def Z5 (σ:Q4) (w:World) (b:Nat) (cs:List Value):Prop:=σ b=none∧ ∃e,w.heap[b]? =some (.cells cs.toArray e (0,0))
theorem Z5.lt {σ:Q4} {b:Nat} {cs:List Value} (h:Z5 σ w b cs):b<w.heap.size:=by
 obtain ⟨_,e,h⟩:=h
 exact (Array.getElem?_eq_some_iff.1 h).1
theorem Z5.up {σ σ':Q4} {b:Nat} {cs:List Value} (h:Z5 σ w b cs) (a:Stp w σ w' σ'):Z5 σ' w' b cs:=by
 have c:=h.lt
 obtain ⟨f,e,d⟩:=h
 exact ⟨(a.old b c).trans f,e,(a.bel.block b c).trans d⟩
theorem Z5.cell {σ:Q4} {b:Nat} {cs:List Value} (h:Z5 σ w b cs) {i:Nat} {v:Value} (c:cs[i]? =some v):w.cell? ((⟨b,0,none⟩:Addr).add i)=some v:=by
 obtain ⟨_,e,a⟩:=h
 unfold World.cell?
 rw[C0,Xt,G5 rfl]
 simp only[a]
 simpa using c
theorem Z5.keep {σ σ0:Q4} {b:Nat} {cs:List Value} (h:Z5 σ w b cs) (d:Stp w0 σ0 w σ) (m:w0.heap.size≤b): ∃σ',Stp w0 σ0 w σ'∧Z3 σ' ⟨b,0,none⟩ cs∧(∀k o,σ k=some o→σ' k=some o)∧(∀k,k≠b→σ' k=σ k):=by
 obtain ⟨g,e,j⟩:=h
 refine ⟨σ.put b (.cells cs.toArray e (0,0)),⟨d.bel,?_,?_,?_⟩,⟨rfl,cs.toArray,e,(0,0),by simp[Q4.put],?_⟩,?_,?_⟩
 ·intro k o c
  by_cases a:k=b
  ·subst a;simp only[Q4.put,if_true] at c;cases c;exact j
  ·simp only[Q4.put,if_neg a] at c;exact d.sat k o c
 ·intro k o c
  by_cases a:k=b
  ·subst a;have:=d.le _ _ c;rw[g] at this;cases this
  ·simp only[Q4.put,if_neg a];exact d.le _ _ c
 ·intro k f
  simp only[Q4.put];rw[if_neg (by omega)];exact d.old k f
 ·intro i v l;simpa using l
 ·intro k o c
  by_cases a:k=b
  ·subst a;rw[g] at c;cases c
  ·simp only[Q4.put,if_neg a];exact c
 ·intro k a;simp only[Q4.put,if_neg a]
theorem Q6p (t:TypeId) (v:Value) (w:World):(Instr.box t v).run P w= .ok (.pointer (some ⟨w.heap.size,0,none⟩)) (w.alloc (.cells v.cells t)):=by
 simp[Instr.box,newVar,newRow]
theorem Q1j {σ:Q4} (a:X4 w σ) (cs:Array Value) (t:TypeId):Z5 σ (w.alloc (.cells cs t)) w.heap.size cs.toList:=
 ⟨a.none (Nat.le_refl _),t,by simpa using heap_alloc_new w (.cells cs t)⟩
theorem Q6T {σ:Q4} (cs:Array Value) (t:TypeId):Z3 (σ.put w.heap.size (.cells cs t)) ⟨w.heap.size,0,none⟩ cs.toList:=
 ⟨rfl,cs,t,(0,0),by simp[Q4.put],fun i v h=>by simpa using h⟩
theorem M7 {σ:Q4} {t:TypeId} {v:Value} (b:X4 w σ) (h: ∀a w' σ',Stp w σ w' σ'→Z3 σ' a v.cells.toList→K (.pointer (some a)) w'):box P t v w K:=by
 unfold box;rw[Y0 (Q6p t v w)]
 exact h _ _ _ (Stp.alloc b _) (Q6T _ t)
theorem Q9N {σ:Q4} {t:TypeId} {v:Value} (a:X4 w σ) (h: ∀b w',w.heap.size≤b→Stp w σ w' σ→Z5 σ w' b v.cells.toList→K (.pointer (some ⟨b,0,none⟩)) w'):box P t v w K:=by
 unfold box;rw[Y0 (Q6p t v w)]
 exact h _ _ (Nat.le_refl _) (Stp.own a _) (Q1j a _ t)
theorem Dx {σ:Q4} {t:TypeId} {sz by_:Nat} {z:Value} [tz:TZ P t sz by_ z] (a:X4 w σ) (h: ∀b w',w.heap.size≤b→Stp w σ w' σ→Z5 σ w' b z.cells.toList→K (.pointer (some ⟨b,0,none⟩)) w'):W6 P t w K:=by
 unfold W6
 have:(Instr.alloc t true (.tuple #[])).run P w= .ok (.pointer (some ⟨w.heap.size,0,none⟩)) (w.alloc (.cells z.cells t)):=by
  simp[Instr.alloc,Xp tz,newVar,newRow]
 rw[Y0 this]
 exact h _ _ (Nat.le_refl _) (Stp.own a _) (Q1j a _ t)
theorem Qg {t:TypeId} [tg:TG P t false] {a:Addr} {v:Value} (b:w.cell? a=some v) (h:K v w):Q2 P t (.pointer (some a)) w K:=by
 unfold Q2
 rw[Y0 (v:=v) (w':=w) (by simp[Instr.loadAt,Instr.sureAddr,loadVar,Yw tg,b])]
 exact h
theorem Dy {t:TypeId} {sz by_:Nat} {z:Value} [tg:TG P t true] [tz:TZ P t sz by_ z] {a:Addr} {cs:List Value} (c:cs.length=sz) (b: ∀j v,cs[j]? =some v→w.cell? (a.add j)=some v) (h:K (.agg cs.toArray) w):Q2 P t (.pointer (some a)) w K:=by
 unfold Q2
 have:=run_loadCells_list (P:=P) w a cs b
 rw[c] at this
 rw[Y0 (v:= .agg cs.toArray) (w':=w) (by simp[Instr.loadAt,Instr.sureAddr,loadVar,Yw tg,W4 tz,this])]
 exact h
theorem ld {σ:Q4} {t:TypeId} [TG P t false] {a:Addr} {cs:List Value} {i:Nat} {v:Value} (d:X4 w σ) (b:Z3 σ a cs) (c:cs[i]? =some v) (h:K v w):Q2 P t (.pointer (some (a.add i))) w K:=
 Qg (b.cell d c) h
theorem X8 {σ:Q4} {t:TypeId} [TG P t false] {a:Addr} {cs:List Value} {v:Value} (d:X4 w σ) (b:Z3 σ a cs) (c:cs[0]? =some v) (h:K v w):Q2 P t (.pointer (some a)) w K:=by
 have:=ld (P:=P) (t:=t) d b c h
 rwa [add_zero] at this
theorem Z1 {σ:Q4} {t:TypeId} {sz by_:Nat} {z:Value} [TG P t true] [TZ P t sz by_ z] {a:Addr} {cs:List Value} (f:X4 w σ) (b:Z3 σ a cs) (d:cs.length=sz) (h:K (.agg cs.toArray) w):Q2 P t (.pointer (some a)) w K:=
 Dy d (fun _ _ c=>b.cell f c) h
theorem Jk {σ:Q4} {t:TypeId} [TG P t false] {b:Nat} {cs:List Value} {i:Nat} {v:Value} (a:Z5 σ w b cs) (c:cs[i]? =some v) (h:K v w):Q2 P t (.pointer (some ((⟨b,0,none⟩:Addr).add i))) w K:=
 Qg (a.cell c) h
theorem Q8T {σ:Q4} {t:TypeId} [TG P t false] {b:Nat} {cs:List Value} {v:Value} (a:Z5 σ w b cs) (c:cs[0]? =some v) (h:K v w):Q2 P t (.pointer (some ⟨b,0,none⟩)) w K:=by
 have:=Jk (P:=P) (t:=t) a c h
 rwa [add_zero] at this
theorem Q70 {σ:Q4} {t:TypeId} {sz by_:Nat} {z:Value} [TG P t true] [TZ P t sz by_ z] {b:Nat} {cs:List Value} (a:Z5 σ w b cs) (d:cs.length=sz) (h:K (.agg cs.toArray) w):Q2 P t (.pointer (some ⟨b,0,none⟩)) w K:=
 Dy d (fun _ _ c=>a.cell c) h
theorem W1 {t:TypeId} {sz by_:Nat} {z:Value} [tg:TG P t true] [tz:TZ P t sz by_ z] {σ:Q4} {b:Nat} {cs:List Value} {K:Value→Prop} (a:Z5 σ w b cs) (d:cs.length=sz) (h:K (.agg cs.toArray)):U5 P t (.pointer (some ⟨b,0,none⟩)) w K:=by
 rw[Q1s]
 refine ⟨_,?_,h⟩
 have:=run_loadCells_list (P:=P) w ⟨b,0,none⟩ cs (fun _ _ c=>a.cell c)
 rw[d] at this
 simp[asAddr,loadVar,Yw tg,W4 tz,this]
structure Upd (w : World) (b : Nat) (w' : World) : Prop where
  os : w'.os = w.os
  tape : w'.tape = w.tape
  output : w'.output = w.output
  size : w'.heap.size = w.heap.size
  block : ∀ k, k ≠ b → w'.heap[k]? = w.heap[k]?
theorem Upd.stp {σ0 σ:Q4} {b:Nat} (c:Upd w b w') (a:Stp w0 σ0 w σ) (h:w0.heap.size≤b) (f:σ b=none):Stp w0 σ0 w' σ:=by
 refine ⟨⟨c.os.trans a.bel.os,c.tape.trans a.bel.tape,c.output.trans a.bel.output,by rw[c.size];exact a.bel.size,fun k g=>(c.block k (by omega)).trans (a.bel.block k g)⟩,?_,a.le,a.old⟩
 intro k o d
 rw[c.block k (by intro e;subst e;rw[f] at d;cases d)]
 exact a.sat k o d
theorem Z5.upd {σ:Q4} {b k:Nat} {cs:List Value} (h:Z5 σ w k cs) (c:Upd w b w') (a:k≠b):Z5 σ w' k cs:=by
 obtain ⟨f,e,d⟩:=h
 exact ⟨f,e,(c.block k a).trans d⟩
theorem Dd {b:Nat} {cs:Array Value} {a:Array Value} {e:TypeId} (h:w.heap[b]? =some (.cells a e (0,0))):Upd w b (w.setRow b cs)∧(w.setRow b cs).heap[b]? =some (.cells cs e (0,0)):=by
 have d:=(Array.getElem?_eq_some_iff.1 h).1
 refine ⟨⟨rfl,rfl,rfl,by simp[World.setRow],fun k c=>?_⟩,?_⟩
 ·simp only[World.setRow,Array.getElem?_modify]
  rw[if_neg (by omega)]
 ·simp only[World.setRow,Array.getElem?_modify,if_true,h]
  rfl
theorem sta {t:TypeId} {sz by_:Nat} {z:Value} [tz:TZ P t sz by_ z] {σ:Q4} {b:Nat} {cs ds:List Value} (l:Z5 σ w b cs) (m:cs.length=sz) (c:ds.length=sz) (g:ds.toArray.all (·.oneCell')=true)
 (h: ∀w',Upd w b w'→Z5 σ w' b ds→K undef w'):Z2 P t (.pointer (some ⟨b,0,none⟩)) (.agg ds.toArray) w K:=by
 obtain ⟨f,e,d⟩:=l
 unfold Z2
 obtain ⟨i,j,a,_⟩:=tz.info
 have:=run_storeVar_row (P:=P) w b e t cs.toArray ds.toArray d (by simp[j,a,c]) (by simp[m,c]) g
 rw[Nd (w':=w.setRow b ds.toArray) (by simpa [Instr.storeAt,Instr.sureAddr] using this)]
 obtain ⟨k,hh⟩:=Dd (cs:=ds.toArray) d
 exact h _ k ⟨f,e,hh⟩
theorem X0G {cs:List Value} {i:Nat} {v:Value} (a:i<cs.length):(cs.take i++[v]++cs.drop (i+1))=cs.set i v:=by
 rw[List.set_eq_take_append_cons_drop,if_pos a];simp
theorem Mc {t:TypeId} {by_:Nat} {z:Value} [tz:TZ P t 1 by_ z] {σ:Q4} {b i:Nat} {cs:List Value} {v:Value} (m:Z5 σ w b cs) (j:i<cs.length) (f:v.cells= #[v]) (g:v.oneCell'=true)
 (h: ∀w',Upd w b w'→Z5 σ w' b (cs.set i v)→K undef w'):Z2 P t (.pointer (some ((⟨b,0,none⟩:Addr).add i))) v w K:=by
 obtain ⟨d,e,c⟩:=m
 unfold Z2
 have a:(⟨b,0,none⟩:Addr).add i=⟨b,i,none⟩:=by unfold Addr.add;split<;>simp_all
 have:=run_storeCells_at P b i e [v] 0 cs.toArray w c (by simp;omega) (by simpa using g)
 simp only[Nat.add_zero] at this
 obtain ⟨k,hh⟩:=Dd (cs:=(cs.set i v).toArray) c
 have l:(List.take i cs.toArray.toList++[v]++List.drop (i+[v].length) cs.toArray.toList).toArray=(cs.set i v).toArray:=by
  rw[←X0G j];simp
 rw[l] at this
 rw[Nd (w':=w.setRow b (cs.set i v).toArray) (by simp[Instr.storeAt,Instr.sureAddr,a,storeVar,W4 tz,f,this])]
 exact h _ k ⟨d,e,hh⟩
theorem st0 {t:TypeId} {by_:Nat} {z:Value} [tz:TZ P t 1 by_ z] {σ:Q4} {b:Nat} {cs:List Value} {v:Value} (c:Z5 σ w b cs) (f:0<cs.length) (a:v.cells= #[v]) (d:v.oneCell'=true)
 (h: ∀w',Upd w b w'→Z5 σ w' b (cs.set 0 v)→K undef w'):Z2 P t (.pointer (some ⟨b,0,none⟩)) v w K:=by
 have:=Mc (P:=P) (t:=t) c f a d h
 rwa [add_zero] at this
class NZ (n : Nat) : Prop where
  h : (n == 0) = false
instance (n:Nat):NZ (n+1):=⟨rfl⟩
theorem fa {t:TypeId} {k b:Nat} {d:TypeId} {sz by_:Nat} {z:Value} [tf:TF P t k b d] [tz:TZ P d sz by_ z] [nz:NZ sz] {a:Addr}:fieldAddr P t (.pointer (some a)) k w K=K (.pointer (some (a.add b))) w:=by
 unfold fieldAddr
 have hh:=tf.h
 unfold Q2o at hh
 split at hh
 ·rename_i n g
  obtain ⟨f,m,c⟩:=Option.map_eq_some_iff.1 hh
  simp only[Prod.mk.injEq] at c
  obtain ⟨l,j⟩:=c
  subst j l
  have i: ¬sz=0:=by simpa using nz.h
  exact Y0 (by simp[Instr.fieldAt,run_underlying g,m,Instr.sureAddr,fieldPlace,W4 tz,i])
 ·cases hh
theorem Sq {t e:TypeId} {sz by_:Nat} {z:Value} [ts:TS P t e] [tz:TZ P e sz by_ z] {a:Addr} {n b:Nat} {k:IntKind} {i:Int} (d:0≤i) (c:i<n):indexAddr P t (.slice (some a) n b) (.int k i) w K=K (.pointer (some (a.add (i.toNat*sz)))) w:=by
 unfold indexAddr
 exact Y0 (by simp[Instr.indexAt,run_underlying ts.h,asIntOf,W4 tz,d,c])
theorem Q7Q {t e:TypeId} {n sz by_:Nat} {z:Value} [ta:TA P t n e] [tz:TZ P e sz by_ z] {a:Addr} {k:IntKind} {i:Int} (c:0≤i) (b:i<n):indexAddr P t (.pointer (some a)) (.int k i) w K=K (.pointer (some (a.add (i.toNat*sz)))) w:=by
 unfold indexAddr
 exact Y0 (by simp[Instr.indexAt,run_underlying ta.h,asIntOf,Instr.sureAddr,W4 tz,c,b])
theorem E7 {a:Addr}:nilCheck P (.pointer (some a)) w K=K (.pointer (some a)) w:=by
 unfold nilCheck
 rw[K9];unfold I2
 simp[execOp]
class Rep {α : Type} (R : Q4 → α → List Value → Prop) : Prop where
  up : ∀ {σ σ' : Q4} {x : α} {cs : List Value}, (∀ b o, σ b = some o → σ' b = some o) → R σ x cs → R σ' x cs
  one : ∀ {σ : Q4} {x : α} {cs : List Value}, R σ x cs → ∀ u ∈ cs, u.oneCell' = true
def Sl {α:Type} (sz:Nat) (R:Q4→α→List Value→Prop) (σ:Q4) (v:Value) (xs:List α):Prop:=
 ∃a c,v= .slice a xs.length c∧xs.length≤c∧c≤maxLen∧(a=none→c=0)∧
  ∀b,a=some b→(0<xs.length→b.spot=none)∧ ∀i x,xs[i]? =some x→ ∃cs,Z3 σ (b.add (i*sz)) cs∧cs.length=sz∧R σ x cs
theorem Z3.le {σ σ':Q4} {a:Addr} {cs:List Value} (h:Z3 σ a cs) (g: ∀b o,σ b=some o→σ' b=some o):Z3 σ' a cs:=by
 obtain ⟨f,D3,e,i,d,c⟩:=h
 exact ⟨f,D3,e,i,g _ _ d,c⟩
section
variable {α : Type} {R : Q4 → α → List Value → Prop} {sz : Nat} {σ σ' : Q4} {v : Value} {xs : List α}
theorem Sl.le [hr:Rep R] (h:Sl sz R σ v xs) (d: ∀b o,σ b=some o→σ' b=some o):Sl sz R σ' v xs:=by
 obtain ⟨a,c,k,n,q,l,f⟩:=h
 refine ⟨a,c,k,n,q,l,fun b g=>⟨(f b g).1,fun i x m=>?_⟩⟩
 obtain ⟨cs,p,r,j⟩:=(f b g).2 i x m
 exact ⟨cs,p.le d,r,hr.up d j⟩
theorem Sl.up [Rep R] (h:Sl sz R σ v xs) (a:Stp w σ w' σ'):Sl sz R σ' v xs:=h.le a.le
theorem Sl.max (h:Sl sz R σ v xs):xs.length≤9223372036854775807:=by
 obtain ⟨a,c,g,f,b,d⟩:=h
 simp only[maxLen] at b;omega
theorem Sl.nil:Sl sz R σ (.slice none 0 0) ([]:List α):=⟨none,0,rfl,by simp,by simp,fun _=>rfl,fun b a=>by cases a⟩
theorem Q67 {c e t:TypeId} {cs:List Bool} [ts:TS P c e] {a:Option Addr} {n b:Nat}:X5 P .len [c] t cs [.slice a n b] w K=K (I n) w:=by
 have h:(Builtin.len_ #[c] t #[.slice a n b]).run P w= .ok (I n) w:=by
  simp[Builtin.len_,run_underlying ts.h,goInt]
 exact Y0 h
theorem X1Q {b e t:TypeId} {cs:List Bool} [ts:TS P b e] (h:Sl sz R σ v xs):X5 P .len [b] t cs [v] w K=K (I xs.length) w:=by
 obtain ⟨a,c,rfl,_⟩:=h
 exact Q67
theorem X2u {t e:TypeId} {by_:Nat} {z:Value} [TS P t e] [TZ P e sz by_ z] (h:Sl sz R σ v xs) {k:IntKind} {i:Int} (o:0≤i) (d:i.toNat<xs.length)
 (j: ∀a cs,Z3 σ a cs→cs.length=sz→R σ xs[i.toNat] cs→K (.pointer (some a)) w):indexAddr P t v (.int k i) w K:=by
 obtain ⟨a,m,rfl,p,q,f,l⟩:=h
 cases a with
 | none=>have:=f rfl;omega
 | some b=>
  rw[Sq o (by omega)]
  obtain ⟨cs,g,n,c⟩:=(l b rfl).2 i.toNat xs[i.toNat] (by simp[d])
  exact j _ cs g n c
end
theorem Stp.turn {σ0 σ:Q4} {row:Option Nat} (b:w.grownBy w' row) (a:Stp w0 σ0 w σ) (d: ∀k,row=some k→w0.heap.size≤k∧σ k=none):Stp w0 σ0 w' σ:=by
 refine ⟨⟨b.os.trans a.bel.os,b.tape.trans a.bel.tape,b.output.trans a.bel.output,Nat.le_trans a.bel.size b.size,fun k f=>?_⟩,?_,a.le,a.old⟩
 ·refine (b.block k (Nat.lt_of_lt_of_le f a.bel.size) ?_).trans (a.bel.block k f)
  intro e;have:=(d k e.symm).1;omega
 ·intro k o c
  refine (b.block k (a.sat.lt c) ?_).trans (a.sat k o c)
  intro e;rw[(d k e.symm).2] at c;cases c
def V0 {α:Type} (B:Nat) (e:TypeId) (sz:Nat) (R:Q4→α→List Value→Prop) (σ:Q4) (w:World) (v:Value) (xs:List α):Prop:=
 ∃cells,w.ownsRow B e sz v xs.length cells∧(∀k,v.ownBlock=some k→σ k=none)∧ ∀i x,xs[i]? =some x→R σ x ((cells.drop (i*sz)).take sz)
section
variable {α : Type} {R : Q4 → α → List Value → Prop} {B sz : Nat} {e : TypeId} {σ σ' : Q4} {v u : Value} {xs ys : List α}
theorem V0.nil:V0 B e sz R σ w (.slice none 0 0) ([]:List α):=⟨[],World.ownsRow_nil w B e sz,by intro k a;simp[Value.ownBlock] at a,by intro i x h;simp at h⟩
theorem V0.mem (h:V0 B e sz R σ w v xs): ∀k,v.ownBlock=some k→B≤k∧k<w.heap.size∧σ k=none:=by
 obtain ⟨cells,f,d,_⟩:=h
 intro k c
 obtain ⟨a,b⟩:=f.lt k c
 exact ⟨a,b,d k c⟩
theorem V0.up [hr:Rep R] (h:V0 B e sz R σ w v xs) (a:Stp w σ w' σ'):V0 B e sz R σ' w' v xs:=by
 obtain ⟨cells,c,g,f⟩:=h
 refine ⟨cells,c.kept ⟨a.bel.os,a.bel.tape,a.bel.output,a.bel.size,fun k j _=>a.bel.block k j⟩ (by cases b:v.ownBlock<;>simp) (row:=none),?_,fun i x d=>hr.up a.le (f i x d)⟩
 intro k b
 rw[a.old k (c.lt k b).2];exact g k b
theorem Sl.cells (h:Sl sz R σ v xs) (C:X4 w σ) [hr:Rep R]: ∃(a:Option Addr) (d:Nat) (c:List Value),v= .slice a xs.length d∧(a=none→d=0)∧c.length=xs.length*sz∧(∀b,a=some b→ ∀j u,c[j]? =some u→w.cell? (b.add j)=some u)∧(∀u∈c,u.oneCell'=true)∧
 ∀i x,xs[i]? =some x→R σ x ((c.drop (i*sz)).take sz):=by
 obtain ⟨a,d,rfl,M,N,l,z⟩:=h
 cases a with
 | none=>
  have Q:=l rfl
  have f:xs=[]:=List.eq_nil_of_length_eq_zero (by omega)
  subst f
  exact ⟨none,d,[],rfl,l,by simp,fun b J=>(by cases J),by simp,by simp⟩
 | some b=>
  obtain ⟨H,p⟩:=z b rfl
  clear z
  have key: ∀(ys:List α) (k:Nat),(∀i x,ys[i]? =some x→ ∃cs,Z3 σ (b.add ((k+i)*sz)) cs∧cs.length=sz∧R σ x cs)→
   ∃c:List Value,c.length=ys.length*sz∧(∀j u,c[j]? =some u→w.cell? (b.add (k*sz+j))=some u)∧(∀u∈c,u.oneCell'=true)∧ ∀i x,ys[i]? =some x→R σ x ((c.drop (i*sz)).take sz):=by
   intro ys
   induction ys with
   | nil=>intro k _;exact ⟨[],by simp,by simp,by simp,by simp⟩
   | cons y r E=>
    intro k t
    obtain ⟨cs,D,A,s⟩:=t 0 y rfl
    obtain ⟨c,m,q,o,n⟩:=E (k+1) (fun i x f=>by
     have:=t (i+1) x (by simpa using f)
     rwa [show k+1+i=k+(i+1) by omega])
    refine ⟨cs++c,by simp[m,A,Nat.add_mul,Nat.add_comm],?_,?_,?_⟩
    ·intro j u hu
     by_cases L:j<sz
     ·rw[List.getElem?_append_left (by omega)] at hu
      have:=D.cell C hu
      rwa [Cr,Nat.add_zero] at this
     ·rw[List.getElem?_append_right (by omega)] at hu
      have:=q _ _ hu
      rwa [A,show (k+1)*sz+(j-sz)=k*sz+j by rw[Nat.add_mul];omega] at this
    ·intro u hu
     rcases List.mem_append.1 hu with hu | hu
     ·exact hr.one s u hu
     ·exact o u hu
    ·intro i x f
     cases i with
     | zero=>
      simp at f;subst f
      simp only[Nat.zero_mul,List.drop_zero]
      rw[List.take_append_of_le_length (by omega),List.take_of_length_le (by omega)];exact s
     | succ i=>
      have:=n i x (by simpa using f)
      rw[show (i+1)*sz=cs.length+i*sz by rw[Nat.add_mul];omega,List.drop_append]
      simpa [List.drop_eq_nil_of_le] using this
  obtain ⟨c,m,q,o,n⟩:=key xs 0 (fun i x f=>by rw[Nat.zero_add];exact p i x f)
  refine ⟨some b,d,c,rfl,l,m,?_,o,n⟩
  intro O g j u hu
  cases g
  have:=q j u hu
  rwa [Nat.zero_mul,Nat.zero_add] at this
end
section
variable {α : Type} {R : Q4 → α → List Value → Prop} {sz : Nat} {e : TypeId} {σ σ0 : Q4} {v u : Value} {xs ys : List α}
theorem Hk (cells a:List Value) (n i:Nat) (c:cells.length=n*sz) (b:i<n):((cells++a).drop (i*sz)).take sz=(cells.drop (i*sz)).take sz:=by
 have h:i*sz+sz≤n*sz:=by rw[←Nat.succ_mul];exact Nat.mul_le_mul_right _ b
 rw[List.drop_append_of_le_length (by omega),List.take_append_of_le_length (by simp only[List.length_drop];omega)]
theorem app {t s:TypeId} {by_:Nat} {z:Value} {cs:List Bool} [ts:TS P t e] [tz:TZ P e sz by_ z] [hr:Rep R] (C:Stp w0 σ0 w σ) (ha:V0 w0.heap.size e sz R σ w v xs) (O:Sl sz R σ u ys) (L:(z.cells.size==sz&&decide (0<sz))=true)
 (hb:(xs.length+ys.length)*by_≤140737488355328) (hm:xs.length+ys.length≤9223372036854775807)
 (h: ∀f w',w.grownBy w' v.ownBlock→Stp w0 σ0 w' σ→V0 w0.heap.size e sz R σ w' f (xs++ys)→(f.ownBlock=v.ownBlock∨ ∀k,f.ownBlock=some k→w.heap.size≤k)→K f w'):X5 P .append [t,t] s cs [v,u] w K:=by
 obtain ⟨cells,r,U,h3⟩:=ha
 obtain ⟨a,m,c,rfl,Q,V,n3,n4,Y⟩:=O.cells C.sat
 obtain ⟨i,E,D,H,o⟩:=tz.info
 have p: ∀f w',(Builtin.append_ #[t,t] s #[v, .slice a ys.length m]).run P w= .ok f w'→w'.ownsRow w0.heap.size e sz f (xs.length+ys.length) (cells++c)→w.grownBy w' v.ownBlock→(f.ownBlock=v.ownBlock∨f.ownBlock=some w.heap.size)→X5 P .append [t,t] s cs [v, .slice a ys.length m] w K:=by
  intro f w' y d l hat
  have q:(builtin .append #[t,t] s cs.toArray #[v, .slice a ys.length m]).run P w= .ok (.value f) w':=by
   simp[builtin,y]
  unfold X5
  rw[K9];unfold I2
  rw[q]
  refine h f w' l (Stp.turn l C fun k n=>⟨(r.lt k n).1,U k n⟩) ⟨cells++c,by rw[List.length_append];exact d,?_,?_⟩ ?_
  ·intro k n
   rcases hat with hat | hat
   ·exact U k (hat▸n)
   ·rw[hat] at n;cases n;exact C.sat.none (Nat.le_refl _)
  ·intro j x A
   by_cases N:j<xs.length
   ·rw[List.getElem?_append_left N] at A
    rw[Hk cells c xs.length j r.1 N]
    exact h3 j x A
   ·rw[List.getElem?_append_right (by omega)] at A
    have:=Y _ _ A
    rw[show j*sz=cells.length+(j-xs.length)*sz by rw[r.1,←Nat.add_mul];congr 1;omega,List.drop_append]
    simpa [List.drop_eq_nil_of_le] using this
  ·rcases hat with hat | hat
   ·exact .inl hat
   ·right;intro k n;rw[hat] at n;cases n;exact Nat.le_refl _
 simp only[Bool.and_eq_true,beq_iff_eq,decide_eq_true_eq] at L
 cases a with
 | some b=>
  obtain ⟨f,w',Z,g2,X,_,g5⟩:=run_append_own_at (P:=P) w w0.heap.size t s e i z sz by_ ts.h E o D H L.1 L.2 v xs.length cells r b ys.length m c V (n3 b rfl) n4 (by simp only[maxLen];omega) hb C.bel.size
  exact p f w' Z g2 X g5
 | none=>
  have hy:ys=[]:=List.eq_nil_of_length_eq_zero (by obtain ⟨a',W,e',q1,_,q3,_⟩:=O;injection e' with _ e2 e3;have:=Q rfl;subst e3;omega)
  have J:=Q rfl
  subst hy J
  have hn:c=[]:=List.eq_nil_of_length_eq_zero (by simpa using V)
  subst hn
  have d:=r
  rcases r.2 with ⟨rfl,h0⟩ | ⟨g,m,aj,rfl,ab,hg,M,_⟩
  ·refine p (.slice none 0 0) w ?_ (by simpa using d) (World.grownBy.refl w _) (.inl rfl)
   simp[Builtin.append_,run_underlying ts.h,sizeOf,typeInfo,E,Builtin.lenOf,Builtin.firstCells]
  ·refine p _ w ?_ (by simpa using d) (World.grownBy.refl w _) (.inl rfl)
   simp[Builtin.append_,run_underlying ts.h,sizeOf,typeInfo,E,Builtin.lenOf,Builtin.firstCells,M,storeCells]
end
section
variable {α : Type} {R : Q4 → α → List Value → Prop} {sz : Nat} {e : TypeId} {σ σ0 : Q4} {v u : Value} {xs ys : List α}
theorem Q4.put_le {w:World} (d:X4 w σ) {b:Nat} (h:σ b=none) (o:Obj): ∀k p,σ k=some p→(σ.put b o) k=some p:=by
 intro k p c
 by_cases a:k=b
 ·subst a;rw[h] at c;cases c
 ·simp only[Q4.put,if_neg a];exact c
theorem Stp.put {b:Nat} {o:Obj} (c:Stp w0 σ0 w σ) (f:σ b=none) (h:w0.heap.size≤b) (g:w.heap[b]? =some o):Stp w0 σ0 w (σ.put b o):=by
 refine ⟨c.bel,?_,fun k p a=>Q4.put_le c.sat f o k p (c.le k p a),?_⟩
 ·intro k p a
  by_cases d:k=b
  ·subst d;simp only[Q4.put,if_true] at a;cases a;exact g
  ·simp only[Q4.put,if_neg d] at a;exact c.sat k p a
 ·intro k a
  simp only[Q4.put];rw[if_neg (by omega)];exact c.old k a
theorem V0.keep [hr:Rep R] (h:V0 w0.heap.size e sz R σ w v xs) (n:Stp w0 σ0 w σ): ∃σ',Stp w0 σ0 w σ'∧Sl sz R σ' v xs∧(∀k o,σ k=some o→σ' k=some o)∧(∀k,some k≠v.ownBlock→σ' k=σ k):=by
 obtain ⟨cells,s,A,D⟩:=h
 rcases s.2 with ⟨rfl,E⟩ | ⟨g,p,d,rfl,J,H,q,f,y,l⟩
 ·have:xs=[]:=List.eq_nil_of_length_eq_zero E
  subst this
  exact ⟨σ,n,Sl.nil,fun _ _ h=>h,fun _ _=>rfl⟩
 ·have r:=A g rfl
  have a:=Q4.put_le n.sat r (.cells d e (0,0))
  refine ⟨σ.put g (.cells d e (0,0)),n.put r J H,⟨_,p,rfl,q,f,by simp,?_⟩,a,?_⟩
  ·intro b m
   cases m
   refine ⟨fun _=>rfl,fun i x t=>⟨(cells.drop (i*sz)).take sz,⟨G5 rfl _,d,e,(0,0),by rw[C0];simp[Q4.put],?_⟩,?_,hr.up a (D i x t)⟩⟩
   ·intro j u c
    rw[Xt]
    rw[List.getElem?_take] at c
    split at c
    ·rw[List.getElem?_drop,←l,List.getElem?_take] at c
     split at c
     ·simpa using c
     ·cases c
    ·cases c
   ·have z:i<xs.length:=(List.getElem?_eq_some_iff.1 t).1
    have h:i*sz+sz≤xs.length*sz:=by rw[←Nat.succ_mul];exact Nat.mul_le_mul_right _ z
    rw[List.length_take,List.length_drop,s.1];omega
  ·intro k C
   have:k≠g:=by intro e;subst e;exact C rfl
   simp only[Q4.put,if_neg this]
theorem Sl.piece {a:Option Addr} {n d:Nat} (h:Sl sz R σ (.slice a n d) xs) (l m:Nat) (N:l+m≤xs.length):Sl sz R σ (.slice (if d=l then a else a.map (·.add (l*sz))) m (d-l)) ((xs.drop l).take m):=by
 obtain ⟨O,q,r,L,M,y,k⟩:=h
 injection r with s z J
 subst s z J
 have c:((xs.drop l).take m).length=m:=by simp;omega
 refine ⟨_,d-l,by rw[c],by rw[c];omega,by omega,?_,?_⟩
 ·intro p
  split at p
  ·omega
  ·cases a with
   | none=>have:=y rfl;omega
   | some b=>simp at p
 ·intro b g
  split at g
  ·rename_i A
   obtain ⟨j,o⟩:=k b g
   have C:m=0:=by omega
   subst C
   exact ⟨fun h=>by simp at h,by simp⟩
  ·cases a with
   | none=>simp at g
   | some E=>
    simp only[Option.map_some,Option.some.injEq] at g
    obtain ⟨j,o⟩:=k E rfl
    subst g
    refine ⟨fun h=>G5 (j (by rw[c] at h;omega)) _,fun i x f=>?_⟩
    rw[List.getElem?_take] at f
    split at f
    ·rw[List.getElem?_drop] at f
     obtain ⟨cs,D,H,t⟩:=o _ _ f
     refine ⟨cs,?_,H,t⟩
     rw[Cr,←Nat.add_mul];exact D
    ·cases f
theorem Hj {t:TypeId} {by_:Nat} {z:Value} [ts:TS P t e] [tz:TZ P e sz by_ z] (h:Sl sz R σ v xs) (d c:Option Value) (l m:Nat) (f:d=none∧l=0∨d=some (I l)) (g:c=none∧m=xs.length∨c=some (I m)) (i:l≤m) (y:m≤xs.length)
 (k: ∀j,Sl sz R σ j ((xs.drop l).take (m-l))→K j w):E6 P t v d c none w K:=by
 have n:=h
 obtain ⟨a,b,rfl,s,C,q,A⟩:=h
 have hh: ∀w:World,(Instr.sliceBounds true xs.length b d c none).run P w= .ok (l,m,b) w:=by
  intro w
  have r:(m:Int)≤b:=by omega
  have p:(l:Int)≤m:=by omega
  have o:m≤b:=by omega
  rcases f with ⟨rfl,rfl⟩ | rfl<;>rcases g with ⟨rfl,rfl⟩ | rfl<;>
   simp[Instr.sliceBounds,Instr.sliceBound,asIntOf,o,i]<;>intros<;>omega
 unfold E6
 have:(Instr.sliceAt t (.slice a xs.length b) d c none).run P w= .ok (.slice (if b=l then a else a.map (·.add (l*sz))) (m-l) (b-l)) w:=by
  simp[Instr.sliceAt,run_underlying ts.h,Instr.slice,hh,W4 tz]
 rw[Y0 this]
 exact k _ (n.piece l (m-l) (by omega))
def en:Nat→List Value→List (Nat×Value)
 | _,[]=>[]
 | i,v::r=>(i,v)::en (i+1) r
theorem Q8I (off:Nat): ∀(vs:List Value) (k:Nat) (cs:Array Value),off+k+vs.length≤cs.size→
 ((vs.zipIdx k).foldl (fun cs (p:Value×Nat)=>cs.setIfInBounds (off+p.2) p.1) cs).toList=cs.toList.take (off+k)++vs++cs.toList.drop (off+k+vs.length):=by
 intro vs
 induction vs with
 | nil=>intro k cs _;simp
 | cons v r ih=>
  intro k cs h
  simp only[List.length_cons] at h
  rw[List.zipIdx_cons,List.foldl_cons,ih (k+1) _ (by simp;omega)]
  simp only[Array.toList_setIfInBounds,List.length_cons]
  apply List.ext_getElem?
  intro i
  simp only[List.getElem?_append,List.length_take,List.length_set,Array.length_toList,List.getElem?_take,List.getElem?_drop,List.length_append,List.getElem?_set,List.length_cons]
  rcases Nat.lt_trichotomy i (off+k) with hi | hi | hi
  ·simp[show i<off+(k+1) by omega,hi,show i<min (off+(k+1)) cs.size by omega,show i<min (off+(k+1)) cs.size+r.length by omega,show i<min (off+k) cs.size by omega,show i<min (off+k) cs.size+(r.length+1) by omega,show off+k≠i by omega]
  ·subst hi
   simp[show off+k<off+(k+1) by omega,show off+k<min (off+(k+1)) cs.size by omega,show off+k<min (off+(k+1)) cs.size+r.length by omega,show¬off+k<min (off+k) cs.size by omega,show off+k<min (off+k) cs.size+(r.length+1) by omega,show off+k<cs.size by omega,show off+k-min (off+k) cs.size=0 by omega]
  ·by_cases h2:i<off+(k+1)+r.length
   ·simp[show¬i<min (off+(k+1)) cs.size by omega,show i<min (off+(k+1)) cs.size+r.length by omega,show¬i<min (off+k) cs.size by omega,show i<min (off+k) cs.size+(r.length+1) by omega,show i-min (off+k) cs.size=(i-min (off+(k+1)) cs.size)+1 by omega]
   ·simp only[show¬i<min (off+(k+1)) cs.size+r.length by omega,show¬i<min (off+k) cs.size+(r.length+1) by omega,if_false]
    rw[show off+(k+1)+r.length+(i-(min (off+(k+1)) cs.size+r.length))=i by omega,show off+k+(r.length+1)+(i-(min (off+k) cs.size+(r.length+1)))=i by omega,if_neg (by omega)]
theorem Q6m (sz:Nat): ∀(vs:List Value) (i:Nat) (cs:Array Value),(i+vs.length)*sz≤cs.size→(∀v∈vs,v.cells.size=sz)→
 ∃cs',Instr.fill (fun i=>some (i*sz,sz)) cs (en i vs)=some cs'∧cs'.toList=cs.toList.take (i*sz)++vs.flatMap (·.cells.toList)++cs.toList.drop ((i+vs.length)*sz):=by
 intro vs
 induction vs with
 | nil=>intro i cs _ _;exact ⟨cs,rfl,by simp⟩
 | cons v r ih=>
  intro i cs h hv
  have hv0:=hv v (by simp)
  simp only[List.length_cons] at h
  have h1:i*sz+sz≤cs.size:=by
   have:(i+1)*sz≤(i+(r.length+1))*sz:=Nat.mul_le_mul_right _ (by omega)
   rw[Nat.succ_mul] at this;omega
  have hset:=Q8I (i*sz) v.cells.toList 0 cs (by simp;omega)
  simp only[Nat.add_zero] at hset
  have e1:v.cells.zipIdx.foldl (fun cs (p:Value×Nat)=>cs.setIfInBounds (i*sz+p.2) p.1) cs=(v.cells.toList.zipIdx 0).foldl (fun cs (p:Value×Nat)=>cs.setIfInBounds (i*sz+p.2) p.1) cs:=by
   rw[←Array.foldl_toList,Array.toList_zipIdx]
  have hsz':((v.cells.toList.zipIdx 0).foldl (fun cs (p:Value×Nat)=>cs.setIfInBounds (i*sz+p.2) p.1) cs).size=cs.size:=by
   rw[←Array.length_toList,hset]
   simp;omega
  obtain ⟨cs',q1,q2⟩:=ih (i+1) _ (by rw[hsz'];rw[show i+1+r.length=i+(r.length+1) by omega];exact h) (fun u hu=>hv u (by simp[hu]))
  refine ⟨cs',?_,?_⟩
  ·simp only[en,Instr.fill]
   rw[if_neg (by simp[hv0];omega)]
   rw[e1];exact q1
  ·rw[q2,hset]
   simp only[List.flatMap_cons,List.length_cons,Array.length_toList,hv0]
   have e2:(i+1)*sz=i*sz+sz:=by rw[Nat.succ_mul]
   have e3:(i+(r.length+1))*sz=i*sz+sz+r.length*sz:=by rw[Nat.add_mul,Nat.succ_mul];omega
   have e4:(i+1+r.length)*sz=i*sz+sz+r.length*sz:=by rw[Nat.add_mul,Nat.succ_mul]
   rw[e2,e3,e4]
   have t1:(cs.toList.take (i*sz)).length=i*sz:=by simp;omega
   have t2:(cs.toList.take (i*sz)++v.cells.toList).length=i*sz+sz:=by rw[List.length_append,t1];simp[hv0]
   have k1: ∀C:List Value,(cs.toList.take (i*sz)++v.cells.toList++C).take (i*sz+sz)=cs.toList.take (i*sz)++v.cells.toList:=by
    intro C
    rw[List.take_append_of_le_length (by omega),List.take_of_length_le (by omega)]
   have k2: ∀(C:List Value) (n:Nat),(cs.toList.take (i*sz)++v.cells.toList++C).drop (i*sz+sz+n)=C.drop n:=by
    intro C n
    rw[List.drop_append,t2,List.drop_eq_nil_of_le (by omega),List.nil_append]
    congr 1;omega
   rw[k1,k2,List.drop_drop]
   simp only[List.append_assoc]
theorem Oq {t:TypeId} {by_:Nat} {z:Value} [ts:TS P t e] [tz:TZ P e sz by_ z] (vs:List Value) (hv: ∀v∈vs,v.cells.size=sz) (hsm:vs.length*sz≤16777216) (w:World):
 ∃cells:Array Value,(Instr.buildSlice t vs.length (en 0 vs).toArray).run P w= .ok (.slice (some ⟨w.heap.size,0,none⟩) vs.length vs.length) (w.alloc (.cells cells e))∧cells.toList=vs.flatMap (·.cells.toList):=by
 have h2: ¬vs.length*sz>2 ^ 24:=by omega
 by_cases h:vs.length*sz=0
 ·obtain ⟨cells,hf,hl⟩:=Q6m sz vs 0 ((Array.range (vs.length*sz)).map ((#[]:Array Value)[· % (#[]:Array Value).size]!)) (by simp) hv
  refine ⟨cells,?_,by rw[hl];simp⟩
  simp only[Instr.buildSlice,Sem.run_bind,run_underlying ts.h,Result.andThen_ok,W4 tz,if_neg h2,if_pos h,Sem.run_pure,hf]
  simp[newRow]
 ·obtain ⟨cells,hf,hl⟩:=Q6m sz vs 0 ((Array.range (vs.length*sz)).map (z.cells[· % z.cells.size]!)) (by simp) hv
  refine ⟨cells,?_,by rw[hl];simp⟩
  simp only[Instr.buildSlice,Sem.run_bind,run_underlying ts.h,Result.andThen_ok,W4 tz,if_neg h2,if_neg h,Sem.run_pure,Xp tz,hf]
  simp[newRow]
theorem Q6u {vs:List Value} (d: ∀v∈vs,v.cells.size=sz) (i:Nat) (v:Value) (h:vs[i]? =some v):((vs.flatMap (·.cells.toList)).drop (i*sz)).take sz=v.cells.toList:=by
 induction vs generalizing i with
 | nil=>simp at h
 | cons a r f=>
  have b:=d a (by simp)
  cases i with
  | zero=>
   simp at h;subst h
   rw[List.flatMap_cons,Nat.zero_mul,List.drop_zero,List.take_append_of_le_length (by simp[b]),List.take_of_length_le (by simp[b])]
  | succ i=>
   rw[List.flatMap_cons,Nat.succ_mul,List.drop_append,List.drop_eq_nil_of_le (by simp[b]),List.nil_append]
   rw[show i*sz+sz-a.cells.toList.length=i*sz by simp[b]]
   exact f (fun v c=>d v (by simp[c])) i (by simpa using h)
theorem Q18 {vs:List Value} (b: ∀v∈vs,v.cells.size=sz):(vs.flatMap (·.cells.toList)).length=vs.length*sz:=by
 induction vs with
 | nil=>simp
 | cons a r c=>
  rw[List.flatMap_cons,List.length_append,c (fun v h=>b v (by simp[h]))]
  simp[b a (by simp),Nat.succ_mul,Nat.add_comm]
def Ag (R:Q4→α→List Value→Prop) (σ:Q4):List Value→List α→Prop
 | [],[]=>True
 | v::vs,x::xs=>R σ x v.cells.toList∧Ag R σ vs xs
 | _,_=>False
theorem Ag.len {vs:List Value} (h:Ag R σ vs xs):vs.length=xs.length:=by
 induction vs generalizing xs with
 | nil=>cases xs with
  | nil=>rfl
  | cons=>exact h.elim
 | cons v r a=>cases xs with
  | nil=>exact h.elim
  | cons x y=>simp[a h.2]
theorem Ag.get {vs:List Value} (h:Ag R σ vs xs) {i:Nat} {x:α} (a:xs[i]? =some x): ∃v,vs[i]? =some v∧R σ x v.cells.toList:=by
 induction vs generalizing xs i with
 | nil=>cases xs with
  | nil=>simp at a
  | cons=>exact h.elim
 | cons v r c=>cases xs with
  | nil=>exact h.elim
  | cons y ys=>
   cases i with
   | zero=>simp at a;subst a;exact ⟨v,rfl,h.1⟩
   | succ i=>obtain ⟨u,b,d⟩:=c h.2 (i:=i) (by simpa using a);exact ⟨u,by simpa using b,d⟩
theorem I6 {t:TypeId} {by_:Nat} {z:Value} {n:Nat} {a:List (Nat×Value)} [ts:TS P t e] [tz:TZ P e sz by_ z] (l:Stp w0 σ0 w σ) (vs:List Value) (xs:List α) (y:n=vs.length) (s:a=en 0 vs) (c: ∀v∈vs,v.cells.size=sz) (b:(decide (0<sz)&&decide (vs.length*sz≤16777216))=true) (m:Ag R σ vs xs)
 (h: ∀v w',Stp w σ w' σ→V0 w0.heap.size e sz R σ w' v xs→(∀k,v.ownBlock=some k→w.heap.size≤k)→K v w'):buildSlice P t n a w K:=by
 subst y s
 simp only[Bool.and_eq_true,decide_eq_true_eq] at b
 obtain ⟨g,b⟩:=b
 obtain ⟨cells,p,d⟩:=Oq (P:=P) (t:=t) vs c b w
 unfold buildSlice
 rw[Y0 p]
 have f:=m.len
 refine h _ _ (Stp.own l.sat _) ⟨cells.toList,⟨by rw[d,Q18 c,f], .inr ⟨_,_,cells,by rw[f],l.bel.size,heap_alloc_new w _,by omega,?_,?_,?_⟩⟩,?_,?_⟩ ?_
 ·simp only[maxLen]
  have:vs.length*1≤vs.length*sz:=Nat.mul_le_mul_left _ g
  omega
 ·rw[←Array.length_toList,d,Q18 c,f]
 ·rw[List.take_of_length_le (by rw[d,Q18 c,f];exact Nat.le_refl _)]
 ·intro k j;cases j;exact l.sat.none (Nat.le_refl _)
 ·intro i x q
  obtain ⟨v,o,r⟩:=m.get q
  rw[d,Q6u c i v o];exact r
 ·intro k j;cases j;exact Nat.le_refl _
theorem O7 [Rep R] {t:TypeId} {by_:Nat} {z:Value} {n:Nat} {a:List (Nat×Value)} [ts:TS P t e] [tz:TZ P e sz by_ z] (c:X4 w σ) (vs:List Value) (xs:List α) (l:n=vs.length) (j:a=en 0 vs) (k: ∀v∈vs,v.cells.size=sz) (b:(decide (0<sz)&&decide (vs.length*sz≤16777216))=true) (m:Ag R σ vs xs)
 (h: ∀v w' σ',Stp w σ w' σ'→Sl sz R σ' v xs→K v w'):buildSlice P t n a w K:=by
 refine I6 (Stp.refl c) vs xs l j k b m fun v w' d g _=>?_
 obtain ⟨σ',f,i,_⟩:=g.keep d
 exact h v w' σ' f i
theorem X0U {t:TypeId} {k a:Nat} {c:TypeId} [tf:TF P t k a c] [tg:TG P c false] {cs:Array Value} {v:Value} (l:cs[a]? =some v):Lq P t (.agg cs) k w K=K v w:=by
 unfold Lq
 have hh:=tf.h
 unfold Q2o at hh
 split at hh
 ·rename_i m d
  obtain ⟨f,j,b⟩:=Option.map_eq_some_iff.1 hh
  simp only[Prod.mk.injEq] at b
  obtain ⟨i,g⟩:=b
  subst g i
  exact Y0 (by simp[Instr.field,run_underlying d,j,asAgg,part,Yw tg,l])
 ·cases hh
theorem Qf {f:Fn} {first caps:List Value}:M5 P f first caps w K=K (.func f first.toArray caps.toArray) w:=Y0 (by simp[Instr.makeFunc])
theorem V7 {t:TypeId} {a:List (Nat×Value)} {cells:Array Value} (h:P.built t a=some cells) (b:K (.agg cells) w):N3 P t a w K:=by
 unfold N3
 rw[Y0 (run_build w t a.toArray cells h)];exact b
end
def N0 (o:Option Obj) (m:List (List UInt8×Value)):Prop:=
 ∃es a,o=some (.map es a)∧es.toList.map (fun e=>(e.key,e.val))=m.map (fun p=>(S p.1,p.2))∧(es.toList.map (·.born)).Pairwise (· < ·)∧ ∀e∈es.toList,e.born<a
def M0 (m:List (List UInt8×Value)) (k:List UInt8):Option Value:=match m with
 | []=>none
 | p::r=>if p.1=k then some p.2 else M0 r k
def Qw (m:List (List UInt8×Value)) (k:List UInt8) (v:Value):List (List UInt8×Value):=match m with
 | []=>[(k,v)]
 | p::r=>if p.1=k then (k,v)::r else p::Qw r k v
theorem Rj (a b:List UInt8):((⟨a.toArray⟩:ByteArray)==⟨b.toArray⟩)=decide (a=b):=by
 rw[←Q2q]
 show (a.toArray==b.toArray)=_
 simp
theorem Rh (k:List UInt8): ∀(es:List MapEntry) (m:List (List UInt8×Value)) (i:Nat),es.map (fun e=>(e.key,e.val))=m.map (fun p=>(S p.1,p.2))→
 ∃r,Instr.findNow .string (S k) es i=some r∧r.map (·.2)=M0 m k∧(∀j v,r=some (j,v)→i≤j∧(∃e,es[j-i]? =some e∧e.key=S k)∧ ∀u,(es.modify (j-i) fun e=>{e with key:=S k,val:=u}).map (fun e=>(e.key,e.val))=(Qw m k u).map (fun p=>(S p.1,p.2)))∧
  (r=none→ ∀u,Qw m k u=m++[(k,u)]):=by
 intro es
 induction es with
 | nil=>
  intro m i h
  cases m with
  | nil=>exact ⟨none,rfl,rfl,(by simp),fun _ u=>rfl⟩
  | cons=>simp at h
 | cons e r s=>
  intro m i h
  cases m with
  | nil=>simp at h
  | cons p q=>
   simp only[List.map_cons,List.cons.injEq,Prod.mk.injEq] at h
   obtain ⟨⟨c,f⟩,g⟩:=h
   simp only[Instr.findNow,c,Instr.sameNow,Rj]
   by_cases a:p.1=k
   ·have d:decide (k=p.1)=true:=by simp[a]
    simp only[d]
    refine ⟨_,rfl,by simp[M0,a,f],?_,by simp⟩
    intro j v b
    cases b
    refine ⟨Nat.le_refl _,⟨e,by simp,by rw[c,a]⟩,fun u=>?_⟩
    simp[Qw,a,g]
   ·have d:decide (k=p.1)=false:=by simp;exact fun e=>a e.symm
    simp only[d]
    obtain ⟨l,n,y,o,z⟩:=s q (i+1) g
    refine ⟨l,n,by simp[M0,a,y],?_,?_⟩
    ·intro j v b
     obtain ⟨D,t,A⟩:=o j v b
     refine ⟨by omega,by rw[show j-i=(j-(i+1))+1 by omega];simpa using t,fun u=>?_⟩
     have:=A u
     rw[show j-i=(j-(i+1))+1 by omega]
     simp[Qw,a,c,f,this]
    ·intro C u
     simp[Qw,a,z C u]
theorem C8 {t:TypeId} (a:P.underlying t=some .string) (b:Bool) (k:List UInt8) (w:World):(Instr.checkKey b 10000 t (S k)).run P w= .ok () w:=by
 unfold Instr.checkKey
 simp[run_underlying a]
theorem Q1d {t g d:TypeId} {sz by_:Nat} {z:Value} [tm:TM P t g d] [tz:TZ P d sz by_ z] (b:P.underlying g=some .string) {r:Nat} {m:List (List UInt8×Value)} (n:N0 (w.heap[r]?) m) (k:List UInt8):
 lookup P t (.map (some r)) (S k) true w K=K (match M0 m k with | some v=> .tuple #[v, .bool true] | none=> .tuple #[z, .bool false]) w:=by
 obtain ⟨es,a,j,l,A,q⟩:=n
 obtain ⟨i,f,c,s,y⟩:=Rh k es.toList m 0 l
 unfold lookup
 refine Y0 ?_
 simp only[Instr.lookup,Sem.run_bind,run_underlying tm.h,Result.andThen_ok,Instr.findKey,run_underlying b,f,C8 b]
 have o:(getObj r).run P w= .ok (.map es a) w:=by simp[getObj,Sem.run,j]
 simp only[o,Result.andThen_ok,Sem.run_bind,Sem.run_pure,C8 b,run_underlying b,f]
 cases i with
 | none=>simp at c;rw[←c];simp[Xp tz]
 | some p=>simp at c;rw[←c];simp
theorem Q37 {t f c:TypeId} {sz by_:Nat} {z:Value} [tm:TM P t f c] [tz:TZ P c sz by_ z] (d:P.underlying f=some .string) {r:Nat} {m:List (List UInt8×Value)} (n:N0 (w.heap[r]?) m) (k:List UInt8):
 lookup P t (.map (some r)) (S k) false w K=K ((M0 m k).getD z) w:=by
 obtain ⟨es,a,j,l,A,q⟩:=n
 obtain ⟨g,i,b,s,y⟩:=Rh k es.toList m 0 l
 unfold lookup
 refine Y0 ?_
 have o:(getObj r).run P w= .ok (.map es a) w:=by simp[getObj,Sem.run,j]
 simp only[Instr.lookup,Sem.run_bind,run_underlying tm.h,Result.andThen_ok,Instr.findKey,run_underlying d,i,C8 d,o,Sem.run_pure]
 cases g with
 | none=>simp at b;rw[←b];simp[Xp tz]
 | some p=>simp at b;rw[←b];simp
def E0 (σ:Q4) (w:World) (r:Nat) (m:List (List UInt8×Value)):Prop:=σ r=none∧N0 (w.heap[r]?) m
def I4 (σ:Q4) (r:Nat) (m:List (List UInt8×Value)):Prop:=N0 (σ r) m
theorem I4.is {σ:Q4} {r:Nat} {m:List (List UInt8×Value)} (h:I4 σ r m) (d:X4 w σ):N0 (w.heap[r]?) m:=by
 obtain ⟨es,a,c,b⟩:=h
 exact ⟨es,a,d _ _ c,b⟩
theorem I4.le {σ σ':Q4} {r:Nat} {m:List (List UInt8×Value)} (h:I4 σ r m) (f: ∀b o,σ b=some o→σ' b=some o):I4 σ' r m:=by
 obtain ⟨es,a,d,c⟩:=h
 exact ⟨es,a,f _ _ d,c⟩
theorem I4.up {σ σ':Q4} {r:Nat} {m:List (List UInt8×Value)} (h:I4 σ r m) (a:Stp w σ w' σ'):I4 σ' r m:=h.le a.le
theorem E0.lt {σ:Q4} {r:Nat} {m:List (List UInt8×Value)} (h:E0 σ w r m):r<w.heap.size:=by
 obtain ⟨_,es,a,b,_⟩:=h
 exact (Array.getElem?_eq_some_iff.1 b).1
theorem E0.up {σ σ':Q4} {r:Nat} {m:List (List UInt8×Value)} (h:E0 σ w r m) (a:Stp w σ w' σ'):E0 σ' w' r m:=by
 have b:=h.lt
 exact ⟨(a.old r b).trans h.1,(a.bel.block r b).symm▸h.2⟩
theorem Ar {t:TypeId} {σ:Q4} (a:X4 w σ) (h: ∀r w',w.heap.size≤r→Stp w σ w' σ→E0 σ w' r []→K (.map (some r)) w'):Rr P t none w K:=by
 unfold Rr
 rw[Y0 (v:= .map (some w.heap.size)) (w':=w.alloc (.map #[] 0)) (by simp[Instr.makeMap])]
 exact h _ _ (Nat.le_refl _) (Stp.own a _) ⟨a.none (Nat.le_refl _), #[],0,heap_alloc_new w _,rfl,by simp,by simp⟩
theorem E0.keep {σ σ0:Q4} {r:Nat} {m:List (List UInt8×Value)} (h:E0 σ w r m) (b:Stp w0 σ0 w σ) (i:w0.heap.size≤r): ∃σ',Stp w0 σ0 w σ'∧I4 σ' r m∧(∀k o,σ k=some o→σ' k=some o)∧(∀k,k≠r→σ' k=σ k):=by
 obtain ⟨c,es,a,f,d⟩:=h
 exact ⟨σ.put r (.map es a),b.put c i f,⟨es,a,by simp[Q4.put],d⟩,Q4.put_le b.sat c _,fun k g=>by simp only[Q4.put,if_neg g]⟩
theorem Db {t Q X:TypeId} [tm:TM P t Q X] (z:P.underlying Q=some .string) {σ:Q4} {r:Nat} {m:List (List UInt8×Value)} (hm:E0 σ w r m) (k:List UInt8) (v:Value)
 (h: ∀w',Upd w r w'→E0 σ w' r (Qw m k v)→K undef w'):mapUpdate P t (.map (some r)) (S k) v w K:=by
 obtain ⟨O,es,d,C,L,N,D⟩:=hm
 obtain ⟨W,H,q2,q3,q4⟩:=Rh k es.toList m 0 L
 have U:(getObj r).run P w= .ok (.map es d) w:=by simp[getObj,Sem.run,C]
 have hl:=(Array.getElem?_eq_some_iff.1 C).1
 have l: ∀o,o=Obj.map es d∨True→(∀c e f,o≠ .cells c e f)→(setObj r o).run P w= .ok () {w with heap:=w.heap.setIfInBounds r o}:=by
  intro o _ _
  simp[setObj,Sem.run,C]
 have s: ∀o,Upd w r {w with heap:=w.heap.setIfInBounds r o}:=fun o=>⟨rfl,rfl,rfl,by simp,fun k z=>by simp only[Array.getElem?_setIfInBounds];rw[if_neg (by omega)]⟩
 have A: ∀o,({w with heap:=w.heap.setIfInBounds r o}:World).heap[r]? =some o:=fun o=>by simp[Array.getElem?_setIfInBounds,hl]
 unfold mapUpdate
 cases W with
 | none=>
  rw[Nd (w':={w with heap:=w.heap.setIfInBounds r (.map (es.push {key:=S k,val:=v,born:=d}) (d+1))}) (by
   simp only[Instr.mapUpdate,Sem.run_bind,run_underlying tm.h,Result.andThen_ok,Instr.findKey,run_underlying z,H,C8 z,U,Sem.run_pure]
   exact l _ (.inr trivial) (by intros;simp))]
  refine h _ (s _) ⟨O,_,_,A _,?_,?_,?_⟩
  ·rw[q4 rfl];simp[L]
  ·simp only[Array.toList_push,List.map_append,List.map_cons,List.map_nil]
   rw[List.pairwise_append]
   refine ⟨N,by simp,?_⟩
   intro a ha b V
   simp at V;subst V
   obtain ⟨e,q,rfl⟩:=List.mem_map.1 ha
   exact D e q
  ·intro e q
   simp at q
   rcases q with q | rfl
   ·have:=D e (by simpa using q);omega
   ·simp
 | some p=>
  obtain ⟨j,u⟩:=p
  obtain ⟨z1,z2,M⟩:=q3 j u rfl
  obtain ⟨e,J,Z⟩:=z2
  simp only[Nat.sub_zero] at J M
  have g:((es.modify j fun e=>{e with key:=S k,val:=v}).toList.map (·.born))=es.toList.map (·.born):=by
   apply List.ext_getElem?
   intro i
   simp only[Array.toList_modify,List.getElem?_map,List.getElem?_modify]
   by_cases E:j=i<;>cases es.toList[i]? <;>simp[E]
  have n:(Instr.keyThatStays (S k) (S k)).run P w= .ok (S k) w:=by
   simp[Instr.keyThatStays,Instr.sameBits,Rj]
  rw[Nd (w':={w with heap:=w.heap.setIfInBounds r (.map (es.modify j fun e=>{e with key:=S k,val:=v}) d)}) (by
   simp only[Instr.mapUpdate,Sem.run_bind,run_underlying tm.h,Result.andThen_ok,Instr.findKey,run_underlying z,H,C8 z,U,Sem.run_pure]
   rw[show ((es[j]?).map (·.key)).getD (S k)=S k by rw[←Array.getElem?_toList,J];simp[Z]]
   simp only[n,Result.andThen_ok]
   exact l _ (.inr trivial) (by intros;simp))]
  refine h _ (s _) ⟨O,_,_,A _,?_,?_,?_⟩
  ·simp only[Array.toList_modify];exact M v
  ·rw[g];exact N
  ·intro x Y
   have:x.born∈es.toList.map (·.born):=by rw[←g];exact List.mem_map.2 ⟨x,Y,rfl⟩
   obtain ⟨y,hy,e⟩:=List.mem_map.1 this
   rw[←e];exact D y hy
end Go.Emb

namespace Go.Emb
open Go.RowKit
variable {P : Program} {w w0 w1 w' w'' : World} {K : Value → World → Prop}
theorem Z4 {c b:Bool} {a:World→(Value→World→Prop)→Prop} (e:c=b→a w K) (d:c=(!b)→K undef w):Q1 (.bool c) b w a K:=by
 cases c<;>cases b
 ·rw[Vg];exact e rfl
 ·rw[Jx];exact d rfl
 ·rw[Td];exact d rfl
 ·rw[G7];exact e rfl
theorem Q5 {c:Bool} {t e:Prop} (b:c=true→t) (a:c=false→e):X1 (.bool c) t e:=by
 cases c
 ·rw[Uq];exact a rfl
 ·rw[Nf];exact b rfl
theorem Q9 {α:Type} {R:Q4→α→List Value→Prop} {sz:Nat} {σ:Q4} {v:Value} {xs:List α} {a e t:TypeId} {cs:List Bool} [ts:TS P a e] (h:Sl sz R σ v xs) (b:K (I xs.length) w):X5 P .len [a] t cs [v] w K:=by
 rw[X1Q h];exact b
structure Kpt (D : Nat → Prop) (w w' : World) : Prop where
  os : w'.os = w.os
  tape : w'.tape = w.tape
  output : w'.output = w.output
  size : w.heap.size ≤ w'.heap.size
  block : ∀ k, k < w.heap.size → ¬ D k → w'.heap[k]? = w.heap[k]?
theorem Kpt.refl {D:Nat→Prop}:Kpt D w w:=⟨rfl,rfl,rfl,Nat.le_refl _,fun _ _ _=>rfl⟩
theorem Kpt.trans {D:Nat→Prop} (h:Kpt D w w') (k:Kpt D w' w''):Kpt D w w'':=
 ⟨k.os.trans h.os,k.tape.trans h.tape,k.output.trans h.output,Nat.le_trans h.size k.size,fun i b a=>(k.block i (Nat.lt_of_lt_of_le b h.size) a).trans (h.block i b a)⟩
theorem Kpt.of_below {D:Nat→Prop} (h:Below w.heap.size w w'):Kpt D w w':=⟨h.os,h.tape,h.output,h.size,fun k a _=>h.block k a⟩
theorem Kpt.of_grown {D:Nat→Prop} {row:Option Nat} (h:w.grownBy w' row) (a: ∀k,row=some k→D k):Kpt D w w':=⟨h.os,h.tape,h.output,h.size,fun k c b=>h.block k c (fun e=>b (a k e.symm))⟩
theorem Kpt.of_upd {D:Nat→Prop} {b:Nat} (h:Upd w b w') (c:D b):Kpt D w w':=⟨h.os,h.tape,h.output,by rw[h.size];exact Nat.le_refl _,fun k d a=>h.block k (fun e=>a (e▸c))⟩
theorem Kpt.mono {D b:Nat→Prop} (h:Kpt D w w') (c: ∀k,k<w.heap.size→D k→b k):Kpt b w w':=⟨h.os,h.tape,h.output,h.size,fun k a d=>h.block k a (fun e=>d (c k a e))⟩
theorem Kpt.below {D:Nat→Prop} (h:Kpt D w w') (a: ∀k,¬D k):Below w.heap.size w w':=⟨h.os,h.tape,h.output,h.size,fun k b=>h.block k b (a k)⟩
theorem Stp.kp {σ0 σ:Q4} {D:Nat→Prop} (a:Stp w0 σ0 w σ) (b:Kpt D w w') (f: ∀k,D k→w0.heap.size≤k∧σ k=none):Stp w0 σ0 w' σ:=by
 refine ⟨⟨b.os.trans a.bel.os,b.tape.trans a.bel.tape,b.output.trans a.bel.output,Nat.le_trans a.bel.size b.size,fun k c=>?_⟩,?_,a.le,a.old⟩
 ·refine (b.block k (Nat.lt_of_lt_of_le c a.bel.size) ?_).trans (a.bel.block k c)
  intro e;have:=(f k e).1;omega
 ·intro k o d
  refine (b.block k (a.sat.lt d) ?_).trans (a.sat k o d)
  intro e;rw[(f k e).2] at d;cases d
theorem Z5.kp {σ:Q4} {D:Nat→Prop} {k:Nat} {cs:List Value} (h:Z5 σ w k cs) (d:Kpt D w w') (a: ¬D k):Z5 σ w' k cs:=by
 have f:=h.lt
 obtain ⟨c,e,b⟩:=h
 exact ⟨c,e,(d.block k f a).trans b⟩
theorem E0.kp {σ:Q4} {D:Nat→Prop} {r:Nat} {m:List (List UInt8×Value)} (h:E0 σ w r m) (b:Kpt D w w') (a: ¬D r):E0 σ w' r m:=
 ⟨h.1,(b.block r h.lt a).symm▸h.2⟩
theorem V0.kp {α:Type} {R:Q4→α→List Value→Prop} {B sz:Nat} {e:TypeId} {σ:Q4} {v:Value} {xs:List α} {D:Nat→Prop} (h:V0 B e sz R σ w v xs) (l:Kpt D w w') (b: ∀k,v.ownBlock=some k→ ¬D k):V0 B e sz R σ w' v xs:=by
 obtain ⟨cells,f,j,m⟩:=h
 refine ⟨cells,⟨f.1,?_⟩,j,m⟩
 rcases f.2 with o | ⟨g,c,d,rfl,n,i,a⟩
 ·exact .inl o
 ·refine .inr ⟨g,c,d,rfl,n,?_,a⟩
  rw[l.block g (Array.getElem?_eq_some_iff.1 i).1 (b g rfl)];exact i
theorem bt {w w1 b:World} (a:Below w.heap.size w w1) (c:Below w1.heap.size w1 b):Below w.heap.size w b:=a.trans (c.mono a.size)
abbrev Z7:Nat:=140737488351232
def X9 (_:Q4) (s:List UInt8) (cs:List Value):Prop:=cs=[S s]∧s.length≤Z7
instance:Rep X9:=⟨fun _ h=>h,fun h u hu=>by rw[h.1] at hu;simp at hu;subst hu;rfl⟩
def Uk (_:Q4) (n:Int) (cs:List Value):Prop:=cs=[I n]∧ -9223372036854775808≤n∧n≤9223372036854775807
instance:Rep Uk:=⟨fun _ h=>h,fun h u hu=>by rw[h.1] at hu;simp at hu;subst hu;rfl⟩
def Q6O (_:Q4) (b:Bool) (cs:List Value):Prop:=cs=[.bool b]
instance:Rep Q6O:=⟨fun _ h=>h,fun h u hu=>by rw[h] at hu;simp at hu;subst hu;rfl⟩
def UpI (N:Nat) (a:Nat→World→Prop) (x:Value) (w:World):Prop:= ∃n:Nat,x=I n∧n≤N∧a n w
def Gy (N:Nat) (x:Value):Nat:=match x with | .int _ n=>N-n.toNat | _=>0
theorem J5 {A:(Value→World→Prop)→Value→(Nat→Value)→World→Prop} (N:Nat) (a:Nat→World→Prop) (e:a 0 w)
 (b: ∀n w d,n≤N→a n w→A (fun y w'=>UpI N a y w'∧Gy N y<Gy N (I n)) (I n) d w):lp (α:=Value) (.int .i64 0) w A:=by
 refine Ym (UpI N a) (fun x _=>Gy N x) ⟨0,rfl,Nat.zero_le _,e⟩ ?_
 rintro _ d w' ⟨n,rfl,c,f⟩
 exact b n w' d c f
theorem Y3 {N n:Nat} {a:Nat→World→Prop} (d:N≤9223372036854775807) (c:n<N) (b:a (n+1) w):UpI N a (.int .i64 (IntKind.i64.wrap (n+1))) w∧Gy N (.int .i64 (IntKind.i64.wrap (n+1)))<Gy N (I n):=by
 rw[B1 (by omega) (by omega)]
 exact ⟨⟨n+1,rfl,c,b⟩,by simp only[Gy];omega⟩
def Sg {α:Type} (N:Nat) (a:Nat→α→World→Prop) (x:α×Value) (w:World):Prop:= ∃n:Nat,x.2=I n∧n≤N∧a n x.1 w
def Wy {α:Type} (N:Nat) (x:α×Value):Nat:=Gy N x.2
theorem O9 {α:Type} {A:(α×Value→World→Prop)→α×Value→(Nat→Value)→World→Prop} {a:α} (N:Nat) (b:Nat→α→World→Prop) (h:b 0 a w)
 (c: ∀n a w d,n≤N→b n a w→A (fun y w'=>Sg N b y w'∧Wy N y<Wy N (a,I n)) (a,I n) d w):lp (α:=α×Value) (a, .int .i64 0) w A:=by
 refine Ym (Sg N b) (fun x _=>Wy N x) ⟨0,rfl,Nat.zero_le _,h⟩ ?_
 rintro ⟨a,x⟩ d w' ⟨n,e,g,f⟩
 simp only at e f
 subst e
 exact c n a w' d g f
theorem Z6 {α:Type} {a c:α} {N n:Nat} {b:Nat→α→World→Prop} (f:N≤9223372036854775807) (d:n<N) (e:b (n+1) c w):Sg N b (c, .int .i64 (IntKind.i64.wrap (n+1))) w∧Wy N (c, .int .i64 (IntKind.i64.wrap (n+1)))<Wy N (a,I n):=by
 rw[B1 (by omega) (by omega)]
 exact ⟨⟨n+1,rfl,d,e⟩,by simp only[Wy,Gy];omega⟩
theorem L7 {α:Type} {R:Q4→α→List Value→Prop} {sz:Nat} {σ:Q4} {v:Value} {xs:List α} {t e:TypeId} {by_:Nat} {z:Value} [TS P t e] [TZ P e sz by_ z] (h:Sl sz R σ v xs) {n:Nat} (g:n<xs.length)
 (d: ∀a cs,Z3 σ a cs→cs.length=sz→R σ xs[n] cs→K (.pointer (some a)) w):indexAddr P t v (I n) w K:=
 X2u h (by omega) (by simpa using g) (fun a cs b c f=>d a cs b c (by simpa using f))
theorem Y6 {t:TypeId} {sz by_:Nat} {z:Value} {A:Value→Value→World→Prop} [tz:TZ P t sz by_ z] {σ:Q4} {cs:List Value} (i:X4 w σ) (n:z.cells.size=sz) (q:cs.length=sz) (g: ∀u∈cs,u.oneCell'=true)
 (h: ∀a w' c,Stp w σ w' c→Z3 c a cs→A (.pointer (some a)) undef w'):W6 P t w (fun p w=>Z2 P t p (.agg cs.toArray) w (fun u w=>A p u w)):=by
 refine Dx i fun b w1 f l e=>?_
 refine sta e (by simpa using n) q (by rw[List.all_toArray];exact List.all_eq_true.2 g) fun j k d=>?_
 have o:Stp w σ j σ:=k.stp l f e.1
 obtain ⟨c,m,r,_⟩:=d.keep o f
 exact h _ _ _ m r
theorem U2 {t:TypeId} {by_:Nat} {z:Value} {A:Value→Value→World→Prop} [tz:TZ P t 1 by_ z] {σ:Q4} {v:Value} (k:X4 w σ) (q:z.cells.size=1) (i:v.cells= #[v]) (j:v.oneCell'=true)
 (h: ∀a w' d,Stp w σ w' d→Z3 d a [v]→A (.pointer (some a)) undef w'):W6 P t w (fun p w=>Z2 P t p v w (fun u w=>A p u w)):=by
 refine Dx k fun b w1 g n f=>?_
 have s:z.cells.toList.length=1:=by simpa using q
 refine st0 f (by omega) i j fun l m c=>?_
 have r:Stp w σ l σ:=m.stp n g f.1
 have e:z.cells.toList.set 0 v=[v]:=by
  match hzl:z.cells.toList,s with
  | [x],_=>rfl
 rw[e] at c
 obtain ⟨d,o,y,_⟩:=c.keep r g
 exact h _ _ _ o y
theorem M3 {α:Type} {xs:List α} {p:α→Bool} {n:Nat} (h:n<xs.length):(xs.take (n+1)).any p=((xs.take n).any p||p xs[n]):=by
 rw[List.take_add_one,List.getElem?_eq_getElem h,List.any_append];simp
theorem C1 {α:Type} {xs:List α} {p:α→Bool} {n:Nat} (h:n<xs.length) (a:p xs[n]=true):xs.any p=true:=List.any_eq_true.2 ⟨_,List.getElem_mem h,a⟩
theorem D0 {α:Type} {xs:List α} {p:α→Bool} {n:Nat} (h: ¬n<xs.length):(xs.take n).any p=xs.any p:=by rw[List.take_of_length_le (by omega)]
end Go.Emb

namespace Go.Hm
open Go.Kd
structure Fld where
  name : X0
  kind : X0
  tr : Bool
deriving DecidableEq
structure Ins where
  op : X0
  n : Int
  s : X0
deriving DecidableEq
structure Cat where
  frm : Int
  to : Int
  at_ : Int
  cls : X0
deriving DecidableEq
structure Met where
  name : X0
  params : List X0
  result : X0
  abs : Bool
  locals : Int
  code : List Ins
  catches : List Cat
deriving DecidableEq
structure Cla where
  name : X0
  super : X0
  like : List X0
  iface : Bool
  abs : Bool
  fin : Bool
  fields : List Fld
  methods : List Hm.Met
deriving DecidableEq
def Fld.zero:Fld:=⟨[],[],false⟩
def Met.zero:Hm.Met:=⟨[],[],[],false,0,[],[]⟩
def Cla.zero:Cla:=⟨[],[],[],false,false,false,[],[]⟩
end Go.Hm

namespace Go.Emb
open Go.RowKit Go.Hm
abbrev Tz (n:Int):Prop:= -9223372036854775808≤n∧n≤9223372036854775807
def D6 (_:Q4) (f:Fld) (cs:List Value):Prop:=cs=[S f.name,S f.kind, .bool f.tr]∧f.name.length≤Z7∧f.kind.length≤Z7
def G3 (_:Q4) (i:Ins) (cs:List Value):Prop:=cs=[S i.op,I i.n,S i.s]∧i.op.length≤Z7∧Tz i.n∧i.s.length≤Z7
def Xf (_:Q4) (c:Cat) (cs:List Value):Prop:=cs=[I c.frm,I c.to,I c.at_,S c.cls]∧Tz c.frm∧Tz c.to∧Tz c.at_∧c.cls.length≤Z7
def L2 (σ:Q4) (m:Hm.Met) (cs:List Value):Prop:= ∃pv a b,cs=[S m.name,pv,S m.result, .bool m.abs,I m.locals,a,b]∧Sl 1 X9 σ pv m.params∧Sl 3 G3 σ a m.code∧Sl 4 Xf σ b m.catches∧m.name.length≤Z7∧m.result.length≤Z7∧Tz m.locals
def U6 (σ:Q4) (c:Cla) (cs:List Value):Prop:= ∃b a mv,cs=[S c.name,S c.super,b, .bool c.iface, .bool c.abs, .bool c.fin,a,mv]∧Sl 1 X9 σ b c.like∧Sl 3 D6 σ a c.fields∧Sl 7 L2 σ mv c.methods∧c.name.length≤Z7∧c.super.length≤Z7
theorem F7 {α:Type} {sz:Nat} {R:Q4→α→List Value→Prop} {σ:Q4} {v:Value} {xs:List α} (h:Sl sz R σ v xs):v.oneCell'=true:=by
 obtain ⟨a,b,rfl,_⟩:=h;rfl
instance:Rep D6:=⟨fun _ h=>h,fun h u hu=>by rw[h.1] at hu;simp at hu;rcases hu with rfl | rfl | rfl<;>rfl⟩
instance:Rep G3:=⟨fun _ h=>h,fun h u hu=>by rw[h.1] at hu;simp at hu;rcases hu with rfl | rfl | rfl<;>rfl⟩
instance:Rep Xf:=⟨fun _ h=>h,fun h u hu=>by rw[h.1] at hu;simp at hu;rcases hu with rfl | rfl | rfl | rfl<;>rfl⟩
instance:Rep L2:=⟨fun hk ⟨pv,cv,hv,h1,h2,h3,h4,h5⟩=>⟨pv,cv,hv,h1,h2.le hk,h3.le hk,h4.le hk,h5⟩,fun ⟨pv,cv,hv,h1,h2,h3,h4,h5⟩ u hu=>by
 rw[h1] at hu;simp at hu;rcases hu with rfl | rfl | rfl | rfl | rfl | rfl | rfl
 ·rfl
 ·exact F7 h2
 ·rfl
 ·rfl
 ·rfl
 ·exact F7 h3
 ·exact F7 h4⟩
instance:Rep U6:=⟨fun hk ⟨pv,cv,hv,h1,h2,h3,h4,h5⟩=>⟨pv,cv,hv,h1,h2.le hk,h3.le hk,h4.le hk,h5⟩,fun ⟨pv,cv,hv,h1,h2,h3,h4,h5⟩ u hu=>by
 rw[h1] at hu;simp at hu;rcases hu with rfl | rfl | rfl | rfl | rfl | rfl | rfl | rfl
 ·rfl
 ·rfl
 ·exact F7 h2
 ·rfl
 ·rfl
 ·rfl
 ·exact F7 h3
 ·exact F7 h4⟩
end Go.Emb

namespace Go.Proofs.YtfppjenblllfaaaGreatDoor
open Go.Emb
instance z_x:TZ P T.x 1 0 (.tuple #[]):=⟨by kernel_rfl⟩
instance g_x:TG P T.x false:=⟨by kernel_rfl⟩
instance z_int64:TZ P T.al 1 8 (.int .i64 0):=⟨by kernel_rfl⟩
instance g_int64:TG P T.al false:=⟨by kernel_rfl⟩
instance z_int:TZ P T.e 1 8 (.int .i64 0):=⟨by kernel_rfl⟩
instance g_int:TG P T.e false:=⟨by kernel_rfl⟩
instance z_bool:TZ P T.p 1 1 (.bool false):=⟨by kernel_rfl⟩
instance g_bool:TG P T.p false:=⟨by kernel_rfl⟩
instance z_uint8:TZ P T.w 1 1 (.int .u8 0):=⟨by kernel_rfl⟩
instance g_uint8:TG P T.w false:=⟨by kernel_rfl⟩
instance z_string:TZ P T.c 1 16 (.string ⟨#[]⟩):=⟨by kernel_rfl⟩
instance g_string:TG P T.c false:=⟨by kernel_rfl⟩
instance z_uintptr:TZ P T.ao 1 8 (.int .u64 0):=⟨by kernel_rfl⟩
instance g_uintptr:TG P T.ao false:=⟨by kernel_rfl⟩
instance z_int32:TZ P T.af 1 4 (.int .i32 0):=⟨by kernel_rfl⟩
instance g_int32:TG P T.af false:=⟨by kernel_rfl⟩
instance z_S_string:TZ P T.d 1 24 (.slice none 0 0):=⟨by kernel_rfl⟩
instance g_S_string:TG P T.d false:=⟨by kernel_rfl⟩
instance s_S_string:TS P T.d 9:=⟨by kernel_rfl⟩
instance z_api_Shape:TZ P T.f 3 56 (.agg #[.bool false, .slice none 0 0, .slice none 0 0]):=⟨by kernel_rfl⟩
instance g_api_Shape:TG P T.f true:=⟨by kernel_rfl⟩
instance f_api_Shape_0:TF P T.f 0 0 4:=⟨by kernel_rfl⟩
instance f_api_Shape_1:TF P T.f 1 1 22:=⟨by kernel_rfl⟩
instance f_api_Shape_2:TF P T.f 2 2 22:=⟨by kernel_rfl⟩
instance z_P_hier_Table:TZ P T.r 1 8 (.pointer none):=⟨by kernel_rfl⟩
instance g_P_hier_Table:TG P T.r false:=⟨by kernel_rfl⟩
instance z_S_api_Class:TZ P T.h 1 24 (.slice none 0 0):=⟨by kernel_rfl⟩
instance g_S_api_Class:TG P T.h false:=⟨by kernel_rfl⟩
instance s_S_api_Class:TS P T.h 82:=⟨by kernel_rfl⟩
instance z_api_Errno:TZ P T.s 1 8 (.int .i64 0):=⟨by kernel_rfl⟩
instance g_api_Errno:TG P T.s false:=⟨by kernel_rfl⟩
instance z_S_api_Instr:TZ P T.l 1 24 (.slice none 0 0):=⟨by kernel_rfl⟩
instance g_S_api_Instr:TG P T.l false:=⟨by kernel_rfl⟩
instance s_S_api_Instr:TS P T.l 42:=⟨by kernel_rfl⟩
instance z_S_api_Catch:TZ P T.o 1 24 (.slice none 0 0):=⟨by kernel_rfl⟩
instance g_S_api_Catch:TG P T.o false:=⟨by kernel_rfl⟩
instance s_S_api_Catch:TS P T.o 159:=⟨by kernel_rfl⟩
instance z_api_Method:TZ P T.b 7 120 (.agg #[.string ⟨#[]⟩, .slice none 0 0, .string ⟨#[]⟩, .bool false, .int .i64 0, .slice none 0 0, .slice none 0 0]):=⟨by kernel_rfl⟩
instance g_api_Method:TG P T.b true:=⟨by kernel_rfl⟩
instance f_api_Method_0:TF P T.b 0 0 9:=⟨by kernel_rfl⟩
instance f_api_Method_1:TF P T.b 1 1 22:=⟨by kernel_rfl⟩
instance f_api_Method_2:TF P T.b 2 2 9:=⟨by kernel_rfl⟩
instance f_api_Method_3:TF P T.b 3 3 4:=⟨by kernel_rfl⟩
instance f_api_Method_4:TF P T.b 4 4 3:=⟨by kernel_rfl⟩
instance f_api_Method_5:TF P T.b 5 5 37:=⟨by kernel_rfl⟩
instance f_api_Method_6:TF P T.b 6 6 38:=⟨by kernel_rfl⟩
instance z_api_Instr:TZ P T.m 3 40 (.agg #[.string ⟨#[]⟩, .int .i64 0, .string ⟨#[]⟩]):=⟨by kernel_rfl⟩
instance g_api_Instr:TG P T.m true:=⟨by kernel_rfl⟩
instance f_api_Instr_0:TF P T.m 0 0 9:=⟨by kernel_rfl⟩
instance f_api_Instr_1:TF P T.m 1 1 2:=⟨by kernel_rfl⟩
instance f_api_Instr_2:TF P T.m 2 2 9:=⟨by kernel_rfl⟩
instance z_A2_api_Shape:TZ P T.ak 6 112 (.agg #[.bool false, .slice none 0 0, .slice none 0 0, .bool false, .slice none 0 0, .slice none 0 0]):=⟨by kernel_rfl⟩
instance g_A2_api_Shape:TG P T.ak true:=⟨by kernel_rfl⟩
instance a_A2_api_Shape:TA P T.ak 2 24:=⟨by kernel_rfl⟩
instance z_func_string_bool:TZ P T.y 1 8 .nilFunc:=⟨by kernel_rfl⟩
instance g_func_string_bool:TG P T.y false:=⟨by kernel_rfl⟩
instance z_S_int:TZ P T.z 1 24 (.slice none 0 0):=⟨by kernel_rfl⟩
instance g_S_int:TG P T.z false:=⟨by kernel_rfl⟩
instance s_S_int:TS P T.z 3:=⟨by kernel_rfl⟩
instance z_step_doer:TZ P T.t 15 232 (.agg #[.pointer none, .string ⟨#[]⟩, .slice none 0 0, .string ⟨#[]⟩, .bool false, .int .i64 0, .slice none 0 0, .slice none 0 0, .string ⟨#[]⟩, .int .i64 0, .string ⟨#[]⟩, .bool false, .slice none 0 0, .slice none 0 0, .int .i64 0]):=⟨by kernel_rfl⟩
instance g_step_doer:TG P T.t true:=⟨by kernel_rfl⟩
instance f_step_doer_0:TF P T.t 0 0 25:=⟨by kernel_rfl⟩
instance f_step_doer_1:TF P T.t 1 1 40:=⟨by kernel_rfl⟩
instance f_step_doer_2:TF P T.t 2 8 42:=⟨by kernel_rfl⟩
instance f_step_doer_3:TF P T.t 3 11 24:=⟨by kernel_rfl⟩
instance f_step_doer_4:TF P T.t 4 14 31:=⟨by kernel_rfl⟩
instance z_M_string_funcP_step_doer:TZ P T.j 1 8 (.map none):=⟨by kernel_rfl⟩
instance g_M_string_funcP_step_doer:TG P T.j false:=⟨by kernel_rfl⟩
instance m_M_string_funcP_step_doer:TM P T.j 9 69:=⟨by kernel_rfl⟩
instance z_M_string_int:TZ P T.v 1 8 (.map none):=⟨by kernel_rfl⟩
instance g_M_string_int:TG P T.v false:=⟨by kernel_rfl⟩
instance m_M_string_int:TM P T.v 9 3:=⟨by kernel_rfl⟩
instance z_hier_Table:TZ P T.u 2 32 (.agg #[.slice none 0 0, .map none]):=⟨by kernel_rfl⟩
instance g_hier_Table:TG P T.u true:=⟨by kernel_rfl⟩
instance f_hier_Table_0:TF P T.u 0 0 26:=⟨by kernel_rfl⟩
instance f_hier_Table_1:TF P T.u 1 1 76:=⟨by kernel_rfl⟩
instance z_S_api_Field:TZ P T.i 1 24 (.slice none 0 0):=⟨by kernel_rfl⟩
instance g_S_api_Field:TG P T.i false:=⟨by kernel_rfl⟩
instance s_S_api_Field:TS P T.i 89:=⟨by kernel_rfl⟩
instance z_S_api_Method:TZ P T.g 1 24 (.slice none 0 0):=⟨by kernel_rfl⟩
instance g_S_api_Method:TG P T.g false:=⟨by kernel_rfl⟩
instance s_S_api_Method:TS P T.g 40:=⟨by kernel_rfl⟩
instance z_api_Class:TZ P T.a 8 112 (.agg #[.string ⟨#[]⟩, .string ⟨#[]⟩, .slice none 0 0, .bool false, .bool false, .bool false, .slice none 0 0, .slice none 0 0]):=⟨by kernel_rfl⟩
instance g_api_Class:TG P T.a true:=⟨by kernel_rfl⟩
instance f_api_Class_0:TF P T.a 0 0 9:=⟨by kernel_rfl⟩
instance f_api_Class_1:TF P T.a 1 1 9:=⟨by kernel_rfl⟩
instance f_api_Class_2:TF P T.a 2 2 22:=⟨by kernel_rfl⟩
instance f_api_Class_3:TF P T.a 3 3 4:=⟨by kernel_rfl⟩
instance f_api_Class_4:TF P T.a 4 4 4:=⟨by kernel_rfl⟩
instance f_api_Class_5:TF P T.a 5 5 4:=⟨by kernel_rfl⟩
instance f_api_Class_6:TF P T.a 6 6 79:=⟨by kernel_rfl⟩
instance f_api_Class_7:TF P T.a 7 7 80:=⟨by kernel_rfl⟩
instance z_api_Field:TZ P T.k 3 40 (.agg #[.string ⟨#[]⟩, .string ⟨#[]⟩, .bool false]):=⟨by kernel_rfl⟩
instance g_api_Field:TG P T.k true:=⟨by kernel_rfl⟩
instance f_api_Field_0:TF P T.k 0 0 9:=⟨by kernel_rfl⟩
instance f_api_Field_1:TF P T.k 1 1 9:=⟨by kernel_rfl⟩
instance f_api_Field_2:TF P T.k 2 2 4:=⟨by kernel_rfl⟩
instance z_S_S_bool:TZ P T.a1 1 24 (.slice none 0 0):=⟨by kernel_rfl⟩
instance g_S_S_bool:TG P T.a1 false:=⟨by kernel_rfl⟩
instance s_S_S_bool:TS P T.a1 94:=⟨by kernel_rfl⟩
instance z_S_bool:TZ P T.a0 1 24 (.slice none 0 0):=⟨by kernel_rfl⟩
instance g_S_bool:TG P T.a0 false:=⟨by kernel_rfl⟩
instance s_S_bool:TS P T.a0 4:=⟨by kernel_rfl⟩
instance z_A10_string:TZ P T.ah 10 160 (.agg #[.string ⟨#[]⟩, .string ⟨#[]⟩, .string ⟨#[]⟩, .string ⟨#[]⟩, .string ⟨#[]⟩, .string ⟨#[]⟩, .string ⟨#[]⟩, .string ⟨#[]⟩, .string ⟨#[]⟩, .string ⟨#[]⟩]):=⟨by kernel_rfl⟩
instance g_A10_string:TG P T.ah true:=⟨by kernel_rfl⟩
instance a_A10_string:TA P T.ah 10 9:=⟨by kernel_rfl⟩
instance g_strings_asciiSet:TG P T.a4 true:=⟨by kernel_rfl⟩
instance a_strings_asciiSet:TA P T.a4 256 4:=⟨by kernel_rfl⟩
instance z_A6_string:TZ P T.ag 6 96 (.agg #[.string ⟨#[]⟩, .string ⟨#[]⟩, .string ⟨#[]⟩, .string ⟨#[]⟩, .string ⟨#[]⟩, .string ⟨#[]⟩]):=⟨by kernel_rfl⟩
instance g_A6_string:TG P T.ag true:=⟨by kernel_rfl⟩
instance a_A6_string:TA P T.ag 6 9:=⟨by kernel_rfl⟩
instance z_func_int:TZ P T.ai 1 8 .nilFunc:=⟨by kernel_rfl⟩
instance g_func_int:TG P T.ai false:=⟨by kernel_rfl⟩
instance z_M_string_string:TZ P T.q 1 8 (.map none):=⟨by kernel_rfl⟩
instance g_M_string_string:TG P T.q false:=⟨by kernel_rfl⟩
instance m_M_string_string:TM P T.q 9 9:=⟨by kernel_rfl⟩
instance z_func_api_Method_string:TZ P T.a2 1 8 .nilFunc:=⟨by kernel_rfl⟩
instance g_func_api_Method_string:TG P T.a2 false:=⟨by kernel_rfl⟩
instance z_func_api_Method_bool:TZ P T.a7 1 8 .nilFunc:=⟨by kernel_rfl⟩
instance g_func_api_Method_bool:TG P T.a7 false:=⟨by kernel_rfl⟩
instance z_func_string_string:TZ P T.a5 1 8 .nilFunc:=⟨by kernel_rfl⟩
instance g_func_string_string:TG P T.a5 false:=⟨by kernel_rfl⟩
instance z_func_api_Field_string:TZ P T.a3 1 8 .nilFunc:=⟨by kernel_rfl⟩
instance g_func_api_Field_string:TG P T.a3 false:=⟨by kernel_rfl⟩
instance z_func_api_Field_bool:TZ P T.a9 1 8 .nilFunc:=⟨by kernel_rfl⟩
instance g_func_api_Field_bool:TG P T.a9 false:=⟨by kernel_rfl⟩
instance z_api_Catch:TZ P T.n 4 40 (.agg #[.int .i64 0, .int .i64 0, .int .i64 0, .string ⟨#[]⟩]):=⟨by kernel_rfl⟩
instance g_api_Catch:TG P T.n true:=⟨by kernel_rfl⟩
instance f_api_Catch_0:TF P T.n 0 0 3:=⟨by kernel_rfl⟩
instance f_api_Catch_1:TF P T.n 1 1 3:=⟨by kernel_rfl⟩
instance f_api_Catch_2:TF P T.n 2 2 3:=⟨by kernel_rfl⟩
instance f_api_Catch_3:TF P T.n 3 3 9:=⟨by kernel_rfl⟩
instance z_func_api_Catch_bool:TZ P T.aa 1 8 .nilFunc:=⟨by kernel_rfl⟩
instance g_func_api_Catch_bool:TG P T.aa false:=⟨by kernel_rfl⟩
instance z_func_api_Instr_bool:TZ P T.ab 1 8 .nilFunc:=⟨by kernel_rfl⟩
instance g_func_api_Instr_bool:TG P T.ab false:=⟨by kernel_rfl⟩
instance z_S_uint8:TZ P T.am 1 24 (.slice none 0 0):=⟨by kernel_rfl⟩
instance g_S_uint8:TG P T.am false:=⟨by kernel_rfl⟩
instance s_S_uint8:TS P T.am 5:=⟨by kernel_rfl⟩
instance z_strings_Builder:TZ P T.ad 2 32 (.agg #[.pointer none, .slice none 0 0]):=⟨by kernel_rfl⟩
instance g_strings_Builder:TG P T.ad true:=⟨by kernel_rfl⟩
instance f_strings_Builder_0:TF P T.ad 0 0 185:=⟨by kernel_rfl⟩
instance f_strings_Builder_1:TF P T.ad 1 1 186:=⟨by kernel_rfl⟩
instance z_P_uint8:TZ P T.ap 1 8 (.pointer none):=⟨by kernel_rfl⟩
instance g_P_uint8:TG P T.ap false:=⟨by kernel_rfl⟩
instance g_A256_uint8:TG P T.an true:=⟨by kernel_rfl⟩
instance a_A256_uint8:TA P T.an 256 5:=⟨by kernel_rfl⟩
instance z_utf8_acceptRange:TZ P T.ac 2 2 (.agg #[.int .u8 0, .int .u8 0]):=⟨by kernel_rfl⟩
instance g_utf8_acceptRange:TG P T.ac true:=⟨by kernel_rfl⟩
instance f_utf8_acceptRange_0:TF P T.ac 0 0 5:=⟨by kernel_rfl⟩
instance f_utf8_acceptRange_1:TF P T.ac 1 1 5:=⟨by kernel_rfl⟩
instance z_A16_utf8_acceptRange:TZ P T.ae 32 32 (.agg #[.int .u8 0, .int .u8 0, .int .u8 0, .int .u8 0, .int .u8 0, .int .u8 0, .int .u8 0, .int .u8 0, .int .u8 0, .int .u8 0, .int .u8 0, .int .u8 0, .int .u8 0, .int .u8 0, .int .u8 0, .int .u8 0, .int .u8 0, .int .u8 0, .int .u8 0, .int .u8 0, .int .u8 0, .int .u8 0, .int .u8 0, .int .u8 0, .int .u8 0, .int .u8 0, .int .u8 0, .int .u8 0, .int .u8 0, .int .u8 0, .int .u8 0, .int .u8 0]):=⟨by kernel_rfl⟩
instance g_A16_utf8_acceptRange:TG P T.ae true:=⟨by kernel_rfl⟩
instance a_A16_utf8_acceptRange:TA P T.ae 16 202:=⟨by kernel_rfl⟩
instance z_code_op:TZ P T.a6 3 24 (.agg #[.string ⟨#[]⟩, .bool false, .bool false]):=⟨by kernel_rfl⟩
instance g_code_op:TG P T.a6 true:=⟨by kernel_rfl⟩
instance f_code_op_0:TF P T.a6 0 0 9:=⟨by kernel_rfl⟩
instance f_code_op_1:TF P T.a6 1 1 4:=⟨by kernel_rfl⟩
instance f_code_op_2:TF P T.a6 2 2 4:=⟨by kernel_rfl⟩
instance g_A42_code_op:TG P T.a8 true:=⟨by kernel_rfl⟩
instance a_A42_code_op:TA P T.a8 42 206:=⟨by kernel_rfl⟩
instance z_S_code_op:TZ P T.aj 1 24 (.slice none 0 0):=⟨by kernel_rfl⟩
instance g_S_code_op:TG P T.aj false:=⟨by kernel_rfl⟩
instance s_S_code_op:TS P T.aj 206:=⟨by kernel_rfl⟩
instance z_uint32:TZ P T.aq 1 4 (.int .u32 0):=⟨by kernel_rfl⟩
instance g_uint32:TG P T.aq false:=⟨by kernel_rfl⟩
instance z_uint64:TZ P T.ar 1 8 (.int .u64 0):=⟨by kernel_rfl⟩
instance g_uint64:TG P T.ar false:=⟨by kernel_rfl⟩
end Go.Proofs.YtfppjenblllfaaaGreatDoor

namespace Go.Emb
theorem aS {p:Prop} (h:p:=by (first | assumption | exact Stp.sat (by assumption) | exact Hst.sat (by assumption))):p:=h
theorem aL {p:Prop} (h:p:=by (first | assumption | exact Sl.lift (by assumption) (by (repeat (first | exact SLe.refl _ | refine SLe.more ?_ (by assumption) | refine SLe.more ?_ (Nxt.le (by assumption)) | refine SLe.step ?_ (by assumption)))) | exact Z3.lift (by assumption) (by (repeat (first | exact SLe.refl _ | refine SLe.more ?_ (by assumption) | refine SLe.more ?_ (Nxt.le (by assumption)) | refine SLe.step ?_ (by assumption)))) | exact I4.lift (by assumption) (by (repeat (first | exact SLe.refl _ | refine SLe.more ?_ (by assumption) | refine SLe.more ?_ (Nxt.le (by assumption)) | refine SLe.step ?_ (by assumption)))) | exact RCl_lift (by assumption) (by (repeat (first | exact SLe.refl _ | refine SLe.more ?_ (by assumption) | refine SLe.more ?_ (Nxt.le (by assumption)) | refine SLe.step ?_ (by assumption)))) | exact RMe_lift (by assumption) (by (repeat (first | exact SLe.refl _ | refine SLe.more ?_ (by assumption) | refine SLe.more ?_ (Nxt.le (by assumption)) | refine SLe.step ?_ (by assumption)))) | exact Glb.lift (by assumption) (by (repeat (first | exact SLe.refl _ | refine SLe.more ?_ (by assumption) | refine SLe.more ?_ (Nxt.le (by assumption)) | refine SLe.step ?_ (by assumption)))) | exact Tab.lift (by assumption) (by (repeat (first | exact SLe.refl _ | refine SLe.more ?_ (by assumption) | refine SLe.more ?_ (Nxt.le (by assumption)) | refine SLe.step ?_ (by assumption)))) | exact RIn_any (by assumption) | exact RFd_any (by assumption) | exact RCa_any (by assumption))):p:=h
theorem aR {p:Prop} (h:p:=by with_unfolding_all rfl):p:=h
theorem aF {p:Prop} (a:p:=by (refine Eq.subst (motive:=fun b=>K b _) ?_ (h _ _ (by (repeat (first | exact Stp.refl (by (first | assumption | exact Stp.sat (by assumption) | exact Hst.sat (by assumption))) | assumption | refine Stp.trans ?_ (by first | assumption | exact Hst.stp (by assumption))))));clear h;(try clear hA);(try clear hB);(try clear hC);first | rfl | ((try simp only[Bool.not_eq_true',Bool.not_eq_false',Bool.not_true,Bool.not_false,Bool.not_eq_true] at*);simp only[*,Mb,reduceIte];done) | (simp[*];done) | simp_all)):p:=a
theorem au {p:Prop} (h:p:=by (first | assumption | (first | assumption | exact Stp.sat (by assumption) | exact Hst.sat (by assumption)) | (first | assumption | exact Sl.lift (by assumption) (by (repeat (first | exact SLe.refl _ | refine SLe.more ?_ (by assumption) | refine SLe.more ?_ (Nxt.le (by assumption)) | refine SLe.step ?_ (by assumption)))) | exact Z3.lift (by assumption) (by (repeat (first | exact SLe.refl _ | refine SLe.more ?_ (by assumption) | refine SLe.more ?_ (Nxt.le (by assumption)) | refine SLe.step ?_ (by assumption)))) | exact I4.lift (by assumption) (by (repeat (first | exact SLe.refl _ | refine SLe.more ?_ (by assumption) | refine SLe.more ?_ (Nxt.le (by assumption)) | refine SLe.step ?_ (by assumption)))) | exact RCl_lift (by assumption) (by (repeat (first | exact SLe.refl _ | refine SLe.more ?_ (by assumption) | refine SLe.more ?_ (Nxt.le (by assumption)) | refine SLe.step ?_ (by assumption)))) | exact RMe_lift (by assumption) (by (repeat (first | exact SLe.refl _ | refine SLe.more ?_ (by assumption) | refine SLe.more ?_ (Nxt.le (by assumption)) | refine SLe.step ?_ (by assumption)))) | exact Glb.lift (by assumption) (by (repeat (first | exact SLe.refl _ | refine SLe.more ?_ (by assumption) | refine SLe.more ?_ (Nxt.le (by assumption)) | refine SLe.step ?_ (by assumption)))) | exact Tab.lift (by assumption) (by (repeat (first | exact SLe.refl _ | refine SLe.more ?_ (by assumption) | refine SLe.more ?_ (Nxt.le (by assumption)) | refine SLe.step ?_ (by assumption)))) | exact RIn_any (by assumption) | exact RFd_any (by assumption) | exact RCa_any (by assumption)) | exact Nat.le_trans (by assumption) (by decide) | omega)):p:=h
end Go.Emb
namespace Go.Proofs.YtfppjenblllfaaaGreatDoor
open Go.Emb
theorem X2r {a:List UInt8} {cs:List Bool} {r:TypeId} {w:World} {K:Value→World→Prop}:X5 P .len [T.c] r cs [S a] w K=K (I a.length) w:=D2 X7
theorem Q7m {c d:Operand} {a b:Bool} {w:World} {K:Value→World→Prop}:Q3 P .eql T.p c d (.bool a) (.bool b) w K=K (.bool (a==b)) w:=Q3P Pn
theorem X2i {c d:Operand} {a b:Bool} {w:World} {K:Value→World→Prop}:Q3 P .neq T.p c d (.bool a) (.bool b) w K=K (.bool (!(a==b))) w:=Q4P Pn
def Mm:=And.intro @fa <| And.intro @E7 <| And.intro @Qf <| And.intro @X2r <| And.intro @Q7m @X2i
def M1:=And.intro Mm Mr
def M2:=And.intro Mm Mp
end Go.Proofs.YtfppjenblllfaaaGreatDoor

namespace Go.Proofs.YtfppjenblllfaaaGreatDoor
open Go.Emb Go.RowKit Go.Kd Go.Hm
variable {w : World} {K : Value → World → Prop} {σ : Q4}
def Ui (m:Hm.Met):Bool:=decide (32<m.params.length)||decide (32<m.catches.length)||decide (200<m.code.length)||decide (64<m.locals)
def Xw (c:Cla):Bool:=c.methods.any Ui||decide (32<c.like.length)||decide (32<c.fields.length)||decide (32<c.methods.length)
theorem X1l {c : Cla} {cs : List Value} (hs : X4 w σ) (hc : U6 σ c cs) (h : ∀ w', Below w.heap.size w w' → K (.bool (Xw c)) w') : Q0 P F.ct [.agg cs.toArray] w K := Q4m (by
  obtain ⟨lv, fv, mv, rfl, hl, hf, hm, hn, hsu⟩ := hc
  unfold Ac
  refine M7 hs fun a w1 σ1 hk ha => ?_
  have hs := hk.sat
  replace hl := hl.up hk
  replace hf := hf.up hk
  replace hm := hm.up hk
  simp only [Value.cells] at ha
  ((try simp only [↓M1, M1, Mb, reduceIte]); repeat ((first | refine ld (by assumption) (by assumption) rfl ?_ | refine X8 (by assumption) (by assumption) rfl ?_ | refine Q9 (by assumption) ?_); (try simp only [↓M1, M1, Mb, reduceIte])))
  refine J5 c.methods.length (fun n w' => Below w1.heap.size w1 w' ∧ ((c.methods.take n).any Ui) = false) ⟨Below.refl _ _, by simp⟩ fun n w2 d hn hi => ?_
  obtain ⟨hb, hp⟩ := hi
  have hs2 := hs.below hb
  ((try simp only [↓M1, M1, Mb, reduceIte]); repeat ((first | refine ld (by assumption) (by assumption) rfl ?_ | refine X8 (by assumption) (by assumption) rfl ?_ | refine Q9 (by assumption) ?_); (try simp only [↓M1, M1, Mb, reduceIte])))
  refine Q5 (fun hc => ?_) (fun hc => ?_)
  · have hn' : n < c.methods.length := by simpa using hc
    refine L7 hm hn' fun p cs hl1 hlen hr => ?_
    refine Z1 hs2 hl1 hlen ?_
    refine Y6 hs2 (by rfl) hlen (Rep.one hr) fun q w3 σ3 hk3 hq => ?_
    obtain ⟨pv, cv, hv, rfl, g1, g2, g3, g4⟩ := hr
    have hs3 := hk3.sat
    replace g1 := g1.up hk3
    replace g2 := g2.up hk3
    replace g3 := g3.up hk3
    ((try simp only [↓M1, M1, Mb, reduceIte]); repeat ((first | refine ld (by assumption) (by assumption) rfl ?_ | refine X8 (by assumption) (by assumption) rfl ?_ | refine Q9 (by assumption) ?_); (try simp only [↓M1, M1, Mb, reduceIte])))
    (repeat' ((first | refine Z4 (fun hh => ?_) (fun hh => ?_) | refine Q5 (fun hh => ?_) (fun hh => ?_)) <;> (try simp only [hh, Bool.not_true, Bool.not_false, ↓M1, M1, Mb, reduceIte]) <;> ((try simp only [↓M1, M1, Mb, reduceIte]); repeat ((first | refine ld (by assumption) (by assumption) rfl ?_ | refine X8 (by assumption) (by assumption) rfl ?_ | refine Q9 (by assumption) ?_); (try simp only [↓M1, M1, Mb, reduceIte])))))
    all_goals first
      | refine Y3 hm.max hn' ⟨bt hb hk3.bel, ?_⟩
        rw [M3 hn', hp]; simp only [Ui]; (first | (simp only [decide_eq_true_eq, decide_eq_false_iff_not, Bool.not_true, Bool.not_false, Bool.not_eq_true', Bool.not_eq_false', Bool.or_eq_true, Bool.and_eq_true, Bool.or_eq_false_iff, Bool.and_eq_false_iff, Bool.false_or, Bool.true_and, Bool.or_false, Bool.and_true] at *; first | omega | (and_intros <;> omega)) | (rw [Bool.eq_iff_iff]; (simp only [decide_eq_true_eq, decide_eq_false_iff_not, Bool.not_true, Bool.not_false, Bool.not_eq_true', Bool.not_eq_false', Bool.or_eq_true, Bool.and_eq_true, Bool.or_eq_false_iff, Bool.and_eq_false_iff, Bool.false_or, Bool.true_and, Bool.or_false, Bool.and_true] at *; first | omega | (and_intros <;> omega))))
      | have e : Xw c = true := by
          have : Ui c.methods[n] = true := by simp only [Ui]; (first | (simp only [decide_eq_true_eq, decide_eq_false_iff_not, Bool.not_true, Bool.not_false, Bool.not_eq_true', Bool.not_eq_false', Bool.or_eq_true, Bool.and_eq_true, Bool.or_eq_false_iff, Bool.and_eq_false_iff, Bool.false_or, Bool.true_and, Bool.or_false, Bool.and_true] at *; first | omega | (and_intros <;> omega)) | (rw [Bool.eq_iff_iff]; (simp only [decide_eq_true_eq, decide_eq_false_iff_not, Bool.not_true, Bool.not_false, Bool.not_eq_true', Bool.not_eq_false', Bool.or_eq_true, Bool.and_eq_true, Bool.or_eq_false_iff, Bool.and_eq_false_iff, Bool.false_or, Bool.true_and, Bool.or_false, Bool.and_true] at *; first | omega | (and_intros <;> omega))))
          simp [Xw, C1 hn' this]
        rw [← e]; exact h _ (bt hk.bel (bt hb hk3.bel))
  · have hn' : ¬ n < c.methods.length := by simpa using hc
    rw [D0 hn'] at hp
    have h := h w2 (bt hk.bel hb)
    ((try simp only [↓M1, M1, Mb, reduceIte]); repeat ((first | refine ld (by assumption) (by assumption) rfl ?_ | refine X8 (by assumption) (by assumption) rfl ?_ | refine Q9 (by assumption) ?_); (try simp only [↓M1, M1, Mb, reduceIte])))
    (repeat' ((first | refine Z4 (fun hh => ?_) (fun hh => ?_) | refine Q5 (fun hh => ?_) (fun hh => ?_)) <;> (try simp only [hh, Bool.not_true, Bool.not_false, ↓M1, M1, Mb, reduceIte]) <;> ((try simp only [↓M1, M1, Mb, reduceIte]); repeat ((first | refine ld (by assumption) (by assumption) rfl ?_ | refine X8 (by assumption) (by assumption) rfl ?_ | refine Q9 (by assumption) ?_); (try simp only [↓M1, M1, Mb, reduceIte])))))
    all_goals
      refine Eq.subst (motive := fun b => K (.bool b) w2) ?_ h
      simp only [Xw, hp]
      (first | (simp only [decide_eq_true_eq, decide_eq_false_iff_not, Bool.not_true, Bool.not_false, Bool.not_eq_true', Bool.not_eq_false', Bool.or_eq_true, Bool.and_eq_true, Bool.or_eq_false_iff, Bool.and_eq_false_iff, Bool.false_or, Bool.true_and, Bool.or_false, Bool.and_true] at *; first | omega | (and_intros <;> omega)) | (rw [Bool.eq_iff_iff]; (simp only [decide_eq_true_eq, decide_eq_false_iff_not, Bool.not_true, Bool.not_false, Bool.not_eq_true', Bool.not_eq_false', Bool.or_eq_true, Bool.and_eq_true, Bool.or_eq_false_iff, Bool.and_eq_false_iff, Bool.false_or, Bool.true_and, Bool.or_false, Bool.and_true] at *; first | omega | (and_intros <;> omega)))))
end Go.Proofs.YtfppjenblllfaaaGreatDoor
