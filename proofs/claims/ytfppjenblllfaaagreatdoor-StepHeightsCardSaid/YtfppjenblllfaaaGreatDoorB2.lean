/- Parts of a proof about the given program: its functions as texts of their own, what each computes, plain laws of that. The conditions of each stand in its statement. -/
import Derived.Test.YtfppjenblllfaaaGreatDoorB1
import Derived.Below
import Derived.Maps.AppendAt
set_option linter.unnecessarySimpa false
set_option linter.defProp false
set_option linter.unusedSectionVars false
set_option linter.unusedVariables false
set_option linter.unusedSimpArgs false
set_option maxRecDepth 100000
namespace Go.Proofs.YtfppjenblllfaaaGreatDoor
open Go.Emb
def Ns (e c:Value) (w:World) (K:Value→World→Prop):Prop:= Q3 P .eql T.a (.tmp 7) (.const (.string ⟨#[]⟩)) e (.string ⟨#[]⟩) w fun s w=>Q1 s false w (fun w J=>J c w) fun l w=>Q1 s false w (Q3 P .eql T.a (.tmp 10) (.const (.string ⟨#[]⟩)) l (.string ⟨#[]⟩)) fun h w=>pick P s (.bool true) h w fun g w=>X1 g (K e w) (X5 P .len [T.a] T.e [false] [c] w fun t w=>Q3 P .eql T.e (.tmp 15) (.const (.int .i64 1)) t (.int .i64 1) w fun b w=>Q1 b true w (fun w J=>J c w) fun o w=>Q1 b true w (H2 P T.a o (.int .i64 0)) fun p w=>Q1 b true w (Q3 P .lss T.y (.tmp 19) (.const (.int .u8 128)) p (.int .u8 128)) fun i w=>pick P b i (.bool false) w fun r w=>X1 r (H2 P T.a c (.int .i64 0) w fun k w=>Q0 P F.cT [e,k] w fun f w=>K f w) (Q0 P F.cg [c] w fun d w=>ext P d 0 w fun j w=>ext P d 1 w fun n w=>L3 P T.a5 w fun a w=>Z6 P T.a5 a j w fun _u w=>X1 n (Q0 P F.al [e,a] w fun m w=>K m w) (Q0 P F.cQ [e,c] w fun q w=>K q w)))
theorem Ah {b a:Value} {w:World} {K:Value→World→Prop} (h:Ns b a w K):Q0 P F.bL [b,a] w K:=Q8 (List.replicate 12 none) Tryz.func38 rfl (by decide) (by kernel_rfl) h
def Np (m j:Value) (w:World) (K:Value→World→Prop):Prop:= Q3 P .eql T.a (.tmp 6) (.const (.string ⟨#[110,117,108,108]⟩)) j (.string ⟨#[110,117,108,108]⟩) w fun l w=>X1 l (K (.bool true) w) (Q0 P F.bL [j,(.string ⟨#[91,93]⟩)] w fun k w=>Q0 P F.z [j] w fun a w=>Q1 a true w (fun w J=>J k w) fun h w=>Q1 a true w (Q0 P F.ad [h]) fun e w=>Q1 a true w (fun w J=>J e w) fun b w=>Q1 b false w (fun w J=>J m w) fun d w=>Q1 b false w (fun w J=>J k w) fun g w=>Q1 b false w (Q0 P F.n [d,g]) fun i w=>Q1 a true w (pick P b (.bool true) i) fun c w=>pick P a c (.bool false) w fun f w=>K f w)
theorem Pz {b a:Value} {w:World} {K:Value→World→Prop} (h:Np b a w K):Q0 P F.r [b,a] w K:=Q8 (List.replicate 6 none) Tryz.func20 rfl (by decide) (by kernel_rfl) h
def Jj (c g:Value) (w:World) (K:Value→World→Prop):Prop:= Q3 P .neq T.a (.tmp 4) (.const (.string ⟨#[110,117,108,108]⟩)) c (.string ⟨#[110,117,108,108]⟩) w fun a w=>Q1 a true w (Q2 P T.r g) fun d w=>Q1 a true w (fun w J=>J c w) fun f w=>Q1 a true w (Q0 P F.r [d,f]) fun e w=>pick P a e (.bool false) w fun b w=>K b w
theorem Rd {b a:Value} {w:World} {K:Value→World→Prop} (h:Jj b a w K):Q0 P F.am [b,a] w K:=Q8 (List.replicate 2 none) Tryz.func105 rfl (by decide) (by kernel_rfl) h
def Zx (e d:Value) (w:World) (K:Value→World→Prop):Prop:= Q2 P T.z d w fun c w=>Z3 P c [e] w fun a w=>J3 P .not a w fun b w=>K b w
theorem Rx {b a:Value} {w:World} {K:Value→World→Prop} (h:Zx b a w K):Q0 P F.an [b,a] w K:=Q8 (List.replicate 2 none) Tryz.func106 rfl (by decide) (by kernel_rfl) h
def Q0F (s:Value) (w:World) (K:Value→World→Prop):Prop:= box P T.d s w fun b w=>dr w fun a c=>Q5 a (fun j=> ∀w,c w→fieldAddr P T.d b 1 w (dk a j w)) fun j=>Q5 a (fun l=> ∀w,c w→fieldAddr P T.d b 2 w (dk a l w)) fun l=>Q5 a (fun e=> ∀h w,c w→j h w→Q2 P T.c h w (dk a e w)) fun e=>Q5 a (fun k=> ∀i w,c w→e i w→Q0 P F.cR [i,(.string ⟨#[44]⟩)] w (dk a k w)) fun k=>Q5 a (fun f=> ∀g w,c w→k g w→Q3 P .add T.a (.const (.string ⟨#[40]⟩)) (.tmp 5) (.string ⟨#[40]⟩) g w (dk a f w)) fun f=>Q5 a (fun n=> ∀d w,c w→f d w→Q3 P .add T.a (.tmp 6) (.const (.string ⟨#[41]⟩)) d (.string ⟨#[41]⟩) w (dk a n w)) fun n=>Q5 a (fun p=> ∀m w,c w→l m w→Q2 P T.a m w (dk a p w)) fun p=>∀h m i g d q r w,c w→j h w→l m w→e i w→k g w→f d w→n q w→p r w→ Q3 P .add T.a (.tmp 7) (.tmp 9) q r w fun o w=>K o w
theorem Q5o {a:Value} {w:World} {K:Value→World→Prop} (h:Q0F a w K):Q0 P F.ch [a] w K:=Q8 (List.replicate 2 none) Tryz.func110 rfl (by decide) (by kernel_rfl) h
def Yl (a0 X Z Y:Value) (w:World) (K:Value→World→Prop):Prop:= box P T.d a0 w fun b w=>Q2 P T.t X w fun t9 w=>fieldAddr P T.d b 0 w fun R w=>Q2 P T.a R w fun N w=>lookup P T.t t9 N true w fun C w=>ext P C 0 w fun M w=>ext P C 1 w fun g w=>dr w fun a d=>Q5 a (fun j=> ∀w,d w→fieldAddr P T.d b 0 w (dk a j w)) fun j=>Q5 a (fun p=> ∀w,d w→fieldAddr P T.d b 0 w (dk a p w)) fun p=>Q5 a (fun q=> ∀w,d w→fieldAddr P T.b Z 0 w (dk a q w)) fun q=>Q5 a (fun e=> ∀w,d w→Q2 P T.t X w (dk a e w)) fun e=>Q5 a (fun m=> ∀s w,d w→j s w→Q2 P T.a s w (dk a m w)) fun m=>Q5 a (fun B=> ∀w,d w→Q2 P T.t Y w (dk a B w)) fun B=>Q5 a (fun z=> ∀t w,d w→p t w→Q2 P T.a t w (dk a z w)) fun z=>Q5 a (fun l=> ∀w,d w→Q2 P T.d b w (dk a l w)) fun l=>Q5 a (fun o=> ∀u w,d w→l u w→Q0 P F.ch [u] w (dk a o w)) fun o=>Q5 a (fun A=> ∀i w,d w→q i w→Q2 P T.a i w (dk a A w)) fun A=>Q5 a (fun r=> ∀c v w,d w→e c w→m v w→mapEntry P T.t c v w (dk a r w)) fun r=>Q5 a (fun n=> ∀h w,d w→r h w→ext P h 1 w (dk a n w)) fun n=>Q5 a (fun f=> ∀c k y w,d w→e c w→n k w→o y w→entryStore P T.t c k y w (dk a f w)) fun f=>∀s t i c v H D u y E h k L w,d w→j s w→p t w→q i w→e c w→m v w→B H w→z D w→l u w→o y w→A E w→r h w→n k w→f L w→ mapUpdate P T.t H D E w fun _u w=>Q1 g true w (fun w J=>J M w) fun O w=>Q1 g true w (Q2 P T.d b) fun V w=>Q1 g true w (Q0 P F.ch [V]) fun W w=>Q1 g true w (Q3 P .neq T.a (.tmp 29) (.tmp 31) O W) fun Q w=>pick P g Q (.bool false) w fun U w=>K U w
theorem Eo {d c b a:Value} {w:World} {K:Value→World→Prop} (h:Yl d c b a w K):Q0 P F.aK [d,c,b,a] w K:=Q8 (List.replicate 4 none) Tryz.func109 rfl (by decide) (by kernel_rfl) h
def Jk (h g d:Value) (w:World) (K:Value→World→Prop):Prop:= box P T.b h w fun a w=>fieldAddr P T.b a 7 w fun e w=>Q2 P T.g e w fun b w=>N6 P (.func F.aK) [] [g,a,d] w fun c w=>Q0 P F.a [b,c] w fun f w=>K f w
theorem Sg {c b a:Value} {w:World} {K:Value→World→Prop} (h:Jk c b a w K):Q0 P F.b0 [c,b,a] w K:=Q8 (List.replicate 2 none) Tryz.func107 rfl (by decide) (by kernel_rfl) h
def Q0M (g f:Value) (w:World) (K:Value→World→Prop):Prop:= box P T.d g w fun a w=>fieldAddr P T.d a 0 w fun e w=>Q2 P T.a e w fun d w=>Q2 P T.a f w fun b w=>Q3 P .eql T.a (.tmp 5) (.tmp 6) d b w fun c w=>K c w
theorem Q5O {b a:Value} {w:World} {K:Value→World→Prop} (h:Q0M b a w K):Q0 P F.cU [b,a] w K:=Q8 (List.replicate 2 none) Tryz.func203 rfl (by decide) (by kernel_rfl) h
def Q2W (n m:Value) (w:World) (K:Value→World→Prop):Prop:= box P T.b n w fun b w=>box P T.a m w fun a w=>L3 P T.d w fun d w=>fieldAddr P T.b b 7 w fun o w=>Q2 P T.g o w fun q w=>N6 P (.func F.cU) [] [a] w fun p w=>Q0 P F.k [q,p] w fun c w=>Q3 P .lss T.e (.tmp 11) (.const (.int .i64 0)) c (.int .i64 0) w fun f w=>X1 f (D7 P T.d [] w fun e w=>Z6 P T.d d e w fun _u w=>W2 P T.d d w fun g=>K (.tuple #[g,(.bool false)]) w) (fieldAddr P T.b b 7 w fun j w=>Q2 P T.g j w fun l w=>indexAddr P T.g l c w fun k w=>Q2 P T.d k w fun h w=>Q0 P F.c8 [h] w fun i w=>Z6 P T.d d i w fun _u w=>W2 P T.d d w fun g=>K (.tuple #[g,(.bool true)]) w)
theorem Q94 {b a:Value} {w:World} {K:Value→World→Prop} (h:Q2W b a w K):Q0 P F.cB [b,a] w K:=Q8 (List.replicate 6 none) Tryz.func168 rfl (by decide) (by kernel_rfl) h
def Ai:W1:=[none,none,none,some ([19],[6,8,10,11,12,13,14,15,19,20,21,22,23,24,25,26,27,28,29,30,31,32,33,34,35,36,37,38,39,40,41,42,43,44,45,46,47]),none,none,none,none,none,none,none,none,none,none,none,none]
def Nv (u M L:Value) (w:World) (K:Value→World→Prop):Prop:= box P T.b M w fun d w=>L3 P T.d w fun i w=>fieldAddr P T.b d 2 w fun D w=>Q2 P T.c D w fun p w=>X5 P .len [T.c] T.e [false] [p] w fun B w=>lp (α:=Value) (.int .i64 0) w fun c r N w=>Q3 P .lss T.e (.tmp 19) (.tmp 18) r B w fun y w=>X1 y (indexAddr P T.c p r w fun E w=>Q2 P T.a E w fun h w=>Q0 P F.h [u,h] w fun v w=>Q0 P F.cB [v,L] w fun k w=>ext P k 0 w fun z w=>ext P k 1 w fun A w=>L3 P T.d w fun a w=>Z6 P T.d a z w fun _u w=>X1 A (dr w fun m l=>Q5 m (fun f=> ∀w,l w→Q2 P T.d a w (dk m f w)) fun f=>∀n w,l w→f n w→ Z6 P T.d i n w fun _u w=>W2 P T.d i w fun j=>K (.tuple #[h,j,(.bool true)]) w) (Q0 P F.h [u,h] w fun t w=>Q0 P F.aY [u,t,L] w fun g w=>ext P g 0 w fun J w=>ext P g 1 w fun s w=>ext P g 2 w fun q w=>L3 P T.d w fun b w=>Z6 P T.d b s w fun _u w=>X1 q (dr w fun m l=>Q5 m (fun e=> ∀w,l w→Q2 P T.d b w (dk m e w)) fun e=>∀o w,l w→e o w→ Z6 P T.d i o w fun _u w=>W2 P T.d i w fun j=>K (.tuple #[J,j,(.bool true)]) w) (Q3 P .add T.e (.tmp 19) (.const (.int .i64 1)) r (.int .i64 1) w fun C w=>c C w))) (D7 P T.d [] w fun H w=>Z6 P T.d i H w fun _u w=>W2 P T.d i w fun j=>K (.tuple #[(.string ⟨#[]⟩),j,(.bool false)]) w)
theorem Ts {c b a:Value} {w:World} {K:Value→World→Prop} (h:Nv c b a w K):Q0 P F.aY [c,b,a] w K:=Q8 Ai Tryz.func169 rfl (by decide) (by kernel_rfl) h
def Fp:W1:=[none,none,none,none,none,some ([26],[6,8,11,12,13,26,27,28,29,30,31,32,33,34,35,36,37,38,39,40]),none,none,none,none,none,none,none,none,none,some ([43],[6,8,15,16,17,18,43,44,45,46,47,48,49,50,51,52,53,54,55,56,57,58]),none,none,none,none,none,none,none,none]
def Wd (Z a1 Y:Value) (w:World) (K:Value→World→Prop):Prop:= L3 P T.d w fun q w=>Q0 P F.aX [Z,a1] w fun f w=>Q0 P F.t [f] w fun ab w=>X5 P .len [T.h] T.e [false] [f] w fun B w=>lp (α:=Value) (.int .i64 0) w fun g M d_ w=>Q3 P .lss T.e (.tmp 26) (.tmp 25) M B w fun C w=>X1 C (indexAddr P T.h f M w fun y w=>Q2 P T.b y w fun H w=>L3 P T.b w fun a w=>Z6 P T.b a H w fun _u w=>Q2 P T.b a w fun U w=>Q0 P F.cB [U,Y] w fun t w=>ext P t 0 w fun O w=>ext P t 1 w fun D w=>L3 P T.d w fun b w=>Z6 P T.d b O w fun _u w=>X1 D (dr w fun h k=>Q5 h (fun i=> ∀w,k w→fieldAddr P T.b a 0 w (dk h i w)) fun i=>Q5 h (fun o=> ∀j w,k w→i j w→Q2 P T.a j w (dk h o w)) fun o=>Q5 h (fun n=> ∀w,k w→Q2 P T.d b w (dk h n w)) fun n=>∀j s v w,k w→i j w→o s w→n v w→ Z6 P T.d q v w fun _u w=>W2 P T.d q w fun r=>K (.tuple #[s,r,(.bool true)]) w) (Q3 P .add T.e (.tmp 26) (.const (.int .i64 1)) M (.int .i64 1) w fun W w=>g W w)) (X5 P .len [T.h] T.e [false] [f] w fun z w=>lp (α:=Value) (.int .i64 0) w fun e m d_ w=>Q3 P .lss T.e (.tmp 43) (.tmp 42) m z w fun N w=>X1 N (indexAddr P T.h f m w fun Q w=>Q2 P T.b Q w fun R w=>L3 P T.b w fun c w=>Z6 P T.b c R w fun _u w=>Q2 P T.b c w fun L w=>Q0 P F.aY [Z,L,Y] w fun p w=>ext P p 0 w fun A w=>ext P p 1 w fun J w=>ext P p 2 w fun V w=>L3 P T.d w fun d w=>Z6 P T.d d J w fun _u w=>X1 V (dr w fun h k=>Q5 h (fun l=> ∀w,k w→Q2 P T.d d w (dk h l w)) fun l=>∀u w,k w→l u w→ Z6 P T.d q u w fun _u w=>W2 P T.d q w fun r=>K (.tuple #[A,r,(.bool true)]) w) (Q3 P .add T.e (.tmp 43) (.const (.int .i64 1)) m (.int .i64 1) w fun X w=>e X w)) (D7 P T.d [] w fun E w=>Z6 P T.d q E w fun _u w=>W2 P T.d q w fun r=>K (.tuple #[(.string ⟨#[]⟩),r,(.bool false)]) w))
theorem Gc {c b a:Value} {w:World} {K:Value→World→Prop} (h:Wd c b a w K):Q0 P F.aE [c,b,a] w K:=Q8 Fp Tryz.func111 rfl (by decide) (by kernel_rfl) h
def Bq:W1:=[none,none,none,some ([21],[4,6,21,22,23,24,25,26,27,28,29,30,31,32]),none,none,none,none,none,none,none,none,none,some ([37],[4,9,37,38,39,40,41,42,43,44,45,46]),none,none,none,none,none,none,none,none,some ([50],[4,11,50,51,52,53,54,55,56,57,58,59,60,61,62,63,64,65,66,67,68,69,70]),none,none,none,none,none,none,none,none,none,none,none,none,none,none,none,some ([],[4,14,15,16,17,82,83,84,85,86,87,88,89,90,91,92,93,94,95,96,97,98,99,100]),none,none,none,none,none,none,none]
def Ut (a0 a1:Value) (w:World) (K:Value→World→Prop):Prop:= box P T.r a0 w fun v w=>box P T.b a1 w fun k w=>fieldAddr P T.b k 6 w fun ah w=>Q2 P T.i ah w fun p w=>X5 P .len [T.i] T.e [false] [p] w fun U w=>lp (α:=Value) (.int .i64 0) w fun f D d_ w=>Q3 P .lss T.e (.tmp 21) (.tmp 20) D U w fun bn w=>X1 bn (indexAddr P T.i p D w fun ay w=>Q2 P T.l ay w fun bd w=>L3 P T.l w fun t6 w=>Z6 P T.l t6 bd w fun _u w=>Q2 P T.r v w fun H w=>fieldAddr P T.b k 1 w fun Q w=>Q2 P T.a Q w fun O w=>fieldAddr P T.l t6 0 w fun z w=>Q2 P T.a z w fun a4 w=>Q0 P F.aJ [H,O,a4] w fun ae w=>Q3 P .geq T.e (.tmp 30) (.const (.int .i64 0)) ae (.int .i64 0) w fun aj w=>X1 aj (K (.int .i64 64) w) (Q3 P .add T.e (.tmp 21) (.const (.int .i64 1)) D (.int .i64 1) w fun a5 w=>f a5 w)) (N6 P (.func F.am) [] [v] w fun ac w=>L3 P T.z w fun u w=>Z6 P T.z u ac w fun _u w=>fieldAddr P T.b k 6 w fun be w=>Q2 P T.i be w fun t w=>X5 P .len [T.i] T.e [false] [t] w fun al w=>lp (α:=Value) (.int .i64 0) w fun c l d_ w=>Q3 P .lss T.e (.tmp 37) (.tmp 36) l al w fun L w=>X1 L (indexAddr P T.i t l w fun bk w=>Q2 P T.l bk w fun bj w=>L3 P T.l w fun t9 w=>Z6 P T.l t9 bj w fun _u w=>Q2 P T.z u w fun bm w=>fieldAddr P T.l t9 1 w fun av w=>Q2 P T.a av w fun ar w=>Z3 P bm [ar] w fun bb w=>J3 P .not bb w fun af w=>X1 af (K (.int .i64 65) w) (Q3 P .add T.e (.tmp 37) (.const (.int .i64 1)) l (.int .i64 1) w fun ai w=>c ai w)) (fieldAddr P T.b k 7 w fun bg w=>Q2 P T.g bg w fun q w=>X5 P .len [T.g] T.e [false] [q] w fun a6 w=>lp (α:=Value) (.int .i64 0) w fun b m d_ w=>Q3 P .lss T.e (.tmp 50) (.tmp 49) m a6 w fun bl w=>X1 bl (indexAddr P T.g q m w fun E w=>Q2 P T.d E w fun V w=>L3 P T.d w fun e w=>Z6 P T.d e V w fun _u w=>Q2 P T.z u w fun bh w=>fieldAddr P T.d e 2 w fun a8 w=>Q2 P T.a a8 w fun ao w=>Z3 P bh [ao] w fun ak w=>J3 P .not ak w fun g w=>Q1 g true w (fieldAddr P T.d e 2) fun az w=>Q1 g true w (Q2 P T.a az) fun J w=>Q1 g true w (Q3 P .neq T.a (.tmp 61) (.const (.string ⟨#[]⟩)) J (.string ⟨#[]⟩)) fun ab w=>pick P g ab (.bool false) w fun a w=>Q1 a false w (fieldAddr P T.d e 1) fun W w=>Q1 a false w (Q2 P T.c W) fun A w=>Q1 a false w (N6 P (.func F.an) [] [u]) fun Z w=>Q1 a false w (Q0 P F.e [A,Z]) fun M w=>pick P a (.bool true) M w fun aw w=>X1 aw (K (.int .i64 65) w) (Q3 P .add T.e (.tmp 50) (.const (.int .i64 1)) m (.int .i64 1) w fun ap w=>b ap w)) (Cn P T.t none w fun bc w=>Cn P T.t none w fun y w=>L3 P T.t w fun n w=>L3 P T.t w fun h w=>Z6 P T.t n bc w fun _u w=>Z6 P T.t h y w fun _u w=>Q2 P T.r v w fun a2 w=>fieldAddr P T.b k 0 w fun a9 w=>Q2 P T.a a9 w fun aa w=>N6 P (.func F.b0) [] [n,h] w fun bi w=>Q0 P F.y [a2,aa,bi] w fun aq w=>X1 aq (K (.int .i64 66) w) (fieldAddr P T.b k 4 w fun ag w=>Q2 P T.o ag w fun a3 w=>X1 a3 (K (.int .i64 0) w) (Q2 P T.t h w fun ba w=>rng P T.t ba w fun s w=>lp (α:=Unit) () w fun d br d_ w=>U3 P s false T.x w fun B w=>ext P B 0 w fun C w=>X1 C (Q8C P s w fun bf w=>ext P bf 0 w fun X w=>Q2 P T.r v w fun Y w=>fieldAddr P T.b k 0 w fun an w=>Q2 P T.a an w fun ad w=>Q0 P F.aE [Y,ad,X] w fun i w=>ext P i 0 w fun bu w=>ext P i 1 w fun R w=>ext P i 2 w fun N w=>L3 P T.d w fun o w=>Z6 P T.d o R w fun _u w=>J3 P .not N w fun j w=>Q1 j false w (fieldAddr P T.d o 3) fun a7 w=>Q1 j false w (Q2 P T.o a7) fun am w=>pick P j (.bool true) am w fun r w=>X1 r (K (.int .i64 67) w) (d () w)) (K (.int .i64 0) w))))))
theorem Bc {b a:Value} {w:World} {K:Value→World→Prop} (h:Ut b a w K):Q0 P F.be [b,a] w K:=Q8 Bq Tryz.func51 rfl (by decide) (by kernel_rfl) h
def Q8X:W1:=[none,none,none,none,none,some ([30],[2,3,4,7,8,9,30,31,32,33,34,35,36,37,38,39,40,41,42,43,44,45,46,47,48,49,50,51,52]),none,none,none,none,none,none,none,none,none,none,some ([58],[2,3,4,10,11,58,59,60,61,62,63,64,65,66,67,68,69,70,71,72,73,74,75,76,77]),none,none,none,none,none,none,none,none,none,some ([85],[2,3,4,12,13,14,85,86,87,88,89,90,91,92,93,94,95,96,97]),none,none,none,none,none,none,none,none,none,none,none,none,none,some ([114],[2,3,4,17,18,114,115,116,117,118,119,120,121,122,123,124,125,126,127,128,129,130,131,132,133]),none,none,none,none,none,none,none,none]
def Q2z (a0:Value) (w:World) (K:Value→World→Prop):Prop:= Q0 P F.cG [] w fun bc w=>Cn P T.w none w fun a5 w=>D7 P T.u [(0,bc),(1,a5)] w fun be w=>box P T.u be w fun a w=>nilCheck P a w fun bv w=>fieldAddr P T.u bv 0 w fun ax w=>Q2 P T.h ax w fun a2 w=>X5 P .len [T.h] T.e [false] [a2] w fun d w=>X5 P .len [T.h] T.e [false] [a0] w fun bp w=>lp (α:=Value) (.int .i64 0) w fun j x5 d_ w=>Q3 P .lss T.e (.tmp 30) (.tmp 29) x5 bp w fun ba w=>X1 ba (indexAddr P T.h a0 x5 w fun a8 w=>Q2 P T.b a8 w fun bw w=>L3 P T.b w fun t8 w=>Z6 P T.b t8 bw w fun _u w=>Q2 P T.b t8 w fun bn w=>Q0 P F.cw [bn] w fun ac w=>Q3 P .neq T.s (.tmp 37) (.const (.int .i64 0)) ac (.int .i64 0) w fun az w=>X1 az (K (.tuple #[(.pointer none),x5,ac]) w) (dr w fun b c=>Q5 b (fun n=> ∀w,c w→nilCheck P a w (dk b n w)) fun n=>Q5 b (fun u=> ∀o w,c w→n o w→fieldAddr P T.u o 0 w (dk b u w)) fun u=>Q5 b (fun N=> ∀s w,c w→u s w→Q2 P T.h s w (dk b N w)) fun N=>Q5 b (fun q=> ∀w,c w→Q2 P T.b t8 w (dk b q w)) fun q=>Q5 b (fun p=> ∀m w,c w→q m w→Q0 P F.cx [m] w (dk b p w)) fun p=>Q5 b (fun J=> ∀v w,c w→p v w→buildSlice P T.h 1 [(0,v)] w (dk b J w)) fun J=>∀o s aa m v ad w,c w→n o w→u s w→N aa w→q m w→p v w→J ad w→ X5 P .append [T.h,T.h] T.h [false,false] [aa,ad] w fun bq w=>nilCheck P a w fun bm w=>fieldAddr P T.u bm 0 w fun b0 w=>Z6 P T.h b0 bq w fun _u w=>Q3 P .add T.e (.tmp 30) (.const (.int .i64 1)) x5 (.int .i64 1) w fun aw w=>j aw w)) (nilCheck P a w fun bz w=>fieldAddr P T.u bz 0 w fun bs w=>Q2 P T.h bs w fun ah w=>X5 P .len [T.h] T.e [false] [ah] w fun bb w=>lp (α:=Value) (.int .i64 0) w fun f h d_ w=>Q3 P .lss T.e (.tmp 58) (.tmp 57) h bb w fun a3 w=>X1 a3 (indexAddr P T.h ah h w fun ay w=>Q2 P T.b ay w fun a7 w=>L3 P T.b w fun E w=>Z6 P T.b E a7 w fun _u w=>fieldAddr P T.b E 0 w fun br w=>Q2 P T.a br w fun a6 w=>Q0 P F.n [a,a6] w fun ar w=>X1 ar (Q3 P .sub T.e (.tmp 67) (.tmp 68) h d w fun bk w=>K (.tuple #[(.pointer none),bk,(.int .i64 60)]) w) (dr w fun b c=>Q5 b (fun y=> ∀w,c w→nilCheck P a w (dk b y w)) fun y=>Q5 b (fun k=> ∀t w,c w→y t w→fieldAddr P T.u t 1 w (dk b k w)) fun k=>Q5 b (fun z=> ∀w,c w→fieldAddr P T.b E 0 w (dk b z w)) fun z=>Q5 b (fun M=> ∀i w,c w→k i w→Q2 P T.w i w (dk b M w)) fun M=>Q5 b (fun H=> ∀r w,c w→z r w→Q2 P T.a r w (dk b H w)) fun H=>∀t i r ai Y w,c w→y t w→k i w→z r w→M ai w→H Y w→ mapUpdate P T.w ai Y h w fun _u w=>Q3 P .add T.e (.tmp 58) (.const (.int .i64 1)) h (.int .i64 1) w fun bi w=>f bi w)) (nilCheck P a w fun bo w=>fieldAddr P T.u bo 0 w fun bu w=>Q2 P T.h bu w fun bj w=>R6 P T.h bj (some d) none none w fun Q w=>X5 P .len [T.h] T.e [false] [Q] w fun bx w=>lp (α:=Value) (.int .i64 0) w fun e l d_ w=>Q3 P .lss T.e (.tmp 85) (.tmp 84) l bx w fun av w=>X1 av (indexAddr P T.h Q l w fun bh w=>Q2 P T.b bh w fun a9 w=>L3 P T.b w fun R w=>Z6 P T.b R a9 w fun _u w=>Q2 P T.b R w fun a4 w=>Q0 P F.bp [a,a4] w fun aj w=>Q3 P .neq T.s (.tmp 93) (.const (.int .i64 0)) aj (.int .i64 0) w fun a1 w=>X1 a1 (K (.tuple #[(.pointer none),l,aj]) w) (Q3 P .add T.e (.tmp 85) (.const (.int .i64 1)) l (.int .i64 1) w fun bf w=>e bf w)) (nilCheck P a w fun bd w=>fieldAddr P T.u bd 0 w fun ag w=>Q2 P T.h ag w fun al w=>R6 P T.h al (some d) none none w fun ab w=>N6 P (.func F.bw) [a] [] w fun V w=>Q0 P F.s [ab,V] w fun B w=>Q3 P .geq T.e (.tmp 107) (.const (.int .i64 0)) B (.int .i64 0) w fun ao w=>X1 ao (K (.tuple #[(.pointer none),B,(.int .i64 63)]) w) (Q0 P F.bx [a,d] w fun C w=>X5 P .len [T.a0] T.e [false] [C] w fun X w=>lp (α:=Value) (.int .i64 0) w fun g L d_ w=>Q3 P .lss T.e (.tmp 114) (.tmp 113) L X w fun O w=>X1 O (indexAddr P T.a0 C L w fun ap w=>Q2 P T.e ap w fun A w=>nilCheck P a w fun U w=>fieldAddr P T.u U 0 w fun ae w=>Q2 P T.h ae w fun af w=>indexAddr P T.h af A w fun W w=>Q2 P T.b W w fun an w=>Q0 P F.be [a,an] w fun D w=>Q3 P .neq T.s (.tmp 127) (.const (.int .i64 0)) D (.int .i64 0) w fun am w=>X1 am (Q3 P .sub T.e (.tmp 129) (.tmp 130) A d w fun Z w=>K (.tuple #[(.pointer none),Z,D]) w) (Q3 P .add T.e (.tmp 114) (.const (.int .i64 1)) L (.int .i64 1) w fun ak w=>g ak w)) (K (.tuple #[a,(.int .i64 0),(.int .i64 0)]) w)))))
theorem Q8q {a:Value} {w:World} {K:Value→World→Prop} (h:Q2z a w K):Q0 P F.cP [a] w K:=Q8 Q8X Tryz.func25 rfl (by decide) (by kernel_rfl) h
def Vb (w:World) (K:Value→World→Prop):Prop:= D7 P T.k [(0,(.string ⟨#[105,110,116]⟩)),(1,(.int .i64 1))] w fun s w=>D7 P T.k [(0,(.string ⟨#[114,101,116,117,114,110]⟩))] w fun q w=>buildSlice P T.n 2 [(0,s),(1,q)] w fun r w=>D7 P T.l [(0,(.string ⟨#[120]⟩)),(1,(.string ⟨#[105,110,116]⟩))] w fun p w=>D7 P T.l [(0,(.string ⟨#[110,101,120,116]⟩)),(1,(.string ⟨#[65]⟩))] w fun n w=>buildSlice P T.i 2 [(0,p),(1,n)] w fun o w=>buildSlice P T.c 2 [(0,(.string ⟨#[105,110,116]⟩)),(1,(.string ⟨#[65]⟩))] w fun t w=>D7 P T.d [(0,(.string ⟨#[102]⟩)),(1,t),(2,(.string ⟨#[105,110,116]⟩)),(4,(.int .i64 3)),(5,r)] w fun e w=>D7 P T.k [(0,(.string ⟨#[114,101,116,117,114,110]⟩))] w fun c w=>buildSlice P T.n 1 [(0,c)] w fun b w=>D7 P T.d [(0,(.string ⟨#[103]⟩)),(4,(.int .i64 1)),(5,b)] w fun a w=>buildSlice P T.g 2 [(0,e),(1,a)] w fun i w=>D7 P T.b [(0,(.string ⟨#[65]⟩)),(1,(.string ⟨#[79,98,106,101,99,116]⟩)),(6,o),(7,i)] w fun l w=>buildSlice P T.c 1 [(0,(.string ⟨#[73]⟩))] w fun g w=>D7 P T.l [(0,(.string ⟨#[108]⟩)),(1,(.string ⟨#[65,91,93]⟩))] w fun k w=>buildSlice P T.i 1 [(0,k)] w fun f w=>D7 P T.b [(0,(.string ⟨#[66]⟩)),(1,(.string ⟨#[65]⟩)),(2,g),(6,f)] w fun h w=>D7 P T.b [(0,(.string ⟨#[73]⟩)),(1,(.string ⟨#[79,98,106,101,99,116]⟩)),(3,(.bool true)),(4,(.bool true))] w fun d w=>D7 P T.b [(0,(.string ⟨#[68]⟩)),(1,(.string ⟨#[79,98,106,101,99,116]⟩)),(4,(.bool true))] w fun j w=>buildSlice P T.h 4 [(0,l),(1,h),(2,d),(3,j)] w fun m w=>K m w
theorem Bi {w:World} {K:Value→World→Prop} (h:Vb w K):Q0 P F.aA [] w K:=Q8 (List.replicate 3 none) Tryz.func26 rfl (by decide) (by kernel_rfl) h
def Ip:W1:=[none,none,none,none,none,some ([1,3],[1,3,10,11,12,13,14,15,16,17,18,19,20,21,22,23]),none,none,none,none]
def Wq (w:World) (K:Value→World→Prop):Prop:= D7 P T.b [(0,(.string ⟨#[79,98,106,101,99,116]⟩))] w fun o w=>D7 P T.l [(0,(.string ⟨#[119,104,97,116]⟩)),(1,(.string ⟨#[116,101,120,116]⟩))] w fun n w=>buildSlice P T.i 1 [(0,n)] w fun l w=>D7 P T.b [(0,(.string ⟨#[70,97,117,108,116]⟩)),(1,(.string ⟨#[79,98,106,101,99,116]⟩)),(6,l)] w fun m w=>buildSlice P T.h 2 [(0,o),(1,m)] w fun p w=>buildSlice P T.c 6 [(0,(.string ⟨#[78,117,108,108,70,97,117,108,116]⟩)),(1,(.string ⟨#[73,110,100,101,120,70,97,117,108,116]⟩)),(2,(.string ⟨#[67,97,115,116,70,97,117,108,116]⟩)),(3,(.string ⟨#[90,101,114,111,70,97,117,108,116]⟩)),(4,(.string ⟨#[82,111,111,109,70,97,117,108,116]⟩)),(5,(.string ⟨#[67,97,108,108,70,97,117,108,116]⟩))] w fun k w=>lp (α:=Value×Value) (p,(.int .i64 0)) w fun a b q w=>X5 P .len [T.c] T.e [false] [k] w fun e w=>Q3 P .lss T.e (.tmp 10) (.tmp 12) b.2 e w fun c w=>X1 c (indexAddr P T.c k b.2 w fun g w=>Q2 P T.a g w fun f w=>D7 P T.b [(0,f),(1,(.string ⟨#[70,97,117,108,116]⟩)),(5,(.bool true))] w fun h w=>buildSlice P T.h 1 [(0,h)] w fun j w=>X5 P .append [T.h,T.h] T.h [false,false] [b.1,j] w fun d w=>Q3 P .add T.e (.tmp 14) (.const (.int .i64 1)) b.2 (.int .i64 1) w fun i w=>a (d,i) w) (K b.1 w)
theorem Gv {w:World} {K:Value→World→Prop} (h:Wq w K):Q0 P F.bz [] w K:=Q8 Ip Tryz.func52 rfl (by decide) (by kernel_rfl) h
def Ac:W1:=[none,none,none,some ([3],[2,3,4,5,6,7,8,9,10,11,12,13,14,15,16,17,18,19,20,21,22,23,24,25,26,27,28,29,30,31,32,33,34,35,36,37]),none,none,none,none,none,none,none]
def Om (Z:Value) (w:World) (K:Value→World→Prop):Prop:= box P T.b Z w fun b w=>lp (α:=Value) (.int .i64 0) w fun g k d_ w=>fieldAddr P T.b b 7 w fun Y w=>Q2 P T.g Y w fun t7 w=>X5 P .len [T.g] T.e [false] [t7] w fun t8 w=>Q3 P .lss T.e (.tmp 5) (.tmp 8) k t8 w fun t9 w=>X1 t9 (fieldAddr P T.b b 7 w fun r w=>Q2 P T.g r w fun n w=>indexAddr P T.g n k w fun V w=>Q2 P T.d V w fun L w=>L3 P T.d w fun a w=>Z6 P T.d a L w fun _u w=>fieldAddr P T.d a 1 w fun U w=>Q2 P T.c U w fun E w=>X5 P .len [T.c] T.e [false] [E] w fun M w=>Q3 P .gtr T.e (.tmp 19) (.const (.int .i64 32)) M (.int .i64 32) w fun d w=>Q1 d false w (fieldAddr P T.d a 6) fun X w=>Q1 d false w (Q2 P T.q X) fun q w=>Q1 d false w (X5 P .len [T.q] T.e [false] [q]) fun A w=>Q1 d false w (Q3 P .gtr T.e (.tmp 24) (.const (.int .i64 32)) A (.int .i64 32)) fun m w=>pick P d (.bool true) m w fun c w=>Q1 c false w (fieldAddr P T.d a 5) fun i w=>Q1 c false w (Q2 P T.n i) fun u w=>Q1 c false w (X5 P .len [T.n] T.e [false] [u]) fun C w=>Q1 c false w (Q3 P .gtr T.e (.tmp 30) (.const (.int .i64 200)) C (.int .i64 200)) fun J w=>pick P c (.bool true) J w fun h w=>Q1 h false w (fieldAddr P T.d a 4) fun B w=>Q1 h false w (Q2 P T.e B) fun s w=>Q1 h false w (Q3 P .gtr T.e (.tmp 35) (.const (.int .i64 64)) s (.int .i64 64)) fun O w=>pick P h (.bool true) O w fun W w=>X1 W (K (.bool true) w) (Q3 P .add T.e (.tmp 10) (.const (.int .i64 1)) k (.int .i64 1) w fun t w=>g t w)) (fieldAddr P T.b b 2 w fun o w=>Q2 P T.c o w fun Q w=>X5 P .len [T.c] T.e [false] [Q] w fun N w=>Q3 P .gtr T.e (.tmp 40) (.const (.int .i64 32)) N (.int .i64 32) w fun f w=>Q1 f false w (fieldAddr P T.b b 6) fun j w=>Q1 f false w (Q2 P T.i j) fun z w=>Q1 f false w (X5 P .len [T.i] T.e [false] [z]) fun D w=>Q1 f false w (Q3 P .gtr T.e (.tmp 45) (.const (.int .i64 32)) D (.int .i64 32)) fun H w=>pick P f (.bool true) H w fun e w=>Q1 e false w (fieldAddr P T.b b 7) fun y w=>Q1 e false w (Q2 P T.g y) fun p w=>Q1 e false w (X5 P .len [T.g] T.e [false] [p]) fun R w=>Q1 e false w (Q3 P .gtr T.e (.tmp 51) (.const (.int .i64 32)) R (.int .i64 32)) fun l w=>pick P e (.bool true) l w fun v w=>K v w)
theorem Af {a:Value} {w:World} {K:Value→World→Prop} (h:Om a w K):Q0 P F.bN [a] w K:=Q8 Ac Tryz.func112 rfl (by decide) (by kernel_rfl) h
def Gw:W1:=[none,none,none,some ([4],[4,5,6,7]),none,none,none,none]
def Mu (b:Value) (w:World) (K:Value→World→Prop):Prop:= jn (α:=Value) w (fun a w=>Q3 P .eql T.a (.tmp 3) (.const (.string ⟨#[105,110,116]⟩)) b (.string ⟨#[105,110,116]⟩) w fun d w=>X1 d (a d w) (Q3 P .eql T.a (.tmp 3) (.const (.string ⟨#[98,111,111,108]⟩)) b (.string ⟨#[98,111,111,108]⟩) w fun c w=>X1 c (a c w) (Q3 P .eql T.a (.tmp 3) (.const (.string ⟨#[116,101,120,116]⟩)) b (.string ⟨#[116,101,120,116]⟩) w fun e w=>a e w))) fun f g w=>X1 f (K (.bool true) w) (K (.bool false) w)
theorem Ph {a:Value} {w:World} {K:Value→World→Prop} (h:Mu a w K):Q0 P F.ai [a] w K:=Q8 Gw Tryz.func62 rfl (by decide) (by kernel_rfl) h
def Ty:W1:=[none,none,none,some ([3],[2,3,4,5,6,7,8,9,10,11,12,13,14,15,16,17,18,19,20,21,22,23,24,25,26,27,28,29,30,31,32,33,34,35,36,37,38,39,40,41,42,43,44,45,46,47,48,49,50]),none,none,none,none,none,none,none]
def Nq (h:Value) (w:World) (K:Value→World→Prop):Prop:= lp (α:=Value) (.int .i64 0) w fun i g d_ w=>X5 P .len [T.a] T.e [false] [h] w fun t7 w=>Q3 P .lss T.e (.tmp 5) (.tmp 7) g t7 w fun t8 w=>X1 t8 (H2 P T.a h g w fun q w=>Q3 P .geq T.y (.tmp 13) (.const (.int .u8 97)) q (.int .u8 97) w fun f w=>Q1 f true w (fun w J=>J h w) fun O w=>Q1 f true w (fun w J=>J g w) fun Z w=>Q1 f true w (H2 P T.a O Z) fun E w=>Q1 f true w (Q3 P .leq T.y (.tmp 18) (.const (.int .u8 122)) E (.int .u8 122)) fun Q w=>pick P f Q (.bool false) w fun a w=>Q1 a false w (fun w J=>J h w) fun ab w=>Q1 a false w (fun w J=>J g w) fun s w=>Q1 a false w (H2 P T.a ab s) fun A w=>Q1 a false w (Q3 P .geq T.y (.tmp 24) (.const (.int .u8 65)) A (.int .u8 65)) fun p w=>Q1 a false w (fun w J=>J p w) fun d w=>Q1 d true w (fun w J=>J h w) fun t w=>Q1 d true w (fun w J=>J g w) fun l w=>Q1 d true w (H2 P T.a t l) fun u w=>Q1 d true w (Q3 P .leq T.y (.tmp 29) (.const (.int .u8 90)) u (.int .u8 90)) fun C w=>Q1 a false w (pick P d C (.bool false)) fun M w=>pick P a (.bool true) M w fun v w=>J3 P .not v w fun b w=>Q1 b true w (fun w J=>J g w) fun V w=>Q1 b true w (Q3 P .eql T.e (.tmp 36) (.const (.int .i64 0)) V (.int .i64 0)) fun aa w=>Q1 b true w (fun w J=>J aa w) fun c w=>Q1 c false w (fun w J=>J h w) fun W w=>Q1 c false w (fun w J=>J g w) fun R w=>Q1 c false w (H2 P T.a W R) fun Y w=>Q1 c false w (Q3 P .lss T.y (.tmp 41) (.const (.int .u8 48)) Y (.int .u8 48)) fun n w=>Q1 b true w (pick P c (.bool true) n) fun m w=>Q1 b true w (fun w J=>J m w) fun e w=>Q1 e false w (fun w J=>J h w) fun D w=>Q1 e false w (fun w J=>J g w) fun H w=>Q1 e false w (H2 P T.a D H) fun L w=>Q1 e false w (Q3 P .gtr T.y (.tmp 47) (.const (.int .u8 57)) L (.int .u8 57)) fun X w=>Q1 b true w (pick P e (.bool true) X) fun y w=>pick P b y (.bool false) w fun r w=>X1 r (K (.bool false) w) (Q3 P .add T.e (.tmp 9) (.const (.int .i64 1)) g (.int .i64 1) w fun B w=>i B w)) (X5 P .len [T.a] T.e [false] [h] w fun o w=>Q3 P .geq T.e (.tmp 52) (.const (.int .i64 1)) o (.int .i64 1) w fun j w=>Q1 j true w (fun w J=>J h w) fun z w=>Q1 j true w (X5 P .len [T.a] T.e [false] [z]) fun k w=>Q1 j true w (Q3 P .leq T.e (.tmp 56) (.const (.int .i64 32)) k (.int .i64 32)) fun N w=>pick P j N (.bool false) w fun U w=>K U w)
theorem Px {a:Value} {w:World} {K:Value→World→Prop} (h:Nq a w K):Q0 P F.aZ [a] w K:=Q8 Ty Tryz.func204 rfl (by decide) (by kernel_rfl) h
def Nb (b:Value) (w:World) (K:Value→World→Prop):Prop:= Q0 P F.aZ [b] w fun a w=>Q1 a true w (fun w J=>J b w) fun c w=>Q1 a true w (H2 P T.a c (.int .i64 0)) fun d w=>Q1 a true w (Q3 P .leq T.y (.tmp 7) (.const (.int .u8 90)) d (.int .u8 90)) fun f w=>pick P a f (.bool false) w fun e w=>K e w
theorem Gu {a:Value} {w:World} {K:Value→World→Prop} (h:Nb a w K):Q0 P F.f [a] w K:=Q8 (List.replicate 2 none) Tryz.func170 rfl (by decide) (by kernel_rfl) h
def Tg:W1:=[none,none,none,some ([0,3],[0,3,4,5,6,7,8,9,10,11,12,13,14,15,16,17,18,19,20,21]),none,none,none,none]
def Nf (m:Value) (w:World) (K:Value→World→Prop):Prop:= lp (α:=Value×Value) (m,(.int .i64 0)) w fun a c q w=>X5 P .len [T.a] T.e [false] [c.1] w fun n w=>Q3 P .geq T.e (.tmp 5) (.const (.int .i64 2)) n (.int .i64 2) w fun b w=>Q1 b true w (fun w J=>J c.1 w) fun p w=>Q1 b true w (fun w J=>J c.1 w) fun o w=>Q1 b true w (X5 P .len [T.a] T.e [false] [o]) fun h w=>Q1 b true w (Q3 P .sub T.e (.tmp 10) (.const (.int .i64 2)) h (.int .i64 2)) fun f w=>Q1 b true w (R6 P T.a p (some f) none none) fun e w=>Q1 b true w (Q3 P .eql T.a (.tmp 12) (.const (.string ⟨#[91,93]⟩)) e (.string ⟨#[91,93]⟩)) fun d w=>pick P b d (.bool false) w fun k w=>X1 k (Q3 P .add T.e (.tmp 15) (.const (.int .i64 1)) c.2 (.int .i64 1) w fun i w=>X5 P .len [T.a] T.e [false] [c.1] w fun j w=>Q3 P .sub T.e (.tmp 19) (.const (.int .i64 2)) j (.int .i64 2) w fun g w=>R6 P T.a c.1 none (some g) none w fun l w=>a (l,i) w) (K c.2 w)
theorem Tc {a:Value} {w:World} {K:Value→World→Prop} (h:Nf a w K):Q0 P F.aq [a] w K:=Q8 Tg Tryz.func177 rfl (by decide) (by kernel_rfl) h
def Me (k:Value) (w:World) (K:Value→World→Prop):Prop:= Q0 P F.aq [k] w fun m w=>X5 P .len [T.a] T.e [false] [k] w fun n w=>Q3 P .mul T.e (.const (.int .i64 2)) (.tmp 10) (.int .i64 2) m w fun d w=>Q3 P .sub T.e (.tmp 9) (.tmp 11) n d w fun j w=>R6 P T.a k none (some j) none w fun c w=>Q3 P .leq T.e (.tmp 14) (.const (.int .i64 3)) m (.int .i64 3) w fun a w=>Q1 a true w (fun w J=>J c w) fun g w=>Q1 a true w (Q0 P F.ai [g]) fun h w=>Q1 a true w (fun w J=>J h w) fun b w=>Q1 b false w (fun w J=>J c w) fun e w=>Q1 b false w (Q0 P F.f [e]) fun f w=>Q1 a true w (pick P b (.bool true) f) fun l w=>pick P a l (.bool false) w fun i w=>K i w
theorem Gs {a:Value} {w:World} {K:Value→World→Prop} (h:Me a w K):Q0 P F.l [a] w K:=Q8 (List.replicate 4 none) Tryz.func120 rfl (by decide) (by kernel_rfl) h
def Wn (b:Value) (w:World) (K:Value→World→Prop):Prop:= Q0 P F.aZ [b] w fun a w=>Q1 a true w (fun w J=>J b w) fun c w=>Q1 a true w (H2 P T.a c (.int .i64 0)) fun d w=>Q1 a true w (Q3 P .geq T.y (.tmp 7) (.const (.int .u8 97)) d (.int .u8 97)) fun f w=>pick P a f (.bool false) w fun e w=>K e w
theorem Fj {a:Value} {w:World} {K:Value→World→Prop} (h:Wn a w K):Q0 P F.w [a] w K:=Q8 (List.replicate 2 none) Tryz.func171 rfl (by decide) (by kernel_rfl) h
end Go.Proofs.YtfppjenblllfaaaGreatDoor

set_option maxRecDepth 100000
namespace Go.Proofs.YtfppjenblllfaaaGreatDoor
open Go.Emb
def Dw (w:World) (K:Value→World→Prop):Prop:= buildSlice P T.c 42 [(0,(.string ⟨#[105,110,116]⟩)),(1,(.string ⟨#[116,114,117,101]⟩)),(2,(.string ⟨#[102,97,108,115,101]⟩)),(3,(.string ⟨#[119,111,114,100]⟩)),(4,(.string ⟨#[110,117,108,108]⟩)),(5,(.string ⟨#[108,111,97,100]⟩)),(6,(.string ⟨#[115,116,111,114,101]⟩)),(7,(.string ⟨#[112,111,112]⟩)),(8,(.string ⟨#[100,117,112]⟩)),(9,(.string ⟨#[115,119,97,112]⟩)),(10,(.string ⟨#[97,100,100]⟩)),(11,(.string ⟨#[115,117,98]⟩)),(12,(.string ⟨#[109,117,108]⟩)),(13,(.string ⟨#[100,105,118]⟩)),(14,(.string ⟨#[114,101,109]⟩)),(15,(.string ⟨#[110,101,103]⟩)),(16,(.string ⟨#[108,101,115,115]⟩)),(17,(.string ⟨#[115,97,109,101]⟩)),(18,(.string ⟨#[110,111,116]⟩)),(19,(.string ⟨#[98,111,116,104]⟩)),(20,(.string ⟨#[106,111,105,110]⟩)),(21,(.string ⟨#[115,105,122,101]⟩)),(22,(.string ⟨#[106,117,109,112]⟩)),(23,(.string ⟨#[98,114,97,110,99,104]⟩)),(24,(.string ⟨#[110,101,119]⟩)),(25,(.string ⟨#[103,101,116]⟩)),(26,(.string ⟨#[112,117,116]⟩)),(27,(.string ⟨#[99,97,108,108]⟩)),(28,(.string ⟨#[97,114,114,97,121]⟩)),(29,(.string ⟨#[97,116]⟩)),(30,(.string ⟨#[115,101,116]⟩)),(31,(.string ⟨#[105,115]⟩)),(32,(.string ⟨#[99,97,115,116]⟩)),(33,(.string ⟨#[114,101,116,117,114,110]⟩)),(34,(.string ⟨#[116,104,114,111,119]⟩)),(35,(.string ⟨#[111,117,116]⟩)),(36,(.string ⟨#[101,113,117,97,108]⟩)),(37,(.string ⟨#[97,110,100]⟩)),(38,(.string ⟨#[111,114]⟩)),(39,(.string ⟨#[120,111,114]⟩)),(40,(.string ⟨#[115,104,108]⟩)),(41,(.string ⟨#[115,104,114]⟩))] w fun a w=>K a w
theorem Q11 {w:World} {K:Value→World→Prop} (h:Dw w K):Q0 P F.bU [] w K:=Q8 (List.replicate 2 none) Tryz.func63 rfl (by decide) (by kernel_rfl) h
def Fc:W1:=[none,none,none,none,some ([4],[2,4,6,7,8,9,10,11,12,13,14,15,16,17,18]),none,none,none,none,none,none]
def Wc (j:Value) (w:World) (K:Value→World→Prop):Prop:= Q0 P F.bU [] w fun g w=>lp (α:=Value) (.int .i64 0) w fun a b k w=>X5 P .len [T.c] T.e [false] [g] w fun i w=>Q3 P .lss T.e (.tmp 6) (.tmp 8) b i w fun h w=>X1 h (indexAddr P T.c g b w fun d w=>Q2 P T.a d w fun f w=>Q3 P .eql T.a (.tmp 15) (.tmp 16) f j w fun e w=>X1 e (K b w) (Q3 P .add T.e (.tmp 10) (.const (.int .i64 1)) b (.int .i64 1) w fun c w=>a c w)) (K (.int .i64 (-1)) w)
theorem Bu {a:Value} {w:World} {K:Value→World→Prop} (h:Wc a w K):Q0 P F.bo [a] w K:=Q8 Fc Tryz.func34 rfl (by decide) (by kernel_rfl) h
def Pe:W1:=[none,none,none,some ([4],[4,5,6,7,8,9]),none,none,none,none,none,some ([10],[10,11,12,13,14,15,16,17,18]),none,none,none,none,none,none,none,none,none,none,none,none]
def Mf (a:Value) (w:World) (K:Value→World→Prop):Prop:= jn (α:=Value) w (fun f w=>Q3 P .eql T.a (.tmp 3) (.const (.string ⟨#[105,110,116]⟩)) a (.string ⟨#[105,110,116]⟩) w fun p w=>X1 p (f p w) (Q3 P .eql T.a (.tmp 3) (.const (.string ⟨#[108,111,97,100]⟩)) a (.string ⟨#[108,111,97,100]⟩) w fun n w=>X1 n (f n w) (Q3 P .eql T.a (.tmp 3) (.const (.string ⟨#[115,116,111,114,101]⟩)) a (.string ⟨#[115,116,111,114,101]⟩) w fun o w=>X1 o (f o w) (Q3 P .eql T.a (.tmp 3) (.const (.string ⟨#[106,117,109,112]⟩)) a (.string ⟨#[106,117,109,112]⟩) w fun q w=>X1 q (f q w) (Q3 P .eql T.a (.tmp 3) (.const (.string ⟨#[98,114,97,110,99,104]⟩)) a (.string ⟨#[98,114,97,110,99,104]⟩) w fun t w=>f t w))))) fun s r w=>X1 s (K (.int .i64 1) w) (jn (α:=Value) w (fun b w=>Q3 P .eql T.a (.tmp 3) (.const (.string ⟨#[119,111,114,100]⟩)) a (.string ⟨#[119,111,114,100]⟩) w fun e w=>X1 e (b e w) (Q3 P .eql T.a (.tmp 3) (.const (.string ⟨#[110,101,119]⟩)) a (.string ⟨#[110,101,119]⟩) w fun d w=>X1 d (b d w) (Q3 P .eql T.a (.tmp 3) (.const (.string ⟨#[103,101,116]⟩)) a (.string ⟨#[103,101,116]⟩) w fun c w=>X1 c (b c w) (Q3 P .eql T.a (.tmp 3) (.const (.string ⟨#[112,117,116]⟩)) a (.string ⟨#[112,117,116]⟩) w fun h w=>X1 h (b h w) (Q3 P .eql T.a (.tmp 3) (.const (.string ⟨#[99,97,108,108]⟩)) a (.string ⟨#[99,97,108,108]⟩) w fun j w=>X1 j (b j w) (Q3 P .eql T.a (.tmp 3) (.const (.string ⟨#[97,114,114,97,121]⟩)) a (.string ⟨#[97,114,114,97,121]⟩) w fun g w=>X1 g (b g w) (Q3 P .eql T.a (.tmp 3) (.const (.string ⟨#[105,115]⟩)) a (.string ⟨#[105,115]⟩) w fun i w=>X1 i (b i w) (Q3 P .eql T.a (.tmp 3) (.const (.string ⟨#[99,97,115,116]⟩)) a (.string ⟨#[99,97,115,116]⟩) w fun l w=>b l w)))))))) fun u r w=>X1 u (K (.int .i64 2) w) (Q0 P F.bo [a] w fun k w=>Q3 P .lss T.e (.tmp 20) (.const (.int .i64 0)) k (.int .i64 0) w fun m w=>X1 m (K (.int .i64 (-1)) w) (K (.int .i64 0) w)))
theorem Kb {a:Value} {w:World} {K:Value→World→Prop} (h:Mf a w K):Q0 P F.aG [a] w K:=Q8 Pe Tryz.func18 rfl (by decide) (by kernel_rfl) h
def Mh (m l:Value) (w:World) (K:Value→World→Prop):Prop:= X5 P .len [T.a] T.e [false] [m] w fun n w=>Q3 P .lss T.e (.tmp 5) (.tmp 7) l n w fun b w=>Q1 b true w (fun w J=>J m w) fun f w=>Q1 b true w (fun w J=>J l w) fun d w=>Q1 b true w (H2 P T.a f d) fun i w=>Q1 b true w (Q3 P .geq T.y (.tmp 12) (.const (.int .u8 128)) i (.int .u8 128)) fun j w=>pick P b j (.bool false) w fun a w=>Q1 a true w (fun w J=>J m w) fun e w=>Q1 a true w (fun w J=>J l w) fun h w=>Q1 a true w (H2 P T.a e h) fun k w=>Q1 a true w (Q3 P .lss T.y (.tmp 18) (.const (.int .u8 192)) k (.int .u8 192)) fun c w=>pick P a c (.bool false) w fun g w=>K g w
theorem Gz {b a:Value} {w:World} {K:Value→World→Prop} (h:Mh b a w K):Q0 P F.u [b,a] w K:=Q8 (List.replicate 2 none) Tryz.func242 rfl (by decide) (by kernel_rfl) h
def Te:W1:=[none,none,some ([],[2,4,5,9,10,11,12,13,14,15,16,17,18,19,20,21,22,23,24,25,26,27,28,29,30,31,32,33,34,35,36,37,38,39,40,41,42,43,44,45,46,47,48,49,50,51,52,53,54,55,56,57,58,59,60,61,62,63,64,65,66,67,68,69,70,71,72,73,74,75,76,77,78,79,80,81,82,83,84,85,86,87,88,89,90,91,92,93,94,95,96,97,98,99,100,101,102,103,104,105,106]),none,none,none,none,none,none,none,none,none,none,none,none,none]
def Nx (c:Value) (w:World) (K:Value→World→Prop):Prop:= H2 P T.a c (.int .i64 0) w fun t7 w=>conv P T.y T.e t7 w fun D w=>jn (α:=Unit) w (fun J2 w=>Q3 P .lss T.e (.tmp 10) (.const (.int .i64 128)) D (.int .i64 128) w fun bc w=>X1 bc (K (.int .i64 1) w) (Q3 P .geq T.e (.tmp 13) (.const (.int .i64 194)) D (.int .i64 194) w fun aw w=>Q1 aw true w (fun w J=>J D w) fun bj w=>Q1 aw true w (Q3 P .lss T.e (.tmp 16) (.const (.int .i64 224)) bj (.int .i64 224)) fun bz w=>pick P aw bz (.bool false) w fun am w=>Q1 am true w (fun w J=>J c w) fun bd w=>Q1 am true w (Q0 P F.u [bd,(.int .i64 1)]) fun bl w=>pick P am bl (.bool false) w fun b1 w=>X1 b1 (K (.int .i64 2) w) (Q3 P .geq T.e (.tmp 24) (.const (.int .i64 224)) D (.int .i64 224) w fun ai w=>Q1 ai true w (fun w J=>J D w) fun ba w=>Q1 ai true w (Q3 P .lss T.e (.tmp 27) (.const (.int .i64 240)) ba (.int .i64 240)) fun a7 w=>pick P ai a7 (.bool false) w fun ap w=>Q1 ap true w (fun w J=>J c w) fun bi w=>Q1 ap true w (Q0 P F.u [bi,(.int .i64 1)]) fun br w=>pick P ap br (.bool false) w fun al w=>Q1 al true w (fun w J=>J c w) fun bo w=>Q1 al true w (Q0 P F.u [bo,(.int .i64 2)]) fun bk w=>pick P al bk (.bool false) w fun b0 w=>X1 b0 (dr w fun a b=>Q5 a (fun v=> ∀w,b w→Q3 P .rem T.e (.tmp 38) (.const (.int .i64 16)) D (.int .i64 16) w (dk a v w)) fun v=>Q5 a (fun R=> ∀ac w,b w→v ac w→Q3 P .mul T.e (.tmp 39) (.const (.int .i64 4096)) ac (.int .i64 4096) w (dk a R w)) fun R=>Q5 a (fun B=> ∀w,b w→H2 P T.a c (.int .i64 1) w (dk a B w)) fun B=>Q5 a (fun H=> ∀M w,b w→B M w→Q3 P .rem T.y (.tmp 42) (.const (.int .u8 64)) M (.int .u8 64) w (dk a H w)) fun H=>Q5 a (fun N=> ∀w,b w→H2 P T.a c (.int .i64 2) w (dk a N w)) fun N=>Q5 a (fun O=> ∀A w,b w→N A w→Q3 P .rem T.y (.tmp 48) (.const (.int .u8 64)) A (.int .u8 64) w (dk a O w)) fun O=>Q5 a (fun Y=> ∀L w,b w→H L w→conv P T.y T.e L w (dk a Y w)) fun Y=>Q5 a (fun n=> ∀X w,b w→Y X w→Q3 P .mul T.e (.tmp 44) (.const (.int .i64 64)) X (.int .i64 64) w (dk a n w)) fun n=>Q5 a (fun ar=> ∀ab t w,b w→R ab w→n t w→Q3 P .add T.e (.tmp 40) (.tmp 45) ab t w (dk a ar w)) fun ar=>Q5 a (fun ax=> ∀V w,b w→O V w→conv P T.y T.e V w (dk a ax w)) fun ax=>∀ac ab M L A V X t a1 a4 w,b w→v ac w→R ab w→B M w→H L w→N A w→O V w→Y X w→n t w→ar a1 w→ax a4 w→ Q3 P .add T.e (.tmp 46) (.tmp 50) a1 a4 w fun ay w=>Q3 P .geq T.e (.tmp 52) (.const (.int .i64 2048)) ay (.int .i64 2048) w fun d w=>Q1 d true w (fun w J=>J ay w) fun bs w=>Q1 d true w (Q3 P .lss T.e (.tmp 55) (.const (.int .i64 55296)) bs (.int .i64 55296)) fun bm w=>Q1 d true w (fun w J=>J bm w) fun an w=>Q1 an false w (fun w J=>J ay w) fun bx w=>Q1 an false w (Q3 P .gtr T.e (.tmp 58) (.const (.int .i64 57343)) bx (.int .i64 57343)) fun bb w=>Q1 d true w (pick P an (.bool true) bb) fun bp w=>pick P d bp (.bool false) w fun a9 w=>X1 a9 (K (.int .i64 3) w) (J2 () w)) (Q3 P .geq T.e (.tmp 63) (.const (.int .i64 240)) D (.int .i64 240) w fun aq w=>Q1 aq true w (fun w J=>J D w) fun a8 w=>Q1 aq true w (Q3 P .lss T.e (.tmp 66) (.const (.int .i64 245)) a8 (.int .i64 245)) fun bf w=>pick P aq bf (.bool false) w fun aj w=>Q1 aj true w (fun w J=>J c w) fun bn w=>Q1 aj true w (Q0 P F.u [bn,(.int .i64 1)]) fun bw w=>pick P aj bw (.bool false) w fun ah w=>Q1 ah true w (fun w J=>J c w) fun bu w=>Q1 ah true w (Q0 P F.u [bu,(.int .i64 2)]) fun bg w=>pick P ah bg (.bool false) w fun av w=>Q1 av true w (fun w J=>J c w) fun bh w=>Q1 av true w (Q0 P F.u [bh,(.int .i64 3)]) fun bq w=>pick P av bq (.bool false) w fun bv w=>X1 bv (dr w fun a b=>Q5 a (fun ae=> ∀w,b w→Q3 P .rem T.e (.tmp 81) (.const (.int .i64 8)) D (.int .i64 8) w (dk a ae w)) fun ae=>Q5 a (fun Z=> ∀h w,b w→ae h w→Q3 P .mul T.e (.tmp 82) (.const (.int .i64 262144)) h (.int .i64 262144) w (dk a Z w)) fun Z=>Q5 a (fun z=> ∀w,b w→H2 P T.a c (.int .i64 1) w (dk a z w)) fun z=>Q5 a (fun u=> ∀o w,b w→z o w→Q3 P .rem T.y (.tmp 85) (.const (.int .u8 64)) o (.int .u8 64) w (dk a u w)) fun u=>Q5 a (fun ad=> ∀w,b w→H2 P T.a c (.int .i64 2) w (dk a ad w)) fun ad=>Q5 a (fun p=> ∀m w,b w→ad m w→Q3 P .rem T.y (.tmp 91) (.const (.int .u8 64)) m (.int .u8 64) w (dk a p w)) fun p=>Q5 a (fun af=> ∀w,b w→H2 P T.a c (.int .i64 3) w (dk a af w)) fun af=>Q5 a (fun y=> ∀C w,b w→af C w→Q3 P .rem T.y (.tmp 97) (.const (.int .u8 64)) C (.int .u8 64) w (dk a y w)) fun y=>Q5 a (fun aa=> ∀g w,b w→u g w→conv P T.y T.e g w (dk a aa w)) fun aa=>Q5 a (fun U=> ∀q w,b w→aa q w→Q3 P .mul T.e (.tmp 87) (.const (.int .i64 4096)) q (.int .i64 4096) w (dk a U w)) fun U=>Q5 a (fun j=> ∀i E w,b w→Z i w→U E w→Q3 P .add T.e (.tmp 83) (.tmp 88) i E w (dk a j w)) fun j=>Q5 a (fun f=> ∀Q w,b w→p Q w→conv P T.y T.e Q w (dk a f w)) fun f=>Q5 a (fun r=> ∀l w,b w→f l w→Q3 P .mul T.e (.tmp 93) (.const (.int .i64 64)) l (.int .i64 64) w (dk a r w)) fun r=>Q5 a (fun ao=> ∀s k w,b w→j s w→r k w→Q3 P .add T.e (.tmp 89) (.tmp 94) s k w (dk a ao w)) fun ao=>Q5 a (fun ak=> ∀W w,b w→y W w→conv P T.y T.e W w (dk a ak w)) fun ak=>∀h i o g m Q C W q E s l k a5 a3 w,b w→ae h w→Z i w→z o w→u g w→ad m w→p Q w→af C w→y W w→aa q w→U E w→j s w→f l w→r k w→ao a5 w→ak a3 w→ Q3 P .add T.e (.tmp 95) (.tmp 99) a5 a3 w fun ag w=>Q3 P .geq T.e (.tmp 101) (.const (.int .i64 65536)) ag (.int .i64 65536) w fun e w=>Q1 e true w (fun w J=>J ag w) fun a6 w=>Q1 e true w (Q3 P .leq T.e (.tmp 104) (.const (.int .i64 1114111)) a6 (.int .i64 1114111)) fun az w=>pick P e az (.bool false) w fun a2 w=>X1 a2 (K (.int .i64 4) w) (J2 () w)) (J2 () w))))) fun z2 d_ w=>K (.int .i64 0) w
theorem Tj {a:Value} {w:World} {K:Value→World→Prop} (h:Nx a w K):Q0 P F.bR [a] w K:=Q8 Te Tryz.func240 rfl (by decide) (by kernel_rfl) h
def Ic:W1:=[none,none,some ([0],[0,2,3,4,5,6,7,8,9,10,11,12]),none,none,none,none,none,none,none]
def Wy (g:Value) (w:World) (K:Value→World→Prop):Prop:= lp (α:=Value) g w fun a b h w=>Q3 P .neq T.a (.tmp 4) (.const (.string ⟨#[]⟩)) b (.string ⟨#[]⟩) w fun e w=>X1 e (Q0 P F.bR [b] w fun d w=>Q3 P .eql T.e (.tmp 8) (.const (.int .i64 0)) d (.int .i64 0) w fun f w=>X1 f (K (.bool false) w) (R6 P T.a b (some d) none none w fun c w=>a c w)) (K (.bool true) w)
theorem Gr {a:Value} {w:World} {K:Value→World→Prop} (h:Wy a w K):Q0 P F.bI [a] w K:=Q8 Ic Tryz.func232 rfl (by decide) (by kernel_rfl) h
def Kn:W1:=[none,none,none,some ([5],[2,3,4,5,6,7,8,9,10,11,12,13,14,15,16,17,18,19,20,21,22,23,24,25,26,27,28,29,30,31,32,33]),none,none,none,none,none,none]
def Lc (z:Value) (w:World) (K:Value→World→Prop):Prop:= lp (α:=Value) (.int .i64 0) w fun i t N w=>X5 P .len [T.a] T.e [false] [z] w fun M w=>Q3 P .lss T.e (.tmp 6) (.tmp 8) t M w fun L w=>X1 L (H2 P T.a z t w fun E w=>Q3 P .eql T.y (.tmp 14) (.const (.int .u8 46)) E (.int .u8 46) w fun H w=>X1 H (dr w fun b d=>Q5 b (fun y=> ∀w,d w→R6 P T.a z none (some t) none w (dk b y w)) fun y=>Q5 b (fun k=> ∀w,d w→Q3 P .add T.e (.tmp 20) (.const (.int .i64 1)) t (.int .i64 1) w (dk b k w)) fun k=>Q5 b (fun u=> ∀r w,d w→k r w→R6 P T.a z (some r) none none w (dk b u w)) fun u=>Q5 b (fun p=> ∀w,d w→R6 P T.a z none (some t) none w (dk b p w)) fun p=>Q5 b (fun c=> ∀g w,d w→p g w→Q0 P F.f [g] w (dk b c w)) fun c=>Q5 b (fun f=> ∀a w,d w→c a w→Q1 a true w (fun w J=>J z w) (dk b f w)) fun f=>Q5 b (fun h=> ∀a w,d w→c a w→Q1 a true w (fun w J=>J t w) (dk b h w)) fun h=>Q5 b (fun l=> ∀a j w,d w→c a w→h j w→Q1 a true w (Q3 P .add T.e (.tmp 29) (.const (.int .i64 1)) j (.int .i64 1)) (dk b l w)) fun l=>Q5 b (fun n=> ∀a e o w,d w→c a w→f e w→l o w→Q1 a true w (R6 P T.a e (some o) none none) (dk b n w)) fun n=>Q5 b (fun s=> ∀a q w,d w→c a w→n q w→Q1 a true w (Q0 P F.w [q]) (dk b s w)) fun s=>Q5 b (fun v=> ∀a m w,d w→c a w→s m w→pick P a m (.bool false) w (dk b v w)) fun v=>∀B r C g a e j o q m A w,d w→y B w→k r w→u C w→p g w→c a w→f e w→h j w→l o w→n q w→s m w→v A w→ K (.tuple #[B,C,A]) w) (Q3 P .add T.e (.tmp 10) (.const (.int .i64 1)) t (.int .i64 1) w fun D w=>i D w)) (K (.tuple #[(.string ⟨#[]⟩),(.string ⟨#[]⟩),(.bool false)]) w)
theorem Pd {a:Value} {w:World} {K:Value→World→Prop} (h:Lc a w K):Q0 P F.bJ [a] w K:=Q8 Kn Tryz.func233 rfl (by decide) (by kernel_rfl) h
def Kj:W1:=[none,none,none,none,none,none,some ([4],[4,5,6,7,8,30,31,32,33,34,35,36,37,38,39,40,41,42,43,44,45,46,47,48,49,50,51,52,53,54,55,56,57,58,59,60,61,62,63,64,65,66,67,68,69,70,71,72,73,74,75,76,77,78,79,80,81,82,83,84,85,86,87,88,89,90,91,92,93,94,95,96,97,98,99,100,101,102,103,104,105,106,107,108,109,110]),none,none,none,none,none,some ([4,5],[4,5,59,60,61,62,63,64,65,66,67,68,69,70,71,72,73]),none,none,none,none,some ([82],[82,83,84]),none,none,none,none,none,none,none]
def Lw (a0:Value) (w:World) (K:Value→World→Prop):Prop:= box P T.k a0 w fun d w=>fieldAddr P T.k d 0 w fun t9 w=>Q2 P T.a t9 w fun a7 w=>Q0 P F.aG [a7] w fun i w=>Q3 P .lss T.e (.tmp 12) (.const (.int .i64 0)) i (.int .i64 0) w fun L w=>X1 L (K (.int .i64 40) w) (Q3 P .eql T.e (.tmp 14) (.const (.int .i64 1)) i (.int .i64 1) w fun l w=>Q1 l false w (fieldAddr P T.k d 1) fun bd w=>Q1 l false w (Q2 P T.ad bd) fun ad w=>Q1 l false w (Q3 P .eql T.ad (.tmp 18) (.const (.int .i64 0)) ad (.int .i64 0)) fun ah w=>pick P l (.bool true) ah w fun e w=>Q1 e true w (fun w J=>J i w) fun be w=>Q1 e true w (Q3 P .eql T.e (.tmp 22) (.const (.int .i64 2)) be (.int .i64 2)) fun ap w=>Q1 e true w (fun w J=>J ap w) fun k w=>Q1 k false w (fieldAddr P T.k d 2) fun E w=>Q1 k false w (Q2 P T.a E) fun Q w=>Q1 k false w (Q3 P .eql T.a (.tmp 26) (.const (.string ⟨#[]⟩)) Q (.string ⟨#[]⟩)) fun O w=>Q1 e true w (pick P k (.bool true) O) fun C w=>pick P e C (.bool false) w fun a w=>jn (α:=Value) w (fun n w=>Q3 P .eql T.e (.tmp 30) (.const (.int .i64 2)) i (.int .i64 2) w fun af w=>X1 af (fieldAddr P T.k d 0 w fun az w=>Q2 P T.a az w fun f w=>Q3 P .eql T.a (.tmp 33) (.const (.string ⟨#[119,111,114,100]⟩)) f (.string ⟨#[119,111,114,100]⟩) w fun ae w=>X1 ae (Q1 a true w (fieldAddr P T.k d 2) fun a1 w=>Q1 a true w (Q2 P T.a a1) fun aq w=>Q1 a true w (X5 P .len [T.a] T.e [false] [aq]) fun bc w=>Q1 a true w (Q3 P .leq T.e (.tmp 51) (.const (.int .i64 64)) bc (.int .i64 64)) fun D w=>pick P a D (.bool false) w fun j w=>Q1 j true w (fieldAddr P T.k d 2) fun a3 w=>Q1 j true w (Q2 P T.a a3) fun ak w=>Q1 j true w (Q0 P F.bI [ak]) fun ag w=>pick P j ag (.bool false) w fun bb w=>lp (α:=Value×Value) (bb,(.int .i64 0)) w fun g b d_ w=>fieldAddr P T.k d 2 w fun av w=>Q2 P T.a av w fun H w=>X5 P .len [T.a] T.e [false] [H] w fun aa w=>Q3 P .lss T.e (.tmp 59) (.tmp 62) b.2 aa w fun U w=>X1 U (Q1 b.1 true w (fieldAddr P T.k d 2) fun M w=>Q1 b.1 true w (Q2 P T.a M) fun ao w=>Q1 b.1 true w (fun w J=>J b.2 w) fun al w=>Q1 b.1 true w (H2 P T.a ao al) fun a6 w=>Q1 b.1 true w (Q3 P .neq T.y (.tmp 71) (.const (.int .u8 10)) a6 (.int .u8 10)) fun B w=>pick P b.1 B (.bool false) w fun aw w=>Q3 P .add T.e (.tmp 64) (.const (.int .i64 1)) b.2 (.int .i64 1) w fun W w=>g (aw,W) w) (n b.1 w)) (Q3 P .eql T.a (.tmp 33) (.const (.string ⟨#[110,101,119]⟩)) f (.string ⟨#[110,101,119]⟩) w fun Z w=>X1 Z (Q1 a true w (fieldAddr P T.k d 2) fun ac w=>Q1 a true w (Q2 P T.a ac) fun ay w=>Q1 a true w (Q0 P F.f [ay]) fun a4 w=>pick P a a4 (.bool false) w fun am w=>n am w) (jn (α:=Value) w (fun A w=>Q3 P .eql T.a (.tmp 33) (.const (.string ⟨#[105,115]⟩)) f (.string ⟨#[105,115]⟩) w fun o w=>X1 o (A o w) (Q3 P .eql T.a (.tmp 33) (.const (.string ⟨#[99,97,115,116]⟩)) f (.string ⟨#[99,97,115,116]⟩) w fun a8 w=>A a8 w)) fun Y d_ w=>X1 Y (Q1 a true w (fieldAddr P T.k d 2) fun X w=>Q1 a true w (Q2 P T.a X) fun aj w=>Q1 a true w (Q0 P F.l [aj]) fun ab w=>pick P a ab (.bool false) w fun h w=>Q1 h true w (fieldAddr P T.k d 2) fun ax w=>Q1 h true w (Q2 P T.a ax) fun R w=>Q1 h true w (Q0 P F.ai [R]) fun N w=>Q1 h true w (J3 P .not N) fun a9 w=>pick P h a9 (.bool false) w fun V w=>n V w) (Q3 P .eql T.a (.tmp 33) (.const (.string ⟨#[97,114,114,97,121]⟩)) f (.string ⟨#[97,114,114,97,121]⟩) w fun a2 w=>X1 a2 (Q1 a true w (fieldAddr P T.k d 2) fun v w=>Q1 a true w (Q2 P T.a v) fun s w=>Q1 a true w (Q0 P F.l [s]) fun r w=>pick P a r (.bool false) w fun c w=>Q1 c true w (fieldAddr P T.k d 2) fun t w=>Q1 c true w (Q2 P T.a t) fun p w=>Q1 c true w (Q0 P F.aq [p]) fun z w=>Q1 c true w (Q3 P .lss T.e (.tmp 108) (.const (.int .i64 3)) z (.int .i64 3)) fun q w=>pick P c q (.bool false) w fun u w=>n u w) (fieldAddr P T.k d 2 w fun ar w=>Q2 P T.a ar w fun ai w=>Q0 P F.bJ [ai] w fun m w=>ext P m 0 w fun bg w=>ext P m 1 w fun bk w=>ext P m 2 w fun ba w=>Q1 a true w (fun w J=>J ba w) fun an w=>pick P a an (.bool false) w fun a5 w=>n a5 w))))) (n a w)) fun z6 d_ w=>J3 P .not z6 w fun y w=>X1 y (K (.int .i64 41) w) (K (.int .i64 0) w))
theorem Ib {a:Value} {w:World} {K:Value→World→Prop} (h:Lw a w K):Q0 P F.bH [a] w K:=Q8 Kj Tryz.func221 rfl (by decide) (by kernel_rfl) h
def Q0S:W1:=[none,none,none,some ([3],[2,3,4,5,6,7,8,9,10,11,12,13,14,15,16,17,18]),none,none,none,none,none,none,none]
def Dn (h:Value) (w:World) (K:Value→World→Prop):Prop:= lp (α:=Value) (.int .i64 0) w fun a e k w=>X5 P .len [T.n] T.e [false] [h] w fun i w=>Q3 P .lss T.e (.tmp 5) (.tmp 7) e i w fun j w=>X1 j (indexAddr P T.n h e w fun g w=>Q2 P T.k g w fun c w=>Q0 P F.bH [c] w fun b w=>Q3 P .neq T.s (.tmp 16) (.const (.int .i64 0)) b (.int .i64 0) w fun f w=>X1 f (K b w) (Q3 P .add T.e (.tmp 9) (.const (.int .i64 1)) e (.int .i64 1) w fun d w=>a d w)) (K (.int .i64 0) w)
theorem Q0W {a:Value} {w:World} {K:Value→World→Prop} (h:Dn a w K):Q0 P F.bc [a] w K:=Q8 Q0S Tryz.func205 rfl (by decide) (by kernel_rfl) h
def Fg:W1:=[none,none,none,none,some ([3,4],[3,4,21,22,23,24,25,26,27,28,29,30,31,32,33,34,35,36]),none,none,none,none,none,none,none,none,none,some ([3,6],[3,6,7,60,61,62,63,64,65,66,67,68,69,70,71,72,73,74,75,76,77,78,79,80,81,82,83,84,85,86,87,88,89,90,91,92,93,94,95,96,97,98,99,100,101,102,103,104,105,106]),none,none,none,none,none]
def Wi (a0:Value) (w:World) (K:Value→World→Prop):Prop:= box P T.d a0 w fun d w=>fieldAddr P T.d d 0 w fun t8 w=>Q2 P T.a t8 w fun t9 w=>Q0 P F.w [t9] w fun h w=>Q1 h true w (fieldAddr P T.d d 2) fun ae w=>Q1 h true w (Q2 P T.a ae) fun ab w=>Q1 h true w (Q3 P .eql T.a (.tmp 13) (.const (.string ⟨#[]⟩)) ab (.string ⟨#[]⟩)) fun bv w=>Q1 h true w (fun w J=>J bv w) fun p w=>Q1 p false w (fieldAddr P T.d d 2) fun az w=>Q1 p false w (Q2 P T.a az) fun bx w=>Q1 p false w (Q0 P F.l [bx]) fun av w=>Q1 h true w (pick P p (.bool true) av) fun a1 w=>pick P h a1 (.bool false) w fun ai w=>lp (α:=Value×Value) (ai,(.int .i64 0)) w fun n e d_ w=>fieldAddr P T.d d 1 w fun b0 w=>Q2 P T.c b0 w fun bc w=>X5 P .len [T.c] T.e [false] [bc] w fun bo w=>Q3 P .lss T.e (.tmp 21) (.tmp 24) e.2 bo w fun Z w=>X1 Z (Q1 e.1 true w (fieldAddr P T.d d 1) fun ar w=>Q1 e.1 true w (Q2 P T.c ar) fun ax w=>Q1 e.1 true w (fun w J=>J e.2 w) fun bg w=>Q1 e.1 true w (indexAddr P T.c ax bg) fun ap w=>Q1 e.1 true w (Q2 P T.a ap) fun bp w=>Q1 e.1 true w (Q0 P F.l [bp]) fun bd w=>pick P e.1 bd (.bool false) w fun a2 w=>Q3 P .add T.e (.tmp 26) (.const (.int .i64 1)) e.2 (.int .i64 1) w fun ag w=>n (a2,ag) w) (fieldAddr P T.d d 3 w fun bz w=>Q2 P T.o bz w fun ac w=>X1 ac (Q1 e.1 true w (fieldAddr P T.d d 4) fun bw w=>Q1 e.1 true w (Q2 P T.e bw) fun bb w=>Q1 e.1 true w (Q3 P .eql T.e (.tmp 42) (.const (.int .i64 0)) bb (.int .i64 0)) fun a9 w=>pick P e.1 a9 (.bool false) w fun k w=>Q1 k true w (fieldAddr P T.d d 5) fun aw w=>Q1 k true w (Q2 P T.n aw) fun bq w=>Q1 k true w (X5 P .len [T.n] T.e [false] [bq]) fun a4 w=>Q1 k true w (Q3 P .eql T.e (.tmp 48) (.const (.int .i64 0)) a4 (.int .i64 0)) fun bh w=>pick P k bh (.bool false) w fun j w=>Q1 j true w (fieldAddr P T.d d 6) fun Y w=>Q1 j true w (Q2 P T.q Y) fun ak w=>Q1 j true w (X5 P .len [T.q] T.e [false] [ak]) fun br w=>Q1 j true w (Q3 P .eql T.e (.tmp 54) (.const (.int .i64 0)) br (.int .i64 0)) fun bk w=>pick P j bk (.bool false) w fun a7 w=>K a7 w) (fieldAddr P T.d d 5 w fun ay w=>Q2 P T.n ay w fun bu w=>X5 P .len [T.n] T.e [false] [bu] w fun r w=>lp (α:=Value×Value) (e.1,(.int .i64 0)) w fun i b d_ w=>fieldAddr P T.d d 6 w fun aa w=>Q2 P T.q aa w fun ao w=>X5 P .len [T.q] T.e [false] [ao] w fun aj w=>Q3 P .lss T.e (.tmp 60) (.tmp 63) b.2 aj w fun bj w=>X1 bj (fieldAddr P T.d d 6 w fun am w=>Q2 P T.q am w fun ad w=>indexAddr P T.q ad b.2 w fun a8 w=>Q2 P T.p a8 w fun bn w=>L3 P T.p w fun q w=>Z6 P T.p q bn w fun _u w=>Q1 b.1 true w (fieldAddr P T.p q 0) fun bl w=>Q1 b.1 true w (Q2 P T.e bl) fun an w=>Q1 b.1 true w (Q3 P .geq T.e (.tmp 75) (.const (.int .i64 0)) an (.int .i64 0)) fun bs w=>pick P b.1 bs (.bool false) w fun g w=>Q1 g true w (fieldAddr P T.p q 0) fun bf w=>Q1 g true w (Q2 P T.e bf) fun bm w=>Q1 g true w (fieldAddr P T.p q 1) fun ba w=>Q1 g true w (Q2 P T.e ba) fun W w=>Q1 g true w (Q3 P .lss T.e (.tmp 80) (.tmp 82) bm W) fun X w=>pick P g X (.bool false) w fun l w=>Q1 l true w (fieldAddr P T.p q 1) fun V w=>Q1 l true w (Q2 P T.e V) fun al w=>Q1 l true w (fun w J=>J r w) fun a6 w=>Q1 l true w (Q3 P .leq T.e (.tmp 87) (.tmp 88) al a6) fun aq w=>pick P l aq (.bool false) w fun o w=>Q1 o true w (fieldAddr P T.p q 2) fun be w=>Q1 o true w (Q2 P T.e be) fun ah w=>Q1 o true w (Q3 P .geq T.e (.tmp 93) (.const (.int .i64 0)) ah (.int .i64 0)) fun af w=>pick P o af (.bool false) w fun m w=>Q1 m true w (fieldAddr P T.p q 2) fun a5 w=>Q1 m true w (Q2 P T.e a5) fun bi w=>Q1 m true w (fun w J=>J r w) fun a3 w=>Q1 m true w (Q3 P .lss T.e (.tmp 98) (.tmp 99) bi a3) fun M w=>pick P m M (.bool false) w fun f w=>Q1 f true w (fieldAddr P T.p q 3) fun C w=>Q1 f true w (Q2 P T.a C) fun R w=>Q1 f true w (Q0 P F.f [R]) fun v w=>pick P f v (.bool false) w fun D w=>Q3 P .add T.e (.tmp 65) (.const (.int .i64 1)) b.2 (.int .i64 1) w fun U w=>i (D,U) w) (Q1 b.1 true w (fun w J=>J r w) fun y w=>Q1 b.1 true w (Q3 P .gtr T.e (.tmp 109) (.const (.int .i64 0)) y (.int .i64 0)) fun E w=>pick P b.1 E (.bool false) w fun a w=>Q1 a true w (fieldAddr P T.d d 4) fun A w=>Q1 a true w (Q2 P T.e A) fun B w=>Q1 a true w (fieldAddr P T.d d 1) fun s w=>Q1 a true w (Q2 P T.c s) fun Q w=>Q1 a true w (X5 P .len [T.c] T.e [false] [Q]) fun u w=>Q1 a true w (Q3 P .gtr T.e (.tmp 114) (.tmp 117) B u) fun N w=>pick P a N (.bool false) w fun c w=>Q1 c true w (fieldAddr P T.d d 5) fun H w=>Q1 c true w (Q2 P T.n H) fun L w=>Q1 c true w (Q0 P F.bc [L]) fun t w=>Q1 c true w (Q3 P .eql T.s (.tmp 123) (.const (.int .i64 0)) t (.int .i64 0)) fun z w=>pick P c z (.bool false) w fun O w=>K O w)))
theorem Fq {a:Value} {w:World} {K:Value→World→Prop} (h:Wi a w K):Q0 P F.a2 [a] w K:=Q8 Fg Tryz.func172 rfl (by decide) (by kernel_rfl) h
def Il:W1:=[none,none,none,none,some ([3,4],[3,4,5,26,27,28,29,30,31,32,33,34,35,36,37,38,39,40,41,42,43,44,45,46,47,48,49,50,51,52,53,54,55,56,57,58,59,60,61,62,63,64,65,66,67,68,69,70]),none,none,none,none,none,some ([3,5],[3,5,52,53,54,55,56,57,58,59,60,61,62,63,64,65,66,67,68,69,70]),none,none,none,none,none,some ([3,6],[3,6,7,71,72,73,74,75,76,77,78,79,80,81,82,83,84,85,86,87,88,89,90,91,92,93,94,95,96,97,98,99,100,101,102,103,104,105,106,107,108,109,110,111,112,113,114,115,116,117,118,119,120,121,122]),none,none,none,none,none,some ([3,7],[3,7,102,103,104,105,106,107,108,109,110,111,112,113,114,115,116,117,118,119,120,121,122]),none,none,none,none,none,some ([3,8],[3,8,9,10,123,124,125,126,127,128,129,130,131,132,133,134,135,136,137,138,139,140,141,142,143,144,145,146,147,148,149,150,151,152,153,154,155,156,157,158,159,160,161,162,163,164,165,166,167,168,169,170,171,172,173,174]),none,none,none,none,none,none,some ([3,10],[3,10,158,159,160,161,162,163,164,165,166,167,168,169,170,171,172,173,174]),none,none,none,none]
def Mk (a0:Value) (w:World) (K:Value→World→Prop):Prop:= box P T.b a0 w fun i w=>fieldAddr P T.b i 0 w fun ep w=>Q2 P T.a ep w fun d5 w=>Q0 P F.f [d5] w fun ay w=>Q1 ay true w (fieldAddr P T.b i 1) fun ei w=>Q1 ay true w (Q2 P T.a ei) fun d9 w=>Q1 ay true w (Q0 P F.f [d9]) fun e8 w=>pick P ay e8 (.bool false) w fun ah w=>Q1 ah true w (fieldAddr P T.b i 0) fun d6 w=>Q1 ah true w (Q2 P T.a d6) fun eu w=>Q1 ah true w (fieldAddr P T.b i 1) fun e9 w=>Q1 ah true w (Q2 P T.a e9) fun ec w=>Q1 ah true w (Q3 P .neq T.a (.tmp 21) (.tmp 23) eu ec) fun e4 w=>pick P ah e4 (.bool false) w fun ek w=>lp (α:=Value×Value) (ek,(.int .i64 0)) w fun bi x4 d_ w=>fieldAddr P T.b i 2 w fun em w=>Q2 P T.c em w fun d2 w=>X5 P .len [T.c] T.e [false] [d2] w fun e2 w=>Q3 P .lss T.e (.tmp 26) (.tmp 29) x4.2 e2 w fun d8 w=>X1 d8 (dr w fun a b=>Q5 a (fun a1=> ∀w,b w→Q1 x4.1 true w (fieldAddr P T.b i 2) (dk a a1 w)) fun a1=>Q5 a (fun a3=> ∀w,b w→Q1 x4.1 true w (fun w J=>J x4.2 w) (dk a a3 w)) fun a3=>Q5 a (fun be=> ∀ba w,b w→a1 ba w→Q1 x4.1 true w (Q2 P T.c ba) (dk a be w)) fun be=>Q5 a (fun bd=> ∀a8 bw w,b w→be a8 w→a3 bw w→Q1 x4.1 true w (indexAddr P T.c a8 bw) (dk a bd w)) fun bd=>Q5 a (fun a7=> ∀bg w,b w→bd bg w→Q1 x4.1 true w (Q2 P T.a bg) (dk a a7 w)) fun a7=>Q5 a (fun bv=> ∀bc w,b w→a7 bc w→Q1 x4.1 true w (Q0 P F.f [bc]) (dk a bv w)) fun bv=>Q5 a (fun j=> ∀b3 w,b w→bv b3 w→pick P x4.1 b3 (.bool false) w (dk a j w)) fun j=>Q5 a (fun bo=> ∀c w,b w→j c w→Q1 c true w (fieldAddr P T.b i 2) (dk a bo w)) fun bo=>Q5 a (fun b4=> ∀c w,b w→j c w→Q1 c true w (fun w J=>J x4.2 w) (dk a b4 w)) fun b4=>Q5 a (fun br=> ∀c w,b w→j c w→Q1 c true w (fieldAddr P T.b i 0) (dk a br w)) fun br=>Q5 a (fun b2=> ∀c bp w,b w→j c w→bo bp w→Q1 c true w (Q2 P T.c bp) (dk a b2 w)) fun b2=>Q5 a (fun bz=> ∀c b1 a6 w,b w→j c w→b2 b1 w→b4 a6 w→Q1 c true w (indexAddr P T.c b1 a6) (dk a bz w)) fun bz=>Q5 a (fun cc=> ∀c bl w,b w→j c w→bz bl w→Q1 c true w (Q2 P T.a bl) (dk a cc w)) fun cc=>Q5 a (fun ca=> ∀c bm w,b w→j c w→br bm w→Q1 c true w (Q2 P T.a bm) (dk a ca w)) fun ca=>∀ba bw a8 bg bc b3 c bp a6 bm b1 bl dt dq w,b w→a1 ba w→a3 bw w→be a8 w→bd bg w→a7 bc w→bv b3 w→j c w→bo bp w→b4 a6 w→br bm w→b2 b1 w→bz bl w→cc dt w→ca dq w→ Q1 c true w (Q3 P .neq T.a (.tmp 47) (.tmp 49) dt dq) fun ed w=>pick P c ed (.bool false) w fun eh w=>lp (α:=Value×Value) (eh,(.int .i64 0)) w fun aq e d_ w=>Q3 P .lss T.e (.tmp 52) (.tmp 53) e.2 x4.2 w fun e7 w=>X1 e7 (dr w fun a b=>Q5 a (fun bu=> ∀w,b w→Q1 e.1 true w (fieldAddr P T.b i 2) (dk a bu w)) fun bu=>Q5 a (fun a9=> ∀w,b w→Q1 e.1 true w (fun w J=>J e.2 w) (dk a a9 w)) fun a9=>Q5 a (fun bk=> ∀w,b w→Q1 e.1 true w (fieldAddr P T.b i 2) (dk a bk w)) fun bk=>Q5 a (fun bn=> ∀w,b w→Q1 e.1 true w (fun w J=>J x4.2 w) (dk a bn w)) fun bn=>Q5 a (fun bb=> ∀az w,b w→bu az w→Q1 e.1 true w (Q2 P T.c az) (dk a bb w)) fun bb=>Q5 a (fun bq=> ∀bs bf w,b w→bb bs w→a9 bf w→Q1 e.1 true w (indexAddr P T.c bs bf) (dk a bq w)) fun bq=>Q5 a (fun cb=> ∀a5 w,b w→bq a5 w→Q1 e.1 true w (Q2 P T.a a5) (dk a cb w)) fun cb=>Q5 a (fun a2=> ∀bx w,b w→bk bx w→Q1 e.1 true w (Q2 P T.c bx) (dk a a2 w)) fun a2=>Q5 a (fun b0=> ∀bj ax w,b w→a2 bj w→bn ax w→Q1 e.1 true w (indexAddr P T.c bj ax) (dk a b0 w)) fun b0=>Q5 a (fun b9=> ∀a4 w,b w→b0 a4 w→Q1 e.1 true w (Q2 P T.a a4) (dk a b9 w)) fun b9=>∀az bf bx ax bs a5 ch bj a4 c5 w,b w→bu az w→a9 bf w→bk bx w→bn ax w→bb bs w→bq a5 w→cb ch w→a2 bj w→b0 a4 w→b9 c5 w→ Q1 e.1 true w (Q3 P .neq T.a (.tmp 63) (.tmp 68) ch c5) fun eb w=>pick P e.1 eb (.bool false) w fun ew w=>Q3 P .add T.e (.tmp 55) (.const (.int .i64 1)) e.2 (.int .i64 1) w fun ea w=>aq (ew,ea) w) (Q3 P .add T.e (.tmp 31) (.const (.int .i64 1)) x4.2 (.int .i64 1) w fun ee w=>bi (e.1,ee) w)) (lp (α:=Value×Value) (x4.1,(.int .i64 0)) w fun aj f d_ w=>fieldAddr P T.b i 6 w fun d1 w=>Q2 P T.i d1 w fun e0 w=>X5 P .len [T.i] T.e [false] [e0] w fun ef w=>Q3 P .lss T.e (.tmp 71) (.tmp 74) f.2 ef w fun d7 w=>X1 d7 (Q1 f.1 true w (fieldAddr P T.b i 6) fun eg w=>Q1 f.1 true w (Q2 P T.i eg) fun ey w=>Q1 f.1 true w (fun w J=>J f.2 w) fun d4 w=>Q1 f.1 true w (indexAddr P T.i ey d4) fun ej w=>Q1 f.1 true w (fieldAddr P T.l ej 0) fun e5 w=>Q1 f.1 true w (Q2 P T.a e5) fun er w=>Q1 f.1 true w (Q0 P F.w [er]) fun d3 w=>pick P f.1 d3 (.bool false) w fun o w=>Q1 o true w (fieldAddr P T.b i 6) fun es w=>Q1 o true w (Q2 P T.i es) fun ez w=>Q1 o true w (fun w J=>J f.2 w) fun eq w=>Q1 o true w (indexAddr P T.i ez eq) fun e1 w=>Q1 o true w (fieldAddr P T.l e1 1) fun eo w=>Q1 o true w (Q2 P T.a eo) fun el w=>Q1 o true w (Q0 P F.l [el]) fun e6 w=>pick P o e6 (.bool false) w fun bh w=>Q1 bh true w (fieldAddr P T.b i 3) fun e3 w=>Q1 bh true w (Q2 P T.o e3) fun et w=>Q1 bh true w (J3 P .not et) fun dj w=>pick P bh dj (.bool false) w fun cx w=>lp (α:=Value×Value) (cx,(.int .i64 0)) w fun ao d d_ w=>Q3 P .lss T.e (.tmp 102) (.tmp 103) d.2 f.2 w fun du w=>X1 du (dr w fun a b=>Q5 a (fun A=> ∀w,b w→Q1 d.1 true w (fieldAddr P T.b i 6) (dk a A w)) fun A=>Q5 a (fun z=> ∀w,b w→Q1 d.1 true w (fun w J=>J d.2 w) (dk a z w)) fun z=>Q5 a (fun E=> ∀w,b w→Q1 d.1 true w (fieldAddr P T.b i 6) (dk a E w)) fun E=>Q5 a (fun Q=> ∀w,b w→Q1 d.1 true w (fun w J=>J f.2 w) (dk a Q w)) fun Q=>Q5 a (fun s=> ∀W w,b w→A W w→Q1 d.1 true w (Q2 P T.i W) (dk a s w)) fun s=>Q5 a (fun af=> ∀u X w,b w→s u w→z X w→Q1 d.1 true w (indexAddr P T.i u X) (dk a af w)) fun af=>Q5 a (fun V=> ∀B w,b w→af B w→Q1 d.1 true w (fieldAddr P T.l B 0) (dk a V w)) fun V=>Q5 a (fun ak=> ∀Y w,b w→V Y w→Q1 d.1 true w (Q2 P T.a Y) (dk a ak w)) fun ak=>Q5 a (fun R=> ∀p w,b w→E p w→Q1 d.1 true w (Q2 P T.i p) (dk a R w)) fun R=>Q5 a (fun M=> ∀C U w,b w→R C w→Q U w→Q1 d.1 true w (indexAddr P T.i C U) (dk a M w)) fun M=>Q5 a (fun r=> ∀aa w,b w→M aa w→Q1 d.1 true w (fieldAddr P T.l aa 0) (dk a r w)) fun r=>Q5 a (fun ai=> ∀D w,b w→r D w→Q1 d.1 true w (Q2 P T.a D) (dk a ai w)) fun ai=>∀W X p U u B Y b6 C aa D b7 w,b w→A W w→z X w→E p w→Q U w→s u w→af B w→V Y w→ak b6 w→R C w→M aa w→r D w→ai b7 w→ Q1 d.1 true w (Q3 P .neq T.a (.tmp 114) (.tmp 120) b6 b7) fun dh w=>pick P d.1 dh (.bool false) w fun cs w=>Q3 P .add T.e (.tmp 105) (.const (.int .i64 1)) d.2 (.int .i64 1) w fun df w=>ao (cs,df) w) (Q3 P .add T.e (.tmp 76) (.const (.int .i64 1)) f.2 (.int .i64 1) w fun ex w=>aj (d.1,ex) w)) (lp (α:=Value×Value) (f.1,(.int .i64 0)) w fun al h d_ w=>fieldAddr P T.b i 7 w fun c9 w=>Q2 P T.g c9 w fun ds w=>X5 P .len [T.g] T.e [false] [ds] w fun dv w=>Q3 P .lss T.e (.tmp 123) (.tmp 126) h.2 dv w fun c6 w=>X1 c6 (fieldAddr P T.b i 7 w fun dg w=>Q2 P T.g dg w fun da w=>indexAddr P T.g da h.2 w fun cv w=>Q2 P T.d cv w fun co w=>L3 P T.d w fun t9 w=>Z6 P T.d t9 co w fun _u w=>Q1 h.1 true w (Q2 P T.d t9) fun dp w=>Q1 h.1 true w (Q0 P F.a2 [dp]) fun c7 w=>pick P h.1 c7 (.bool false) w fun m w=>Q1 m true w (fieldAddr P T.d t9 3) fun cq w=>Q1 m true w (Q2 P T.o cq) fun ci w=>Q1 m true w (J3 P .not ci) fun cm w=>Q1 m true w (fun w J=>J cm w) fun av w=>Q1 av false w (fieldAddr P T.b i 4) fun db w=>Q1 av false w (Q2 P T.o db) fun dn w=>Q1 m true w (pick P av (.bool true) dn) fun cy w=>pick P m cy (.bool false) w fun l w=>Q1 l true w (fieldAddr P T.b i 3) fun cr w=>Q1 l true w (Q2 P T.o cr) fun dd w=>Q1 l true w (J3 P .not dd) fun dx w=>Q1 l true w (fun w J=>J dx w) fun ap w=>Q1 ap false w (fieldAddr P T.d t9 3) fun de w=>Q1 ap false w (Q2 P T.o de) fun c0 w=>Q1 l true w (pick P ap (.bool true) c0) fun cf w=>pick P l cf (.bool false) w fun d0 w=>lp (α:=Value×Value) (d0,(.int .i64 0)) w fun ar g d_ w=>Q3 P .lss T.e (.tmp 158) (.tmp 159) g.2 h.2 w fun dw w=>X1 dw (dr w fun a b=>Q5 a (fun q=> ∀w,b w→Q1 g.1 true w (fieldAddr P T.b i 7) (dk a q w)) fun q=>Q5 a (fun v=> ∀w,b w→Q1 g.1 true w (fun w J=>J g.2 w) (dk a v w)) fun v=>Q5 a (fun O=> ∀w,b w→Q1 g.1 true w (fieldAddr P T.d t9 0) (dk a O w)) fun O=>Q5 a (fun ag=> ∀ad w,b w→q ad w→Q1 g.1 true w (Q2 P T.g ad) (dk a ag w)) fun ag=>Q5 a (fun y=> ∀ac Z w,b w→ag ac w→v Z w→Q1 g.1 true w (indexAddr P T.g ac Z) (dk a y w)) fun y=>Q5 a (fun ab=> ∀t w,b w→y t w→Q1 g.1 true w (fieldAddr P T.d t 0) (dk a ab w)) fun ab=>Q5 a (fun an=> ∀H w,b w→ab H w→Q1 g.1 true w (Q2 P T.a H) (dk a an w)) fun an=>Q5 a (fun am=> ∀L w,b w→O L w→Q1 g.1 true w (Q2 P T.a L) (dk a am w)) fun am=>∀ad Z L ac t H b5 b8 w,b w→q ad w→v Z w→O L w→ag ac w→y t w→ab H w→an b5 w→am b8 w→ Q1 g.1 true w (Q3 P .neq T.a (.tmp 170) (.tmp 172) b5 b8) fun c4 w=>pick P g.1 c4 (.bool false) w fun ck w=>Q3 P .add T.e (.tmp 161) (.const (.int .i64 1)) g.2 (.int .i64 1) w fun c1 w=>ar (ck,c1) w) (Q3 P .add T.e (.tmp 128) (.const (.int .i64 1)) h.2 (.int .i64 1) w fun cn w=>al (g.1,cn) w)) (Q1 h.1 true w (fieldAddr P T.b i 3) fun dm w=>Q1 h.1 true w (Q2 P T.o dm) fun c2 w=>Q1 h.1 true w (J3 P .not c2) fun cg w=>Q1 h.1 true w (fun w J=>J cg w) fun n w=>Q1 n false w (fieldAddr P T.b i 4) fun ct w=>Q1 n false w (Q2 P T.o ct) fun di w=>Q1 n false w (fun w J=>J di w) fun N w=>Q1 N true w (fieldAddr P T.b i 1) fun cl w=>Q1 N true w (Q2 P T.a cl) fun cu w=>Q1 N true w (Q3 P .eql T.a (.tmp 185) (.const (.string ⟨#[79,98,106,101,99,116]⟩)) cu (.string ⟨#[79,98,106,101,99,116]⟩)) fun cj w=>Q1 n false w (pick P N cj (.bool false)) fun dc w=>Q1 h.1 true w (pick P n (.bool true) dc) fun cp w=>pick P h.1 cp (.bool false) w fun k w=>Q1 k true w (fieldAddr P T.b i 4) fun cd w=>Q1 k true w (Q2 P T.o cd) fun c8 w=>Q1 k true w (fun w J=>J c8 w) fun aw w=>Q1 aw true w (fieldAddr P T.b i 5) fun cz w=>Q1 aw true w (Q2 P T.o cz) fun c3 w=>Q1 k true w (pick P aw c3 (.bool false)) fun ce w=>Q1 k true w (J3 P .not ce) fun dz w=>pick P k dz (.bool false) w fun dy w=>K dy w)))
theorem Gp {a:Value} {w:World} {K:Value→World→Prop} (h:Mk a w K):Q0 P F.bC [a] w K:=Q8 Il Tryz.func113 rfl (by decide) (by kernel_rfl) h
def Wr (g:Value) (w:World) (K:Value→World→Prop):Prop:= box P T.b g w fun a w=>Q2 P T.b a w fun e w=>Q0 P F.bN [e] w fun f w=>X1 f (K (.int .i64 51) w) (Q2 P T.b a w fun d w=>Q0 P F.bC [d] w fun b w=>J3 P .not b w fun c w=>X1 c (K (.int .i64 50) w) (K (.int .i64 0) w))
theorem Kc {a:Value} {w:World} {K:Value→World→Prop} (h:Wr a w K):Q0 P F.bA [a] w K:=Q8 (List.replicate 8 none) Tryz.func53 rfl (by decide) (by kernel_rfl) h
def Aa:W1:=[none,none,none,some ([5],[4,5,6,7,8,9,10,11,12,13,14,15,16,17,18,19]),none,none,none,none,none,none]
def Of (h k:Value) (w:World) (K:Value→World→Prop):Prop:= lp (α:=Value) (.int .i64 0) w fun a b l w=>X5 P .len [T.h] T.e [false] [h] w fun j w=>Q3 P .lss T.e (.tmp 6) (.tmp 8) b j w fun i w=>X1 i (indexAddr P T.h h b w fun e w=>fieldAddr P T.b e 0 w fun g w=>Q2 P T.a g w fun c w=>Q3 P .eql T.a (.tmp 16) (.tmp 17) c k w fun f w=>X1 f (K b w) (Q3 P .add T.e (.tmp 10) (.const (.int .i64 1)) b (.int .i64 1) w fun d w=>a d w)) (K (.int .i64 (-1)) w)
theorem Tb {b a:Value} {w:World} {K:Value→World→Prop} (h:Of b a w K):Q0 P F.d [b,a] w K:=Q8 Aa Tryz.func54 rfl (by decide) (by kernel_rfl) h
def Ft:W1:=[none,none,none,none,none,none,none,some ([6],[4,6,7,28,29,30,31,32,33,34,35,36,37,38,39,40,41,42,43,44,45,46,47,48,49,50,51]),none,none,none,none,none,none,none]
def Wp (g V:Value) (w:World) (K:Value→World→Prop):Prop:= box P T.b V w fun b w=>fieldAddr P T.b b 1 w fun W w=>Q2 P T.a W w fun s w=>Q0 P F.d [g,s] w fun f w=>Q3 P .lss T.e (.tmp 12) (.const (.int .i64 0)) f (.int .i64 0) w fun c w=>Q1 c false w (fun w J=>J g w) fun Q w=>Q1 c false w (fun w J=>J f w) fun C w=>Q1 c false w (indexAddr P T.h Q C) fun O w=>Q1 c false w (fieldAddr P T.b O 3) fun y w=>Q1 c false w (Q2 P T.o y) fun D w=>pick P c (.bool true) D w fun d w=>Q1 d false w (fun w J=>J g w) fun U w=>Q1 d false w (fun w J=>J f w) fun l w=>Q1 d false w (indexAddr P T.h U l) fun r w=>Q1 d false w (fieldAddr P T.b r 5) fun i w=>Q1 d false w (Q2 P T.o i) fun n w=>pick P d (.bool true) n w fun m w=>X1 m (K (.int .i64 61) w) (lp (α:=Value) (.int .i64 0) w fun e j X w=>fieldAddr P T.b b 2 w fun o w=>Q2 P T.c o w fun u w=>X5 P .len [T.c] T.e [false] [u] w fun B w=>Q3 P .lss T.e (.tmp 28) (.tmp 31) j B w fun p w=>X1 p (fieldAddr P T.b b 2 w fun H w=>Q2 P T.c H w fun R w=>indexAddr P T.c R j w fun L w=>Q2 P T.a L w fun E w=>Q0 P F.d [g,E] w fun h w=>Q3 P .lss T.e (.tmp 42) (.const (.int .i64 0)) h (.int .i64 0) w fun a w=>Q1 a false w (fun w J=>J g w) fun v w=>Q1 a false w (fun w J=>J h w) fun z w=>Q1 a false w (indexAddr P T.h v z) fun A w=>Q1 a false w (fieldAddr P T.b A 3) fun N w=>Q1 a false w (Q2 P T.o N) fun q w=>Q1 a false w (J3 P .not q) fun k w=>pick P a (.bool true) k w fun M w=>X1 M (K (.int .i64 62) w) (Q3 P .add T.e (.tmp 33) (.const (.int .i64 1)) j (.int .i64 1) w fun t w=>e t w)) (K (.int .i64 0) w))
theorem Bx {b a:Value} {w:World} {K:Value→World→Prop} (h:Wp b a w K):Q0 P F.bq [b,a] w K:=Q8 Ft Tryz.func55 rfl (by decide) (by kernel_rfl) h
def Kg:W1:=[none,none,none,none,some ([3,4],[3,4,5,6,7,8,13,14,15,16,17,18,19,20,21,22,23,24,25,26,27,28,29,30,31,32,33,34,35,36,37,38,39,40,41,42,43,44,45,46,47,48,49,50,51,52,53,54]),none,none,none,none,none,none,none,some ([7],[7,8,34,35,36,37,38,39,40,41,42,43,44,45,46,47,48,49,50]),none,none,some ([],[8,40,41,42,43,44,45,46,47,48,49,50]),none,none,none,none,some ([9],[9,10,11,55,56,57,58,59,60,61,62,63,64,65,66,67,68,69,70,71,72,73,74,75,76,77,78,79,80,81,82,83,84,85,86,87,88,89,90,91,92,93,94,95,96,97,98,99,100,101,102,103]),none,none,none,none,some ([10],[10,11,61,62,63,64,65,66,67,68,69,70,71,72,73,74,75,76,77,78,79,80,81,82,83,84,85,86,87,88,89,90,91,92,93,94,95,96,97,98,99,100,101,102,103]),none,none,none,none,some ([11],[11,67,68,69,70,71,72,73,74,75,76,77,78,79,80,81,82,83,84,85,86,87,88,89,90,91,92,93,94,95,96,97,98,99,100,101,102,103]),none,none,none,none]
def Lh (a0:Value) (w:World) (K:Value→World→Prop):Prop:= buildSlice P T.a2 0 [] w fun bi w=>lp (α:=Value×Value) (bi,(.int .i64 0)) w fun E r d_ w=>X5 P .len [T.h] T.e [false] [a0] w fun b2 w=>Q3 P .lss T.e (.tmp 13) (.tmp 15) r.2 b2 w fun bn w=>X1 bn (X5 P .len [T.h] T.e [false] [a0] w fun a7 w=>Ow P T.a1 a7 a7 w fun bb w=>dr w fun b d=>Q5 b (fun al=> ∀w,d w→indexAddr P T.h a0 r.2 w (dk b al w)) fun al=>Q5 b (fun Y=> ∀ap w,d w→al ap w→fieldAddr P T.b ap 1 w (dk b Y w)) fun Y=>Q5 b (fun H=> ∀w,d w→indexAddr P T.h a0 r.2 w (dk b H w)) fun H=>Q5 b (fun Q=> ∀W w,d w→H W w→fieldAddr P T.b W 2 w (dk b Q w)) fun Q=>Q5 b (fun L=> ∀v w,d w→Y v w→Q2 P T.a v w (dk b L w)) fun L=>Q5 b (fun a5=> ∀B w,d w→L B w→buildSlice P T.c 1 [(0,B)] w (dk b a5 w)) fun a5=>Q5 b (fun a2=> ∀Z w,d w→Q Z w→Q2 P T.c Z w (dk b a2 w)) fun a2=>∀ap v W Z B a6 be w,d w→al ap w→Y v w→H W w→Q Z w→L B w→a5 a6 w→a2 be w→ X5 P .append [T.c,T.c] T.c [false,false] [a6,be] w fun a8 w=>lp (α:=Value) (.int .i64 0) w fun n a3 d_ w=>X5 P .len [T.c] T.e [false] [a8] w fun bo w=>Q3 P .lss T.e (.tmp 34) (.tmp 36) a3 bo w fun b3 w=>X1 b3 (jn (α:=Unit) w (fun bd w=>indexAddr P T.c a8 a3 w fun bq w=>Q2 P T.a bq w fun bw w=>Q0 P F.d [a0,bw] w fun a9 w=>Q3 P .geq T.e (.tmp 46) (.const (.int .i64 0)) a9 (.int .i64 0) w fun bx w=>X1 bx (indexAddr P T.a1 bb a9 w fun bs w=>Z6 P T.o bs (.bool true) w fun _u w=>bd () w) (bd () w)) fun b4 d_ w=>Q3 P .add T.e (.tmp 38) (.const (.int .i64 1)) a3 (.int .i64 1) w fun b1 w=>n b1 w) (buildSlice P T.a2 1 [(0,bb)] w fun bk w=>X5 P .append [T.a2,T.a2] T.a2 [false,false] [r.1,bk] w fun bz w=>Q3 P .add T.e (.tmp 17) (.const (.int .i64 1)) r.2 (.int .i64 1) w fun bl w=>E (bz,bl) w)) (lp (α:=Value) (.int .i64 0) w fun l s d_ w=>X5 P .len [T.h] T.e [false] [a0] w fun bm w=>Q3 P .lss T.e (.tmp 55) (.tmp 57) s bm w fun b0 w=>X1 b0 (lp (α:=Value) (.int .i64 0) w fun k o d_ w=>X5 P .len [T.h] T.e [false] [a0] w fun bj w=>Q3 P .lss T.e (.tmp 61) (.tmp 63) o bj w fun bv w=>X1 bv (lp (α:=Value) (.int .i64 0) w fun q m d_ w=>X5 P .len [T.h] T.e [false] [a0] w fun br w=>Q3 P .lss T.e (.tmp 67) (.tmp 69) m br w fun bp w=>X1 bp (dr w fun b d=>Q5 b (fun ag=> ∀w,d w→indexAddr P T.a2 r.1 o w (dk b ag w)) fun ag=>Q5 b (fun ac=> ∀w,d w→indexAddr P T.a2 r.1 o w (dk b ac w)) fun ac=>Q5 b (fun a4=> ∀U w,d w→ag U w→Q2 P T.a1 U w (dk b a4 w)) fun a4=>Q5 b (fun X=> ∀ao w,d w→ac ao w→Q2 P T.a1 ao w (dk b X w)) fun X=>Q5 b (fun aq=> ∀af w,d w→X af w→indexAddr P T.a1 af m w (dk b aq w)) fun aq=>Q5 b (fun e=> ∀u w,d w→aq u w→Q2 P T.o u w (dk b e w)) fun e=>Q5 b (fun ay=> ∀a w,d w→e a w→Q1 a false w (fun w J=>J r.1 w) (dk b ay w)) fun ay=>Q5 b (fun av=> ∀a w,d w→e a w→Q1 a false w (fun w J=>J o w) (dk b av w)) fun av=>Q5 b (fun am=> ∀a t N w,d w→e a w→ay t w→av N w→Q1 a false w (indexAddr P T.a2 t N) (dk b am w)) fun am=>Q5 b (fun aj=> ∀a w,d w→e a w→Q1 a false w (fun w J=>J s w) (dk b aj w)) fun aj=>Q5 b (fun y=> ∀a ae w,d w→e a w→am ae w→Q1 a false w (Q2 P T.a1 ae) (dk b y w)) fun y=>Q5 b (fun aw=> ∀a V ah w,d w→e a w→y V w→aj ah w→Q1 a false w (indexAddr P T.a1 V ah) (dk b aw w)) fun aw=>Q5 b (fun M=> ∀a C w,d w→e a w→aw C w→Q1 a false w (Q2 P T.o C) (dk b M w)) fun M=>Q5 b (fun f=> ∀a ak w,d w→e a w→M ak w→Q1 a false w (fun w J=>J ak w) (dk b f w)) fun f=>Q5 b (fun R=> ∀c w,d w→f c w→Q1 c true w (fun w J=>J r.1 w) (dk b R w)) fun R=>Q5 b (fun ai=> ∀c w,d w→f c w→Q1 c true w (fun w J=>J s w) (dk b ai w)) fun ai=>Q5 b (fun z=> ∀c A ar w,d w→f c w→R A w→ai ar w→Q1 c true w (indexAddr P T.a2 A ar) (dk b z w)) fun z=>Q5 b (fun aa=> ∀c w,d w→f c w→Q1 c true w (fun w J=>J m w) (dk b aa w)) fun aa=>Q5 b (fun ax=> ∀c D w,d w→f c w→z D w→Q1 c true w (Q2 P T.a1 D) (dk b ax w)) fun ax=>Q5 b (fun O=> ∀c ad an w,d w→f c w→ax ad w→aa an w→Q1 c true w (indexAddr P T.a1 ad an) (dk b O w)) fun O=>Q5 b (fun h=> ∀c ab w,d w→f c w→O ab w→Q1 c true w (Q2 P T.o ab) (dk b h w)) fun h=>Q5 b (fun g=> ∀a c i w,d w→e a w→f c w→h i w→Q1 a false w (pick P c i (.bool false)) (dk b g w)) fun g=>Q5 b (fun p=> ∀a j w,d w→e a w→g j w→pick P a (.bool true) j w (dk b p w)) fun p=>∀U ao bf af u a t N ae ah V C ak c A ar D an ad ab i j a1 w,d w→ag U w→ac ao w→a4 bf w→X af w→aq u w→e a w→ay t w→av N w→am ae w→aj ah w→y V w→aw C w→M ak w→f c w→R A w→ai ar w→z D w→aa an w→ax ad w→O ab w→h i w→g j w→p a1 w→ indexAddr P T.a1 bf m w fun ba w=>Z6 P T.o ba a1 w fun _u w=>Q3 P .add T.e (.tmp 71) (.const (.int .i64 1)) m (.int .i64 1) w fun bg w=>q bg w) (Q3 P .add T.e (.tmp 65) (.const (.int .i64 1)) o (.int .i64 1) w fun bh w=>k bh w)) (Q3 P .add T.e (.tmp 59) (.const (.int .i64 1)) s (.int .i64 1) w fun bu w=>l bu w)) (K r.1 w))
theorem Ka {a:Value} {w:World} {K:Value→World→Prop} (h:Lh a w K):Q0 P F.aH [a] w K:=Q8 Kg Tryz.func56 rfl (by decide) (by kernel_rfl) h
def Q0V:W1:=[none,none,none,none,none,none,some ([9],[8,9,16,17,18,19,20,21,22,23,24,25,26,27,28]),none,none,none,none,none,none,none,none,some ([1,11],[1,11,41,42,43,44,45,46,47,48,49,50,51,52,53,54,55,56]),none,none,none,none]
def Eg (y s X r:Value) (w:World) (K:Value→World→Prop):Prop:= Q3 P .lss T.e (.tmp 12) (.tmp 13) r X w fun V w=>X1 V (K s w) (lp (α:=Value) (.int .i64 0) w fun e H Y w=>X5 P .len [T.a0] T.e [false] [s] w fun O w=>Q3 P .lss T.e (.tmp 16) (.tmp 18) H O w fun U w=>X1 U (indexAddr P T.a0 s H w fun M w=>Q2 P T.e M w fun B w=>Q3 P .eql T.e (.tmp 25) (.tmp 26) B r w fun C w=>X1 C (K s w) (Q3 P .add T.e (.tmp 20) (.const (.int .i64 1)) H (.int .i64 1) w fun W w=>e W w)) (dr w fun a o=>Q5 a (fun g=> ∀w,o w→indexAddr P T.h y r w (dk a g w)) fun g=>Q5 a (fun m=> ∀k w,o w→g k w→fieldAddr P T.b k 1 w (dk a m w)) fun m=>Q5 a (fun h=> ∀w,o w→indexAddr P T.h y r w (dk a h w)) fun h=>Q5 a (fun l=> ∀n w,o w→h n w→fieldAddr P T.b n 2 w (dk a l w)) fun l=>Q5 a (fun i=> ∀f w,o w→m f w→Q2 P T.a f w (dk a i w)) fun i=>Q5 a (fun p=> ∀j w,o w→i j w→buildSlice P T.c 1 [(0,j)] w (dk a p w)) fun p=>Q5 a (fun q=> ∀d w,o w→l d w→Q2 P T.c d w (dk a q w)) fun q=>∀k f n d j t v w,o w→g k w→m f w→h n w→l d w→i j w→p t w→q v w→ X5 P .append [T.c,T.c] T.c [false,false] [t,v] w fun u w=>lp (α:=Value×Value) (s,(.int .i64 0)) w fun b c Y w=>X5 P .len [T.c] T.e [false] [u] w fun A w=>Q3 P .lss T.e (.tmp 41) (.tmp 43) c.2 A w fun N w=>X1 N (indexAddr P T.c u c.2 w fun J w=>Q2 P T.a J w fun R w=>Q0 P F.d [y,R] w fun L w=>Q0 P F.b2 [y,c.1,X,L] w fun z w=>Q3 P .add T.e (.tmp 45) (.const (.int .i64 1)) c.2 (.int .i64 1) w fun Q w=>b (z,Q) w) (buildSlice P T.a0 1 [(0,r)] w fun E w=>X5 P .append [T.a0,T.a0] T.a0 [false,false] [c.1,E] w fun D w=>K D w)))
theorem Aq {d c b a:Value} {w:World} {K:Value→World→Prop} (h:Eg d c b a w K):Q0 P F.b2 [d,c,b,a] w K:=Q8 Q0V Tryz.func57 rfl (by decide) (by kernel_rfl) h
end Go.Proofs.YtfppjenblllfaaaGreatDoor

set_option maxRecDepth 100000
namespace Go.Proofs.YtfppjenblllfaaaGreatDoor
open Go.Emb
def Xa (u A:Value) (w:World) (K:Value→World→Prop):Prop:= Q0 P F.d [u,A] w fun z w=>Q3 P .lss T.e (.tmp 9) (.const (.int .i64 0)) z (.int .i64 0) w fun y w=>X1 y (K (.slice none 0 0) w) (dr w fun a b=>Q5 a (fun c=> ∀w,b w→indexAddr P T.h u z w (dk a c w)) fun c=>Q5 a (fun f=> ∀o w,b w→c o w→fieldAddr P T.b o 1 w (dk a f w)) fun f=>Q5 a (fun i=> ∀w,b w→indexAddr P T.h u z w (dk a i w)) fun i=>Q5 a (fun k=> ∀p w,b w→i p w→fieldAddr P T.b p 6 w (dk a k w)) fun k=>Q5 a (fun d=> ∀w,b w→buildSlice P T.i 0 [] w (dk a d w)) fun d=>Q5 a (fun h=> ∀m w,b w→f m w→Q2 P T.a m w (dk a h w)) fun h=>Q5 a (fun l=> ∀n w,b w→h n w→Q0 P F.a3 [u,n] w (dk a l w)) fun l=>Q5 a (fun r=> ∀g j w,b w→d g w→l j w→X5 P .append [T.i,T.i] T.i [false,false] [g,j] w (dk a r w)) fun r=>Q5 a (fun q=> ∀e w,b w→k e w→Q2 P T.i e w (dk a q w)) fun q=>∀o m p e g n j t s w,b w→c o w→f m w→i p w→k e w→d g w→h n w→l j w→r t w→q s w→ X5 P .append [T.i,T.i] T.i [false,false] [t,s] w fun v w=>K v w)
theorem Wa {b a:Value} {w:World} {K:Value→World→Prop} (h:Xa b a w K):Q0 P F.a3 [b,a] w K:=Q8 (List.replicate 6 none) Tryz.func173 rfl (by decide) (by kernel_rfl) h
def Ik:W1:=[none,none,none,none,some ([8],[6,8,12,13,14,15,16,17,18,19,20,21,22,23,24,25]),none,none,none,none,none,none]
def Wv (m l k:Value) (w:World) (K:Value→World→Prop):Prop:= Q0 P F.a3 [m,l] w fun b w=>lp (α:=Value) (.int .i64 0) w fun a c n w=>X5 P .len [T.i] T.e [false] [b] w fun d w=>Q3 P .lss T.e (.tmp 12) (.tmp 14) c d w fun i w=>X1 i (indexAddr P T.i b c w fun f w=>fieldAddr P T.l f 0 w fun g w=>Q2 P T.a g w fun j w=>Q3 P .eql T.a (.tmp 22) (.tmp 23) j k w fun e w=>X1 e (K c w) (Q3 P .add T.e (.tmp 16) (.const (.int .i64 1)) c (.int .i64 1) w fun h w=>a h w)) (K (.int .i64 (-1)) w)
theorem Kz {c b a:Value} {w:World} {K:Value→World→Prop} (h:Wv c b a w K):Q0 P F.bD [c,b,a] w K:=Q8 Ik Tryz.func114 rfl (by decide) (by kernel_rfl) h
def Oc (b:Value) (w:World) (K:Value→World→Prop):Prop:= X5 P .len [T.a] T.e [false] [b] w fun d w=>Q0 P F.aq [b] w fun c w=>Q3 P .mul T.e (.const (.int .i64 2)) (.tmp 7) (.int .i64 2) c w fun f w=>Q3 P .sub T.e (.tmp 5) (.tmp 8) d f w fun e w=>R6 P T.a b none (some e) none w fun a w=>K a w
theorem Tf {a:Value} {w:World} {K:Value→World→Prop} (h:Oc a w K):Q0 P F.aT [a] w K:=Q8 (List.replicate 2 none) Tryz.func121 rfl (by decide) (by kernel_rfl) h
def Nk (p d:Value) (w:World) (K:Value→World→Prop):Prop:= Q3 P .eql T.a (.tmp 5) (.const (.string ⟨#[110,117,108,108]⟩)) d (.string ⟨#[110,117,108,108]⟩) w fun c w=>Q1 c false w (fun w J=>J d w) fun r w=>Q1 c false w (Q0 P F.l [r]) fun q w=>Q1 c false w (fun w J=>J q w) fun a w=>Q1 a true w (fun w J=>J d w) fun g w=>Q1 a true w (Q0 P F.aT [g]) fun f w=>Q1 a true w (Q0 P F.ai [f]) fun e w=>Q1 a true w (fun w J=>J e w) fun b w=>Q1 b false w (fun w J=>J p w) fun n w=>Q1 b false w (fun w J=>J d w) fun j w=>Q1 b false w (Q0 P F.aT [j]) fun m w=>Q1 b false w (Q0 P F.d [n,m]) fun i w=>Q1 b false w (Q3 P .geq T.e (.tmp 18) (.const (.int .i64 0)) i (.int .i64 0)) fun k w=>Q1 a true w (pick P b (.bool true) k) fun h w=>Q1 c false w (pick P a h (.bool false)) fun l w=>pick P c (.bool true) l w fun o w=>K o w
theorem Ak {b a:Value} {w:World} {K:Value→World→Prop} (h:Nk b a w K):Q0 P F.bM [b,a] w K:=Q8 (List.replicate 2 none) Tryz.func61 rfl (by decide) (by kernel_rfl) h
def Md (g d:Value) (w:World) (K:Value→World→Prop):Prop:= Q3 P .neq T.a (.tmp 5) (.const (.string ⟨#[110,117,108,108]⟩)) d (.string ⟨#[110,117,108,108]⟩) w fun a w=>Q1 a true w (fun w J=>J g w) fun f w=>Q1 a true w (fun w J=>J d w) fun e w=>Q1 a true w (Q0 P F.bM [f,e]) fun c w=>pick P a c (.bool false) w fun b w=>K b w
theorem Kt {b a:Value} {w:World} {K:Value→World→Prop} (h:Md b a w K):Q0 P F.bE [b,a] w K:=Q8 (List.replicate 2 none) Tryz.func115 rfl (by decide) (by kernel_rfl) h
def Ag:W1:=[none,none,none,none,some ([3,4],[3,4,5,6,7,8,9,10,11,12,13,14,15,16,17,18,19,20,21,22]),none,none,none,some ([3],[3,12,13,14,15]),none,none]
def Oa (s:Value) (w:World) (K:Value→World→Prop):Prop:= box P T.d s w fun a w=>lp (α:=Value×Value) ((.string ⟨#[40]⟩),(.int .i64 0)) w fun b c r w=>fieldAddr P T.d a 1 w fun q w=>Q2 P T.c q w fun t w=>X5 P .len [T.c] T.e [false] [t] w fun y w=>Q3 P .lss T.e (.tmp 5) (.tmp 8) c.2 y w fun u w=>X1 u (jn (α:=Value) w (fun p w=>Q3 P .gtr T.e (.tmp 12) (.const (.int .i64 0)) c.2 (.int .i64 0) w fun e w=>X1 e (Q3 P .add T.a (.tmp 14) (.const (.string ⟨#[44]⟩)) c.1 (.string ⟨#[44]⟩) w fun n w=>p n w) (p c.1 w)) fun v r w=>fieldAddr P T.d a 1 w fun m w=>Q2 P T.c m w fun k w=>indexAddr P T.c k c.2 w fun i w=>Q2 P T.a i w fun l w=>Q3 P .add T.a (.tmp 16) (.tmp 21) v l w fun o w=>Q3 P .add T.e (.tmp 10) (.const (.int .i64 1)) c.2 (.int .i64 1) w fun h w=>b (o,h) w) (Q3 P .add T.a (.tmp 23) (.const (.string ⟨#[41]⟩)) c.1 (.string ⟨#[41]⟩) w fun j w=>fieldAddr P T.d a 2 w fun d w=>Q2 P T.a d w fun g w=>Q3 P .add T.a (.tmp 24) (.tmp 26) j g w fun f w=>K f w)
theorem Al {a:Value} {w:World} {K:Value→World→Prop} (h:Oa a w K):Q0 P F.aS [a] w K:=Q8 Ag Tryz.func116 rfl (by decide) (by kernel_rfl) h
def Q0d:W1:=[none,none,none,some ([5],[4,5,6,7,8,9,10,11,12,13,14,15,16,17,18,19,20,21]),none,none,none,none,none,none]
def Dp (m l:Value) (w:World) (K:Value→World→Prop):Prop:= box P T.b m w fun a w=>lp (α:=Value) (.int .i64 0) w fun b c q w=>fieldAddr P T.b a 7 w fun n w=>Q2 P T.g n w fun p w=>X5 P .len [T.g] T.e [false] [p] w fun o w=>Q3 P .lss T.e (.tmp 6) (.tmp 9) c o w fun g w=>X1 g (fieldAddr P T.b a 7 w fun d w=>Q2 P T.g d w fun j w=>indexAddr P T.g j c w fun i w=>fieldAddr P T.d i 0 w fun k w=>Q2 P T.a k w fun h w=>Q3 P .eql T.a (.tmp 18) (.tmp 19) h l w fun f w=>X1 f (K c w) (Q3 P .add T.e (.tmp 11) (.const (.int .i64 1)) c (.int .i64 1) w fun e w=>b e w)) (K (.int .i64 (-1)) w)
theorem Q08 {b a:Value} {w:World} {K:Value→World→Prop} (h:Dp b a w K):Q0 P F.bb [b,a] w K:=Q8 Q0d Tryz.func174 rfl (by decide) (by kernel_rfl) h
def Ke:W1:=[none,none,none,some ([9],[6,8,9,10,11,12,13,14,15,16,17,18,19,20,21,22,23,24,25,26,27,28,29,30,31,32,33,34,35,36,37,38,39,40,41,42,43,44,45,46,47,48,49,50,51,52,53,54]),none,none,none,none,none,none,none,none,none,none,none,none]
def Ls (E a1 a2:Value) (w:World) (K:Value→World→Prop):Prop:= box P T.b a1 w fun d w=>L3 P T.d w fun s w=>lp (α:=Value) (.int .i64 0) w fun g B d_ w=>fieldAddr P T.b d 2 w fun W w=>Q2 P T.c W w fun ab w=>X5 P .len [T.c] T.e [false] [ab] w fun R w=>Q3 P .lss T.e (.tmp 15) (.tmp 18) B R w fun X w=>X1 X (fieldAddr P T.b d 2 w fun O w=>Q2 P T.c O w fun C w=>indexAddr P T.c C B w fun H w=>Q2 P T.a H w fun A w=>Q0 P F.d [E,A] w fun J w=>indexAddr P T.h E J w fun Q w=>Q2 P T.b Q w fun V w=>L3 P T.b w fun a w=>Z6 P T.b a V w fun _u w=>Q2 P T.b a w fun L w=>Q0 P F.bb [L,a2] w fun y w=>Q3 P .geq T.e (.tmp 35) (.const (.int .i64 0)) y (.int .i64 0) w fun Y w=>X1 Y (dr w fun b e=>Q5 b (fun i=> ∀w,e w→fieldAddr P T.b a 0 w (dk b i w)) fun i=>Q5 b (fun j=> ∀w,e w→fieldAddr P T.b a 7 w (dk b j w)) fun j=>Q5 b (fun q=> ∀n w,e w→i n w→Q2 P T.a n w (dk b q w)) fun q=>Q5 b (fun h=> ∀l w,e w→j l w→Q2 P T.g l w (dk b h w)) fun h=>Q5 b (fun m=> ∀k w,e w→h k w→indexAddr P T.g k y w (dk b m w)) fun m=>Q5 b (fun o=> ∀f w,e w→m f w→Q2 P T.d f w (dk b o w)) fun o=>∀n l v k f u w,e w→i n w→j l w→q v w→h k w→m f w→o u w→ Z6 P T.d s u w fun _u w=>W2 P T.d s w fun t=>K (.tuple #[v,t,(.bool true)]) w) (Q2 P T.b a w fun U w=>Q0 P F.aL [E,U,a2] w fun r w=>ext P r 0 w fun M w=>ext P r 1 w fun D w=>ext P r 2 w fun Z w=>L3 P T.d w fun c w=>Z6 P T.d c D w fun _u w=>X1 Z (dr w fun b e=>Q5 b (fun p=> ∀w,e w→Q2 P T.d c w (dk b p w)) fun p=>∀z w,e w→p z w→ Z6 P T.d s z w fun _u w=>W2 P T.d s w fun t=>K (.tuple #[M,t,(.bool true)]) w) (Q3 P .add T.e (.tmp 20) (.const (.int .i64 1)) B (.int .i64 1) w fun aa w=>g aa w))) (D7 P T.d [] w fun N w=>Z6 P T.d s N w fun _u w=>W2 P T.d s w fun t=>K (.tuple #[(.string ⟨#[]⟩),t,(.bool false)]) w)
theorem Pa {c b a:Value} {w:World} {K:Value→World→Prop} (h:Ls c b a w K):Q0 P F.aL [c,b,a] w K:=Q8 Ke Tryz.func175 rfl (by decide) (by kernel_rfl) h
def Gl:W1:=[none,none,none,some ([9],[6,8,9,10,18,19,20,21,22,23,24,25,26,27,28,29,30,31,32,33,34,35,36,37,38,39,40,41,42,43,44,45,46,47]),none,none,none,none,none,none,none,none,some ([11],[6,8,11,12,13,14,51,52,53,54,55,56,57,58,59,60,61,62,63,64,65,66,67,68,69,70,71,72,73]),none,none,none,none,none,none,none]
def Wm (c a1 a2:Value) (w:World) (K:Value→World→Prop):Prop:= L3 P T.d w fun y w=>Q0 P F.d [c,a1] w fun ah w=>lp (α:=Value) ah w fun i A d_ w=>Q3 P .geq T.e (.tmp 18) (.const (.int .i64 0)) A (.int .i64 0) w fun af w=>X1 af (indexAddr P T.h c A w fun X w=>Q2 P T.b X w fun ad w=>Q0 P F.bb [ad,a2] w fun D w=>Q3 P .geq T.e (.tmp 33) (.const (.int .i64 0)) D (.int .i64 0) w fun ac w=>X1 ac (dr w fun a b=>Q5 a (fun k=> ∀w,b w→indexAddr P T.h c A w (dk a k w)) fun k=>Q5 a (fun o=> ∀q w,b w→k q w→fieldAddr P T.b q 0 w (dk a o w)) fun o=>Q5 a (fun p=> ∀w,b w→indexAddr P T.h c A w (dk a p w)) fun p=>Q5 a (fun e=> ∀g w,b w→p g w→fieldAddr P T.b g 7 w (dk a e w)) fun e=>Q5 a (fun u=> ∀h w,b w→o h w→Q2 P T.a h w (dk a u w)) fun u=>Q5 a (fun l=> ∀f w,b w→e f w→Q2 P T.g f w (dk a l w)) fun l=>Q5 a (fun j=> ∀m w,b w→l m w→indexAddr P T.g m D w (dk a j w)) fun j=>Q5 a (fun s=> ∀n w,b w→j n w→Q2 P T.d n w (dk a s w)) fun s=>∀q h g f H m n E w,b w→k q w→o h w→p g w→e f w→u H w→l m w→j n w→s E w→ Z6 P T.d y E w fun _u w=>W2 P T.d y w fun z=>K (.tuple #[H,z,(.bool true)]) w) (indexAddr P T.h c A w fun U w=>fieldAddr P T.b U 1 w fun ab w=>Q2 P T.a ab w fun N w=>Q0 P F.d [c,N] w fun V w=>i V w)) (Q0 P F.d [c,a1] w fun R w=>lp (α:=Value) R w fun d r d_ w=>Q3 P .geq T.e (.tmp 51) (.const (.int .i64 0)) r (.int .i64 0) w fun M w=>X1 M (indexAddr P T.h c r w fun Z w=>Q2 P T.b Z w fun Y w=>Q0 P F.aL [c,Y,a2] w fun t w=>ext P t 0 w fun Q w=>ext P t 1 w fun O w=>ext P t 2 w fun L w=>L3 P T.d w fun B w=>Z6 P T.d B O w fun _u w=>X1 L (dr w fun a b=>Q5 a (fun v=> ∀w,b w→Q2 P T.d B w (dk a v w)) fun v=>∀C w,b w→v C w→ Z6 P T.d y C w fun _u w=>W2 P T.d y w fun z=>K (.tuple #[Q,z,(.bool true)]) w) (indexAddr P T.h c r w fun J w=>fieldAddr P T.b J 1 w fun ae w=>Q2 P T.a ae w fun ag w=>Q0 P F.d [c,ag] w fun W w=>d W w)) (D7 P T.d [] w fun aa w=>Z6 P T.d y aa w fun _u w=>W2 P T.d y w fun z=>K (.tuple #[(.string ⟨#[]⟩),z,(.bool false)]) w))
theorem Fy {c b a:Value} {w:World} {K:Value→World→Prop} (h:Wm c b a w K):Q0 P F.br [c,b,a] w K:=Q8 Gl Tryz.func117 rfl (by decide) (by kernel_rfl) h
def Bf:W1:=[none,none,none,none,some ([6],[4,6,24,25,26,27,28,29,30,31,32,33,34,35,36,37,38,39,40,41]),none,none,none,none,none,none,none,none,some ([7,8],[7,8,43,44,45,46,47,48,49,50,51,52,53,54,55,56,57,58]),none,none,none,none,none,some ([7,9],[7,9,59,60,61,62,63,64,65,66,67,68,69,70,71,72,73,74,75,76,77,78,79,80,81,82,83,84,85,86,87,88,89]),none,none,some ([7],[7,66,67,68,69,70,71,72,73,74,75,76,77,78,79,80,81,82,83,84,85,86,87,88,89]),none,none,none,none,some ([10],[4,10,90,91,92,93,94,95,96,97,98,99,100,101,102]),none,none,none,none,none,none,none,none,none,some ([12,13],[12,13,106,107,108,109,110,111,112,113,114,115,116,117,118,119,120,121,122,123,124,125,126,127,128,129,130]),none,none,some ([12],[12,112,113,114,115,116,117,118,119,120,121,122,123,124,125,126,127,128,129,130]),none,none,none,some ([14],[4,14,15,131,132,133,134,135,136,137,138,139,140,141,142,143,144,145,146,147,148,149,150,151,152,153,154,155,156,157,158,159,160,161,162,163,164,165]),none,none,none,none,some ([15],[4,15,137,138,139,140,141,142,143,144,145,146,147,148,149,150,151,152,153,154,155,156,157,158,159,160,161,162,163,164,165]),none,none,none,none,none,none,none,some ([16],[4,16,17,18,19,166,167,168,169,170,171,172,173,174,175,176,177,178,179,180,181,182,183,184,185,186,187,188,189,190,191,192,193,194,195]),none,none,none,none,none,none,none]
def Vg (a0 a1:Value) (w:World) (K:Value→World→Prop):Prop:= indexAddr P T.h a0 a1 w fun eh w=>Q2 P T.b eh w fun db w=>L3 P T.b w fun t5 w=>Z6 P T.b t5 db w fun _u w=>lp (α:=Value) (.int .i64 0) w fun bd x4 d_ w=>fieldAddr P T.b t5 6 w fun dn w=>Q2 P T.i dn w fun dt w=>X5 P .len [T.i] T.e [false] [dt] w fun ds w=>Q3 P .lss T.e (.tmp 24) (.tmp 27) x4 ds w fun cy w=>X1 cy (dr w fun b c=>Q5 b (fun a4=> ∀w,c w→fieldAddr P T.b t5 1 w (dk b a4 w)) fun a4=>Q5 b (fun bc=> ∀w,c w→fieldAddr P T.b t5 6 w (dk b bc w)) fun bc=>Q5 b (fun bn=> ∀a6 w,c w→a4 a6 w→Q2 P T.a a6 w (dk b bn w)) fun bn=>Q5 b (fun a2=> ∀a8 w,c w→bc a8 w→Q2 P T.i a8 w (dk b a2 w)) fun a2=>Q5 b (fun a3=> ∀a5 w,c w→a2 a5 w→indexAddr P T.i a5 x4 w (dk b a3 w)) fun a3=>Q5 b (fun ba=> ∀bf w,c w→a3 bf w→fieldAddr P T.l bf 0 w (dk b ba w)) fun ba=>Q5 b (fun bk=> ∀bb w,c w→ba bb w→Q2 P T.a bb w (dk b bk w)) fun bk=>∀a6 a8 bu a5 bf bb b6 w,c w→a4 a6 w→bc a8 w→bn bu w→a2 a5 w→a3 bf w→ba bb w→bk b6 w→ Q0 P F.bD [a0,bu,b6] w fun ef w=>Q3 P .geq T.e (.tmp 40) (.const (.int .i64 0)) ef (.int .i64 0) w fun eg w=>X1 eg (K (.int .i64 64) w) (Q3 P .add T.e (.tmp 29) (.const (.int .i64 1)) x4 (.int .i64 1) w fun c6 w=>bd c6 w)) (buildSlice P T.c 0 [] w fun d5 w=>lp (α:=Value×Value) (d5,(.int .i64 0)) w fun aw av d_ w=>fieldAddr P T.b t5 6 w fun ea w=>Q2 P T.i ea w fun c7 w=>X5 P .len [T.i] T.e [false] [c7] w fun d0 w=>Q3 P .lss T.e (.tmp 43) (.tmp 46) av.2 d0 w fun ed w=>X1 ed (fieldAddr P T.b t5 6 w fun dj w=>Q2 P T.i dj w fun c1 w=>indexAddr P T.i c1 av.2 w fun ee w=>fieldAddr P T.l ee 1 w fun d9 w=>Q2 P T.a d9 w fun da w=>buildSlice P T.c 1 [(0,da)] w fun c9 w=>X5 P .append [T.c,T.c] T.c [false,false] [av.1,c9] w fun di w=>Q3 P .add T.e (.tmp 48) (.const (.int .i64 1)) av.2 (.int .i64 1) w fun d8 w=>aw (di,d8) w) (lp (α:=Value×Value) (av.1,(.int .i64 0)) w fun ak j d_ w=>fieldAddr P T.b t5 7 w fun d6 w=>Q2 P T.g d6 w fun dp w=>X5 P .len [T.g] T.e [false] [dp] w fun c5 w=>Q3 P .lss T.e (.tmp 59) (.tmp 62) j.2 c5 w fun c2 w=>X1 c2 (jn (α:=Value) w (fun cg w=>fieldAddr P T.b t5 7 w fun c3 w=>Q2 P T.g c3 w fun dq w=>indexAddr P T.g dq j.2 w fun d3 w=>fieldAddr P T.d d3 1 w fun dh w=>Q2 P T.c dh w fun cx w=>X5 P .append [T.c,T.c] T.c [false,false] [j.1,cx] w fun cr w=>fieldAddr P T.b t5 7 w fun df w=>Q2 P T.g df w fun c4 w=>indexAddr P T.g c4 j.2 w fun d4 w=>fieldAddr P T.d d4 2 w fun c8 w=>Q2 P T.a c8 w fun de w=>Q3 P .neq T.a (.tmp 79) (.const (.string ⟨#[]⟩)) de (.string ⟨#[]⟩) w fun dg w=>X1 dg (fieldAddr P T.b t5 7 w fun c0 w=>Q2 P T.g c0 w fun dl w=>indexAddr P T.g dl j.2 w fun dw w=>fieldAddr P T.d dw 2 w fun cz w=>Q2 P T.a cz w fun dy w=>buildSlice P T.c 1 [(0,dy)] w fun d2 w=>X5 P .append [T.c,T.c] T.c [false,false] [cr,d2] w fun dz w=>cg dz w) (cg cr w)) fun dd d_ w=>Q3 P .add T.e (.tmp 64) (.const (.int .i64 1)) j.2 (.int .i64 1) w fun dx w=>ak (dd,dx) w) (lp (α:=Value) (.int .i64 0) w fun ai bj d_ w=>X5 P .len [T.c] T.e [false] [j.1] w fun d7 w=>Q3 P .lss T.e (.tmp 90) (.tmp 92) bj d7 w fun du w=>X1 du (indexAddr P T.c j.1 bj w fun d1 w=>Q2 P T.a d1 w fun cp w=>Q0 P F.bE [a0,cp] w fun b1 w=>J3 P .not b1 w fun cl w=>X1 cl (K (.int .i64 65) w) (Q3 P .add T.e (.tmp 94) (.const (.int .i64 1)) bj (.int .i64 1) w fun eb w=>ai eb w)) (Q0 P F.aH [a0] w fun cu w=>buildSlice P T.g 0 [] w fun bq w=>lp (α:=Value×Value) (bq,(.int .i64 0)) w fun ao f d_ w=>X5 P .len [T.h] T.e [false] [a0] w fun b4 w=>Q3 P .lss T.e (.tmp 106) (.tmp 108) f.2 b4 w fun ch w=>X1 ch (jn (α:=Value) w (fun ca w=>Q3 P .eql T.e (.tmp 112) (.tmp 113) f.2 a1 w fun g w=>Q1 g false w (fun w J=>J cu w) fun b5 w=>Q1 g false w (fun w J=>J a1 w) fun cf w=>Q1 g false w (indexAddr P T.a2 b5 cf) fun cq w=>Q1 g false w (Q2 P T.a1 cq) fun b9 w=>Q1 g false w (fun w J=>J f.2 w) fun ce w=>Q1 g false w (indexAddr P T.a1 b9 ce) fun cn w=>Q1 g false w (Q2 P T.o cn) fun bz w=>pick P g (.bool true) bz w fun bo w=>X1 bo (indexAddr P T.h a0 f.2 w fun cd w=>fieldAddr P T.b cd 7 w fun b3 w=>Q2 P T.g b3 w fun bv w=>X5 P .append [T.g,T.g] T.g [false,false] [f.1,bv] w fun cm w=>ca cm w) (ca f.1 w)) fun dv d_ w=>Q3 P .add T.e (.tmp 110) (.const (.int .i64 1)) f.2 (.int .i64 1) w fun ci w=>ao (dv,ci) w) (lp (α:=Value) (.int .i64 0) w fun an ay d_ w=>X5 P .len [T.g] T.e [false] [f.1] w fun b0 w=>Q3 P .lss T.e (.tmp 131) (.tmp 133) ay b0 w fun bw w=>X1 bw (lp (α:=Value) (.int .i64 0) w fun al a7 d_ w=>Q3 P .lss T.e (.tmp 137) (.tmp 138) a7 ay w fun co w=>X1 co (dr w fun b c=>Q5 b (fun ac=> ∀w,c w→indexAddr P T.g f.1 ay w (dk b ac w)) fun ac=>Q5 b (fun m=> ∀ae w,c w→ac ae w→fieldAddr P T.d ae 0 w (dk b m w)) fun m=>Q5 b (fun U=> ∀w,c w→indexAddr P T.g f.1 a7 w (dk b U w)) fun U=>Q5 b (fun v=> ∀l w,c w→U l w→fieldAddr P T.d l 0 w (dk b v w)) fun v=>Q5 b (fun ab=> ∀N w,c w→m N w→Q2 P T.a N w (dk b ab w)) fun ab=>Q5 b (fun R=> ∀s w,c w→v s w→Q2 P T.a s w (dk b R w)) fun R=>Q5 b (fun d=> ∀Z O w,c w→ab Z w→R O w→Q3 P .eql T.a (.tmp 146) (.tmp 151) Z O w (dk b d w)) fun d=>Q5 b (fun M=> ∀a w,c w→d a w→Q1 a true w (fun w J=>J f.1 w) (dk b M w)) fun M=>Q5 b (fun V=> ∀a w,c w→d a w→Q1 a true w (fun w J=>J ay w) (dk b V w)) fun V=>Q5 b (fun t=> ∀a Q C w,c w→d a w→M Q w→V C w→Q1 a true w (indexAddr P T.g Q C) (dk b t w)) fun t=>Q5 b (fun A=> ∀a w,c w→d a w→Q1 a true w (fun w J=>J f.1 w) (dk b A w)) fun A=>Q5 b (fun af=> ∀a w,c w→d a w→Q1 a true w (fun w J=>J a7 w) (dk b af w)) fun af=>Q5 b (fun D=> ∀a X ad w,c w→d a w→A X w→af ad w→Q1 a true w (indexAddr P T.g X ad) (dk b D w)) fun D=>Q5 b (fun Y=> ∀a n w,c w→d a w→t n w→Q1 a true w (Q2 P T.d n) (dk b Y w)) fun Y=>Q5 b (fun aq=> ∀a ag w,c w→d a w→Y ag w→Q1 a true w (Q0 P F.aS [ag]) (dk b aq w)) fun aq=>Q5 b (fun ax=> ∀a aa w,c w→d a w→D aa w→Q1 a true w (Q2 P T.d aa) (dk b ax w)) fun ax=>∀ae N l s Z O a Q C n X ad aa ag bi bg w,c w→ac ae w→m N w→U l w→v s w→ab Z w→R O w→d a w→M Q w→V C w→t n w→A X w→af ad w→D aa w→Y ag w→aq bi w→ax bg w→ Q1 a true w (Q0 P F.aS [bg]) fun cb w=>Q1 a true w (Q3 P .neq T.a (.tmp 158) (.tmp 163) bi cb) fun cs w=>pick P a cs (.bool false) w fun ct w=>X1 ct (K (.int .i64 66) w) (Q3 P .add T.e (.tmp 140) (.const (.int .i64 1)) a7 (.int .i64 1) w fun bx w=>al bx w)) (Q3 P .add T.e (.tmp 135) (.const (.int .i64 1)) ay (.int .i64 1) w fun cj w=>an cj w)) (lp (α:=Value) (.int .i64 0) w fun ap bl d_ w=>X5 P .len [T.g] T.e [false] [f.1] w fun bs w=>Q3 P .lss T.e (.tmp 166) (.tmp 168) bl bs w fun E w=>Q1 E true w (fieldAddr P T.b t5 4) fun cc w=>Q1 E true w (Q2 P T.o cc) fun cw w=>Q1 E true w (J3 P .not cw) fun b8 w=>pick P E b8 (.bool false) w fun br w=>X1 br (dr w fun b c=>Q5 b (fun u=> ∀w,c w→fieldAddr P T.b t5 0 w (dk b u w)) fun u=>Q5 b (fun B=> ∀w,c w→indexAddr P T.g f.1 bl w (dk b B w)) fun B=>Q5 b (fun W=> ∀H w,c w→B H w→fieldAddr P T.d H 0 w (dk b W w)) fun W=>Q5 b (fun p=> ∀o w,c w→u o w→Q2 P T.a o w (dk b p w)) fun p=>Q5 b (fun L=> ∀r w,c w→W r w→Q2 P T.a r w (dk b L w)) fun L=>Q5 b (fun i=> ∀q z w,c w→p q w→L z w→Q0 P F.br [a0,q,z] w (dk b i w)) fun i=>Q5 b (fun az=> ∀e w,c w→i e w→ext P e 0 w (dk b az w)) fun az=>Q5 b (fun y=> ∀e w,c w→i e w→ext P e 1 w (dk b y w)) fun y=>Q5 b (fun ar=> ∀e w,c w→i e w→ext P e 2 w (dk b ar w)) fun ar=>Q5 b (fun a9=> ∀w,c w→L3 P T.d w (dk b a9 w)) fun a9=>Q2t b (fun am=> ∀k h w,c w→a9 k w→y h w→Z6 P T.d k h w (dk b (am [k,h]) w)) fun am=>∀o H r q z e ck h bh k dm w,c w→u o w→B H w→W r w→p q w→L z w→i e w→az ck w→y h w→ar bh w→a9 k w→am [k,h] dm w→ J3 P .not bh w fun aj w=>Q1 aj false w (fieldAddr P T.d k 3) fun cv w=>Q1 aj false w (Q2 P T.o cv) fun b2 w=>pick P aj (.bool true) b2 w fun b7 w=>X1 b7 (K (.int .i64 67) w) (Q3 P .add T.e (.tmp 175) (.const (.int .i64 1)) bl (.int .i64 1) w fun bp w=>ap bp w)) (K (.int .i64 0) w)))))))
theorem Bp {b a:Value} {w:World} {K:Value→World→Prop} (h:Vg b a w K):Q0 P F.bf [b,a] w K:=Q8 Bf Tryz.func58 rfl (by decide) (by kernel_rfl) h
def Q0n:W1:=[none,none,none,none,none,some ([5,7],[2,3,4,5,7,8,21,22,23,24,25,26,27,28,29,30,31,32,33,34,35,36,37,38,39,40,41,42]),none,none,none,none,none,none,none,none,none,some ([9],[2,3,4,9,43,44,45,46,47,48,49,50,51,52,53,54,55,56,57,58,59,60]),none,none,none,none,none,none,none,some ([10],[2,3,4,10,11,61,62,63,64,65,66,67,68,69,70,71,72,73,74,75,76]),none,none,none,none,none,none,none,none,none,some ([13],[2,3,4,13,79,80,81,82,83,84,85,86,87,88,89,90,91,92,93,94,95,96]),none,none,none,none,none,none,none,none,some ([14,15],[14,15,98,99,100,101,102,103,104,105,106,107,108,109,110]),none,none,none,none,none,some ([16],[2,3,4,16,17,111,112,113,114,115,116,117,118,119,120,121,122,123,124,125,126,127,128,129,130,131]),none,none,none,none,none,none,none]
def Dj (l:Value) (w:World) (K:Value→World→Prop):Prop:= Q0 P F.bz [] w fun D w=>X5 P .len [T.h] T.e [false] [D] w fun b w=>lp (α:=Value×Value) (D,(.int .i64 0)) w fun m c s w=>X5 P .len [T.h] T.e [false] [l] w fun X w=>Q3 P .lss T.e (.tmp 21) (.tmp 23) c.2 X w fun aj w=>X1 aj (indexAddr P T.h l c.2 w fun ad w=>Q2 P T.b ad w fun ap w=>Q0 P F.bA [ap] w fun H w=>Q3 P .neq T.s (.tmp 32) (.const (.int .i64 0)) H (.int .i64 0) w fun am w=>X1 am (K (.tuple #[(.slice none 0 0),c.2,H]) w) (indexAddr P T.h l c.2 w fun az w=>Q2 P T.b az w fun ax w=>buildSlice P T.h 1 [(0,ax)] w fun a2 w=>X5 P .append [T.h,T.h] T.h [false,false] [c.1,a2] w fun V w=>Q3 P .add T.e (.tmp 25) (.const (.int .i64 1)) c.2 (.int .i64 1) w fun aa w=>m (V,aa) w)) (lp (α:=Value) (.int .i64 0) w fun h i s w=>X5 P .len [T.h] T.e [false] [l] w fun aq w=>Q3 P .lss T.e (.tmp 43) (.tmp 45) i aq w fun ar w=>X1 ar (indexAddr P T.h l i w fun W w=>fieldAddr P T.b W 0 w fun af w=>Q2 P T.a af w fun aw w=>Q0 P F.d [c.1,aw] w fun ah w=>Q3 P .add T.e (.tmp 56) (.tmp 57) b i w fun ay w=>Q3 P .neq T.e (.tmp 55) (.tmp 58) ah ay w fun ab w=>X1 ab (K (.tuple #[(.slice none 0 0),i,(.int .i64 60)]) w) (Q3 P .add T.e (.tmp 47) (.const (.int .i64 1)) i (.int .i64 1) w fun a1 w=>h a1 w)) (lp (α:=Value) (.int .i64 0) w fun f o s w=>X5 P .len [T.h] T.e [false] [l] w fun ae w=>Q3 P .lss T.e (.tmp 61) (.tmp 63) o ae w fun ag w=>X1 ag (indexAddr P T.h l o w fun O w=>Q2 P T.b O w fun ak w=>Q0 P F.bq [c.1,ak] w fun r w=>Q3 P .neq T.s (.tmp 73) (.const (.int .i64 0)) r (.int .i64 0) w fun ai w=>X1 ai (K (.tuple #[(.slice none 0 0),o,r]) w) (Q3 P .add T.e (.tmp 65) (.const (.int .i64 1)) o (.int .i64 1) w fun Q w=>f Q w)) (Q0 P F.aH [c.1] w fun av w=>lp (α:=Value) (.int .i64 0) w fun d g s w=>X5 P .len [T.h] T.e [false] [l] w fun R w=>Q3 P .lss T.e (.tmp 79) (.tmp 81) g R w fun U w=>X1 U (Q3 P .add T.e (.tmp 86) (.tmp 87) b g w fun a4 w=>indexAddr P T.a2 av a4 w fun an w=>Q2 P T.a1 an w fun Z w=>Q3 P .add T.e (.tmp 91) (.tmp 92) b g w fun ac w=>indexAddr P T.a1 Z ac w fun Y w=>Q2 P T.o Y w fun ao w=>X1 ao (K (.tuple #[(.slice none 0 0),g,(.int .i64 63)]) w) (Q3 P .add T.e (.tmp 83) (.const (.int .i64 1)) g (.int .i64 1) w fun al w=>d al w)) (buildSlice P T.a0 0 [] w fun a3 w=>lp (α:=Value×Value) (a3,(.int .i64 0)) w fun e a s w=>X5 P .len [T.h] T.e [false] [l] w fun N w=>Q3 P .lss T.e (.tmp 98) (.tmp 100) a.2 N w fun u w=>X1 u (Q3 P .add T.e (.tmp 107) (.tmp 108) b a.2 w fun v w=>Q0 P F.b2 [c.1,a.1,b,v] w fun L w=>Q3 P .add T.e (.tmp 102) (.const (.int .i64 1)) a.2 (.int .i64 1) w fun E w=>e (L,E) w) (lp (α:=Value) (.int .i64 0) w fun j n s w=>X5 P .len [T.a0] T.e [false] [a.1] w fun z w=>Q3 P .lss T.e (.tmp 111) (.tmp 113) n z w fun A w=>X1 A (indexAddr P T.a0 a.1 n w fun t w=>Q2 P T.e t w fun M w=>Q0 P F.bf [c.1,M] w fun q w=>Q3 P .neq T.s (.tmp 123) (.const (.int .i64 0)) q (.int .i64 0) w fun y w=>X1 y (dr w fun Tr Br=>Q5 Tr (fun k=> ∀w,Br w→indexAddr P T.a0 a.1 n w (dk Tr k w)) fun k=>∀p w,Br w→k p w→ Q2 P T.e p w fun B w=>Q3 P .sub T.e (.tmp 128) (.tmp 129) B b w fun J w=>K (.tuple #[(.slice none 0 0),J,q]) w) (Q3 P .add T.e (.tmp 115) (.const (.int .i64 1)) n (.int .i64 1) w fun C w=>j C w)) (K (.tuple #[c.1,(.int .i64 0),(.int .i64 0)]) w))))))
theorem Q0O {a:Value} {w:World} {K:Value→World→Prop} (h:Dj a w K):Q0 P F.bT [a] w K:=Q8 Q0n Tryz.func27 rfl (by decide) (by kernel_rfl) h
def Vt (w:World) (K:Value→World→Prop):Prop:= Q0 P F.aA [] w fun p w=>Q0 P F.cP [p] w fun b w=>ext P b 0 w fun e w=>ext P b 1 w fun o w=>ext P b 2 w fun g w=>Q0 P F.aA [] w fun n w=>Q0 P F.bT [n] w fun c w=>ext P c 0 w fun m w=>ext P c 1 w fun q w=>ext P c 2 w fun l w=>Q3 P .neq T.s (.tmp 20) (.const (.int .i64 0)) g (.int .i64 0) w fun d w=>Q1 d false w (fun w J=>J l w) fun h w=>Q1 d false w (Q3 P .neq T.s (.tmp 23) (.const (.int .i64 0)) h (.int .i64 0)) fun k w=>pick P d (.bool true) k w fun a w=>Q1 a false w (fun w J=>J e w) fun i w=>Q1 a false w (Q3 P .eql T.r (.tmp 27) (.const (.pointer none)) i (.pointer none)) fun f w=>pick P a (.bool true) f w fun j w=>X1 j (K (.tuple #[(.pointer none),(.slice none 0 0)]) w) (K (.tuple #[e,m]) w)
theorem Gk {w:World} {K:Value→World→Prop} (h:Vt w K):Q0 P F.aC [] w K:=Q8 (List.replicate 7 none) Tryz.func10 rfl (by decide) (by kernel_rfl) h
def Pj (u:Value) (w:World) (K:Value→World→Prop):Prop:= box P T.f u w fun a w=>L3 P T.f w fun s w=>dr w fun b c=>Q5 b (fun k=> ∀w,c w→fieldAddr P T.f a 1 w (dk b k w)) fun k=>Q5 b (fun g=> ∀w,c w→fieldAddr P T.f a 2 w (dk b g w)) fun g=>Q5 b (fun f=> ∀i w,c w→k i w→Q2 P T.c i w (dk b f w)) fun f=>Q5 b (fun n=> ∀j w,c w→f j w→Q0 P F.b [j] w (dk b n w)) fun n=>Q5 b (fun e=> ∀d w,c w→g d w→Q2 P T.c d w (dk b e w)) fun e=>Q5 b (fun p=> ∀w,c w→fieldAddr P T.f a 1 w (dk b p w)) fun p=>Q5 b (fun o=> ∀h w,c w→e h w→Q0 P F.b [h] w (dk b o w)) fun o=>∀i d j q h r t w,c w→k i w→g d w→f j w→n q w→e h w→p r w→o t w→ Z6 P T.c r q w fun _u w=>fieldAddr P T.f a 2 w fun m w=>Z6 P T.c m t w fun _u w=>Q2 P T.f a w fun l w=>Z6 P T.f s l w fun _u w=>W2 P T.f s w fun v=>K v w
theorem Q4Q {a:Value} {w:World} {K:Value→World→Prop} (h:Pj a w K):Q0 P F.c7 [a] w K:=Q8 (List.replicate 3 none) Tryz.func28 rfl (by decide) (by kernel_rfl) h
def Uc (a f:Value) (w:World) (K:Value→World→Prop):Prop:= Q0 P F.a9 [a,f] w fun h w=>J3 P .not h w fun g w=>X1 g (K (.tuple #[a,(.bool false)]) w) (X5 P .len [T.a] T.e [false] [a] w fun d w=>X5 P .len [T.a] T.e [false] [f] w fun e w=>Q3 P .sub T.e (.tmp 13) (.tmp 15) d e w fun b w=>R6 P T.a a none (some b) none w fun c w=>K (.tuple #[c,(.bool true)]) w)
theorem Sz {b a:Value} {w:World} {K:Value→World→Prop} (h:Uc b a w K):Q0 P F.cf [b,a] w K:=Q8 (List.replicate 5 none) Tryz.func206 rfl (by decide) (by kernel_rfl) h
def Oj (e d:Value) (w:World) (K:Value→World→Prop):Prop:= Q0 P F.cf [e,d] w fun b w=>ext P b 0 w fun c w=>ext P b 1 w fun a w=>K (.tuple #[c,a]) w
theorem Ae {b a:Value} {w:World} {K:Value→World→Prop} (h:Oj b a w K):Q0 P F.bP [b,a] w K:=Q8 (List.replicate 2 none) Tryz.func176 rfl (by decide) (by kernel_rfl) h
def Q25 (g:Value) (w:World) (K:Value→World→Prop):Prop:= Q0 P F.bP [g,(.string ⟨#[91,93]⟩)] w fun f w=>ext P f 0 w fun i w=>ext P f 1 w fun h w=>J3 P .not h w fun a w=>Q1 a false w (fun w J=>J g w) fun d w=>Q1 a false w (Q0 P F.z [d]) fun c w=>Q1 a false w (J3 P .not c) fun e w=>pick P a (.bool true) e w fun b w=>X1 b (K (.string ⟨#[]⟩) w) (K i w)
theorem Q7c {a:Value} {w:World} {K:Value→World→Prop} (h:Q25 a w K):Q0 P F.c5 [a] w K:=Q8 (List.replicate 6 none) Tryz.func118 rfl (by decide) (by kernel_rfl) h
def Ms (g f:Value) (w:World) (K:Value→World→Prop):Prop:= box P T.b g w fun a w=>fieldAddr P T.b a 0 w fun e w=>Q2 P T.a e w fun d w=>Q2 P T.a f w fun b w=>Q3 P .eql T.a (.tmp 5) (.tmp 6) d b w fun c w=>K c w
theorem Ko {b a:Value} {w:World} {K:Value→World→Prop} (h:Ms b a w K):Q0 P F.bF [b,a] w K:=Q8 (List.replicate 2 none) Tryz.func119 rfl (by decide) (by kernel_rfl) h
def Ej (h d z:Value) (w:World) (K:Value→World→Prop):Prop:= box P T.a z w fun a w=>Q0 P F.r [h,d] w fun l w=>J3 P .not l w fun b w=>Q1 b false w (fun w J=>J h w) fun f w=>Q1 b false w (Q2 P T.a a) fun q w=>Q1 b false w (Q0 P F.r [f,q]) fun v w=>Q1 b false w (J3 P .not v) fun o w=>pick P b (.bool true) o w fun u w=>X1 u (K (.bool false) w) (Q2 P T.a a w fun k w=>Q3 P .eql T.a (.tmp 19) (.tmp 20) d k w fun s w=>X1 s (K (.bool true) w) (Q0 P F.ad [d] w fun c w=>Q1 c false w (Q2 P T.a a) fun j w=>Q1 c false w (Q0 P F.ad [j]) fun g w=>pick P c (.bool true) g w fun e w=>X1 e (K (.bool false) w) (Q3 P .eql T.a (.tmp 30) (.const (.string ⟨#[110,117,108,108]⟩)) d (.string ⟨#[110,117,108,108]⟩) w fun n w=>X1 n (K (.bool true) w) (Q0 P F.c5 [d] w fun m w=>Q3 P .neq T.a (.tmp 34) (.const (.string ⟨#[]⟩)) m (.string ⟨#[]⟩) w fun i w=>X1 i (Q2 P T.a a w fun r w=>Q3 P .eql T.a (.tmp 36) (.const (.string ⟨#[79,98,106,101,99,116]⟩)) r (.string ⟨#[79,98,106,101,99,116]⟩) w fun y w=>K y w) (N6 P (.func F.bF) [] [a] w fun p w=>Q0 P F.y [h,d,p] w fun t w=>K t w)))))
theorem Q00 {c b a:Value} {w:World} {K:Value→World→Prop} (h:Ej c b a w K):Q0 P F.ae [c,b,a] w K:=Q8 (List.replicate 13 none) Tryz.func59 rfl (by decide) (by kernel_rfl) h
def Tw:W1:=[none,none,none,none,none,none,none,none,none,none,some ([7],[6,7,40,41,42,43,44,45,46,47,48,49,50,51]),none,none,none,none,none,none]
def Nu (d h g:Value) (w:World) (K:Value→World→Prop):Prop:= Q0 P F.ae [d,h,g] w fun n w=>X1 n (K g w) (Q0 P F.ae [d,g,h] w fun u w=>X1 u (K h w) (Q0 P F.r [d,h] w fun m w=>J3 P .not m w fun b w=>Q1 b false w (fun w J=>J d w) fun p w=>Q1 b false w (fun w J=>J g w) fun o w=>Q1 b false w (Q0 P F.r [p,o]) fun i w=>Q1 b false w (J3 P .not i) fun q w=>pick P b (.bool true) q w fun f w=>Q1 f false w (fun w J=>J h w) fun r w=>Q1 f false w (Q0 P F.ad [r]) fun s w=>pick P f (.bool true) s w fun e w=>Q1 e false w (fun w J=>J g w) fun y w=>Q1 e false w (Q0 P F.ad [y]) fun z w=>pick P e (.bool true) z w fun k w=>X1 k (K (.string ⟨#[]⟩) w) (lp (α:=Value) h w fun a c A w=>Q0 P F.n [d,c] w fun j w=>X1 j (Q0 P F.ae [d,g,c] w fun l w=>X1 l (K c w) (Q0 P F.h [d,c] w fun t w=>We P T.b t 1 w fun v w=>a v w)) (K (.string ⟨#[79,98,106,101,99,116]⟩) w))))
theorem Tl {c b a:Value} {w:World} {K:Value→World→Prop} (h:Nu c b a w K):Q0 P F.aN [c,b,a] w K:=Q8 Tw Tryz.func29 rfl (by decide) (by kernel_rfl) h
def Q6w:W1:=[none,none,none,none,none,none,none,none,none,none,none,some ([49],[7,9,10,11,49,50,51,52,53,54,55,56,57,58,59,60,61,62,63,64,65,66,67,68,69,70,71]),none,none,none,none,none,none,none,none,none,none,some ([75],[12,13,14,75,76,77,78,79,80,81,82,83,84,85,86,87,88,89,90,91,92,93,94,95,96,97,98,99,100,101,102,103,104]),none,none,none,none,none,some ([14],[14,80,81,82,83,84,85,86,87,88,89,90,91,92,93,94,95,96,97]),none,none]
def Q0m (a0 a1 a2:Value) (w:World) (K:Value→World→Prop):Prop:= box P T.f a1 w fun j w=>box P T.f a2 w fun i w=>L3 P T.f w fun f w=>fieldAddr P T.f j 0 w fun ai w=>Q2 P T.o ai w fun bi w=>J3 P .not bi w fun ae w=>X1 ae (Q2 P T.f i w fun aj w=>Q0 P F.c7 [aj] w fun O w=>Z6 P T.f f O w fun _u w=>W2 P T.f f w fun h=>K (.tuple #[h,(.int .i64 0)]) w) (fieldAddr P T.f i 0 w fun bk w=>Q2 P T.o bk w fun ax w=>J3 P .not ax w fun bb w=>X1 bb (Q2 P T.f j w fun D w=>Q0 P F.c7 [D] w fun L w=>Z6 P T.f f L w fun _u w=>W2 P T.f f w fun h=>K (.tuple #[h,(.int .i64 0)]) w) (fieldAddr P T.f j 1 w fun y w=>Q2 P T.c y w fun a4 w=>X5 P .len [T.c] T.e [false] [a4] w fun ab w=>fieldAddr P T.f i 1 w fun ag w=>Q2 P T.c ag w fun a5 w=>X5 P .len [T.c] T.e [false] [a5] w fun Z w=>Q3 P .neq T.e (.tmp 30) (.tmp 33) ab Z w fun a w=>Q1 a false w (fieldAddr P T.f j 2) fun ak w=>Q1 a false w (Q2 P T.c ak) fun bj w=>Q1 a false w (X5 P .len [T.c] T.e [false] [bj]) fun E w=>Q1 a false w (fieldAddr P T.f i 2) fun bg w=>Q1 a false w (Q2 P T.c bg) fun bf w=>Q1 a false w (X5 P .len [T.c] T.e [false] [bf]) fun bh w=>Q1 a false w (Q3 P .neq T.e (.tmp 38) (.tmp 41) E bh) fun av w=>pick P a (.bool true) av w fun ar w=>X1 ar (D7 P T.f [] w fun a9 w=>Z6 P T.f f a9 w fun _u w=>W2 P T.f f w fun h=>K (.tuple #[h,(.int .i64 75)]) w) (D7 P T.f [(0,(.bool true))] w fun ac w=>L3 P T.f w fun k w=>Z6 P T.f k ac w fun _u w=>fieldAddr P T.f j 1 w fun af w=>Q2 P T.c af w fun t w=>X5 P .len [T.c] T.e [false] [t] w fun am w=>lp (α:=Value) (.int .i64 0) w fun d g d_ w=>Q3 P .lss T.e (.tmp 49) (.tmp 48) g am w fun ay w=>X1 ay (indexAddr P T.c t g w fun C w=>Q2 P T.a C w fun U w=>fieldAddr P T.f i 1 w fun ap w=>Q2 P T.c ap w fun ah w=>indexAddr P T.c ah g w fun M w=>Q2 P T.a M w fun az w=>Q0 P F.aN [a0,U,az] w fun l w=>Q3 P .eql T.a (.tmp 62) (.const (.string ⟨#[]⟩)) l (.string ⟨#[]⟩) w fun Q w=>X1 Q (D7 P T.f [] w fun a7 w=>Z6 P T.f f a7 w fun _u w=>W2 P T.f f w fun h=>K (.tuple #[h,(.int .i64 75)]) w) (fieldAddr P T.f k 1 w fun V w=>Q2 P T.c V w fun z w=>buildSlice P T.c 1 [(0,l)] w fun H w=>X5 P .append [T.c,T.c] T.c [false,false] [z,H] w fun aw w=>fieldAddr P T.f k 1 w fun aq w=>Z6 P T.c aq aw w fun _u w=>Q3 P .add T.e (.tmp 49) (.const (.int .i64 1)) g (.int .i64 1) w fun ba w=>d ba w)) (fieldAddr P T.f j 2 w fun v w=>Q2 P T.c v w fun q w=>X5 P .len [T.c] T.e [false] [q] w fun a8 w=>lp (α:=Value) (.int .i64 0) w fun c e d_ w=>Q3 P .lss T.e (.tmp 75) (.tmp 74) e a8 w fun be w=>X1 be (indexAddr P T.c q e w fun ad w=>Q2 P T.a ad w fun r w=>jn (α:=Value) w (fun m w=>Q3 P .neq T.a (.tmp 80) (.const (.string ⟨#[]⟩)) r (.string ⟨#[]⟩) w fun b w=>Q1 b true w (fieldAddr P T.f i 2) fun B w=>Q1 b true w (Q2 P T.c B) fun bc w=>Q1 b true w (fun w J=>J e w) fun W w=>Q1 b true w (indexAddr P T.c bc W) fun A w=>Q1 b true w (Q2 P T.a A) fun X w=>Q1 b true w (Q3 P .neq T.a (.tmp 87) (.const (.string ⟨#[]⟩)) X (.string ⟨#[]⟩)) fun ao w=>pick P b ao (.bool false) w fun aa w=>X1 aa (fieldAddr P T.f i 2 w fun a3 w=>Q2 P T.c a3 w fun N w=>indexAddr P T.c N e w fun bd w=>Q2 P T.a bd w fun R w=>Q0 P F.aN [a0,r,R] w fun an w=>m an w) (m (.string ⟨#[]⟩) w)) fun Y d_ w=>fieldAddr P T.f k 2 w fun a6 w=>Q2 P T.c a6 w fun al w=>buildSlice P T.c 1 [(0,Y)] w fun s w=>X5 P .append [T.c,T.c] T.c [false,false] [al,s] w fun p w=>fieldAddr P T.f k 2 w fun o w=>Z6 P T.c o p w fun _u w=>Q3 P .add T.e (.tmp 75) (.const (.int .i64 1)) e (.int .i64 1) w fun u w=>c u w) (Q2 P T.f k w fun n w=>Z6 P T.f f n w fun _u w=>W2 P T.f f w fun h=>K (.tuple #[h,(.int .i64 0)]) w)))))
theorem Q66 {c b a:Value} {w:World} {K:Value→World→Prop} (h:Q0m c b a w K):Q0 P F.cE [c,b,a] w K:=Q8 Q6w Tryz.func13 rfl (by decide) (by kernel_rfl) h
def Tk:W1:=[none,none,none,none,none,none,some ([5],[4,5,11,12,13,14,15,16,17,18,19,20,21,22,23,24,25]),none,none,none,none,none,none]
def Oi (o s:Value) (w:World) (K:Value→World→Prop):Prop:= X5 P .len [T.c] T.e [false] [o] w fun t w=>X5 P .len [T.c] T.e [false] [s] w fun u w=>Q3 P .neq T.e (.tmp 7) (.tmp 9) t u w fun p w=>X1 p (K (.bool false) w) (lp (α:=Value) (.int .i64 0) w fun b l v w=>X5 P .len [T.c] T.e [false] [o] w fun n w=>Q3 P .lss T.e (.tmp 11) (.tmp 13) l n w fun r w=>X1 r (dr w fun f i=>Q5 f (fun c=> ∀w,i w→indexAddr P T.c o l w (dk f c w)) fun c=>Q5 f (fun d=> ∀w,i w→indexAddr P T.c s l w (dk f d w)) fun d=>Q5 f (fun g=> ∀e w,i w→c e w→Q2 P T.a e w (dk f g w)) fun g=>Q5 f (fun h=> ∀a w,i w→d a w→Q2 P T.a a w (dk f h w)) fun h=>∀e a j k w,i w→c e w→d a w→g j w→h k w→ Q3 P .neq T.a (.tmp 20) (.tmp 24) j k w fun m w=>X1 m (K (.bool false) w) (Q3 P .add T.e (.tmp 15) (.const (.int .i64 1)) l (.int .i64 1) w fun q w=>b q w)) (K (.bool true) w))
theorem Tz {b a:Value} {w:World} {K:Value→World→Prop} (h:Oi b a w K):Q0 P F.aO [b,a] w K:=Q8 Tk Tryz.func31 rfl (by decide) (by kernel_rfl) h
def Nl (r q:Value) (w:World) (K:Value→World→Prop):Prop:= box P T.f r w fun a w=>box P T.f q w fun b w=>fieldAddr P T.f a 0 w fun t w=>Q2 P T.o t w fun p w=>fieldAddr P T.f b 0 w fun s w=>Q2 P T.o s w fun u w=>Q3 P .eql T.o (.tmp 6) (.tmp 8) p u w fun d w=>Q1 d true w (fieldAddr P T.f a 1) fun h w=>Q1 d true w (Q2 P T.c h) fun g w=>Q1 d true w (fieldAddr P T.f b 1) fun e w=>Q1 d true w (Q2 P T.c e) fun l w=>Q1 d true w (Q0 P F.aO [g,l]) fun n w=>pick P d n (.bool false) w fun c w=>Q1 c true w (fieldAddr P T.f a 2) fun j w=>Q1 c true w (Q2 P T.c j) fun k w=>Q1 c true w (fieldAddr P T.f b 2) fun i w=>Q1 c true w (Q2 P T.c i) fun m w=>Q1 c true w (Q0 P F.aO [k,m]) fun o w=>pick P c o (.bool false) w fun f w=>K f w
theorem Pv {b a:Value} {w:World} {K:Value→World→Prop} (h:Nl b a w K):Q0 P F.aM [b,a] w K:=Q8 (List.replicate 2 none) Tryz.func15 rfl (by decide) (by kernel_rfl) h
def Lp:W1:=[none,none,none,none,none,none,some ([13],[4,5,13,14,15,16,17,18,19,20,21,22,23,24,25]),none,none,none,none,none,none,none]
def Qc (o s:Value) (w:World) (K:Value→World→Prop):Prop:= X5 P .len [T.c] T.e [false] [o] w fun t w=>X5 P .len [T.c] T.e [false] [s] w fun u w=>Q3 P .neq T.e (.tmp 7) (.tmp 9) t u w fun q w=>X1 q (K (.bool false) w) (X5 P .len [T.c] T.e [false] [o] w fun n w=>lp (α:=Value) (.int .i64 0) w fun a l v w=>Q3 P .lss T.e (.tmp 13) (.tmp 12) l n w fun r w=>X1 r (dr w fun f i=>Q5 f (fun d=> ∀w,i w→indexAddr P T.c o l w (dk f d w)) fun d=>Q5 f (fun b=> ∀w,i w→indexAddr P T.c s l w (dk f b w)) fun b=>Q5 f (fun g=> ∀c w,i w→d c w→Q2 P T.a c w (dk f g w)) fun g=>Q5 f (fun h=> ∀e w,i w→b e w→Q2 P T.a e w (dk f h w)) fun h=>∀c e k j w,i w→d c w→b e w→g k w→h j w→ Q3 P .neq T.a (.tmp 19) (.tmp 23) k j w fun p w=>X1 p (K (.bool false) w) (Q3 P .add T.e (.tmp 13) (.const (.int .i64 1)) l (.int .i64 1) w fun m w=>a m w)) (K (.bool true) w))
theorem Mx {b a:Value} {w:World} {K:Value→World→Prop} (h:Qc b a w K):Q0 P F.a6 [b,a] w K:=Q8 Lp Tryz.func32 rfl (by decide) (by kernel_rfl) h
def Q1Q (r q:Value) (w:World) (K:Value→World→Prop):Prop:= box P T.f r w fun a w=>box P T.f q w fun b w=>fieldAddr P T.f a 0 w fun t w=>Q2 P T.o t w fun p w=>fieldAddr P T.f b 0 w fun s w=>Q2 P T.o s w fun u w=>Q3 P .eql T.o (.tmp 6) (.tmp 8) p u w fun d w=>Q1 d true w (fieldAddr P T.f a 1) fun h w=>Q1 d true w (Q2 P T.c h) fun g w=>Q1 d true w (fieldAddr P T.f b 1) fun e w=>Q1 d true w (Q2 P T.c e) fun l w=>Q1 d true w (Q0 P F.a6 [g,l]) fun n w=>pick P d n (.bool false) w fun c w=>Q1 c true w (fieldAddr P T.f a 2) fun j w=>Q1 c true w (Q2 P T.c j) fun k w=>Q1 c true w (fieldAddr P T.f b 2) fun i w=>Q1 c true w (Q2 P T.c i) fun m w=>Q1 c true w (Q0 P F.a6 [k,m]) fun o w=>pick P c o (.bool false) w fun f w=>K f w
theorem Q7B {b a:Value} {w:World} {K:Value→World→Prop} (h:Q1Q b a w K):Q0 P F.cL [b,a] w K:=Q8 (List.replicate 2 none) Tryz.func16 rfl (by decide) (by kernel_rfl) h
def Et (i n:Value) (w:World) (K:Value→World→Prop):Prop:= nilCheck P i w fun l w=>fieldAddr P T.m l 4 w fun j w=>Q2 P T.s j w fun k w=>Q3 P .eql T.s (.tmp 7) (.const (.int .i64 0)) k (.int .i64 0) w fun m w=>X1 m (nilCheck P i w fun a w=>fieldAddr P T.m a 3 w fun f w=>fieldAddr P T.f f 1 w fun g w=>Q2 P T.c g w fun d w=>X5 P .append [T.c,T.c] T.c [false,false] [d,n] w fun c w=>nilCheck P i w fun e w=>fieldAddr P T.m e 3 w fun h w=>fieldAddr P T.f h 1 w fun b w=>Z6 P T.c b c w fun _u w=>K (.tuple #[]) w) (K (.tuple #[]) w)
theorem Q1x {b a:Value} {w:World} {K:Value→World→Prop} (h:Et b a w K):Q0 P F.g [b,a] w K:=Q8 (List.replicate 1 none) Tryz.func123 rfl (by decide) (by kernel_rfl) h
def Pr (d c:Value) (w:World) (K:Value→World→Prop):Prop:= Q2 P T.a c w fun b w=>buildSlice P T.c 1 [(0,b)] w fun a w=>Q0 P F.g [d,a] w fun e w=>K (.tuple #[]) w
theorem Q4X {b a:Value} {w:World} {K:Value→World→Prop} (h:Pr b a w K):Q0 P F.cz [b,a] w K:=Q8 [] Tryz.func122 rfl (by decide) (by kernel_rfl) h
def Q1H (c:Value) (w:World) (K:Value→World→Prop):Prop:= box P T.a c w fun a w=>N6 P (.func F.cz) [] [a] w fun b w=>K b w
theorem Q7b {a:Value} {w:World} {K:Value→World→Prop} (h:Q1H a w K):Q0 P F.bd [a] w K:=Q8 (List.replicate 2 none) Tryz.func64 rfl (by decide) (by kernel_rfl) h
def Ab:W1:=[none,some ([],[7,8,9,10,11,12,13,14,15,16,17,18,19]),none,none]
def Nz (e q p:Value) (w:World) (K:Value→World→Prop):Prop:= jn (α:=Unit) w (fun o w=>J3 P .not q w fun a w=>Q1 a true w (fun w J=>J e w) fun h w=>Q1 a true w (nilCheck P h) fun f w=>Q1 a true w (fieldAddr P T.m f 4) fun d w=>Q1 a true w (Q2 P T.s d) fun b w=>Q1 a true w (Q3 P .eql T.s (.tmp 13) (.const (.int .i64 0)) b (.int .i64 0)) fun k w=>pick P a k (.bool false) w fun m w=>X1 m (nilCheck P e w fun i w=>fieldAddr P T.m i 4 w fun j w=>Z6 P T.s j p w fun _u w=>o () w) (o () w)) fun s r w=>nilCheck P e w fun l w=>fieldAddr P T.m l 4 w fun n w=>Q2 P T.s n w fun c w=>Q3 P .eql T.s (.tmp 23) (.const (.int .i64 0)) c (.int .i64 0) w fun g w=>K g w
theorem Th {c b a:Value} {w:World} {K:Value→World→Prop} (h:Nz c b a w K):Q0 P F.c [c,b,a] w K:=Q8 Ab Tryz.func37 rfl (by decide) (by kernel_rfl) h
def Ni (A:Value) (w:World) (K:Value→World→Prop):Prop:= dr w fun b c=>Q5 b (fun N=> ∀w,c w→nilCheck P A w (dk b N w)) fun N=>Q5 b (fun H=> ∀M w,c w→N M w→fieldAddr P T.m M 2 w (dk b H w)) fun H=>Q5 b (fun E=> ∀D w,c w→H D w→fieldAddr P T.k D 1 w (dk b E w)) fun E=>Q5 b (fun O=> ∀L w,c w→E L w→Q2 P T.ad L w (dk b O w)) fun O=>Q5 b (fun d=> ∀Q w,c w→O Q w→Q3 P .geq T.ad (.tmp 8) (.const (.int .i64 0)) Q (.int .i64 0) w (dk b d w)) fun d=>Q5 b (fun e=> ∀a w,c w→d a w→Q1 a true w (fun w J=>J A w) (dk b e w)) fun e=>Q5 b (fun u=> ∀a l w,c w→d a w→e l w→Q1 a true w (nilCheck P l) (dk b u w)) fun u=>Q5 b (fun h=> ∀a i w,c w→d a w→u i w→Q1 a true w (fieldAddr P T.m i 2) (dk b h w)) fun h=>Q5 b (fun k=> ∀a g w,c w→d a w→h g w→Q1 a true w (fieldAddr P T.k g 1) (dk b k w)) fun k=>Q5 b (fun j=> ∀a w,c w→d a w→Q1 a true w (fun w J=>J A w) (dk b j w)) fun j=>Q5 b (fun n=> ∀a r w,c w→d a w→j r w→Q1 a true w (nilCheck P r) (dk b n w)) fun n=>Q5 b (fun q=> ∀a v w,c w→d a w→n v w→Q1 a true w (fieldAddr P T.m v 3) (dk b q w)) fun q=>Q5 b (fun o=> ∀a p w,c w→d a w→q p w→Q1 a true w (fieldAddr P T.f p 2) (dk b o w)) fun o=>Q5 b (fun y=> ∀a t w,c w→d a w→k t w→Q1 a true w (Q2 P T.ad t) (dk b y w)) fun y=>Q5 b (fun f=> ∀a s w,c w→d a w→o s w→Q1 a true w (Q2 P T.c s) (dk b f w)) fun f=>Q5 b (fun z=> ∀a m w,c w→d a w→f m w→Q1 a true w (X5 P .len [T.c] T.e [false] [m]) (dk b z w)) fun z=>∀M D L Q a l i g t r v p s C m B w,c w→N M w→H D w→E L w→O Q w→d a w→e l w→u i w→h g w→k t w→j r w→n v w→q p w→o s w→y C w→f m w→z B w→ Q1 a true w (Q3 P .lss T.ad (.tmp 15) (.tmp 21) C B) fun aa w=>pick P a aa (.bool false) w fun V w=>Q0 P F.c [A,V,(.int .i64 74)] w fun Y w=>J3 P .not Y w fun U w=>X1 U (K (.int .i64 (-1)) w) (nilCheck P A w fun W w=>fieldAddr P T.m W 2 w fun R w=>fieldAddr P T.k R 1 w fun X w=>Q2 P T.ad X w fun Z w=>K Z w)
theorem Py {a:Value} {w:World} {K:Value→World→Prop} (h:Ni a w K):Q0 P F.aU [a] w K:=Q8 (List.replicate 5 none) Tryz.func124 rfl (by decide) (by kernel_rfl) h
end Go.Proofs.YtfppjenblllfaaaGreatDoor

set_option maxRecDepth 100000
namespace Go.Proofs.YtfppjenblllfaaaGreatDoor
open Go.Emb
def Dy (b:Value) (w:World) (K:Value→World→Prop):Prop:= Q0 P F.aU [b] w fun k w=>Q3 P .geq T.e (.tmp 5) (.const (.int .i64 0)) k (.int .i64 0) w fun a w=>Q1 a true w (fun w J=>J b w) fun y w=>Q1 a true w (fun w J=>J b w) fun u w=>Q1 a true w (nilCheck P u) fun m w=>Q1 a true w (fieldAddr P T.m m 3) fun i w=>Q1 a true w (fieldAddr P T.f i 2) fun g w=>Q1 a true w (Q2 P T.c g) fun e w=>Q1 a true w (fun w J=>J k w) fun q w=>Q1 a true w (indexAddr P T.c e q) fun s w=>Q1 a true w (Q2 P T.a s) fun o w=>Q1 a true w (Q3 P .neq T.a (.tmp 16) (.const (.string ⟨#[]⟩)) o (.string ⟨#[]⟩)) fun r w=>Q1 a true w (Q0 P F.c [y,r,(.int .i64 74)]) fun n w=>pick P a n (.bool false) w fun p w=>X1 p (nilCheck P b w fun t w=>fieldAddr P T.m t 3 w fun f w=>fieldAddr P T.f f 2 w fun l w=>Q2 P T.c l w fun d w=>indexAddr P T.c d k w fun h w=>Q2 P T.a h w fun c w=>buildSlice P T.c 1 [(0,c)] w fun j w=>Q0 P F.g [b,j] w fun v w=>K (.tuple #[]) w) (K (.tuple #[]) w)
theorem Q0E {a:Value} {w:World} {K:Value→World→Prop} (h:Dy a w K):Q0 P F.b3 [a] w K:=Q8 (List.replicate 2 none) Tryz.func65 rfl (by decide) (by kernel_rfl) h
def Dv (b c:Value) (w:World) (K:Value→World→Prop):Prop:= nilCheck P b w fun J w=>fieldAddr P T.m J 3 w fun o w=>fieldAddr P T.f o 1 w fun j w=>Q2 P T.c j w fun h w=>X5 P .len [T.c] T.e [false] [h] w fun e w=>Q3 P .geq T.e (.tmp 13) (.tmp 14) e c w fun E w=>Q0 P F.c [b,E,(.int .i64 72)] w fun v w=>J3 P .not v w fun D w=>X1 D (Ow P T.c c c w fun y w=>K y w) (nilCheck P b w fun B w=>fieldAddr P T.m B 3 w fun H w=>fieldAddr P T.f H 1 w fun g w=>Q2 P T.c g w fun n w=>X5 P .len [T.c] T.e [false] [n] w fun d w=>Q3 P .sub T.e (.tmp 25) (.tmp 26) d c w fun a w=>nilCheck P b w fun k w=>fieldAddr P T.m k 3 w fun q w=>fieldAddr P T.f q 1 w fun u w=>Q2 P T.c u w fun l w=>R6 P T.c l (some a) none none w fun p w=>Q0 P F.b [p] w fun i w=>nilCheck P b w fun f w=>fieldAddr P T.m f 3 w fun A w=>fieldAddr P T.f A 1 w fun z w=>Q2 P T.c z w fun C w=>R6 P T.c C none (some a) (some a) w fun m w=>nilCheck P b w fun r w=>fieldAddr P T.m r 3 w fun t w=>fieldAddr P T.f t 1 w fun s w=>Z6 P T.c s m w fun _u w=>K i w)
theorem Aw {b a:Value} {w:World} {K:Value→World→Prop} (h:Dv b a w K):Q0 P F.i [b,a] w K:=Q8 (List.replicate 8 none) Tryz.func70 rfl (by decide) (by kernel_rfl) h
def Nr (a:Value) (w:World) (K:Value→World→Prop):Prop:= Q0 P F.aU [a] w fun l w=>Q0 P F.i [a,(.int .i64 1)] w fun k w=>indexAddr P T.c k (.int .i64 0) w fun n w=>Q2 P T.a n w fun m w=>nilCheck P a w fun b w=>fieldAddr P T.m b 4 w fun i w=>Q2 P T.s i w fun g w=>Q3 P .eql T.s (.tmp 13) (.const (.int .i64 0)) g (.int .i64 0) w fun e w=>X1 e (nilCheck P a w fun d w=>fieldAddr P T.m d 3 w fun f w=>fieldAddr P T.f f 2 w fun h w=>Q2 P T.c h w fun c w=>indexAddr P T.c c l w fun j w=>Z6 P T.a j m w fun _u w=>K (.tuple #[]) w) (K (.tuple #[]) w)
theorem Tm {a:Value} {w:World} {K:Value→World→Prop} (h:Nr a w K):Q0 P F.aP [a] w K:=Q8 (List.replicate 3 none) Tryz.func66 rfl (by decide) (by kernel_rfl) h
def Eu (c:Value) (w:World) (K:Value→World→Prop):Prop:= Q0 P F.i [c,(.int .i64 1)] w fun f w=>indexAddr P T.c f (.int .i64 0) w fun e w=>Q2 P T.a e w fun b w=>buildSlice P T.c 2 [(0,b),(1,b)] w fun a w=>Q0 P F.g [c,a] w fun d w=>K (.tuple #[]) w
theorem Q1C {a:Value} {w:World} {K:Value→World→Prop} (h:Eu a w K):Q0 P F.bg [a] w K:=Q8 (List.replicate 1 none) Tryz.func67 rfl (by decide) (by kernel_rfl) h
def Ed (m:Value) (w:World) (K:Value→World→Prop):Prop:= Q0 P F.i [m,(.int .i64 2)] w fun l w=>dr w fun c f=>Q5 c (fun g=> ∀w,f w→indexAddr P T.c l (.int .i64 1) w (dk c g w)) fun g=>Q5 c (fun b=> ∀w,f w→indexAddr P T.c l (.int .i64 0) w (dk c b w)) fun b=>Q5 c (fun i=> ∀h w,f w→g h w→Q2 P T.a h w (dk c i w)) fun i=>Q5 c (fun d=> ∀a w,f w→b a w→Q2 P T.a a w (dk c d w)) fun d=>∀h a k e w,f w→g h w→b a w→i k w→d e w→ buildSlice P T.c 2 [(0,k),(1,e)] w fun j w=>Q0 P F.g [m,j] w fun n w=>K (.tuple #[]) w
theorem Q0R {a:Value} {w:World} {K:Value→World→Prop} (h:Ed a w K):Q0 P F.b4 [a] w K:=Q8 (List.replicate 1 none) Tryz.func68 rfl (by decide) (by kernel_rfl) h
def Ge (a:Value) (w:World) (K:Value→World→Prop):Prop:= Q0 P F.i [a,(.int .i64 1)] w fun b w=>K (.tuple #[]) w
theorem Q3P {a:Value} {w:World} {K:Value→World→Prop} (h:Ge a w K):Q0 P F.bV [a] w K:=Q8 [] Tryz.func69 rfl (by decide) (by kernel_rfl) h
def Od (c h e:Value) (w:World) (K:Value→World→Prop):Prop:= nilCheck P c w fun g w=>fieldAddr P T.m g 0 w fun f w=>Q2 P T.r f w fun a w=>Q0 P F.ae [a,h,e] w fun b w=>Q0 P F.c [c,b,(.int .i64 73)] w fun d w=>K (.tuple #[]) w
theorem Ad {c b a:Value} {w:World} {K:Value→World→Prop} (h:Od c b a w K):Q0 P F.a1 [c,b,a] w K:=Q8 [] Tryz.func132 rfl (by decide) (by kernel_rfl) h
def Q1F:W1:=[none,none,none,some ([7],[7,15,16,17,18,19,20,21,22,23,24,25,26,27,28]),none,none,none,none]
def Ey (o y v:Value) (w:World) (K:Value→World→Prop):Prop:= X5 P .len [T.c] T.e [false] [v] w fun p w=>Q0 P F.i [o,p] w fun l w=>X5 P .len [T.c] T.e [false] [l] w fun n w=>Q3 P .sub T.e (.tmp 13) (.const (.int .i64 1)) n (.int .i64 1) w fun u w=>lp (α:=Value) u w fun b m B w=>Q3 P .geq T.e (.tmp 15) (.const (.int .i64 0)) m (.int .i64 0) w fun t w=>X1 t (dr w fun f i=>Q5 f (fun d=> ∀w,i w→indexAddr P T.c l m w (dk f d w)) fun d=>Q5 f (fun c=> ∀w,i w→indexAddr P T.c v m w (dk f c w)) fun c=>Q5 f (fun g=> ∀e w,i w→d e w→Q2 P T.a e w (dk f g w)) fun g=>Q5 f (fun h=> ∀a w,i w→c a w→Q2 P T.a a w (dk f h w)) fun h=>∀e a j k w,i w→d e w→c a w→g j w→h k w→ Q0 P F.a1 [o,j,k] w fun z w=>Q3 P .sub T.e (.tmp 17) (.const (.int .i64 1)) m (.int .i64 1) w fun s w=>b s w) (Q3 P .neq T.a (.tmp 29) (.const (.string ⟨#[]⟩)) y (.string ⟨#[]⟩) w fun r w=>X1 r (buildSlice P T.c 1 [(0,y)] w fun q w=>Q0 P F.g [o,q] w fun A w=>K (.tuple #[]) w) (K (.tuple #[]) w))
theorem Q1E {c b a:Value} {w:World} {K:Value→World→Prop} (h:Ey c b a w K):Q0 P F.m [c,b,a] w K:=Q8 Q1F Tryz.func126 rfl (by decide) (by kernel_rfl) h
def Gg (e d b:Value) (w:World) (K:Value→World→Prop):Prop:= Q2 P T.a d w fun c w=>Q2 P T.c b w fun a w=>Q0 P F.m [e,c,a] w fun f w=>K (.tuple #[]) w
theorem Q3Q {c b a:Value} {w:World} {K:Value→World→Prop} (h:Gg c b a w K):Q0 P F.cv [c,b,a] w K:=Q8 [] Tryz.func125 rfl (by decide) (by kernel_rfl) h
def Q0p (e d:Value) (w:World) (K:Value→World→Prop):Prop:= box P T.a e w fun b w=>box P T.c d w fun a w=>N6 P (.func F.cv) [] [b,a] w fun c w=>K c w
theorem Q5V {b a:Value} {w:World} {K:Value→World→Prop} (h:Q0p b a w K):Q0 P F.a7 [b,a] w K:=Q8 (List.replicate 2 none) Tryz.func71 rfl (by decide) (by kernel_rfl) h
def Vz (b:Value) (w:World) (K:Value→World→Prop):Prop:= buildSlice P T.c 2 [(0,(.string ⟨#[105,110,116]⟩)),(1,(.string ⟨#[105,110,116]⟩))] w fun a w=>Q0 P F.m [b,(.string ⟨#[98,111,111,108]⟩),a] w fun c w=>K (.tuple #[]) w
theorem Fb {a:Value} {w:World} {K:Value→World→Prop} (h:Vz a w K):Q0 P F.aD [a] w K:=Q8 [] Tryz.func72 rfl (by decide) (by kernel_rfl) h
def Dh (e d:Value) (w:World) (K:Value→World→Prop):Prop:= Q0 P F.c5 [d] w fun b w=>Q3 P .neq T.a (.tmp 9) (.const (.string ⟨#[]⟩)) b (.string ⟨#[]⟩) w fun a w=>Q0 P F.c [e,a,(.int .i64 73)] w fun c w=>K b w
theorem Q0g {b a:Value} {w:World} {K:Value→World→Prop} (h:Dh b a w K):Q0 P F.ba [b,a] w K:=Q8 (List.replicate 4 none) Tryz.func127 rfl (by decide) (by kernel_rfl) h
def Ef (a:Value) (w:World) (K:Value→World→Prop):Prop:= Q0 P F.i [a,(.int .i64 1)] w fun f w=>indexAddr P T.c f (.int .i64 0) w fun d w=>Q2 P T.a d w fun b w=>Q0 P F.ba [a,b] w fun g w=>buildSlice P T.c 1 [(0,(.string ⟨#[105,110,116]⟩))] w fun e w=>Q0 P F.g [a,e] w fun c w=>K (.tuple #[]) w
theorem Q0c {a:Value} {w:World} {K:Value→World→Prop} (h:Ef a w K):Q0 P F.b5 [a] w K:=Q8 (List.replicate 1 none) Tryz.func73 rfl (by decide) (by kernel_rfl) h
def Gf (a:Value) (w:World) (K:Value→World→Prop):Prop:= K (.tuple #[]) w
theorem Q3A {a:Value} {w:World} {K:Value→World→Prop} (h:Gf a w K):Q0 P F.bW [a] w K:=Q8 [] Tryz.func74 rfl (by decide) (by kernel_rfl) h
def Ur (h g:Value) (w:World) (K:Value→World→Prop):Prop:= Q0 P F.n [h,g] w fun a w=>Q1 a true w (fun w J=>J h w) fun i w=>Q1 a true w (fun w J=>J g w) fun d w=>Q1 a true w (Q0 P F.h [i,d]) fun b w=>Q1 a true w (We P T.b b 4) fun e w=>Q1 a true w (J3 P .not e) fun f w=>pick P a f (.bool false) w fun c w=>K c w
theorem Bn {b a:Value} {w:World} {K:Value→World→Prop} (h:Ur b a w K):Q0 P F.bk [b,a] w K:=Q8 (List.replicate 2 none) Tryz.func128 rfl (by decide) (by kernel_rfl) h
def Mw (f:Value) (w:World) (K:Value→World→Prop):Prop:= dr w fun a d=>Q5 a (fun h=> ∀w,d w→nilCheck P f w (dk a h w)) fun h=>Q5 a (fun l=> ∀k w,d w→h k w→fieldAddr P T.m k 0 w (dk a l w)) fun l=>Q5 a (fun m=> ∀w,d w→nilCheck P f w (dk a m w)) fun m=>Q5 a (fun n=> ∀o w,d w→m o w→fieldAddr P T.m o 2 w (dk a n w)) fun n=>Q5 a (fun c=> ∀j w,d w→n j w→fieldAddr P T.k j 2 w (dk a c w)) fun c=>Q5 a (fun p=> ∀i w,d w→l i w→Q2 P T.r i w (dk a p w)) fun p=>Q5 a (fun e=> ∀b w,d w→c b w→Q2 P T.a b w (dk a e w)) fun e=>∀k i o j b z g w,d w→h k w→l i w→m o w→n j w→c b w→p z w→e g w→ Q0 P F.bk [z,g] w fun r w=>Q0 P F.c [f,r,(.int .i64 76)] w fun q w=>X1 q (nilCheck P f w fun u w=>fieldAddr P T.m u 2 w fun y w=>fieldAddr P T.k y 2 w fun t w=>Q2 P T.a t w fun v w=>buildSlice P T.c 1 [(0,v)] w fun s w=>Q0 P F.g [f,s] w fun A w=>K (.tuple #[]) w) (K (.tuple #[]) w)
theorem Pg {a:Value} {w:World} {K:Value→World→Prop} (h:Mw a w K):Q0 P F.aI [a] w K:=Q8 (List.replicate 1 none) Tryz.func75 rfl (by decide) (by kernel_rfl) h
def Nj (u:Value) (w:World) (K:Value→World→Prop):Prop:= nilCheck P u w fun D w=>fieldAddr P T.m D 2 w fun z w=>fieldAddr P T.k z 2 w fun y w=>Q2 P T.a y w fun v w=>Q0 P F.bl [v] w fun q w=>ext P q 0 w fun r w=>ext P q 1 w fun M w=>ext P q 2 w fun Q w=>nilCheck P u w fun N w=>fieldAddr P T.m N 0 w fun A w=>Q2 P T.r A w fun O w=>Q0 P F.aJ [O,r,M] w fun s w=>Q3 P .eql T.s (.tmp 26) (.const (.int .i64 0)) Q (.int .i64 0) w fun o w=>Q1 o true w (fun w J=>J s w) fun B w=>Q1 o true w (Q3 P .geq T.e (.tmp 29) (.const (.int .i64 0)) B (.int .i64 0)) fun H w=>pick P o H (.bool false) w fun L w=>Q0 P F.c [u,L,(.int .i64 76)] w fun C w=>J3 P .not C w fun E w=>X1 E (K (.tuple #[(.string ⟨#[]⟩),(.string ⟨#[]⟩)]) w) (dr w fun a n=>Q5 a (fun b=> ∀w,n w→nilCheck P u w (dk a b w)) fun b=>Q5 a (fun h=> ∀j w,n w→b j w→fieldAddr P T.m j 0 w (dk a h w)) fun h=>Q5 a (fun k=> ∀m w,n w→h m w→Q2 P T.r m w (dk a k w)) fun k=>Q5 a (fun g=> ∀f w,n w→k f w→Q0 P F.af [f,r] w (dk a g w)) fun g=>Q5 a (fun l=> ∀i w,n w→g i w→indexAddr P T.i i s w (dk a l w)) fun l=>Q5 a (fun c=> ∀e w,n w→l e w→fieldAddr P T.l e 1 w (dk a c w)) fun c=>Q5 a (fun p=> ∀d w,n w→c d w→Q2 P T.a d w (dk a p w)) fun p=>∀j m f i e d t w,n w→b j w→h m w→k f w→g i w→l e w→c d w→p t w→ K (.tuple #[r,t]) w)
theorem Tt {a:Value} {w:World} {K:Value→World→Prop} (h:Nj a w K):Q0 P F.aV [a] w K:=Q8 (List.replicate 7 none) Tryz.func129 rfl (by decide) (by kernel_rfl) h
def Ev (c:Value) (w:World) (K:Value→World→Prop):Prop:= Q0 P F.aV [c] w fun b w=>ext P b 0 w fun d w=>ext P b 1 w fun f w=>buildSlice P T.c 1 [(0,d)] w fun a w=>Q0 P F.m [c,f,a] w fun e w=>K (.tuple #[]) w
theorem Q1w {a:Value} {w:World} {K:Value→World→Prop} (h:Ev a w K):Q0 P F.bh [a] w K:=Q8 (List.replicate 1 none) Tryz.func76 rfl (by decide) (by kernel_rfl) h
def Ee (c:Value) (w:World) (K:Value→World→Prop):Prop:= Q0 P F.aV [c] w fun b w=>ext P b 0 w fun d w=>ext P b 1 w fun f w=>buildSlice P T.c 2 [(0,d),(1,f)] w fun a w=>Q0 P F.m [c,(.string ⟨#[]⟩),a] w fun e w=>K (.tuple #[]) w
theorem As {a:Value} {w:World} {K:Value→World→Prop} (h:Ee a w K):Q0 P F.b6 [a] w K:=Q8 (List.replicate 1 none) Tryz.func77 rfl (by decide) (by kernel_rfl) h
def El (s:Value) (w:World) (K:Value→World→Prop):Prop:= nilCheck P s w fun B w=>fieldAddr P T.m B 2 w fun z w=>fieldAddr P T.k z 2 w fun v w=>Q2 P T.a v w fun u w=>Q0 P F.bl [u] w fun o w=>ext P o 0 w fun r w=>ext P o 1 w fun D w=>ext P o 2 w fun M w=>nilCheck P s w fun A w=>fieldAddr P T.m A 0 w fun E w=>Q2 P T.r E w fun H w=>Q0 P F.aE [H,r,D] w fun l w=>ext P l 0 w fun J w=>ext P l 1 w fun y w=>ext P l 2 w fun t w=>L3 P T.d w fun a w=>Z6 P T.d a y w fun _u w=>Q0 P F.c [s,t,(.int .i64 76)] w fun C w=>X1 C (dr w fun b k=>Q5 b (fun f=> ∀w,k w→fieldAddr P T.d a 2 w (dk b f w)) fun f=>Q5 b (fun e=> ∀w,k w→fieldAddr P T.d a 1 w (dk b e w)) fun e=>Q5 b (fun m=> ∀g w,k w→f g w→Q2 P T.a g w (dk b m w)) fun m=>Q5 b (fun c=> ∀w,k w→buildSlice P T.c 1 [(0,r)] w (dk b c w)) fun c=>Q5 b (fun i=> ∀j w,k w→e j w→Q2 P T.c j w (dk b i w)) fun i=>Q5 b (fun n=> ∀h d w,k w→c h w→i d w→X5 P .append [T.c,T.c] T.c [false,false] [h,d] w (dk b n w)) fun n=>∀g j p h d q w,k w→f g w→e j w→m p w→c h w→i d w→n q w→ Q0 P F.m [s,p,q] w fun L w=>K (.tuple #[]) w) (K (.tuple #[]) w)
theorem Q0i {a:Value} {w:World} {K:Value→World→Prop} (h:El a w K):Q0 P F.b7 [a] w K:=Q8 (List.replicate 3 none) Tryz.func78 rfl (by decide) (by kernel_rfl) h
def Ob (u:Value) (w:World) (K:Value→World→Prop):Prop:= dr w fun b c=>Q5 b (fun E=> ∀w,c w→nilCheck P u w (dk b E w)) fun E=>Q5 b (fun B=> ∀D w,c w→E D w→fieldAddr P T.m D 2 w (dk b B w)) fun B=>Q5 b (fun A=> ∀z w,c w→B z w→fieldAddr P T.k z 2 w (dk b A w)) fun A=>Q5 b (fun H=> ∀C w,c w→A C w→Q2 P T.a C w (dk b H w)) fun H=>Q5 b (fun d=> ∀L w,c w→H L w→Q3 P .neq T.a (.tmp 8) (.const (.string ⟨#[110,117,108,108]⟩)) L (.string ⟨#[110,117,108,108]⟩) w (dk b d w)) fun d=>Q5 b (fun f=> ∀a w,c w→d a w→Q1 a true w (fun w J=>J u w) (dk b f w)) fun f=>Q5 b (fun p=> ∀a k w,c w→d a w→f k w→Q1 a true w (nilCheck P k) (dk b p w)) fun p=>Q5 b (fun h=> ∀a j w,c w→d a w→p j w→Q1 a true w (fieldAddr P T.m j 0) (dk b h w)) fun h=>Q5 b (fun e=> ∀a w,c w→d a w→Q1 a true w (fun w J=>J u w) (dk b e w)) fun e=>Q5 b (fun i=> ∀a r w,c w→d a w→e r w→Q1 a true w (nilCheck P r) (dk b i w)) fun i=>Q5 b (fun l=> ∀a o w,c w→d a w→i o w→Q1 a true w (fieldAddr P T.m o 2) (dk b l w)) fun l=>Q5 b (fun n=> ∀a q w,c w→d a w→l q w→Q1 a true w (fieldAddr P T.k q 2) (dk b n w)) fun n=>Q5 b (fun s=> ∀a g w,c w→d a w→h g w→Q1 a true w (Q2 P T.r g) (dk b s w)) fun s=>Q5 b (fun t=> ∀a m w,c w→d a w→n m w→Q1 a true w (Q2 P T.a m) (dk b t w)) fun t=>∀D z C L a k j g r o q m y v w,c w→E D w→B z w→A C w→H L w→d a w→f k w→p j w→h g w→e r w→i o w→l q w→n m w→s y w→t v w→ Q1 a true w (Q0 P F.r [y,v]) fun Q w=>pick P a Q (.bool false) w fun U w=>Q0 P F.c [u,U,(.int .i64 76)] w fun V w=>nilCheck P u w fun R w=>fieldAddr P T.m R 2 w fun M w=>fieldAddr P T.k M 2 w fun O w=>Q2 P T.a O w fun N w=>K N w
theorem Tn {a:Value} {w:World} {K:Value→World→Prop} (h:Ob a w K):Q0 P F.ap [a] w K:=Q8 (List.replicate 3 none) Tryz.func131 rfl (by decide) (by kernel_rfl) h
def Nh (c:Value) (w:World) (K:Value→World→Prop):Prop:= Q0 P F.ap [c] w fun d w=>Q3 P .add T.a (.tmp 6) (.const (.string ⟨#[91,93]⟩)) d (.string ⟨#[91,93]⟩) w fun e w=>Q0 P F.z [e] w fun g w=>Q0 P F.c [c,g,(.int .i64 76)] w fun h w=>Q3 P .add T.a (.tmp 11) (.const (.string ⟨#[91,93]⟩)) d (.string ⟨#[91,93]⟩) w fun b w=>buildSlice P T.c 1 [(0,(.string ⟨#[105,110,116]⟩))] w fun a w=>Q0 P F.m [c,b,a] w fun f w=>K (.tuple #[]) w
theorem Ta {a:Value} {w:World} {K:Value→World→Prop} (h:Nh a w K):Q0 P F.aQ [a] w K:=Q8 (List.replicate 2 none) Tryz.func79 rfl (by decide) (by kernel_rfl) h
def Sf (a:Value) (w:World) (K:Value→World→Prop):Prop:= Q0 P F.i [a,(.int .i64 2)] w fun f w=>indexAddr P T.c f (.int .i64 1) w fun g w=>Q2 P T.a g w fun i w=>Q0 P F.a1 [a,i,(.string ⟨#[105,110,116]⟩)] w fun j w=>indexAddr P T.c f (.int .i64 0) w fun d w=>Q2 P T.a d w fun c w=>Q0 P F.ba [a,c] w fun e w=>buildSlice P T.c 1 [(0,e)] w fun b w=>Q0 P F.g [a,b] w fun h w=>K (.tuple #[]) w
theorem Q2e {a:Value} {w:World} {K:Value→World→Prop} (h:Sf a w K):Q0 P F.bs [a] w K:=Q8 (List.replicate 2 none) Tryz.func80 rfl (by decide) (by kernel_rfl) h
def Q1q:W1:=[none,none,some ([3],[3,6,7,8,9,10,11,12,13,14]),none,none,none]
def Ex (a:Value) (w:World) (K:Value→World→Prop):Prop:= Q0 P F.i [a,(.int .i64 3)] w fun f w=>jn (α:=Value) w (fun m w=>nilCheck P a w fun n w=>fieldAddr P T.m n 4 w fun s w=>Q2 P T.s s w fun p w=>Q3 P .eql T.s (.tmp 9) (.const (.int .i64 0)) p (.int .i64 0) w fun g w=>X1 g (indexAddr P T.c f (.int .i64 0) w fun d w=>Q2 P T.a d w fun c w=>Q0 P F.c5 [c] w fun h w=>m h w) (m (.string ⟨#[]⟩) w)) fun l t w=>Q3 P .neq T.a (.tmp 16) (.const (.string ⟨#[]⟩)) l (.string ⟨#[]⟩) w fun j w=>Q0 P F.c [a,j,(.int .i64 73)] w fun r w=>indexAddr P T.c f (.int .i64 2) w fun i w=>Q2 P T.a i w fun k w=>Q0 P F.a1 [a,k,l] w fun q w=>indexAddr P T.c f (.int .i64 1) w fun e w=>Q2 P T.a e w fun b w=>Q0 P F.a1 [a,b,(.string ⟨#[105,110,116]⟩)] w fun o w=>K (.tuple #[]) w
theorem Q1t {a:Value} {w:World} {K:Value→World→Prop} (h:Ex a w K):Q0 P F.bi [a] w K:=Q8 Q1q Tryz.func81 rfl (by decide) (by kernel_rfl) h
def Lo (g f:Value) (w:World) (K:Value→World→Prop):Prop:= nilCheck P g w fun i w=>fieldAddr P T.m i 0 w fun j w=>Q2 P T.r j w fun k w=>Q0 P F.r [k,f] w fun a w=>Q1 a true w (fun w J=>J f w) fun c w=>Q1 a true w (Q0 P F.ad [c]) fun d w=>Q1 a true w (J3 P .not d) fun b w=>pick P a b (.bool false) w fun e w=>Q0 P F.c [g,e,(.int .i64 73)] w fun h w=>K (.tuple #[]) w
theorem Ir {b a:Value} {w:World} {K:Value→World→Prop} (h:Lo b a w K):Q0 P F.ak [b,a] w K:=Q8 [] Tryz.func134 rfl (by decide) (by kernel_rfl) h
def Ew (b:Value) (w:World) (K:Value→World→Prop):Prop:= Q0 P F.i [b,(.int .i64 1)] w fun e w=>indexAddr P T.c e (.int .i64 0) w fun c w=>Q2 P T.a c w fun a w=>Q0 P F.ak [b,a] w fun d w=>K a w
theorem Q1B {a:Value} {w:World} {K:Value→World→Prop} (h:Ew a w K):Q0 P F.bm [a] w K:=Q8 (List.replicate 4 none) Tryz.func133 rfl (by decide) (by kernel_rfl) h
def Rc (a:Value) (w:World) (K:Value→World→Prop):Prop:= Q0 P F.ap [a] w fun d w=>Q0 P F.bm [a] w fun c w=>buildSlice P T.c 1 [(0,(.string ⟨#[98,111,111,108]⟩))] w fun b w=>Q0 P F.g [a,b] w fun e w=>K (.tuple #[]) w
theorem Q28 {a:Value} {w:World} {K:Value→World→Prop} (h:Rc a w K):Q0 P F.bt [a] w K:=Q8 (List.replicate 2 none) Tryz.func82 rfl (by decide) (by kernel_rfl) h
def Dk (a:Value) (w:World) (K:Value→World→Prop):Prop:= Q0 P F.ap [a] w fun d w=>Q0 P F.bm [a] w fun e w=>buildSlice P T.c 1 [(0,d)] w fun c w=>Q0 P F.g [a,c] w fun b w=>K (.tuple #[]) w
theorem Q0u {a:Value} {w:World} {K:Value→World→Prop} (h:Dk a w K):Q0 P F.b8 [a] w K:=Q8 (List.replicate 2 none) Tryz.func83 rfl (by decide) (by kernel_rfl) h
def Ds (f:Value) (w:World) (K:Value→World→Prop):Prop:= nilCheck P f w fun j w=>fieldAddr P T.m j 1 w fun k w=>fieldAddr P T.d k 2 w fun i w=>Q2 P T.a i w fun g w=>Q3 P .neq T.a (.tmp 6) (.const (.string ⟨#[]⟩)) g (.string ⟨#[]⟩) w fun h w=>X1 h (nilCheck P f w fun c w=>fieldAddr P T.m c 1 w fun a w=>fieldAddr P T.d a 2 w fun e w=>Q2 P T.a e w fun d w=>buildSlice P T.c 1 [(0,d)] w fun b w=>Q0 P F.m [f,(.string ⟨#[]⟩),b] w fun l w=>K (.tuple #[]) w) (K (.tuple #[]) w)
theorem Ay {a:Value} {w:World} {K:Value→World→Prop} (h:Ds a w K):Q0 P F.b9 [a] w K:=Q8 (List.replicate 1 none) Tryz.func84 rfl (by decide) (by kernel_rfl) h
def Oh (a:Value) (w:World) (K:Value→World→Prop):Prop:= Q0 P F.i [a,(.int .i64 2)] w fun e w=>indexAddr P T.c e (.int .i64 1) w fun f w=>Q2 P T.a f w fun i w=>Q0 P F.ak [a,i] w fun j w=>indexAddr P T.c e (.int .i64 0) w fun d w=>Q2 P T.a d w fun c w=>Q0 P F.ak [a,c] w fun g w=>buildSlice P T.c 1 [(0,(.string ⟨#[98,111,111,108]⟩))] w fun b w=>Q0 P F.g [a,b] w fun h w=>K (.tuple #[]) w
theorem Ti {a:Value} {w:World} {K:Value→World→Prop} (h:Oh a w K):Q0 P F.aR [a] w K:=Q8 (List.replicate 3 none) Tryz.func85 rfl (by decide) (by kernel_rfl) h
def Lx (b:Value) (w:World) (K:Value→World→Prop):Prop:= buildSlice P T.c 2 [(0,(.string ⟨#[105,110,116]⟩)),(1,(.string ⟨#[105,110,116]⟩))] w fun a w=>Q0 P F.m [b,(.string ⟨#[105,110,116]⟩),a] w fun c w=>K (.tuple #[]) w
theorem Gq {a:Value} {w:World} {K:Value→World→Prop} (h:Lx a w K):Q0 P F.bB [a] w K:=Q8 [] Tryz.func86 rfl (by decide) (by kernel_rfl) h
def Q6e:W1:=[none,none,none,none,some ([26],[3,26,27,28,29,30,31]),none,none,none,none,none]
def Ax (w:World) (K:Value→World→Prop):Prop:= Cn P T.j none w fun a w=>Q0 P F.bd [(.string ⟨#[105,110,116]⟩)] w fun z w=>mapUpdate P T.j a (.string ⟨#[105,110,116]⟩) z w fun _u w=>Q0 P F.bd [(.string ⟨#[98,111,111,108]⟩)] w fun v w=>mapUpdate P T.j a (.string ⟨#[116,114,117,101]⟩) v w fun _u w=>Q0 P F.bd [(.string ⟨#[98,111,111,108]⟩)] w fun y w=>mapUpdate P T.j a (.string ⟨#[102,97,108,115,101]⟩) y w fun _u w=>Q0 P F.bd [(.string ⟨#[116,101,120,116]⟩)] w fun B w=>mapUpdate P T.j a (.string ⟨#[119,111,114,100]⟩) B w fun _u w=>Q0 P F.bd [(.string ⟨#[110,117,108,108]⟩)] w fun A w=>mapUpdate P T.j a (.string ⟨#[110,117,108,108]⟩) A w fun _u w=>mapUpdate P T.j a (.string ⟨#[108,111,97,100]⟩) (.func (.func F.b3) #[] #[]) w fun _u w=>mapUpdate P T.j a (.string ⟨#[115,116,111,114,101]⟩) (.func (.func F.aP) #[] #[]) w fun _u w=>mapUpdate P T.j a (.string ⟨#[100,117,112]⟩) (.func (.func F.bg) #[] #[]) w fun _u w=>mapUpdate P T.j a (.string ⟨#[115,119,97,112]⟩) (.func (.func F.b4) #[] #[]) w fun _u w=>mapUpdate P T.j a (.string ⟨#[112,111,112]⟩) (.func (.func F.bV) #[] #[]) w fun _u w=>buildSlice P T.c 1 [(0,(.string ⟨#[105,110,116]⟩))] w fun k w=>Q0 P F.a7 [(.string ⟨#[105,110,116]⟩),k] w fun i w=>mapUpdate P T.j a (.string ⟨#[110,101,103]⟩) i w fun _u w=>buildSlice P T.c 1 [(0,(.string ⟨#[98,111,111,108]⟩))] w fun g w=>Q0 P F.a7 [(.string ⟨#[98,111,111,108]⟩),g] w fun e w=>mapUpdate P T.j a (.string ⟨#[110,111,116]⟩) e w fun _u w=>buildSlice P T.c 2 [(0,(.string ⟨#[98,111,111,108]⟩)),(1,(.string ⟨#[98,111,111,108]⟩))] w fun q w=>Q0 P F.a7 [(.string ⟨#[98,111,111,108]⟩),q] w fun t w=>mapUpdate P T.j a (.string ⟨#[98,111,116,104]⟩) t w fun _u w=>buildSlice P T.c 2 [(0,(.string ⟨#[116,101,120,116]⟩)),(1,(.string ⟨#[116,101,120,116]⟩))] w fun o w=>Q0 P F.a7 [(.string ⟨#[116,101,120,116]⟩),o] w fun s w=>mapUpdate P T.j a (.string ⟨#[106,111,105,110]⟩) s w fun _u w=>mapUpdate P T.j a (.string ⟨#[108,101,115,115]⟩) (.func (.func F.aD) #[] #[]) w fun _u w=>mapUpdate P T.j a (.string ⟨#[115,97,109,101]⟩) (.func (.func F.aD) #[] #[]) w fun _u w=>mapUpdate P T.j a (.string ⟨#[115,105,122,101]⟩) (.func (.func F.b5) #[] #[]) w fun _u w=>mapUpdate P T.j a (.string ⟨#[106,117,109,112]⟩) (.func (.func F.bW) #[] #[]) w fun _u w=>buildSlice P T.c 1 [(0,(.string ⟨#[98,111,111,108]⟩))] w fun l w=>Q0 P F.a7 [(.string ⟨#[]⟩),l] w fun p w=>mapUpdate P T.j a (.string ⟨#[98,114,97,110,99,104]⟩) p w fun _u w=>mapUpdate P T.j a (.string ⟨#[110,101,119]⟩) (.func (.func F.aI) #[] #[]) w fun _u w=>mapUpdate P T.j a (.string ⟨#[103,101,116]⟩) (.func (.func F.bh) #[] #[]) w fun _u w=>mapUpdate P T.j a (.string ⟨#[112,117,116]⟩) (.func (.func F.b6) #[] #[]) w fun _u w=>mapUpdate P T.j a (.string ⟨#[99,97,108,108]⟩) (.func (.func F.b7) #[] #[]) w fun _u w=>mapUpdate P T.j a (.string ⟨#[97,114,114,97,121]⟩) (.func (.func F.aQ) #[] #[]) w fun _u w=>mapUpdate P T.j a (.string ⟨#[97,116]⟩) (.func (.func F.bs) #[] #[]) w fun _u w=>mapUpdate P T.j a (.string ⟨#[115,101,116]⟩) (.func (.func F.bi) #[] #[]) w fun _u w=>mapUpdate P T.j a (.string ⟨#[105,115]⟩) (.func (.func F.bt) #[] #[]) w fun _u w=>mapUpdate P T.j a (.string ⟨#[99,97,115,116]⟩) (.func (.func F.b8) #[] #[]) w fun _u w=>mapUpdate P T.j a (.string ⟨#[114,101,116,117,114,110]⟩) (.func (.func F.b9) #[] #[]) w fun _u w=>buildSlice P T.c 1 [(0,(.string ⟨#[70,97,117,108,116]⟩))] w fun j w=>Q0 P F.a7 [(.string ⟨#[]⟩),j] w fun r w=>mapUpdate P T.j a (.string ⟨#[116,104,114,111,119]⟩) r w fun _u w=>buildSlice P T.c 1 [(0,(.string ⟨#[105,110,116]⟩))] w fun u w=>Q0 P F.a7 [(.string ⟨#[]⟩),u] w fun f w=>mapUpdate P T.j a (.string ⟨#[111,117,116]⟩) f w fun _u w=>mapUpdate P T.j a (.string ⟨#[101,113,117,97,108]⟩) (.func (.func F.aR) #[] #[]) w fun _u w=>D7 P T.aj [(0,(.string ⟨#[97,100,100]⟩)),(1,(.string ⟨#[115,117,98]⟩)),(2,(.string ⟨#[109,117,108]⟩)),(3,(.string ⟨#[100,105,118]⟩)),(4,(.string ⟨#[114,101,109]⟩)),(5,(.string ⟨#[97,110,100]⟩)),(6,(.string ⟨#[111,114]⟩)),(7,(.string ⟨#[120,111,114]⟩)),(8,(.string ⟨#[115,104,108]⟩)),(9,(.string ⟨#[115,104,114]⟩))] w fun d w=>lp (α:=Value) (.int .i64 0) w fun b m C w=>Q3 P .lss T.e (.tmp 26) (.const (.int .i64 10)) m (.int .i64 10) w fun h w=>X1 h (H2 P T.aj d m w fun c w=>mapUpdate P T.j a c (.func (.func F.bB) #[] #[]) w fun _u w=>Q3 P .add T.e (.tmp 26) (.const (.int .i64 1)) m (.int .i64 1) w fun n w=>b n w) (K a w)
theorem Q5N {w:World} {K:Value→World→Prop} (h:Ax w K):Q0 P F.cF [] w K:=Q8 Q6e Tryz.func36 rfl (by decide) (by kernel_rfl) h
def Q4l (a0 a1 a2 a3:Value) (w:World) (K:Value→World→Prop):Prop:= box P T.d a1 w fun W w=>box P T.k a2 w fun g w=>box P T.f a3 w fun i w=>L3 P T.f w fun X w=>drR w fun a b=>Q5 a (fun n=> ∀c,Ap c→ ∀w,b w→fieldAddr P T.f i 1 w (dk a n w)) fun n=>Q5 a (fun z=> ∀c,Ap c→ ∀w,b w→fieldAddr P T.f i 2 w (dk a z w)) fun z=>Q5 a (fun N=> ∀c,Ap c→ ∀w,b w→Q2 P T.d W w (dk a N w)) fun N=>Q5 a (fun M=> ∀c,Ap c→ ∀w,b w→Q2 P T.k g w (dk a M w)) fun M=>Q5 a (fun u=> ∀D c,Ap c→ ∀w,b w→n D w→Q2 P T.c D w (dk a u w)) fun u=>Q3F a (fun C=> ∀J c,Ap c→ ∀w,b w→u J w→Q0 P F.b [J] w (dkR a C w)) fun C=>Q5 a (fun m=> ∀E c,Ap c→ ∀w,b w→z E w→Q2 P T.c E w (dk a m w)) fun m=>Q3F a (fun s=> ∀r c,Ap c→ ∀w,b w→m r w→Q0 P F.b [r] w (dkR a s w)) fun s=>Q5 a (fun R=> ∀A H c,Ap c→ ∀w,b w→C (c 6) A w→s (c 8) H w→D7 P T.f [(0,(.bool true)),(1,A),(2,H)] w (dk a R w)) fun R=>∀D E ac ad J A r H ae c,Ap c→ ∀w,b w→n D w→z E w→N ac w→M ad w→u J w→C (c 6) A w→m r w→s (c 8) H w→R ae w→ D7 P T.m [(0,a0),(1,ac),(2,ad),(3,ae)] w fun ai w=>box P T.m ai w fun f w=>dr w fun a b=>Q5 a (fun L=> ∀w,b w→fieldAddr P T.k g 0 w (dk a L w)) fun L=>Q5 a (fun v=> ∀w,b w→Q0 P F.cF [] w (dk a v w)) fun v=>Q5 a (fun l=> ∀p w,b w→L p w→Q2 P T.a p w (dk a l w)) fun l=>Q5 a (fun h=> ∀q j w,b w→v q w→l j w→lookup P T.j q j true w (dk a h w)) fun h=>Q5 a (fun Q=> ∀d w,b w→h d w→ext P d 0 w (dk a Q w)) fun Q=>Q5 a (fun U=> ∀d w,b w→h d w→ext P d 1 w (dk a U w)) fun U=>∀p q j d aa ab w,b w→L p w→v q w→l j w→h d w→Q aa w→U ab w→ J3 P .not ab w fun ao w=>X1 ao (D7 P T.f [] w fun an w=>Z6 P T.f X an w fun _u w=>W2 P T.f X w fun Z=>K (.tuple #[Z,(.int .i64 76)]) w) (Z3 P aa [f] w fun a8 w=>nilCheck P f w fun aq w=>fieldAddr P T.m aq 3 w fun ax w=>fieldAddr P T.f ax 1 w fun ag w=>Q2 P T.c ag w fun af w=>X5 P .len [T.c] T.e [false] [af] w fun am w=>Q3 P .leq T.e (.tmp 44) (.const (.int .i64 24)) am (.int .i64 24) w fun ap w=>Q0 P F.c [f,ap,(.int .i64 72)] w fun a7 w=>nilCheck P f w fun aw w=>fieldAddr P T.m aw 4 w fun al w=>Q2 P T.s al w fun ah w=>Q3 P .neq T.s (.tmp 50) (.const (.int .i64 0)) ah (.int .i64 0) w fun av w=>X1 av (dr w fun a b=>Q5 a (fun k=> ∀w,b w→nilCheck P f w (dk a k w)) fun k=>Q5 a (fun t=> ∀B w,b w→k B w→fieldAddr P T.m B 4 w (dk a t w)) fun t=>Q5 a (fun o=> ∀w,b w→D7 P T.f [] w (dk a o w)) fun o=>Q5 a (fun O=> ∀y w,b w→t y w→Q2 P T.s y w (dk a O w)) fun O=>Q2t a (fun V=> ∀e w,b w→o e w→Z6 P T.f X e w (dk a (V [e]) w)) fun V=>∀B y e Y u5 w,b w→k B w→t y w→o e w→O Y w→V [e] u5 w→ W2 P T.f X w fun Z=>K (.tuple #[Z,Y]) w) (nilCheck P f w fun ar w=>fieldAddr P T.m ar 3 w fun ak w=>Q2 P T.f ak w fun aj w=>Z6 P T.f X aj w fun _u w=>W2 P T.f X w fun Z=>K (.tuple #[Z,(.int .i64 0)]) w))
theorem Q9X {d c b a:Value} {w:World} {K:Value→World→Prop} (h:Q4l d c b a w K):Q0 P F.ce [d,c,b,a] w K:=Q8 (List.replicate 12 none) Tryz.func19 rfl (by decide) (by kernel_rfl) h
def Mj (w:World) (K:Value→World→Prop):Prop:= Q0 P F.aC [] w fun t8 w=>ext P t8 0 w fun t w=>ext P t8 1 w fun y w=>Q3 P .eql T.r (.tmp 11) (.const (.pointer none)) t (.pointer none) w fun d w=>Q1 d false w (fun w J=>J y w) fun N w=>Q1 d false w (X5 P .len [T.h] T.e [false] [N]) fun X w=>Q1 d false w (Q3 P .eql T.e (.tmp 15) (.const (.int .i64 0)) X (.int .i64 0)) fun L w=>pick P d (.bool true) L w fun W w=>X1 W (K (.bool false) w) (D7 P T.d [] w fun r w=>D7 P T.k [(0,(.string ⟨#[97,100,100]⟩))] w fun R w=>buildSlice P T.c 2 [(0,(.string ⟨#[105,110,116]⟩)),(1,(.string ⟨#[105,110,116]⟩))] w fun Z w=>D7 P T.f [(0,(.bool true)),(1,Z)] w fun o w=>Q0 P F.ce [t,r,R,o] w fun h w=>ext P h 0 w fun m w=>ext P h 1 w fun q w=>L3 P T.f w fun a w=>Z6 P T.f a m w fun _u w=>buildSlice P T.c 1 [(0,(.string ⟨#[110,117,108,108]⟩))] w fun s w=>D7 P T.f [(0,(.bool true)),(1,s)] w fun A w=>buildSlice P T.c 1 [(0,(.string ⟨#[116,101,120,116,91,93]⟩))] w fun E w=>D7 P T.f [(0,(.bool true)),(1,E)] w fun u w=>Q0 P F.cE [t,A,u] w fun i w=>ext P i 0 w fun z w=>ext P i 1 w fun p w=>L3 P T.f w fun c w=>Z6 P T.f c z w fun _u w=>Q2 P T.f a w fun O w=>buildSlice P T.c 1 [(0,(.string ⟨#[105,110,116]⟩))] w fun Y w=>D7 P T.f [(0,(.bool true)),(1,Y)] w fun n w=>Q0 P F.aM [O,n] w fun g w=>Q1 g true w (fun w J=>J q w) fun V w=>Q1 g true w (Q3 P .eql T.s (.tmp 41) (.const (.int .i64 0)) V (.int .i64 0)) fun k w=>pick P g k (.bool false) w fun b w=>Q1 b true w (Q2 P T.f c) fun B w=>Q1 b true w (buildSlice P T.c 1 [(0,(.string ⟨#[116,101,120,116,91,93]⟩))]) fun D w=>Q1 b true w (D7 P T.f [(0,(.bool true)),(1,D)]) fun C w=>Q1 b true w (Q0 P F.aM [B,C]) fun U w=>pick P b U (.bool false) w fun f w=>Q1 f true w (fun w J=>J p w) fun Q w=>Q1 f true w (Q3 P .eql T.s (.tmp 51) (.const (.int .i64 0)) Q (.int .i64 0)) fun l w=>pick P f l (.bool false) w fun e w=>Q1 e true w (Q2 P T.f a) fun v w=>Q1 e true w (Q2 P T.f a) fun j w=>Q1 e true w (Q0 P F.cL [v,j]) fun H w=>pick P e H (.bool false) w fun M w=>K M w)
theorem Kv {w:World} {K:Value→World→Prop} (h:Mj w K):Q0 P F.ah [] w K:=Q8 (List.replicate 8 none) Tryz.func11 rfl (by decide) (by kernel_rfl) h
def Q0o:W1:=[none,none,none,none,none,none,some ([3],[2,3,15,16,17,18,19,20,21,22,23,24,25,26,27,28]),none,none,none,none,none,none,none,some ([4],[2,4,29,30,31,32,33,34,35,36,37,38,39,40,41,42]),none,none,none,none,none,none]
def Ei (Q:Value) (w:World) (K:Value→World→Prop):Prop:= box P T.f Q w fun a w=>fieldAddr P T.f a 1 w fun U w=>Q2 P T.c U w fun N w=>X5 P .len [T.c] T.e [false] [N] w fun R w=>Q3 P .gtr T.e (.tmp 7) (.const (.int .i64 40)) R (.int .i64 40) w fun e w=>Q1 e false w (fieldAddr P T.f a 2) fun r w=>Q1 e false w (Q2 P T.c r) fun o w=>Q1 e false w (X5 P .len [T.c] T.e [false] [o]) fun k w=>Q1 e false w (Q3 P .gtr T.e (.tmp 12) (.const (.int .i64 40)) k (.int .i64 40)) fun i w=>pick P e (.bool true) i w fun B w=>X1 B (K (.bool false) w) (lp (α:=Value) (.int .i64 0) w fun c q O w=>fieldAddr P T.f a 1 w fun y w=>Q2 P T.c y w fun J w=>X5 P .len [T.c] T.e [false] [J] w fun u w=>Q3 P .lss T.e (.tmp 15) (.tmp 18) q u w fun z w=>X1 z (fieldAddr P T.f a 1 w fun M w=>Q2 P T.c M w fun j w=>indexAddr P T.c j q w fun h w=>Q2 P T.a h w fun n w=>X5 P .len [T.a] T.e [false] [n] w fun l w=>Q3 P .gtr T.e (.tmp 27) (.const (.int .i64 100)) l (.int .i64 100) w fun f w=>X1 f (K (.bool false) w) (Q3 P .add T.e (.tmp 20) (.const (.int .i64 1)) q (.int .i64 1) w fun E w=>c E w)) (lp (α:=Value) (.int .i64 0) w fun b d O w=>fieldAddr P T.f a 2 w fun t w=>Q2 P T.c t w fun v w=>X5 P .len [T.c] T.e [false] [v] w fun p w=>Q3 P .lss T.e (.tmp 29) (.tmp 32) d p w fun s w=>X1 s (fieldAddr P T.f a 2 w fun C w=>Q2 P T.c C w fun L w=>indexAddr P T.c L d w fun D w=>Q2 P T.a D w fun A w=>X5 P .len [T.a] T.e [false] [A] w fun H w=>Q3 P .gtr T.e (.tmp 41) (.const (.int .i64 100)) H (.int .i64 100) w fun g w=>X1 g (K (.bool false) w) (Q3 P .add T.e (.tmp 34) (.const (.int .i64 1)) d (.int .i64 1) w fun m w=>b m w)) (K (.bool true) w)))
theorem Q0k {a:Value} {w:World} {K:Value→World→Prop} (h:Ei a w K):Q0 P F.b1 [a] w K:=Q8 Q0o Tryz.func12 rfl (by decide) (by kernel_rfl) h
end Go.Proofs.YtfppjenblllfaaaGreatDoor

set_option maxRecDepth 100000
namespace Go.Proofs.YtfppjenblllfaaaGreatDoor
open Go.Emb
def Yo (a0 a1 a2:Value) (w:World) (K:Value→World→Prop):Prop:= box P T.d a0 w fun W w=>box P T.k a1 w fun u w=>box P T.v a2 w fun k w=>Q0 P F.aC [] w fun s w=>ext P s 0 w fun t w=>ext P s 1 w fun bo w=>Q0 P F.ah [] w fun bl w=>J3 P .not bl w fun c w=>Q1 c false w (indexAddr P T.v k (.int .i64 0)) fun R w=>Q1 c false w (Q2 P T.f R) fun al w=>Q1 c false w (Q0 P F.b1 [al]) fun bm w=>Q1 c false w (J3 P .not bm) fun aq w=>pick P c (.bool true) aq w fun g w=>Q1 g false w (indexAddr P T.v k (.int .i64 1)) fun O w=>Q1 g false w (Q2 P T.f O) fun N w=>Q1 g false w (Q0 P F.b1 [N]) fun z w=>Q1 g false w (J3 P .not z) fun ay w=>pick P g (.bool true) ay w fun b w=>Q1 b false w (fieldAddr P T.k u 0) fun az w=>Q1 b false w (Q2 P T.a az) fun ad w=>Q1 b false w (Q0 P F.aG [ad]) fun bb w=>Q1 b false w (Q3 P .lss T.e (.tmp 34) (.const (.int .i64 0)) bb (.int .i64 0)) fun ar w=>pick P b (.bool true) ar w fun d w=>Q1 d false w (fieldAddr P T.k u 2) fun L w=>Q1 d false w (Q2 P T.a L) fun bj w=>Q1 d false w (X5 P .len [T.a] T.e [false] [bj]) fun bh w=>Q1 d false w (Q3 P .gtr T.e (.tmp 40) (.const (.int .i64 200)) bh (.int .i64 200)) fun bk w=>pick P d (.bool true) bk w fun f w=>Q1 f false w (fieldAddr P T.d W 2) fun a9 w=>Q1 f false w (Q2 P T.a a9) fun af w=>Q1 f false w (X5 P .len [T.a] T.e [false] [af]) fun ah w=>Q1 f false w (Q3 P .gtr T.e (.tmp 46) (.const (.int .i64 100)) ah (.int .i64 100)) fun be w=>pick P f (.bool true) be w fun ak w=>X1 ak (Q0 P F.ah [] w fun a3 w=>K a3 w) (Q2 P T.d W w fun E w=>Q2 P T.k u w fun X w=>indexAddr P T.v k (.int .i64 0) w fun bf w=>Q2 P T.f bf w fun a6 w=>Q0 P F.ce [t,E,X,a6] w fun q w=>ext P q 0 w fun ai w=>ext P q 1 w fun bi w=>L3 P T.f w fun v w=>Z6 P T.f v ai w fun _u w=>Q2 P T.d W w fun H w=>Q2 P T.k u w fun ac w=>indexAddr P T.v k (.int .i64 1) w fun U w=>Q2 P T.f U w fun a5 w=>Q0 P F.ce [t,H,ac,a5] w fun l w=>ext P l 0 w fun A w=>ext P l 1 w fun aa w=>L3 P T.f w fun i w=>Z6 P T.f i A w fun _u w=>Q3 P .neq T.s (.tmp 68) (.const (.int .i64 0)) bi (.int .i64 0) w fun j w=>Q1 j false w (fun w J=>J aa w) fun ba w=>Q1 j false w (Q3 P .neq T.s (.tmp 71) (.const (.int .i64 0)) ba (.int .i64 0)) fun y w=>pick P j (.bool true) y w fun av w=>X1 av (K (.bool true) w) (fieldAddr P T.f v 1 w fun a7 w=>Q2 P T.c a7 w fun ab w=>X5 P .len [T.c] T.e [false] [ab] w fun bg w=>indexAddr P T.v k (.int .i64 0) w fun ao w=>fieldAddr P T.f ao 1 w fun ag w=>Q2 P T.c ag w fun ax w=>X5 P .len [T.c] T.e [false] [ax] w fun a8 w=>Q3 P .sub T.e (.tmp 76) (.tmp 80) bg a8 w fun ap w=>fieldAddr P T.f i 1 w fun C w=>Q2 P T.c C w fun D w=>X5 P .len [T.c] T.e [false] [D] w fun bc w=>indexAddr P T.v k (.int .i64 1) w fun Y w=>fieldAddr P T.f Y 1 w fun B w=>Q2 P T.c B w fun Z w=>X5 P .len [T.c] T.e [false] [Z] w fun an w=>Q3 P .sub T.e (.tmp 84) (.tmp 88) bc an w fun ae w=>Q3 P .eql T.e (.tmp 81) (.tmp 89) ap ae w fun a w=>Q1 a true w (fieldAddr P T.f v 2) fun aw w=>Q1 a true w (Q2 P T.c aw) fun Q w=>Q1 a true w (X5 P .len [T.c] T.e [false] [Q]) fun M w=>Q1 a true w (indexAddr P T.v k (.int .i64 0)) fun bd w=>Q1 a true w (fieldAddr P T.f bd 2) fun V w=>Q1 a true w (Q2 P T.c V) fun am w=>Q1 a true w (X5 P .len [T.c] T.e [false] [am]) fun a4 w=>Q1 a true w (Q3 P .eql T.e (.tmp 94) (.tmp 98) M a4) fun aj w=>pick P a aj (.bool false) w fun e w=>Q1 e true w (fieldAddr P T.f v 0) fun o w=>Q1 e true w (Q2 P T.o o) fun n w=>pick P e n (.bool false) w fun h w=>Q1 h true w (fieldAddr P T.f i 0) fun p w=>Q1 h true w (Q2 P T.o p) fun m w=>pick P h m (.bool false) w fun r w=>K r w))
theorem Ep {c b a:Value} {w:World} {K:Value→World→Prop} (h:Yo c b a w K):Q0 P F.bS [c,b,a] w K:=Q8 (List.replicate 11 none) Tryz.func5 rfl (by decide) (by kernel_rfl) h
end Go.Proofs.YtfppjenblllfaaaGreatDoor


namespace Go.Emb
open Go.RowKit (Below)
variable {P : Program} {w w' : World} {K : Value → World → Prop}
theorem Y2 {s:Sem Value} {v:Value} (h:s.run P w= .ok v w'):op P (sv s) w K=K v w':=by
 rw[Qu];unfold T5 sv;simp[h]
theorem Wk {s:Sem Unit} (h:s.run P w= .ok () w'):op P (su s) w K=K undef w':=by
 rw[Qu];unfold T5 su;simp[h]
abbrev S (l:List UInt8):Value:= .string ⟨l.toArray⟩
abbrev I (n:Int):Value:= .int .i64 n
theorem Eh {b:Bool} {x y:Value}:pick P (.bool b) x y w K=K (if b then x else y) w:=by
 unfold pick;rw[Qu];unfold T5;cases b<;>simp[asBool]
theorem G7 {x y:Value}:pick P (.bool true) x y w K=K x w:=by rw[Eh];rfl
theorem B0 {x y:Value}:pick P (.bool false) x y w K=K y w:=by rw[Eh];rfl
theorem X0W {a b:Bool} {u:Value}:pick P (.bool a) (if a=true then .bool b else u) (.bool false) w K=K (.bool (a&&b)) w:=by
 rw[Eh];cases a<;>rfl
theorem X2l {a b:Bool} {u:Value}:pick P (.bool a) (.bool true) (if a=false then .bool b else u) w K=K (.bool (a||b)) w:=by
 rw[Eh];cases a<;>rfl
theorem L4 {c:World→(Value→World→Prop)→Prop}:Q1 (.bool true) true w c K=c w K:=by rw[Dl];simp[Ld]
theorem N5 {c:World→(Value→World→Prop)→Prop}:Q1 (.bool false) false w c K=c w K:=by rw[Dl];simp[Ld]
theorem G6 {c:World→(Value→World→Prop)→Prop}:Q1 (.bool true) false w c K=K undef w:=by rw[Dl];simp[Ld]
theorem E7 {c:World→(Value→World→Prop)→Prop}:Q1 (.bool false) true w c K=K undef w:=by rw[Dl];simp[Ld]
theorem E2 {b:Bool} {c:World→(Value→World→Prop)→Prop}:Q1 undef b w c K=K undef w:=by rw[Dl];rfl
theorem X0L {a b:Bool} {v:Value}:Q1 (.bool a) b w (fun w J=>J v w) K=K (if a=b then v else undef) w:=by
 rw[Dl];unfold Ld;by_cases h:a=b<;>simp[h]
theorem Q5q {b:Bool} {t e:Prop}:X1 (.bool b) t e=if b=true then t else e:=by rw[Q6J];cases b<;>rfl
theorem Ov {t e:Prop}:X1 (.bool true) t e=t:=by rw[Q5q];simp
theorem Wl {t e:Prop}:X1 (.bool false) t e=e:=by rw[Q5q];simp
section ints
variable {k : IntKind} {t : TypeId} {ox oy : Operand} {a b : Int}
theorem Bv:Q3 P .add t ox oy (.int k a) (.int k b) w K=K (.int k (k.wrap (a+b))) w:=Y2 (by simp[eqGuard,Go.binOp,Op.intArith])
theorem Q17:Q3 P .sub t ox oy (.int k a) (.int k b) w K=K (.int k (k.wrap (a-b))) w:=Y2 (by simp[eqGuard,Go.binOp,Op.intArith])
theorem Q8d:Q3 P .mul t ox oy (.int k a) (.int k b) w K=K (.int k (k.wrap (a*b))) w:=Y2 (by simp[eqGuard,Go.binOp,Op.intArith])
theorem Q3N:Q3 P .lss t ox oy (.int k a) (.int k b) w K=K (.bool (decide (a<b))) w:=Y2 (by simp[eqGuard,Go.binOp,Op.intCmp])
theorem Q3K:Q3 P .leq t ox oy (.int k a) (.int k b) w K=K (.bool (decide (a≤b))) w:=Y2 (by simp[eqGuard,Go.binOp,Op.intCmp])
theorem Q3B:Q3 P .gtr t ox oy (.int k a) (.int k b) w K=K (.bool (decide (b<a))) w:=Y2 (by simp[eqGuard,Go.binOp,Op.intCmp])
theorem Q1b:Q3 P .geq t ox oy (.int k a) (.int k b) w K=K (.bool (decide (b≤a))) w:=Y2 (by simp[eqGuard,Go.binOp,Op.intCmp])
theorem Q1f:Q3 P .eql t ox oy (.int k a) (.int k b) w K=K (.bool (decide (a=b))) w:=Y2 (by
 simp[eqGuard,Go.binOp,Op.intCmp];rfl)
theorem Q3o:Q3 P .neq t ox oy (.int k a) (.int k b) w K=K (.bool (!decide (a=b))) w:=Y2 (by
 simp[eqGuard,Go.binOp,Op.intCmp];rfl)
end ints
theorem Q3r {b:Bool}:J3 P .not (.bool b) w K=K (.bool (!b)) w:=Y2 (by simp[Op.unary])
section bools
variable {t : TypeId} {ox oy : Operand} {a b : Bool}
theorem Q2u (d:Nat) (h:P.underlying t=some .bool):(Op.equalIn (d+1) t (.bool a) (.bool b)).run P w= .ok (a==b) w:=by
 simp[Op.equalIn,run_underlying h]
theorem Ff (h:P.underlying t=some .bool):(Op.equal t (.bool a) (.bool b)).run P w= .ok (a==b) w:=Q2u 9999 h
theorem Q6r (h:P.underlying t=some .bool):Q3 P .eql t ox oy (.bool a) (.bool b) w K=K (.bool (a==b)) w:=Y2 (by
 simp[eqGuard,Go.binOp,Ff h])
theorem Q6q (h:P.underlying t=some .bool):Q3 P .neq t ox oy (.bool a) (.bool b) w K=K (.bool (!(a==b))) w:=Y2 (by
 simp[eqGuard,Go.binOp,Ff h])
end bools
theorem Jc {vs:List Value} {i:Nat} {v:Value} (h:vs[i]? =some v):ext P (.tuple vs.toArray) i w K=K v w:=Y2 (by
 simp[Instr.extract,h])
theorem X3n {a b:Value}:ext P (.tuple #[a,b]) 0 w K=K a w:=Jc (vs:=[a,b]) rfl
theorem X4a {a b:Value}:ext P (.tuple #[a,b]) 1 w K=K b w:=Jc (vs:=[a,b]) rfl
theorem X29 {a b c:Value}:ext P (.tuple #[a,b,c]) 0 w K=K a w:=Jc (vs:=[a,b,c]) rfl
theorem X23 {a b c:Value}:ext P (.tuple #[a,b,c]) 1 w K=K b w:=Jc (vs:=[a,b,c]) rfl
theorem X1W {a b c:Value}:ext P (.tuple #[a,b,c]) 2 w K=K c w:=Jc (vs:=[a,b,c]) rfl
theorem F3 {n:Int} (d: -9223372036854775808≤n) (e:n≤9223372036854775807):IntKind.i64.wrap n=n:=by
 have c:n % 18446744073709551616=n∨n % 18446744073709551616=n+18446744073709551616:=by omega
 show (if (true&&decide (n % 18446744073709551616≥9223372036854775808))=true then n % 18446744073709551616-18446744073709551616 else n % 18446744073709551616)=n
 simp only[Bool.true_and,decide_eq_true_eq]
 split<;>omega
theorem w32 {n:Int} (c: -2147483648≤n) (d:n≤2147483647):IntKind.i32.wrap n=n:=by
 show (if (true&&decide (n % 4294967296≥2147483648))=true then n % 4294967296-4294967296 else n % 4294967296)=n
 simp only[Bool.true_and,decide_eq_true_eq]
 split<;>omega
section strs
variable {t : TypeId} {ox oy : Operand} {a b : List UInt8}
theorem Q3G (a b:List UInt8):(a==b)=decide (a=b):=by rw[Bool.eq_iff_iff];simp
theorem Bj:Q3 P .eql t ox oy (S a) (S b) w K=K (.bool (decide (a=b))) w:=Y2 (by
 simp[eqGuard,Go.binOp,Op.stringOp,Q3G])
theorem Cy:Q3 P .neq t ox oy (S a) (S b) w K=K (.bool (!decide (a=b))) w:=Y2 (by
 simp[eqGuard,Go.binOp,Op.stringOp,Q3G])
theorem F5 (l:List UInt8):(ByteArray.mk l.toArray).size=l.length:=by simp[ByteArray.size]
theorem Q9E (a b:List UInt8):ByteArray.mk a.toArray++ByteArray.mk b.toArray=ByteArray.mk (a++b).toArray:=by
 apply ByteArray.ext;simp
theorem X4A:IntKind.i64.max=9223372036854775807:=by decide
theorem Q7f (h:a.length+b.length≤9223372036854775807):Q3 P .add t ox oy (S a) (S b) w K=K (S (a++b)) w:=Y2 (by
 have c: ¬(((a.length+b.length:Nat):Int)>IntKind.i64.max):=by rw[X4A];omega
 simp only[eqGuard,Go.binOp,Op.stringOp,F5,Q9E]
 simp only[if_neg c]
 simp)
theorem E4 {cs:List Bool} {r:TypeId} (c:P.underlying t=some .string):X5 P .len [t] r cs [S a] w K=K (I a.length) w:=by
 have h:(Builtin.len_ #[t] r #[S a]).run P w= .ok (I a.length) w:=by
  simp[Builtin.len_,run_underlying c,F5,goInt]
 exact Y2 h
theorem Xk {i:Int} (c:P.underlying t=some .string) (d:0≤i) (h:i.toNat<a.length):H2 P t (S a) (I i) w K=K (.int .u8 (a[i.toNat]'h).toNat) w:=Y2 (by
 simp only[Instr.index,asIntOf,Sem.run_bind,Sem.run_pure,Result.andThen_ok,run_underlying c,d,if_true]
 have:(ByteArray.mk a.toArray)[i.toNat]? =some (a[i.toNat]'h):=by
  rw[getElem?_pos _ _ (by rw[F5];exact h)]
  rfl
 rw[this];simp)
theorem Q3i (l:List UInt8) (i j:Nat):(ByteArray.mk l.toArray).extract i j=ByteArray.mk ((l.take j).drop i).toArray:=by
 apply ByteArray.ext
 apply Array.ext'
 simp[List.drop_take]
theorem Lt {i:Int} (c:P.underlying t=some .string) (d:0≤i) (h:i≤a.length):R6 P t (S a) (some (I i)) none none w K=K (S (a.drop i.toNat)) w:=Y2 (by
 simp[Instr.sliceAt,Instr.slice,Instr.sliceBounds,Instr.sliceBound,asIntOf,run_underlying c,d,h,F5,Q3i])
theorem T9 {i:Int} (c:P.underlying t=some .string) (d:0≤i) (h:i≤a.length):R6 P t (S a) none (some (I i)) none w K=K (S (a.take i.toNat)) w:=Y2 (by
 simp[Instr.sliceAt,Instr.slice,Instr.sliceBounds,Instr.sliceBound,asIntOf,run_underlying c,d,h,F5,Q3i])
end strs
theorem Q2s {s d:TypeId} {k j:IntKind} {n:Int} {ds:TypeDesc} (c:P.underlying s=some ds) (e:P.underlying d=some (.int k)):conv P s d (.int j n) w K=K (.int k (k.wrap n)) w:=Y2 (by
 simp[Go.convert,run_underlying c,run_underlying e,Conv.intToInt])
def Q0Y (w:World) (r:Nat) (o:Obj):World:={w with heap:=w.heap.setIfInBounds r o}
theorem Q4m {B r:Nat} {a w:World} {o:Obj} (h:Below B a w) (c:B≤r):Below B a (Q0Y w r o):=
 h.trans ⟨rfl,rfl,rfl,by simp[Q0Y],fun k d=>by simp only[Q0Y];rw[Array.getElem?_setIfInBounds_ne (by omega)]⟩
theorem Q8e {w:World} {r:Nat} {o:Obj} (h:r<w.heap.size):(Q0Y w r o).heap[r]? =some o:=by
 simp only[Q0Y];rw[Array.getElem?_setIfInBounds_self_of_lt h]
theorem X2U {t:TypeId} {a:List UInt8} (c:P.underlying t=some .string):rng P t (S a) w K=K (.pointer (some ⟨w.heap.size,0,none⟩)) (w.alloc (.stringIter ⟨a.toArray⟩ 0)):=Y2 (by
 simp[Instr.range,run_underlying c])
theorem X2L {t:TypeId} {r pos:Nat} {s:ByteArray} (h:w.heap[r]? =some (.stringIter s pos)) (d:pos<s.size):
 U3 P (.pointer (some ⟨r,0,none⟩)) true t w K=K (.tuple #[.bool true,I pos, .int .i32 (Utf8.decode s pos).1]) (Q0Y w r (.stringIter s (pos+(Utf8.decode s pos).2))):=Y2 (by
 have e: ∀(k:Obj→Sem Value),(getObj r>>=k).run P w=(k (.stringIter s pos)).run P w:=by
  intro k;rw[Sem.run_bind];simp[getObj,Sem.run,h]
 have c: ∀o,(setObj r o).run P w= .ok () (Q0Y w r o):=by intro o;simp[setObj,Sem.run,h,Q0Y]
 unfold Instr.next
 simp only[e,d,if_true]
 simp[c,goInt])
theorem Q6V {t:TypeId} {r pos:Nat} {s:ByteArray} (h:w.heap[r]? =some (.stringIter s pos)) (c: ¬pos<s.size):
 U3 P (.pointer (some ⟨r,0,none⟩)) true t w K=K (.tuple #[.bool false]) w:=Y2 (by
 have d: ∀(k:Obj→Sem Value),(getObj r>>=k).run P w=(k (.stringIter s pos)).run P w:=by
  intro k;rw[Sem.run_bind];simp[getObj,Sem.run,h]
 unfold Instr.next
 simp only[d,c,if_false]
 simp)
theorem X20 {a:Value}:ext P (.tuple #[a]) 0 w K=K a w:=Jc (vs:=[a]) rfl
theorem Q8x {s:ByteArray} {i:Nat} (h:(s.get! i).toNat<128):Utf8.decode s i=((s.get! i).toNat,1):=by
 unfold Utf8.decode
 simp only[Nat.add_zero]
 rw[if_pos h]
theorem Q7y {s:ByteArray} {i:Nat} (h: ¬(s.get! i).toNat<128):128≤(Utf8.decode s i).1:=by
 unfold Utf8.decode
 simp only[Nat.add_zero]
 rw[if_neg h]
 repeat' split
 all_goals (simp only[Utf8.runeError] at*;try omega)
 all_goals (simp only[Bool.and_eq_true,decide_eq_true_eq,ge_iff_le] at*;omega)
theorem Q6F {s:ByteArray} {i:Nat}:1≤(Utf8.decode s i).2:=by
 unfold Utf8.decode
 simp only
 repeat' split
 all_goals simp
def Ia (p:Int→Bool) (s:ByteArray):Nat→Nat→Bool
 | 0,_=>true
 | n+1,i=>if i<s.size then p (Utf8.decode s i).1&&Ia p s n (i+(Utf8.decode s i).2) else true
theorem Q3V {a:List UInt8} {i:Nat} (h:i<a.length):(ByteArray.mk a.toArray).get! i=a[i]:=by
 show (ByteArray.mk a.toArray).data[i]! =a[i]
 simp[h]
theorem Q9b (p:Int→Bool) (f: ∀c:Int,128≤c→p c=false) (a:List UInt8): ∀(n i:Nat),a.length-i≤n→Ia p ⟨a.toArray⟩ n i=(a.drop i).all (fun b=>p b.toNat):=by
 intro n
 induction n with
 | zero=>intro i h;rw[List.drop_eq_nil_of_le (by omega)];rfl
 | succ n g=>
  intro i h
  simp only[Ia,F5]
  split
  ·rename_i d
   rw[List.drop_eq_getElem_cons d,List.all_cons]
   by_cases e:a[i].toNat<128
   ·rw[Q8x (by rw[Q3V d];exact e),Q3V d]
    simp only
    rw[g (i+1) (by omega)]
   ·have j:=Q7y (s:=⟨a.toArray⟩) (i:=i) (by rw[Q3V d];exact e)
    rw[f _ (by omega),f _ (by omega)];rfl
  ·rename_i d;rw[List.drop_eq_nil_of_le (by omega)];rfl
theorem W0 {α:Type} {A:(α→World→Prop)→World→Prop} {B:α→(Nat→Value)→World→Prop} (h:A (fun x w=> ∀d,B x d w) w):jn w A B:=Zg _ h (fun _ d _ c=>c d)
theorem X2 {e:World→World→Prop} {A c:(Value→World→Prop)→Prop} (V:Value) (h:A (fun v _=>v=V)) (d:c (fun v _=>v=V)):Q5 e A c:=
 W9 _ (fun _ _ _ h _=>h) h d
theorem Ot {w w0:World} {A:(World→World→Prop)→(World→Prop)→Prop} (e:Below w0.heap.size w0 w)
 (h:A (fun w w'=>Below w.heap.size w w') (fun w'=>Below w0.heap.size w0 w')):dr w A:=
 Q15 _ _ e.drew (fun _ _ c d=>c.trans (d.mono c.size)) h
theorem Q2O {w w':World} {v V:Value} (c:Below w.heap.size w w') (h:v=V):dk (fun w w'=>Below w.heap.size w w') (fun v _=>v=V) w v w':=⟨c,h⟩
theorem X6 {w:World} {v V:Value} (h:v=V):dk (fun w w'=>Below w.heap.size w w') (fun v _=>v=V) w v w:=⟨Below.refl _ _,h⟩
theorem Q6W {n:Nat} {fn:Func} {e:Array Value→Sem Value} {xs:List Value} {v:Value} (l:P.funcs[n]? =some fn) (j:(fn.name== "runtime.NumGoroutine")=false) (g:fn.body.isNone=true)
 (m:(Extern.findNext fn).isNone=true) (o:Extern.find fn=some e) (i:(e xs.toArray).run P w= .ok v w) (h:K v w):Q0 P n xs w K:=by
 have d:Extern.findNext fn=none:=by simpa using m
 have f: ¬fn.name= "runtime.NumGoroutine":=by simpa using j
 have c:fn.body=none:=by simpa using g
 unfold Q0
 rw[Qu]
 unfold T5 callFunc
 simp[l,f,c,d,o,i,h]
theorem Q35 {α:Type} (p:α→Bool) (c:Nat→Bool): ∀(l:List α),(∀i (h:i<l.length),c i=p l[i])→(List.range l.length).find? c=l.findIdx? p
 | [],_=>rfl
 | x::l,h=>by
  rw[List.length_cons,List.range_succ_eq_map,List.find?_cons,List.findIdx?_cons]
  have e:c 0=p x:=h 0 (by simp)
  rw[e]
  cases p x
  ·simp only[Bool.false_eq_true,if_false]
   rw[List.find?_map]
   have:=Q35 p (c ∘ Nat.succ) l (fun i d=>h (i+1) (by simpa using d))
   rw[this]
  ·rfl
def Mr:=And.intro @G7 <| And.intro @B0 <| And.intro @E2 <| And.intro @Bv <| And.intro @Q17 <| And.intro @Q8d <| And.intro @Q3N <| And.intro @Q3K <| And.intro @Q3B <| And.intro @Q1b <| And.intro @Q1f <| And.intro @Q3o <| And.intro @Q3r <| And.intro @Bj <| And.intro @Cy <| And.intro @X3n <| And.intro @X4a <| And.intro @X29 <| And.intro @X23 <| And.intro @X1W <| And.intro @X20 <| And.intro @X0W <| And.intro @X2l <| And.intro @L4 <| And.intro @N5 <| And.intro @G6 <| And.intro @E7 <| And.intro @X0L <| And.intro @Ov <| @Wl
def Mp:=And.intro @G7 <| And.intro @B0 <| And.intro @E2 <| And.intro @Bv <| And.intro @Q17 <| And.intro @Q8d <| And.intro @Q3N <| And.intro @Q3K <| And.intro @Q3B <| And.intro @Q1b <| And.intro @Q1f <| And.intro @Q3o <| And.intro @Q3r <| And.intro @Bj <| And.intro @Cy <| And.intro @X3n <| And.intro @X4a <| And.intro @X29 <| And.intro @X23 <| And.intro @X1W <| And.intro @X20 <| And.intro @L4 <| And.intro @N5 <| And.intro @G6 <| And.intro @E7 <| And.intro @Ov <| @Wl
def Mb:=And.intro @Bool.true_eq_false <| And.intro @Bool.false_eq_true <| And.intro @Bool.not_true <| And.intro @Bool.not_false <| And.intro @Bool.and_true <| And.intro @Bool.true_and <| And.intro @Bool.and_false <| And.intro @Bool.false_and <| And.intro @Bool.or_true <| And.intro @Bool.true_or <| And.intro @Bool.or_false <| @Bool.false_or
end Go.Emb

namespace Go.Kd
abbrev Q9:=List UInt8
def Qt (c:Int):Bool:=decide (65≤c)&&decide (c≤90)
def P7 (c:Int):Bool:=decide (97≤c)&&decide (c≤122)
def B3 (c:Int):Bool:=decide (48≤c)&&decide (c≤57)
def E9 (c:Int):Bool:=Qt c||P7 c||B3 c
def name (s:Q9):Bool:=match s with
 | []=>false
 | c::_=>decide (s.length≤32)&& !B3 c.toNat&&s.all (fun b=>E9 b.toNat)
def W7 (s:Q9):Bool:=match s with
 | []=>false
 | c::_=>name s&&Qt c.toNat
def M5 (s:Q9):Bool:=match s with
 | []=>false
 | c::_=>name s&&P7 c.toNat
def plain (s:Q9):Bool:=decide (s=[105,110,116])||decide (s=[98,111,111,108])||decide (s=[116,101,120,116])
def E1 (s:Q9):Bool:=decide (2≤s.length)&&decide (s.drop (s.length-2)=[91,93])
def cutA (s:Q9):Q9:=s.take (s.length-2)
def Xx:Nat→Q9→Q9×Nat
 | 0,s=>(s,0)
 | n+1,s=>if E1 s then ((Xx n (cutA s)).1,(Xx n (cutA s)).2+1) else (s,0)
def base (s:Q9):Q9×Nat:=Xx s.length s
def right (s:Q9):Bool:=decide ((base s).2≤3)&&(plain (base s).1||W7 (base s).1)
def elem (s:Q9):Q9:=if E1 s&&right s then cutA s else []
def Q2h (s:Q9):Nat:=if right s then (base s).2 else 0
def G0 (s:Q9):Q9×Q9×Bool:=match s with
 | []=>([],[],false)
 | c::r=>if c=46 then ([],r,true) else ((c::(G0 r).1),(G0 r).2.1,(G0 r).2.2)
def P9 (s:Q9):Bool:=(G0 s).2.2&&W7 (G0 s).1&&M5 (G0 s).2.1
def Q1l (c:UInt8) (s:Q9):Int:=match s.findIdx? (fun b=>decide (b=c)) with
 | some i=>i
 | none=> -1
def Q2A (s:Q9) (o:Option Nat):Q9×Q9×Bool:=match o with
 | some i=>(s.take i,s.drop (i+1),true)
 | none=>(s,[],false)
theorem Im (s:Q9):G0 s=Q2A s (s.findIdx? (fun b=>decide (b=46))):=by
 induction s with
 | nil=>rfl
 | cons c r a=>
  rw[List.findIdx?_cons]
  simp only[G0]
  by_cases h:c=46
  ·simp[h,Q2A]
  ·simp only[h,if_false,decide_false,Bool.false_eq_true]
   rw[a]
   cases r.findIdx? (fun b=>decide (b=46)) with
   | none=>simp[Q2A]
   | some i=>simp[Q2A]
end Go.Kd

namespace Go.Proofs.YtfppjenblllfaaaGreatDoor
open Go.Emb Go.RowKit Go.Kd
variable {w : World} {K : Value → World → Prop}
theorem X7:P.underlying T.a=some .string:=by kernel_rfl
theorem Q2H:P.underlying T.e=some (.int .i64):=by kernel_rfl
theorem Fo:P.underlying T.o=some .bool:=by kernel_rfl
theorem Q3Y:P.underlying T.y=some (.int .u8):=by kernel_rfl
theorem Q7R:P.underlying T.ah=some (.int .i32):=by kernel_rfl
theorem Q7H (c:Int) (h:K (.bool (Qt c)) w):Q0 P F.ci [.int .i32 c] w K:=Q5I (by
 unfold Q0X
 (try simp only[↓Mr,Mr,Mb,reduceIte])
 cases a:decide (65≤c)<;>simp only[a,↓Mr,Mr,Mb,reduceIte]<;>simpa [Qt,a] using h)
theorem Q8g (c:Int) (h:K (.bool (P7 c)) w):Q0 P F.ck [.int .i32 c] w K:=Q5U (by
 unfold Q0G
 (try simp only[↓Mr,Mr,Mb,reduceIte])
 cases a:decide (97≤c)<;>simp only[a,↓Mr,Mr,Mb,reduceIte]<;>simpa [P7,a] using h)
theorem X2J (c:Int) (h:K (.bool (E9 c)) w):Q0 P F.cc [.int .i32 c] w K:=Q4Y (by
 unfold Pl
 refine Q7H c ?_
 cases a:Qt c
 ·(try simp only[↓Mr,Mr,Mb,reduceIte])
  refine Q8g c ?_
  cases b:P7 c
  ·(try simp only[↓Mr,Mr,Mb,reduceIte])
   cases d:decide (48≤c)
   ·(try simp only[↓Mr,Mr,Mb,reduceIte])
    simpa [E9,B3,a,b,d] using h
   ·(try simp only[↓Mr,Mr,Mb,reduceIte])
    simpa [E9,B3,a,b,d] using h
  ·(try simp only[↓Mr,Mr,Mb,reduceIte])
   simpa [E9,a,b] using h
 ·(try simp only[↓Mr,Mr,Mb,reduceIte])
  simpa [E9,a] using h)
theorem X4B (a:List UInt8) (f:Value) (p:Int→Bool) (l: ∀(c:Int) (w:World) (K:Value→World→Prop),K (.bool (p c)) w→Z3 P f [.int .i32 c] w K)
 (h: ∀w',Below w.heap.size w w'→K (.bool (Ia p ⟨a.toArray⟩ a.length 0)) w'):Q0 P F.cC [S a,f] w K:=Q9m (by
 unfold Q2Q
 rw[X2U X7]
 refine Jo (fun _ w'=> ∃pos n:Nat,a.length-pos≤n∧Ia p ⟨a.toArray⟩ a.length 0=Ia p ⟨a.toArray⟩ n pos∧Below w.heap.size w w'∧w'.heap[w.heap.size]? =some (.stringIter ⟨a.toArray⟩ pos))
  (fun _ w'=>match w'.heap[w.heap.size]? with | some (.stringIter _ pos)=>a.length-pos | _=>0) ⟨0,a.length,by omega,rfl,(Below.refl _ _).alloc (Nat.le_refl _) _,heap_alloc_new w _⟩ ?_
 rintro _ _ w1 ⟨pos,n,r,b,j,e⟩
 by_cases g:pos<a.length
 ·rw[X2L e (by rw[F5];exact g)]
  (try simp only[↓Mr,Mr,Mb,reduceIte])
  refine l _ _ _ ?_
  obtain ⟨n,rfl⟩: ∃m,n=m+1:=⟨n-1,by omega⟩
  simp only[Ia,F5,g,if_true] at b
  have q:=Q6F (s:=⟨a.toArray⟩) (i:=pos)
  have d:w.heap.size<w1.heap.size:=(Array.getElem?_eq_some_iff.1 e).1
  cases k:p (Utf8.decode ⟨a.toArray⟩ pos).1
  ·(try simp only[↓Mr,Mr,Mb,reduceIte])
   rw[k] at b
   have:=h _ (Q4m (o:= .stringIter ⟨a.toArray⟩ (pos+(Utf8.decode ⟨a.toArray⟩ pos).2)) j (Nat.le_refl _))
   rw[b] at this
   exact this
  ·(try simp only[↓Mr,Mr,Mb,reduceIte])
   rw[k] at b
   refine ⟨⟨_,n,?_,b,Q4m j (Nat.le_refl _),Q8e d⟩,?_⟩
   ·omega
   ·simp only[Q8e d,e];omega
 ·rw[Q6V e (by rw[F5];exact g)]
  (try simp only[↓Mr,Mr,Mb,reduceIte])
  have:Ia p ⟨a.toArray⟩ n pos=true:=by
   cases n with
   | zero=>rfl
   | succ n=>simp only[Ia,F5,g,if_false]
  rw[←this,←b]
  exact h _ j)
theorem Q8F (c:Int) (h:128≤c):E9 c=false:=by
 simp[E9,Qt,P7,B3];omega
theorem Q6f (a:List UInt8) (n:a.length≤140737488355328) (h: ∀w',Below w.heap.size w w'→K (.bool (name a)) w'):Q0 P F.c6 [S a] w K:=Q7e (by
 unfold Q1W
 have e: ∀c r,a=c::r→(decide (a.length≤32)&& !B3 c.toNat)=true→Q0 P F.cC [S a,(.func (.func F.cc) #[] #[])] w K:=by
  intro c r m b
  refine X4B a _ E9 (fun c w K h=>X8 (first:=[]) (caps:=[]) (X2J c h)) fun w' l=>?_
  rw[Q9b _ Q8F a _ _ (by omega)]
  have:=h w' l
  rw[m] at this b⊢
  simp only[name] at this
  rw[b,Bool.true_and] at this
  simpa using this
 cases a with
 | nil=>
  simp only[↓Mr,Mr,Mb,reduceIte,decide_true]
  exact h w (Below.refl _ _)
 | cons c r=>
  have g:decide (c::r=[])=false:=by simp
  simp only[↓Mr,Mr,Mb,reduceIte,g,E4 X7]
  by_cases k:(c::r).length≤32
  ·have d:r.length≤31:=by simpa using k
   have b:decide ((32:Int)<((c::r).length:Int))=false:=by simp only[decide_eq_false_iff_not];omega
   simp only[↓Mr,Mr,Mb,reduceIte,b]
   rw[Xk X7 (by omega) (by simp)]
   (try simp only[↓Mr,Mr,Mb,reduceIte])
   have i:(c::r)[(0:Int).toNat]'(by simp)=c:=rfl
   simp only[i]
   cases f:decide ((48:Int)≤(c.toNat:Int))
   ·(try simp only[↓Mr,Mr,Mb,reduceIte])
    exact e c r rfl (by simp[B3,d,f])
   ·(try simp only[↓Mr,Mr,Mb,reduceIte])
    rw[Xk X7 (by omega) (by simp)]
    simp only[↓Mr,Mr,Mb,reduceIte,i]
    cases j:decide ((c.toNat:Int)≤57)
    ·(try simp only[↓Mr,Mr,Mb,reduceIte])
     exact e c r rfl (by simp only[B3,f,j];simp[d])
    ·(try simp only[↓Mr,Mr,Mb,reduceIte])
     have:name (c::r)=false:=by simp only[name,B3,f,j];simp
     rw[←this];exact h w (Below.refl _ _)
  ·have b:decide ((32:Int)<((c::r).length:Int))=true:=by simp only[decide_eq_true_eq];omega
   simp only[↓Mr,Mr,Mb,reduceIte,b]
   have:name (c::r)=false:=by simp only[name];rw[decide_eq_false k];rfl
   rw[←this];exact h w (Below.refl _ _))
theorem Hv (a:List UInt8) (f:a.length≤140737488355328) (h: ∀w',Below w.heap.size w w'→K (.bool (W7 a)) w'):Q0 P F.aj [S a] w K:=Q67 (by
 unfold Q02
 refine Q6f a f fun w1 b=>?_
 cases a with
 | nil=>
  simp only[name,↓Mr,Mr,Mb,reduceIte]
  exact h w1 b
 | cons c r=>
  cases d:name (c::r)
  ·(try simp only[↓Mr,Mr,Mb,reduceIte])
   have:=h w1 b
   simp only[W7,d] at this
   simpa using this
  ·(try simp only[↓Mr,Mr,Mb,reduceIte])
   rw[Xk X7 (by omega) (by simp)]
   have e:(c::r)[(0:Int).toNat]'(by simp)=c:=rfl
   simp only[e]
   rw[Q2s Q3Y Q7R,w32 (by omega) (by have:=c.toNat_lt;omega)]
   refine Q7H _ ?_
   (try simp only[↓Mr,Mr,Mb,reduceIte])
   have:=h w1 b
   simp only[W7,d] at this
   simpa using this)
theorem Jv (a:List UInt8) (h:K (.bool (plain a)) w):Q0 P F.ad [S a] w K:=Q6j (by
 unfold Q0H
 (try simp only[↓Mr,Mr,Mb,reduceIte])
 cases b:decide (a=[105,110,116])<;>(try simp only[↓Mr,Mr,Mb,reduceIte])
 ·cases c:decide (a=[98,111,111,108])<;>(try simp only[↓Mr,Mr,Mb,reduceIte])<;>simpa [plain,b,c] using h
 ·simpa [plain,b] using h)
def Zl (a b:List UInt8):Bool:=decide (b.length≤a.length)&&decide (a.drop (a.length-b.length)=b)
theorem Oo (a b:List UInt8) (f:a.length≤140737488355328) (e:b.length≤140737488355328) (h:K (.bool (Zl a b)) w):Q0 P F.a9 [S a,S b] w K:=Ca (by
 unfold Ui
 rw[E4 X7,E4 X7]
 (try simp only[↓Mr,Mr,Mb,reduceIte])
 by_cases d:b.length≤a.length
 ·have c:decide ((b.length:Int)≤a.length)=true:=by simp only[decide_eq_true_eq];omega
  simp only[↓Mr,Mr,Mb,reduceIte,c,E4 X7]
  rw[F3 (by omega) (by omega),Lt X7 (by omega) (by omega)]
  (try simp only[↓Mr,Mr,Mb,reduceIte])
  rw[show ((a.length:Int)-b.length).toNat=a.length-b.length from by omega]
  simpa [Zl,d] using h
 ·have c:decide ((b.length:Int)≤a.length)=false:=by simp only[decide_eq_false_iff_not];omega
  simp only[↓Mr,Mr,Mb,reduceIte,c]
  simpa [Zl,d] using h)
theorem Q7o (a b:List UInt8) (d:a.length≤140737488355328) (c:b.length≤140737488355328) (h:K (.bool (Zl a b)) w):Q0 P F.bO [S a,S b] w K:=Am (by
 unfold Nn
 exact Oo a b d c h)
def On (a b:List UInt8):List UInt8:=if Zl a b then a.take (a.length-b.length) else a
theorem Q4J {a b:List UInt8} (h:Zl a b=true):b.length≤a.length:=by
 simp only[Zl,Bool.and_eq_true,decide_eq_true_eq] at h;exact h.1
theorem Q5A (a b:List UInt8) (e:a.length≤140737488355328) (d:b.length≤140737488355328) (h:K (S (On a b)) w):Q0 P F.bG [S a,S b] w K:=Iz (by
 unfold Mn
 refine Sr ?_
 unfold Jh
 refine Oo a b e d ?_
 cases c:Zl a b
 ·(try simp only[↓Mr,Mr,Mb,reduceIte])
  simpa [On,c] using h
 ·have f:=Q4J c
  simp only[↓Mr,Mr,Mb,reduceIte,E4 X7]
  rw[F3 (by omega) (by omega),T9 X7 (by omega) (by omega)]
  rw[show ((a.length:Int)-b.length).toNat=a.length-b.length from by omega]
  simpa [On,c] using h)
theorem Q75 (a b:List UInt8) (e:a.length≤140737488355328) (d:b.length≤140737488355328) (h:K (.tuple #[S (On a b), .bool (Zl a b)]) w):Q0 P F.bP [S a,S b] w K:=Ae (by
 unfold Oj
 refine Sz ?_
 unfold Uc
 refine Oo a b e d ?_
 cases c:Zl a b
 ·(try simp only[↓Mr,Mr,Mb,reduceIte])
  simpa [On,c] using h
 ·have f:=Q4J c
  simp only[↓Mr,Mr,Mb,reduceIte,E4 X7]
  rw[F3 (by omega) (by omega),T9 X7 (by omega) (by omega)]
  rw[show ((a.length:Int)-b.length).toNat=a.length-b.length from by omega]
  (try simp only[↓Mr,Mr,Mb,reduceIte])
  simpa [On,c] using h)
theorem Q30 (a:List UInt8):Zl a [91,93]=E1 a:=rfl
theorem Q1M (a:List UInt8):On a [91,93]=if E1 a then Kd.cutA a else a:=rfl
theorem Qj {a:List UInt8} (h:E1 a=true):(Kd.cutA a).length+2=a.length:=by
 simp only[E1,Bool.and_eq_true,decide_eq_true_eq] at h
 simp only[Kd.cutA,List.length_take];omega
theorem Q39: ∀(n m:Nat) (a:List UInt8),a.length≤n→a.length≤m→Xx n a=Xx m a
 | 0,0,a,_,_=>rfl
 | 0,m+1,a,h,_=>by
  have:a=[]:=List.eq_nil_of_length_eq_zero (by omega)
  subst this;rfl
 | n+1,0,a,_,h=>by
  have:a=[]:=List.eq_nil_of_length_eq_zero (by omega)
  subst this;rfl
 | n+1,m+1,a,c,b=>by
  simp only[Xx]
  split
  ·rename_i h
   have:=Qj h
   rw[Q39 n m (Kd.cutA a) (by omega) (by omega)]
  ·rfl
theorem Jr (a:List UInt8):base a=if E1 a then ((base (Kd.cutA a)).1,(base (Kd.cutA a)).2+1) else (a,0):=by
 unfold base
 cases b:a.length with
 | zero=>
  have:a=[]:=List.eq_nil_of_length_eq_zero b
  subst this;rfl
 | succ n=>
  simp only[Xx]
  split
  ·rename_i h
   have:=Qj h
   rw[Q39 n (Kd.cutA a).length (Kd.cutA a) (by omega) (Nat.le_refl _)]
  ·rfl
theorem Q1g (a:List UInt8):(base a).1.length+2*(base a).2=a.length:=by
 have key: ∀n (a:List UInt8),(Xx n a).1.length+2*(Xx n a).2=a.length:=by
  intro n
  induction n with
  | zero=>intro a;simp[Xx]
  | succ n b=>
   intro a
   simp only[Xx]
   split
   ·rename_i h
    have:=Qj h
    have:=b (Kd.cutA a)
    simp only;omega
   ·simp
 exact key _ a
theorem Q9D (a:List UInt8) (g:a.length≤140737488355328) (h:K (.tuple #[S (base a).1,I (base a).2]) w):Q0 P F.cu [S a] w K:=Q7k (by
 unfold Q1U
 refine Jo (fun x w'=>w'=w∧ ∃(b:List UInt8) (n:Nat),x=(S b,I n)∧b.length+2*n=a.length∧base a=((base b).1,(base b).2+n)) (fun x _=>match x.1 with | .string s=>s.size | _=>0)
  ⟨rfl,a,0,rfl,by omega,rfl⟩ ?_
 rintro _ _ _ ⟨rfl,b,n,rfl,e,d⟩
 refine Q7o b _ (by omega) (by simp) ?_
 rw[Q30]
 cases c:E1 b
 ·(try simp only[↓Mr,Mr,Mb,reduceIte])
  rw[Jr b,c] at d
  simp only[Bool.false_eq_true,if_false,Nat.zero_add] at d
  rw[d] at h;exact h
 ·(try simp only[↓Mr,Mr,Mb,reduceIte])
  refine Q5A b _ (by omega) (by simp) ?_
  rw[Q1M,c]
  simp only[↓Mr,Mr,Mb,reduceIte,if_true]
  have f:=Qj c
  rw[F3 (by omega) (by omega)]
  refine ⟨⟨by first | rfl | trivial,Kd.cutA b,n+1,by simp,by omega,?_⟩,?_⟩
  ·rw[d,Jr b,c];simp;omega
  ·simp only[F5];omega)
theorem Yu (a:List UInt8) (g:a.length≤140737488355328) (h: ∀w',Below w.heap.size w w'→K (.bool (right a)) w'):Q0 P F.z [S a] w K:=Q5X (by
 unfold Q0L
 have e:=Q1g a
 refine Q9D a g ?_
 (try simp only[↓Mr,Mr,Mb,reduceIte])
 by_cases b:(base a).2≤3
 ·have c:decide (((base a).2:Int)≤3)=true:=by simp only[decide_eq_true_eq];omega
  simp only[↓Mr,Mr,Mb,reduceIte,c]
  refine Jv _ ?_
  cases d:plain (base a).1
  ·(try simp only[↓Mr,Mr,Mb,reduceIte])
   refine Hv _ (by omega) fun w1 f=>?_
   (try simp only[↓Mr,Mr,Mb,reduceIte])
   have:=h w1 f
   simp only[right,b,d] at this
   simpa using this
  ·(try simp only[↓Mr,Mr,Mb,reduceIte])
   have:=h w (Below.refl _ _)
   simp only[right,b,d] at this
   simpa using this
 ·have c:decide (((base a).2:Int)≤3)=false:=by simp only[decide_eq_false_iff_not];omega
  simp only[↓Mr,Mr,Mb,reduceIte,c]
  have:=h w (Below.refl _ _)
  simp only[right,b] at this
  simpa using this)
theorem Q5w (a:List UInt8) (d:a.length≤140737488355328) (h: ∀w',Below w.heap.size w w'→K (S (elem a)) w'):Q0 P F.c5 [S a] w K:=Q7c (by
 unfold Q25
 refine Q75 a _ d (by simp) ?_
 rw[Q30,Q1M]
 (try simp only[↓Mr,Mr,Mb,reduceIte])
 cases b:E1 a
 ·(try simp only[↓Mr,Mr,Mb,reduceIte])
  have:=h w (Below.refl _ _)
  simp only[elem,b] at this
  exact this
 ·(try simp only[↓Mr,Mr,Mb,reduceIte])
  refine Yu a d fun w1 e=>?_
  have:=h w1 e
  cases c:right a
  ·(try simp only[↓Mr,Mr,Mb,reduceIte])
   simp only[elem,b,c] at this
   exact this
  ·simp only[↓Mr,Mr,Mb,reduceIte,if_true]
   simp only[elem,b,c] at this
   exact this)
theorem X3f (a:List UInt8) (b:a.length≤140737488355328) (h: ∀w',Below w.heap.size w w'→K (I (Q2h a)) w'):Q0 P F.cO [S a] w K:=Q71 (by
 unfold Q1S
 refine Q9D a b ?_
 (try simp only[↓Mr,Mr,Mb,reduceIte])
 refine Yu a b fun w1 d=>?_
 have:=h w1 d
 cases c:right a<;>(try simp only[↓Mr,Mr,Mb,reduceIte])<;>simpa [Q2h,c] using this)
end Go.Proofs.YtfppjenblllfaaaGreatDoor

namespace Go.Proofs.YtfppjenblllfaaaGreatDoor
open Go.Emb Go.RowKit Go.Kd
variable {w : World} {K : Value → World → Prop}
theorem Q1y (a:List UInt8) (c:UInt8) (h:K (I (Q1l c a)) w):Q0 P F.c4 [S a, .int .u8 c.toNat] w K:=by
 refine Q6W (e:=Extern.BytealgIndexByte.indexByte) Tryz.func235 (by decide) rfl (by kernel_rfl) (by kernel_rfl) ?_ h
 have d:((List.range (ByteArray.mk a.toArray).size).find? fun i=>(ByteArray.mk a.toArray)[i]! ==c)=a.findIdx? (fun b=>decide (b=c)):=by
  rw[F5]
  refine Q35 _ _ a fun i f=>?_
  have:(ByteArray.mk a.toArray)[i]! =a[i]:=by
   rw[getElem!_pos _ _ (by rw[F5];exact f)];rfl
  rw[this,Bool.eq_iff_iff];simp
 have g:((c.toNat:Int).toNat.toUInt8)=c:=by simp
 have:=run_indexByte_string (P:=P) ⟨a.toArray⟩ c.toNat w
 rw[g] at this
 refine this.trans ?_
 unfold firstIdx Q1l
 rw[d]
 cases a.findIdx? (fun b=>decide (b=c))<;>rfl
theorem X1a (a:List UInt8) (c:UInt8) (h:K (I (Q1l c a)) w):Q0 P F.bQ [S a,S [c]] w K:=Tq (by
 unfold Ny
 simp only[E4 X7]
 have i:decide ((([c]:List UInt8).length:Int)=0)=false:=rfl
 have j:decide ((([c]:List UInt8).length:Int)=1)=true:=rfl
 simp only[Q1f,i,j]
 simp only[↓Mr,Mr,Mb,reduceIte]
 have b:H2 P T.a (S [c]) (I 0) w fun d w=>Q0 P F.ay [S a,d] w fun e w=>K e w:=by
  rw[Xk X7 (by omega) (by simp)]
  refine Sv ?_
  unfold Uh
  exact Q1y a c h
 cases f:decide ([c]=a)
 ·(try simp only[↓Mr,Mr,Mb,reduceIte])
  exact b
 ·(try simp only[↓Mr,Mr,Mb,reduceIte])
  have g:[c]=a:=by simpa using f
  have:Q1l c a=0:=by rw[←g];simp[Q1l,List.findIdx?_cons]
  rw[this] at h;exact h)
theorem X19 {c:UInt8} {a:List UInt8} {i:Nat} (h:a.findIdx? (fun b=>decide (b=c))=some i):i<a.length:=by
 have:=List.findIdx?_eq_some_iff_getElem.1 h
 exact this.1
theorem X4e (a:List UInt8) (g:a.length≤140737488355328) (h: ∀w',Below w.heap.size w w'→K (.tuple #[S (G0 a).1,S (G0 a).2.1, .bool (G0 a).2.2]) w'):Q0 P F.cA [S a,S [46]] w K:=Q50 (by
 unfold Pu
 refine Q1v ?_
 unfold Ez
 refine X1a a 46 ?_
 rw[Im] at h
 unfold Q1l
 cases c:a.findIdx? (fun b=>decide (b=46)) with
 | none=>
  simp only[↓Mr,Mr,Mb,reduceIte,show decide ((0:Int)≤ -1)=false from rfl]
  have:=h w (Below.refl _ _)
  rw[c] at this;exact this
 | some i=>
  have f:=X19 c
  have e:decide ((0:Int)≤(i:Int))=true:=by simp
  simp only[Q1b,e]
  simp only[↓Mr,Mr,Mb,reduceIte]
  refine Ot (Below.refl _ w) ?_
  refine X2 (S (a.take i)) (fun w1 _=>?_) ?_
  ·rw[T9 X7 (by omega) (by omega)];exact X6 (by simp)
  refine X2 (I 1) (fun w1 _=>?_) ?_
  ·rw[E4 X7];exact X6 rfl
  refine X2 (I (i+1)) ?_ ?_
  ·rintro _ w1 _ rfl
   rw[Bv,F3 (by omega) (by omega)];exact X6 rfl
  refine X2 (S (a.drop (i+1))) ?_ ?_
  ·rintro _ w1 _ rfl
   rw[Lt X7 (by omega) (by omega)];exact X6 (by simp)
  rintro _ _ _ _ w1 d rfl rfl rfl rfl
  (try simp only[↓Mr,Mr,Mb,reduceIte])
  have:=h w1 d
  rw[c] at this;exact this)
theorem Q7Q (a:List UInt8) (z:a.length≤140737488355328) (h: ∀w',Below w.heap.size w w'→K (if P9 a then .tuple #[S (G0 a).1,S (G0 a).2.1,I 0] else .tuple #[S [],S [],I 30]) w'):Q0 P F.bl [S a] w K:=Q69 (by
 unfold Az
 refine X4e a z fun w1 e=>?_
 have o:(G0 a).1.length≤a.length∧(G0 a).2.1.length≤a.length:=by
  rw[Im]
  cases a.findIdx? (fun b=>decide (b=46))<;>simp[Q2A]
  omega
 generalize y:(G0 a).1=p at h o
 generalize A:(G0 a).2.1=q at h o
 have g:P9 a=((G0 a).2.2&&W7 p&&M5 q):=by rw[P9,y,A]
 cases l:(G0 a).2.2
 ·simp only[↓Mr,Mr,Mb,reduceIte]
  have:=h w1 e
  rw[g,l] at this;simpa using this
 ·simp only[↓Mr,Mr,Mb,reduceIte]
  refine Hv p (by omega) fun u n=>?_
  have d:=e.trans (n.mono e.size)
  cases s:W7 p
  ·(try simp only[↓Mr,Mr,Mb,reduceIte])
   have:=h u d
   rw[g,l,s] at this;simpa using this
  ·(try simp only[↓Mr,Mr,Mb,reduceIte])
   refine Q6f q (by omega) fun t i=>?_
   have f:=d.trans (i.mono d.size)
   have:=h t f
   rw[g,l,s] at this
   cases k:name q
   ·(try simp only[↓Mr,Mr,Mb,reduceIte])
    have j:M5 q=false:=by cases q with | nil=>rfl | cons c r=>simp[M5,k]
    rw[j] at this;simpa using this
   ·(try simp only[↓Mr,Mr,Mb,reduceIte])
    cases q with
    | nil=>simp[name] at k
    | cons c r=>
     rw[Xk X7 (by omega) (by simp)]
     have m:(c::r)[(0:Int).toNat]'(by simp)=c:=rfl
     (try simp only[↓Mr,Mr,Mb,reduceIte])
     rw[m,Q2s Q3Y Q7R,w32 (by omega) (by have:=c.toNat_lt;omega)]
     refine Q8g _ ?_
     have j:M5 (c::r)=P7 c.toNat:=by simp[M5,k]
     rw[j] at this
     cases v:P7 c.toNat<;>(try simp only[↓Mr,Mr,Mb,reduceIte])<;>rw[v] at this<;>simpa using this)
theorem Q09 (a:List UInt8) (h:K (.bool (plain a)) w):Q0 P F.ai [S a] w K:=Ph (by
 unfold Mu
 refine W0 ?_
 (try simp only[↓Mr,Mr,Mb,reduceIte])
 cases b:decide (a=[105,110,116])
 ·cases c:decide (a=[98,111,111,108])
  ·cases d:decide (a=[116,101,120,116])<;>(try simp only[↓Mr,Mr,Mb,reduceIte])<;>intro _<;>(try simp only[↓Mr,Mr,Mb,reduceIte])<;>simpa [plain,b,c,d] using h
  ·(try simp only[↓Mr,Mr,Mb,reduceIte])
   intro _
   (try simp only[↓Mr,Mr,Mb,reduceIte])
   simpa [plain,b,c] using h
 ·(try simp only[↓Mr,Mr,Mb,reduceIte])
  intro _
  (try simp only[↓Mr,Mr,Mb,reduceIte])
  simpa [plain,b] using h)
def X1F (a:List UInt8) (w:World) (x:Value) (w':World):Prop:=
 w=w'∧ ∃i:Nat,x=I i∧i≤a.length∧(0<i→(a.head?.map fun c=>B3 c.toNat)=some false)∧(a.take i).all (fun b=>E9 b.toNat)=true
def Q5h (a:List UInt8) (x:Value):Nat:=match x with | .int _ i=>a.length-i.toNat | _=>0
theorem Q6S (a:List UInt8) (Q:a.length≤140737488355328) (h:K (.bool (name a)) w):Q0 P F.aZ [S a] w K:=Px (by
 unfold Nq
 refine Jo (X1F a w) (fun x _=>Q5h a x) ⟨rfl,0,rfl,by omega,by omega,by simp⟩ ?_
 rintro _ _ _ ⟨rfl,i,rfl,O,M,k⟩
 rw[E4 X7]
 (try simp only[↓Mr,Mr,Mb,reduceIte])
 by_cases m:i<a.length
 ·have C:decide ((i:Int)<a.length)=true:=by simp only[decide_eq_true_eq];omega
  simp only[C,↓Mr,Mr,Mb,reduceIte]
  have d: ∀z:Value→World→Prop,H2 P T.a (S a) (I i) w z=z (.int .u8 (a[i]'m).toNat) w:=fun z=>by
   rw[Xk X7 (by omega) (by simpa using m)];simp
  generalize p:a[i]=c at d
  have e:E9 c.toNat=false∨(i=0∧B3 c.toNat=true)→name a=false:=by
   intro y
   cases a with
   | nil=>rfl
   | cons L r=>
    simp only[name]
    rcases y with y | ⟨rfl,y⟩
    ·have:(L::r).all (fun b=>E9 b.toNat)=false:=by
      rw[List.all_eq_false]
      exact ⟨c,by rw[←p];exact List.getElem_mem _,by simp[y]⟩
     rw[this];simp
    ·simp only[List.getElem_cons_zero] at p
     rw[p,y];simp
  have f:E9 c.toNat=true→(i=0→B3 c.toNat=false)→X1F a w (I (IntKind.i64.wrap ((i:Int)+1))) w∧Q5h a (I (IntKind.i64.wrap ((i:Int)+1)))<Q5h a (I i):=by
   intro D A
   rw[F3 (by omega) (by omega)]
   refine ⟨⟨rfl,i+1,by simp,by omega,fun _=>?_,?_⟩,by simp only[Q5h];omega⟩
   ·by_cases q:0<i
    ·exact M q
    ·obtain rfl:i=0:=by omega
     cases a with
     | nil=>simp at m
     | cons L r=>simp only[List.getElem_cons_zero] at p;subst p;simp[A rfl]
   ·rw[List.take_add_one,List.getElem?_eq_getElem m,p]
    simp[k,D]
  have H:=c.toNat_lt
  have v:decide ((i:Int)=0)=decide (i=0):=by rw[Bool.eq_iff_iff];simp
  by_cases n:97≤(c.toNat:Int)
  ·by_cases J:(c.toNat:Int)≤122
   ·simp only[d,decide_eq_true n,decide_eq_true J,↓Mr,Mr,Mb,reduceIte]
    exact f (by simp[E9,P7,n,J]) (fun _=>by simp[B3];omega)
   ·have o:(65:Int)≤c.toNat:=by omega
    have s: ¬(c.toNat:Int)≤90:=by omega
    have g: ¬(c.toNat:Int)<48:=by omega
    have j:(57:Int)<c.toNat:=by omega
    simp only[d,decide_eq_true n,decide_eq_false J,decide_eq_true o,decide_eq_false s,decide_eq_false g,decide_eq_true j,v,↓Mr,Mr,Mb,reduceIte]
    have l:=e (.inl (by simp[E9,Qt,P7,B3];omega))
    rw[l] at h
    cases decide (i=0)<;>(try simp only[d,decide_eq_false g,decide_eq_true j,↓Mr,Mr,Mb,reduceIte])<;>exact h
  ·by_cases o:(65:Int)≤c.toNat
   ·by_cases s:(c.toNat:Int)≤90
    ·simp only[d,decide_eq_false n,decide_eq_true o,decide_eq_true s,↓Mr,Mr,Mb,reduceIte]
     exact f (by simp[E9,Qt,o,s]) (fun _=>by simp[B3];omega)
    ·have g: ¬(c.toNat:Int)<48:=by omega
     have j:(57:Int)<c.toNat:=by omega
     simp only[d,decide_eq_false n,decide_eq_true o,decide_eq_false s,decide_eq_false g,decide_eq_true j,v,↓Mr,Mr,Mb,reduceIte]
     have l:=e (.inl (by simp[E9,Qt,P7,B3];omega))
     rw[l] at h
     cases decide (i=0)<;>(try simp only[d,decide_eq_false g,decide_eq_true j,↓Mr,Mr,Mb,reduceIte])<;>exact h
   ·by_cases g:(c.toNat:Int)<48
    ·simp only[d,decide_eq_false n,decide_eq_false o,decide_eq_true g,v,↓Mr,Mr,Mb,reduceIte]
     have l:=e (.inl (by simp[E9,Qt,P7,B3];omega))
     rw[l] at h
     cases decide (i=0)<;>(try simp only[d,decide_eq_true g,↓Mr,Mr,Mb,reduceIte])<;>exact h
    ·by_cases j:(57:Int)<c.toNat
     ·simp only[d,decide_eq_false n,decide_eq_false o,decide_eq_false g,decide_eq_true j,v,↓Mr,Mr,Mb,reduceIte]
      have l:=e (.inl (by simp[E9,Qt,P7,B3];omega))
      rw[l] at h
      cases decide (i=0)<;>(try simp only[d,decide_eq_false g,decide_eq_true j,↓Mr,Mr,Mb,reduceIte])<;>exact h
     ·have t:B3 c.toNat=true:=by simp[B3];omega
      simp only[d,decide_eq_false n,decide_eq_false o,decide_eq_false g,decide_eq_false j,v,↓Mr,Mr,Mb,reduceIte]
      by_cases q:i=0
      ·have l:=e (.inr ⟨q,t⟩)
       rw[l] at h
       simp only[decide_eq_true q,d,decide_eq_false g,decide_eq_false j,↓Mr,Mr,Mb,reduceIte]
       exact h
      ·simp only[decide_eq_false q,d,decide_eq_false g,decide_eq_false j,↓Mr,Mr,Mb,reduceIte]
       exact f (by simp[E9,t]) (fun h=>absurd h q)
 ·have C:decide ((i:Int)<a.length)=false:=by simp only[decide_eq_false_iff_not];omega
  obtain rfl:i=a.length:=by omega
  simp only[C,↓Mr,Mr,Mb,reduceIte]
  rw[E4 X7]
  cases a with
  | nil=>
   have B:decide ((1:Int)≤(([]:List UInt8).length:Int))=false:=rfl
   simp only[B,↓Mr,Mr,Mb,reduceIte];exact h
  | cons c r=>
   have B:decide ((1:Int)≤((c::r).length:Int))=true:=by simp only[decide_eq_true_eq,List.length_cons];omega
   have u:=M (by simp)
   simp only[List.head?_cons,Option.map_some,Option.some.injEq] at u
   simp only[List.take_length] at k
   have E:name (c::r)=decide ((c::r).length≤32):=by simp only[name,u,k];simp
   have N:decide (((c::r).length:Int)≤32)=decide ((c::r).length≤32):=by rw[Bool.eq_iff_iff];simp only[decide_eq_true_eq];omega
   simp only[B,E4 X7,N,↓Mr,Mr,Mb,reduceIte]
   rw[←E];exact h)
theorem Kf {c:UInt8} {r:List UInt8} (h:name (c::r)=true):E9 c.toNat=true∧B3 c.toNat=false:=by
 simp only[name,Bool.and_eq_true,List.all_cons,Bool.not_eq_true'] at h
 exact ⟨h.2.1,h.1.2⟩
theorem Xo (a:List UInt8) (f:a.length≤140737488355328) (h:K (.bool (W7 a)) w):Q0 P F.f [S a] w K:=Gu (by
 unfold Nb
 refine Q6S a f ?_
 cases a with
 | nil=>simp only[name,↓Mr,Mr,Mb,reduceIte];exact h
 | cons c r=>
  cases b:name (c::r)
  ·(try simp only[↓Mr,Mr,Mb,reduceIte])
   simpa [W7,b] using h
  ·(try simp only[↓Mr,Mr,Mb,reduceIte])
   rw[Xk X7 (by omega) (by simp)]
   have d:(c::r)[(0:Int).toNat]'(by simp)=c:=rfl
   (try simp only[↓Mr,Mr,Mb,reduceIte])
   rw[d]
   obtain ⟨g,e⟩:=Kf b
   have:decide ((c.toNat:Int)≤90)=Qt c.toNat:=by
    simp only[E9,Qt,P7,B3,Bool.or_eq_true,Bool.and_eq_true,Bool.and_eq_false_iff,decide_eq_true_eq,decide_eq_false_iff_not] at g e⊢
    rw[Bool.eq_iff_iff];simp only[Bool.and_eq_true,decide_eq_true_eq];omega
   rw[this]
   simpa [W7,b] using h)
theorem Pb (a:List UInt8) (f:a.length≤140737488355328) (h:K (.bool (M5 a)) w):Q0 P F.w [S a] w K:=Fj (by
 unfold Wn
 refine Q6S a f ?_
 cases a with
 | nil=>simp only[name,↓Mr,Mr,Mb,reduceIte];exact h
 | cons c r=>
  cases b:name (c::r)
  ·(try simp only[↓Mr,Mr,Mb,reduceIte])
   simpa [M5,b] using h
  ·(try simp only[↓Mr,Mr,Mb,reduceIte])
   rw[Xk X7 (by omega) (by simp)]
   have d:(c::r)[(0:Int).toNat]'(by simp)=c:=rfl
   (try simp only[↓Mr,Mr,Mb,reduceIte])
   rw[d]
   obtain ⟨g,e⟩:=Kf b
   have:decide ((97:Int)≤c.toNat)=P7 c.toNat:=by
    simp only[E9,Qt,P7,B3,Bool.or_eq_true,Bool.and_eq_true,Bool.and_eq_false_iff,decide_eq_true_eq,decide_eq_false_iff_not] at g e⊢
    rw[Bool.eq_iff_iff];simp only[Bool.and_eq_true,decide_eq_true_eq];omega
   rw[this]
   simpa [M5,b] using h)
def X4z (a:List UInt8) (w:World) (x:Value×Value) (w':World):Prop:=
 w=w'∧ ∃(b:List UInt8) (n:Nat),x=(S b,I n)∧b.length+2*n=a.length∧(base a).2=(base b).2+n
def X1Z (x:Value×Value):Nat:=match x.1 with | .string s=>s.size | _=>0
theorem Q27 (a:List UInt8) (k:a.length≤140737488355328) (h:K (I (base a).2) w):Q0 P F.aq [S a] w K:=Tc (by
 unfold Nf
 refine Jo (X4z a w) (fun x _=>X1Z x) ⟨rfl,a,0,rfl,by omega,rfl⟩ ?_
 rintro _ _ _ ⟨rfl,b,n,rfl,j,c⟩
 rw[E4 X7]
 (try simp only[↓Mr,Mr,Mb,reduceIte])
 by_cases f:2≤b.length
 ·have e:decide ((2:Int)≤b.length)=true:=by simp only[decide_eq_true_eq];omega
  simp only[e,E4 X7,↓Mr,Mr,Mb,reduceIte]
  rw[F3 (by omega) (by omega),Lt X7 (by omega) (by omega)]
  rw[show ((b.length:Int)-2).toNat=b.length-2 from by omega]
  have g:decide (b.drop (b.length-2)=[91,93])=E1 b:=by simp[E1,f]
  simp only[g,↓Mr,Mr,Mb,reduceIte]
  cases d:E1 b
  ·(try simp only[↓Mr,Mr,Mb,reduceIte])
   rw[Jr b,d] at c
   simp only[Bool.false_eq_true,if_false,Nat.zero_add] at c
   rw[c] at h;exact h
  ·(try simp only[E4 X7,↓Mr,Mr,Mb,reduceIte])
   rw[T9 X7 (by omega) (by omega)]
   rw[show ((b.length:Int)-2).toNat=b.length-2 from by omega]
   have i:=Qj d
   refine ⟨⟨rfl,Kd.cutA b,n+1,?_,by omega,?_⟩,?_⟩
   ·simp only[Kd.cutA,Prod.mk.injEq,true_and]
    first | rfl | (rw[F3 (by omega) (by omega)];rfl)
   ·rw[c,Jr b,d];simp;omega
   ·simp only[X1Z,F5,List.length_take];omega
 ·have e:decide ((2:Int)≤b.length)=false:=by simp only[decide_eq_false_iff_not];omega
  simp only[e,↓Mr,Mr,Mb,reduceIte]
  have d:E1 b=false:=by simp[E1,f]
  rw[Jr b,d] at c
  simp only[Bool.false_eq_true,if_false,Nat.zero_add] at c
  rw[c] at h;exact h)
theorem Q4t (a:List UInt8):a.take (a.length-2*(base a).2)=(base a).1:=by
 have key: ∀n (a:List UInt8),a.take (a.length-2*(Xx n a).2)=(Xx n a).1:=by
  intro n
  induction n with
  | zero=>intro a;simp[Xx]
  | succ n b=>
   intro a
   simp only[Xx]
   split
   ·rename_i h
    have c:=Qj h
    simp only
    rw[←b (Kd.cutA a)]
    rw[Kd.cutA,List.take_take,List.length_take]
    congr 1
    omega
   ·simp
 exact key _ a
theorem Vx (a:List UInt8) (f:a.length≤140737488355328) (h:K (.bool (right a)) w):Q0 P F.l [S a] w K:=Gs (by
 unfold Me
 have e:=Q1g a
 refine Q27 a f ?_
 rw[E4 X7]
 (try simp only[↓Mr,Mr,Mb,reduceIte])
 rw[F3 (n:=2*((base a).2:Int)) (by omega) (by omega),F3 (by omega) (by omega),T9 X7 (by omega) (by omega)]
 rw[show ((a.length:Int)-2*((base a).2:Int)).toNat=a.length-2*(base a).2 from by omega,Q4t]
 (try simp only[↓Mr,Mr,Mb,reduceIte])
 by_cases b:(base a).2≤3
 ·have c:decide (((base a).2:Int)≤3)=true:=by simp only[decide_eq_true_eq];omega
  simp only[c,↓Mr,Mr,Mb,reduceIte]
  refine Q09 _ ?_
  cases d:plain (base a).1
  ·(try simp only[↓Mr,Mr,Mb,reduceIte])
   refine Xo _ (by omega) ?_
   (try simp only[↓Mr,Mr,Mb,reduceIte])
   simpa [right,b,d] using h
  ·(try simp only[↓Mr,Mr,Mb,reduceIte])
   simpa [right,b,d] using h
 ·have c:decide (((base a).2:Int)≤3)=false:=by simp only[decide_eq_false_iff_not];omega
  simp only[c,↓Mr,Mr,Mb,reduceIte]
  simpa [right,b] using h)
def X46 (a:List UInt8) (w:World) (x:Value) (w':World):Prop:=
 w=w'∧ ∃n:Nat,x=I n∧n≤a.length∧(∀i,(h:i<n)→(b:i<a.length)→a[i]≠46)
def Q9Q (a:List UInt8) (x:Value):Nat:=match x with | .int _ n=>(a.length-n).toNat | _=>0
theorem Q43 (a:List UInt8) (M:a.length≤140737488355328) (h: ∀w',Below w.heap.size w w'→K (if (G0 a).2.2 then .tuple #[S (G0 a).1,S (G0 a).2.1, .bool (P9 a)] else .tuple #[S [],S [], .bool false]) w'):Q0 P F.bJ [S a] w K:=Pd (by
 unfold Lc
 refine Jo (X46 a w) (fun x _=>Q9Q a x) ⟨rfl,0,rfl,by omega,by omega⟩ ?_
 rintro _ _ _ ⟨rfl,n,rfl,L,y⟩
 rw[E4 X7]
 (try simp only[↓Mr,Mr,Mb,reduceIte])
 by_cases E:n<a.length
 ·have r:decide ((n:Int)<a.length)=true:=by simp only[decide_eq_true_eq];omega
  simp only[r,↓Mr,Mr,Mb,reduceIte]
  rw[Xk X7 (by omega) (by omega)]
  (try simp only[↓Mr,Mr,Mb,reduceIte])
  simp only[Int.toNat_natCast]
  have J:decide (((a[n]).toNat:Int)=46)=decide (a[n]=46):=by
   rw[Bool.eq_iff_iff];simp only[decide_eq_true_eq]
   constructor
   ·intro e;exact UInt8.toNat_inj.1 (by have:(46:UInt8).toNat=46:=rfl;omega)
   ·intro e;rw[e];rfl
  rw[J]
  by_cases l:a[n]=46
  ·simp only[l,decide_true,↓Mr,Mr,Mb,reduceIte]
   have m:G0 a=(a.take n,a.drop (n+1),true):=by
    have:a.findIdx? (fun b=>decide (b=46))=some n:=by
     rw[List.findIdx?_eq_some_iff_getElem]
     exact ⟨E,by simpa using l,fun j C=>by simpa using y j C (by omega)⟩
    rw[Im,this];rfl
   have v:P9 a=(W7 (a.take n)&&M5 (a.drop (n+1))):=by simp[P9,m]
   rw[m,v] at h
   have q:((n:Int)+1).toNat=n+1:=by omega
   have p:(a.take n).length≤140737488355328:=by simp only[List.length_take];omega
   have s:(a.drop (n+1)).length≤140737488355328:=by simp only[List.length_drop];omega
   have A: ∀{w:World} {K:Value→World→Prop},K (S (a.take n)) w→R6 P T.a (S a) none (some (I n)) none w K:=by
    intro w K h
    rw[T9 X7 (by omega) (by omega),show ((n:Int)).toNat=n from by omega];exact h
   have B: ∀{w:World} {K:Value→World→Prop},K (S (a.drop (n+1))) w→R6 P T.a (S a) (some (I (n+1))) none none w K:=by
    intro w K h
    rw[Lt X7 (by omega) (by omega),q];exact h
   refine Ot (Below.refl _ _) ?_
   refine X2 (S (a.take n)) (fun w c=>A (X6 rfl)) ?_
   refine X2 (I (n+1)) (fun w c=>X6 (by rw[F3 (by omega) (by omega)])) ?_
   refine X2 (S (a.drop (n+1))) (fun t w c e=>by rw[e];exact B (X6 rfl)) ?_
   refine X2 (S (a.take n)) (fun w c=>A (X6 rfl)) ?_
   refine X2 (.bool (W7 (a.take n))) (fun t w c e=>by rw[e];exact Xo _ p (X6 rfl)) ?_
   cases k:W7 (a.take n)
   ·refine X2 undef (fun t w c e=>by rw[e,E7];exact X6 rfl) ?_
    refine X2 undef (fun t w c e=>by rw[e,E7];exact X6 rfl) ?_
    refine X2 undef (fun t f w c e d=>by rw[e,E7];exact X6 rfl) ?_
    refine X2 undef (fun t f u w c e d g=>by rw[e,E7];exact X6 rfl) ?_
    refine X2 undef (fun t f w c e d=>by rw[e,E7];exact X6 rfl) ?_
    refine X2 (.bool false) (fun t f w c e d=>by rw[e,B0];exact X6 rfl) ?_
    rintro _ _ _ _ _ _ _ _ _ _ _ w1 c rfl rfl rfl rfl rfl rfl rfl rfl rfl rfl rfl
    rw[k] at h
    exact h w1 (by simpa using c)
   ·refine X2 (S a) (fun t w c e=>by rw[e,L4];exact X6 rfl) ?_
    refine X2 (I n) (fun t w c e=>by rw[e,L4];exact X6 rfl) ?_
    refine X2 (I (n+1)) (fun t f w c e d=>by rw[e,d,L4];simp only[↓Mr,Mr,Mb,reduceIte];exact X6 (by rw[F3 (by omega) (by omega)])) ?_
    refine X2 (S (a.drop (n+1))) (fun t f u w c e d g=>by rw[e,d,g,L4];exact B (X6 rfl)) ?_
    refine X2 (.bool (M5 (a.drop (n+1)))) (fun t f w c e d=>by rw[e,d,L4];exact Pb _ s (X6 rfl)) ?_
    refine X2 (.bool (M5 (a.drop (n+1)))) (fun t f w c e d=>by rw[e,d,G7];exact X6 rfl) ?_
    rintro _ _ _ _ _ _ _ _ _ _ _ w1 c rfl rfl rfl rfl rfl rfl rfl rfl rfl rfl rfl
    rw[k] at h
    exact h w1 (by simpa using c)
  ·simp only[l,decide_false,↓Mr,Mr,Mb,reduceIte]
   rw[F3 (by omega) (by omega)]
   refine ⟨⟨rfl,n+1,rfl,by omega,fun i z H=>?_⟩,?_⟩
   ·by_cases o:i=n
    ·subst o;exact l
    ·exact y i (by omega) H
   ·simp only[Q9Q];omega
 ·have r:decide ((n:Int)<a.length)=false:=by simp only[decide_eq_false_iff_not];omega
  simp only[r,↓Mr,Mr,Mb,reduceIte]
  have m:(G0 a).2.2=false∧(G0 a).1=a∧(G0 a).2.1=[]:=by
   have:a.findIdx? (fun b=>decide (b=46))=none:=by
    rw[List.findIdx?_eq_none_iff]
    intro x D
    obtain ⟨i,z,rfl⟩:=List.getElem_of_mem D
    simpa using y i (by omega) z
   rw[Im,this];exact ⟨rfl,rfl,rfl⟩
  rw[m.1] at h
  exact h w (Below.refl _ _))
end Go.Proofs.YtfppjenblllfaaaGreatDoor

namespace Go.Emb
open Go.RowKit
class TZ (P : Program) (t : TypeId) (sz b : outParam Nat) (z : outParam Value) : Prop where
  h : (P.info? t).map (fun i => (i.size, i.bytes, i.zero)) = some (sz, b, some z)
def Q9p:Option TypeDesc→Bool
 | some (.struct _)=>true
 | some (.array _ _)=>true
 | none=>true
 | _=>false
class TG (P : Program) (t : TypeId) (g : outParam Bool) : Prop where
  h : (Q9p (P.underlying t), (P.underlying t).isSome) = (g, true)
class TS (P : Program) (t : TypeId) (e : outParam TypeId) : Prop where
  h : P.underlying t = some (.slice e)
class TA (P : Program) (t : TypeId) (n : outParam Nat) (e : outParam TypeId) : Prop where
  h : P.underlying t = some (.array n e)
class TM (P : Program) (t : TypeId) (k e : outParam TypeId) : Prop where
  h : P.underlying t = some (.map k e)
def Q3C (d:Option TypeDesc) (k:Nat):Option (Nat×TypeId):=match d with
 | some (.struct a)=>(a[k]?).map fun f=>(f.offset,f.type)
 | _=>none
class TF (P : Program) (t : TypeId) (k : Nat) (off : outParam Nat) (ft : outParam TypeId) : Prop where
  h : Q3C (P.underlying t) k = some (off, ft)
variable {P : Program} {w w0 w1 w' w'' : World} {K : Value → World → Prop}
theorem TZ.info {t:TypeId} {sz b:Nat} {z:Value} (h:TZ P t sz b z): ∃i,P.info? t=some i∧i.size=sz∧i.bytes=b∧i.zero=some z:=by
 obtain ⟨i,a,e⟩:=Option.map_eq_some_iff.1 h.h
 simp only[Prod.mk.injEq] at e
 exact ⟨i,a,e.1,e.2.1,e.2.2⟩
theorem W5 {t:TypeId} {sz b:Nat} {z:Value} (h:TZ P t sz b z) (w:World):(sizeOf t).run P w= .ok sz w:=by
 obtain ⟨i,a,rfl,_⟩:=h.info
 simp[sizeOf,typeInfo,a]
theorem Yq {t:TypeId} {sz b:Nat} {z:Value} (h:TZ P t sz b z) (w:World):(zeroValue t).run P w= .ok z w:=by
 obtain ⟨i,a,_,_,c⟩:=h.info
 simp[zeroValue,typeInfo,a,c]
theorem Je {t:TypeId} {g:Bool} (h:TG P t g) (w:World):(isAgg t).run P w= .ok g w:=by
 have hh:=h.h
 simp only[Prod.mk.injEq] at hh
 obtain ⟨c,b⟩:=hh
 cases a:P.underlying t with
 | none=>rw[a] at b;cases b
 | some d=>
  rw[a] at c
  have:=run_underlying (P:=P) (w:=w) a
  simp only[isAgg,Sem.run_bind,this,Result.andThen_ok]
  cases d<;>simp_all [Q9p]
theorem Ys (a:Addr) (i j:Nat):(a.add i).add j=a.add (i+j):=by
 unfold Addr.add
 by_cases c:i=0
 ·simp[c]
 ·by_cases b:j=0
  ·simp[b]
  ·simp[c,b,Nat.add_assoc]
theorem add_zero (a:Addr):a.add 0=a:=by simp[Addr.add]
theorem B5 (a:Addr) (i:Nat):(a.add i).block=a.block:=by unfold Addr.add;split<;>rfl
theorem Yr (a:Addr) (i:Nat):(a.add i).off=a.off+i:=by unfold Addr.add;split<;>simp_all
theorem K8 {a:Addr} (h:a.spot=none) (i:Nat):(a.add i).spot=none:=by unfold Addr.add;split<;>simp_all
abbrev Q4:=Nat→Option Obj
def X4 (w:World) (σ:Q4):Prop:= ∀b o,σ b=some o→w.heap[b]? =some o
structure Stp (w : World) (σ : Q4) (w' : World) (σ' : Q4) : Prop where
  bel : Below w.heap.size w w'
  sat : X4 w' σ'
  le : ∀ b o, σ b = some o → σ' b = some o
  old : ∀ b, b < w.heap.size → σ' b = σ b
theorem X4.lt {σ:Q4} (h:X4 w σ) {b:Nat} {o:Obj} (a:σ b=some o):b<w.heap.size:=(Array.getElem?_eq_some_iff.1 (h b o a)).1
theorem X4.below {σ:Q4} (h:X4 w σ) (a:Below w.heap.size w w'):X4 w' σ:=fun b o e=>(a.block b (h.lt e)).trans (h b o e)
theorem Stp.refl {σ:Q4} (h:X4 w σ):Stp w σ w σ:=⟨Below.refl _ _,h,fun _ _ e=>e,fun _ _=>rfl⟩
theorem Stp.trans {σ0 σ1 c:Q4} (h:Stp w σ0 w' σ1) (k:Stp w' σ1 w'' c):Stp w σ0 w'' c:=
 ⟨h.bel.trans (k.bel.mono h.bel.size),k.sat,fun b o e=>k.le b o (h.le b o e),fun b a=>(k.old b (Nat.lt_of_lt_of_le a h.bel.size)).trans (h.old b a)⟩
theorem Stp.of_below {σ:Q4} (h:X4 w σ) (a:Below w.heap.size w w'):Stp w σ w' σ:=⟨a,h.below a,fun _ _ e=>e,fun _ _=>rfl⟩
def Q4.put (σ:Q4) (b:Nat) (o:Obj):Q4:=fun k=>if k=b then some o else σ k
theorem X4.none {σ:Q4} (h:X4 w σ) {b:Nat} (a:w.heap.size≤b):σ b=none:=by
 cases e:σ b with
 | none=>rfl
 | some o=>have:=h.lt e;omega
theorem Stp.alloc {σ:Q4} (h:X4 w σ) (o:Obj):Stp w σ (w.alloc o) (σ.put w.heap.size o):=by
 refine ⟨(Below.refl _ _).alloc (Nat.le_refl _) o,?_,?_,?_⟩
 ·intro b p e
  by_cases a:b=w.heap.size
  ·subst a
   simp only[Q4.put,if_true] at e
   cases e
   exact heap_alloc_new w o
  ·simp only[Q4.put,if_neg a] at e
   rw[Below.heap_alloc w o b (h.lt e)];exact h b p e
 ·intro b p e
  have:=h.lt e
  simp only[Q4.put];rw[if_neg (by omega)];exact e
 ·intro b a
  simp only[Q4.put];rw[if_neg (by omega)]
theorem Stp.own {σ:Q4} (h:X4 w σ) (o:Obj):Stp w σ (w.alloc o) σ:=Stp.of_below h ((Below.refl _ _).alloc (Nat.le_refl _) o)
def Z0 (σ:Q4) (a:Addr) (cs:List Value):Prop:=a.spot=none∧ ∃E1 e b,σ a.block=some (.cells E1 e b)∧ ∀i v,cs[i]? =some v→E1[a.off+i]? =some v
theorem Z0.up {σ σ':Q4} {a:Addr} {cs:List Value} (h:Z0 σ a cs) (c:Stp w σ w' σ'):Z0 σ' a cs:=by
 obtain ⟨g,E1,e,d,f,b⟩:=h
 exact ⟨g,E1,e,d,c.le _ _ f,b⟩
theorem Z0.cell {σ:Q4} {a:Addr} {cs:List Value} (h:Z0 σ a cs) (b:X4 w σ) {i:Nat} {v:Value} (g:cs[i]? =some v):w.cell? (a.add i)=some v:=by
 obtain ⟨f,E1,e,j,d,c⟩:=h
 have:=b _ _ d
 unfold World.cell?
 rw[B5,this,Yr,K8 f]
 exact c i v g
def Z9 (σ:Q4) (w:World) (b:Nat) (cs:List Value):Prop:=σ b=none∧ ∃e,w.heap[b]? =some (.cells cs.toArray e (0,0))
theorem Z9.lt {σ:Q4} {b:Nat} {cs:List Value} (h:Z9 σ w b cs):b<w.heap.size:=by
 obtain ⟨_,e,h⟩:=h
 exact (Array.getElem?_eq_some_iff.1 h).1
theorem Z9.up {σ σ':Q4} {b:Nat} {cs:List Value} (h:Z9 σ w b cs) (a:Stp w σ w' σ'):Z9 σ' w' b cs:=by
 have c:=h.lt
 obtain ⟨f,e,d⟩:=h
 exact ⟨(a.old b c).trans f,e,(a.bel.block b c).trans d⟩
theorem Z9.cell {σ:Q4} {b:Nat} {cs:List Value} (h:Z9 σ w b cs) {i:Nat} {v:Value} (c:cs[i]? =some v):w.cell? ((⟨b,0,none⟩:Addr).add i)=some v:=by
 obtain ⟨_,e,a⟩:=h
 unfold World.cell?
 rw[B5,Yr,K8 rfl]
 simp only[a]
 simpa using c
theorem Z9.keep {σ σ0:Q4} {b:Nat} {cs:List Value} (h:Z9 σ w b cs) (d:Stp w0 σ0 w σ) (m:w0.heap.size≤b): ∃σ',Stp w0 σ0 w σ'∧Z0 σ' ⟨b,0,none⟩ cs∧(∀k o,σ k=some o→σ' k=some o)∧(∀k,k≠b→σ' k=σ k):=by
 obtain ⟨g,e,j⟩:=h
 refine ⟨σ.put b (.cells cs.toArray e (0,0)),⟨d.bel,?_,?_,?_⟩,⟨rfl,cs.toArray,e,(0,0),by simp[Q4.put],?_⟩,?_,?_⟩
 ·intro k o c
  by_cases a:k=b
  ·subst a;simp only[Q4.put,if_true] at c;cases c;exact j
  ·simp only[Q4.put,if_neg a] at c;exact d.sat k o c
 ·intro k o c
  by_cases a:k=b
  ·subst a;have:=d.le _ _ c;rw[g] at this;cases this
  ·simp only[Q4.put,if_neg a];exact d.le _ _ c
 ·intro k f
  simp only[Q4.put];rw[if_neg (by omega)];exact d.old k f
 ·intro i v l;simpa using l
 ·intro k o c
  by_cases a:k=b
  ·subst a;rw[g] at c;cases c
  ·simp only[Q4.put,if_neg a];exact c
 ·intro k a;simp only[Q4.put,if_neg a]
theorem Q7W (t:TypeId) (v:Value) (w:World):(Instr.box t v).run P w= .ok (.pointer (some ⟨w.heap.size,0,none⟩)) (w.alloc (.cells v.cells t)):=by
 simp[Instr.box,newVar,newRow]
theorem Q2V {σ:Q4} (a:X4 w σ) (cs:Array Value) (t:TypeId):Z9 σ (w.alloc (.cells cs t)) w.heap.size cs.toList:=
 ⟨a.none (Nat.le_refl _),t,by simpa using heap_alloc_new w (.cells cs t)⟩
theorem Q8H {σ:Q4} (cs:Array Value) (t:TypeId):Z0 (σ.put w.heap.size (.cells cs t)) ⟨w.heap.size,0,none⟩ cs.toList:=
 ⟨rfl,cs,t,(0,0),by simp[Q4.put],fun i v h=>by simpa using h⟩
theorem N7 {σ:Q4} {t:TypeId} {v:Value} (b:X4 w σ) (h: ∀a w' σ',Stp w σ w' σ'→Z0 σ' a v.cells.toList→K (.pointer (some a)) w'):box P t v w K:=by
 unfold box;rw[Y2 (Q7W t v w)]
 exact h _ _ _ (Stp.alloc b _) (Q8H _ t)
theorem X15 {σ:Q4} {t:TypeId} {v:Value} (a:X4 w σ) (h: ∀b w',w.heap.size≤b→Stp w σ w' σ→Z9 σ w' b v.cells.toList→K (.pointer (some ⟨b,0,none⟩)) w'):box P t v w K:=by
 unfold box;rw[Y2 (Q7W t v w)]
 exact h _ _ (Nat.le_refl _) (Stp.own a _) (Q2V a _ t)
theorem Sj {σ:Q4} {t:TypeId} {sz by_:Nat} {z:Value} [tz:TZ P t sz by_ z] (a:X4 w σ) (h: ∀b w',w.heap.size≤b→Stp w σ w' σ→Z9 σ w' b z.cells.toList→K (.pointer (some ⟨b,0,none⟩)) w'):L3 P t w K:=by
 unfold L3
 have:(Instr.alloc t true (.tuple #[])).run P w= .ok (.pointer (some ⟨w.heap.size,0,none⟩)) (w.alloc (.cells z.cells t)):=by
  simp[Instr.alloc,Yq tz,newVar,newRow]
 rw[Y2 this]
 exact h _ _ (Nat.le_refl _) (Stp.own a _) (Q2V a _ t)
theorem P8 {t:TypeId} [tg:TG P t false] {a:Addr} {v:Value} (b:w.cell? a=some v) (h:K v w):Q2 P t (.pointer (some a)) w K:=by
 unfold Q2
 rw[Y2 (v:=v) (w':=w) (by simp[Instr.loadAt,Instr.sureAddr,loadVar,Je tg,b])]
 exact h
theorem So {t:TypeId} {sz by_:Nat} {z:Value} [tg:TG P t true] [tz:TZ P t sz by_ z] {a:Addr} {cs:List Value} (b:cs.length=sz) (c: ∀j v,cs[j]? =some v→w.cell? (a.add j)=some v) (h:K (.agg cs.toArray) w):Q2 P t (.pointer (some a)) w K:=by
 unfold Q2
 have:=run_loadCells_list (P:=P) w a cs c
 rw[b] at this
 rw[Y2 (v:= .agg cs.toArray) (w':=w) (by simp[Instr.loadAt,Instr.sureAddr,loadVar,Je tg,W5 tz,this])]
 exact h
theorem ld {σ:Q4} {t:TypeId} [TG P t false] {a:Addr} {cs:List Value} {i:Nat} {v:Value} (b:X4 w σ) (c:Z0 σ a cs) (d:cs[i]? =some v) (h:K v w):Q2 P t (.pointer (some (a.add i))) w K:=
 P8 (c.cell b d) h
theorem Y0 {σ:Q4} {t:TypeId} [TG P t false] {a:Addr} {cs:List Value} {v:Value} (b:X4 w σ) (c:Z0 σ a cs) (d:cs[0]? =some v) (h:K v w):Q2 P t (.pointer (some a)) w K:=by
 have:=ld (P:=P) (t:=t) b c d h
 rwa [add_zero] at this
theorem Z2 {σ:Q4} {t:TypeId} {sz by_:Nat} {z:Value} [TG P t true] [TZ P t sz by_ z] {a:Addr} {cs:List Value} (b:X4 w σ) (d:Z0 σ a cs) (c:cs.length=sz) (h:K (.agg cs.toArray) w):Q2 P t (.pointer (some a)) w K:=
 So c (fun _ _ f=>d.cell b f) h
theorem B4 {σ:Q4} {t:TypeId} [TG P t false] {b:Nat} {cs:List Value} {i:Nat} {v:Value} (a:Z9 σ w b cs) (c:cs[i]? =some v) (h:K v w):Q2 P t (.pointer (some ((⟨b,0,none⟩:Addr).add i))) w K:=
 P8 (a.cell c) h
theorem X0I {σ:Q4} {t:TypeId} [TG P t false] {b:Nat} {cs:List Value} {v:Value} (a:Z9 σ w b cs) (c:cs[0]? =some v) (h:K v w):Q2 P t (.pointer (some ⟨b,0,none⟩)) w K:=by
 have:=B4 (P:=P) (t:=t) a c h
 rwa [add_zero] at this
theorem Q8z {σ:Q4} {t:TypeId} {sz by_:Nat} {z:Value} [TG P t true] [TZ P t sz by_ z] {b:Nat} {cs:List Value} (a:Z9 σ w b cs) (c:cs.length=sz) (h:K (.agg cs.toArray) w):Q2 P t (.pointer (some ⟨b,0,none⟩)) w K:=
 So c (fun _ _ d=>a.cell d) h
theorem W6 {t:TypeId} {sz by_:Nat} {z:Value} [tg:TG P t true] [tz:TZ P t sz by_ z] {σ:Q4} {b:Nat} {cs:List Value} {K:Value→Prop} (a:Z9 σ w b cs) (c:cs.length=sz) (h:K (.agg cs.toArray)):W2 P t (.pointer (some ⟨b,0,none⟩)) w K:=by
 rw[Q3n]
 refine ⟨_,?_,h⟩
 have:=run_loadCells_list (P:=P) w ⟨b,0,none⟩ cs (fun _ _ d=>a.cell d)
 rw[c] at this
 simp[asAddr,loadVar,Je tg,W5 tz,this]
structure Upd (w : World) (b : Nat) (w' : World) : Prop where
  os : w'.os = w.os
  tape : w'.tape = w.tape
  output : w'.output = w.output
  size : w'.heap.size = w.heap.size
  block : ∀ k, k ≠ b → w'.heap[k]? = w.heap[k]?
theorem Upd.stp {σ0 σ:Q4} {b:Nat} (c:Upd w b w') (a:Stp w0 σ0 w σ) (h:w0.heap.size≤b) (f:σ b=none):Stp w0 σ0 w' σ:=by
 refine ⟨⟨c.os.trans a.bel.os,c.tape.trans a.bel.tape,c.output.trans a.bel.output,by rw[c.size];exact a.bel.size,fun k g=>(c.block k (by omega)).trans (a.bel.block k g)⟩,?_,a.le,a.old⟩
 intro k o d
 rw[c.block k (by intro e;subst e;rw[f] at d;cases d)]
 exact a.sat k o d
theorem Z9.upd {σ:Q4} {b k:Nat} {cs:List Value} (h:Z9 σ w k cs) (c:Upd w b w') (a:k≠b):Z9 σ w' k cs:=by
 obtain ⟨f,e,d⟩:=h
 exact ⟨f,e,(c.block k a).trans d⟩
theorem Wu {b:Nat} {cs:Array Value} {a:Array Value} {e:TypeId} (h:w.heap[b]? =some (.cells a e (0,0))):Upd w b (w.setRow b cs)∧(w.setRow b cs).heap[b]? =some (.cells cs e (0,0)):=by
 have d:=(Array.getElem?_eq_some_iff.1 h).1
 refine ⟨⟨rfl,rfl,rfl,by simp[World.setRow],fun k c=>?_⟩,?_⟩
 ·simp only[World.setRow,Array.getElem?_modify]
  rw[if_neg (by omega)]
 ·simp only[World.setRow,Array.getElem?_modify,if_true,h]
  rfl
theorem sta {t:TypeId} {sz by_:Nat} {z:Value} [tz:TZ P t sz by_ z] {σ:Q4} {b:Nat} {cs ds:List Value} (j:Z9 σ w b cs) (k:cs.length=sz) (c:ds.length=sz) (l:ds.toArray.all (·.oneCell')=true)
 (h: ∀w',Upd w b w'→Z9 σ w' b ds→K undef w'):Z6 P t (.pointer (some ⟨b,0,none⟩)) (.agg ds.toArray) w K:=by
 obtain ⟨f,e,d⟩:=j
 unfold Z6
 obtain ⟨i,g,a,_⟩:=tz.info
 have:=run_storeVar_row (P:=P) w b e t cs.toArray ds.toArray d (by simp[g,a,c]) (by simp[k,c]) l
 rw[Wk (w':=w.setRow b ds.toArray) (by simpa [Instr.storeAt,Instr.sureAddr] using this)]
 obtain ⟨m,hh⟩:=Wu (cs:=ds.toArray) d
 exact h _ m ⟨f,e,hh⟩
theorem Q8i {cs:List Value} {i:Nat} {v:Value} (a:i<cs.length):(cs.take i++[v]++cs.drop (i+1))=cs.set i v:=by
 rw[List.set_eq_take_append_cons_drop,if_pos a];simp
theorem Og {t:TypeId} {by_:Nat} {z:Value} [tz:TZ P t 1 by_ z] {σ:Q4} {b i:Nat} {cs:List Value} {v:Value} (j:Z9 σ w b cs) (f:i<cs.length) (l:v.cells= #[v]) (k:v.oneCell'=true)
 (h: ∀w',Upd w b w'→Z9 σ w' b (cs.set i v)→K undef w'):Z6 P t (.pointer (some ((⟨b,0,none⟩:Addr).add i))) v w K:=by
 obtain ⟨d,e,c⟩:=j
 unfold Z6
 have a:(⟨b,0,none⟩:Addr).add i=⟨b,i,none⟩:=by unfold Addr.add;split<;>simp_all
 have:=run_storeCells_at P b i e [v] 0 cs.toArray w c (by simp;omega) (by simpa using k)
 simp only[Nat.add_zero] at this
 obtain ⟨m,hh⟩:=Wu (cs:=(cs.set i v).toArray) c
 have g:(List.take i cs.toArray.toList++[v]++List.drop (i+[v].length) cs.toArray.toList).toArray=(cs.set i v).toArray:=by
  rw[←Q8i f];simp
 rw[g] at this
 rw[Wk (w':=w.setRow b (cs.set i v).toArray) (by simp[Instr.storeAt,Instr.sureAddr,a,storeVar,W5 tz,l,this])]
 exact h _ m ⟨d,e,hh⟩
theorem st0 {t:TypeId} {by_:Nat} {z:Value} [tz:TZ P t 1 by_ z] {σ:Q4} {b:Nat} {cs:List Value} {v:Value} (a:Z9 σ w b cs) (c:0<cs.length) (d:v.cells= #[v]) (f:v.oneCell'=true)
 (h: ∀w',Upd w b w'→Z9 σ w' b (cs.set 0 v)→K undef w'):Z6 P t (.pointer (some ⟨b,0,none⟩)) v w K:=by
 have:=Og (P:=P) (t:=t) a c d f h
 rwa [add_zero] at this
class NZ (n : Nat) : Prop where
  h : (n == 0) = false
instance (n:Nat):NZ (n+1):=⟨rfl⟩
theorem fa {t:TypeId} {k b:Nat} {c:TypeId} {sz by_:Nat} {z:Value} [tf:TF P t k b c] [tz:TZ P c sz by_ z] [nz:NZ sz] {a:Addr}:fieldAddr P t (.pointer (some a)) k w K=K (.pointer (some (a.add b))) w:=by
 unfold fieldAddr
 have hh:=tf.h
 unfold Q3C at hh
 split at hh
 ·rename_i n i
  obtain ⟨f,g,d⟩:=Option.map_eq_some_iff.1 hh
  simp only[Prod.mk.injEq] at d
  obtain ⟨l,j⟩:=d
  subst j l
  have m: ¬sz=0:=by simpa using nz.h
  exact Y2 (by simp[Instr.fieldAt,run_underlying i,g,Instr.sureAddr,fieldPlace,W5 tz,m])
 ·cases hh
theorem Rf {t e:TypeId} {sz by_:Nat} {z:Value} [ts:TS P t e] [tz:TZ P e sz by_ z] {a:Addr} {n b:Nat} {k:IntKind} {i:Int} (c:0≤i) (d:i<n):indexAddr P t (.slice (some a) n b) (.int k i) w K=K (.pointer (some (a.add (i.toNat*sz)))) w:=by
 unfold indexAddr
 exact Y2 (by simp[Instr.indexAt,run_underlying ts.h,asIntOf,W5 tz,c,d])
theorem Q5G {t e:TypeId} {n sz by_:Nat} {z:Value} [ta:TA P t n e] [tz:TZ P e sz by_ z] {a:Addr} {k:IntKind} {i:Int} (b:0≤i) (c:i<n):indexAddr P t (.pointer (some a)) (.int k i) w K=K (.pointer (some (a.add (i.toNat*sz)))) w:=by
 unfold indexAddr
 exact Y2 (by simp[Instr.indexAt,run_underlying ta.h,asIntOf,Instr.sureAddr,W5 tz,b,c])
theorem H7 {a:Addr}:nilCheck P (.pointer (some a)) w K=K (.pointer (some a)) w:=by
 unfold nilCheck
 rw[Qu];unfold T5
 simp[execOp]
class Rep {α : Type} (R : Q4 → α → List Value → Prop) : Prop where
  up : ∀ {σ σ' : Q4} {x : α} {cs : List Value}, (∀ b o, σ b = some o → σ' b = some o) → R σ x cs → R σ' x cs
  one : ∀ {σ : Q4} {x : α} {cs : List Value}, R σ x cs → ∀ u ∈ cs, u.oneCell' = true
def Sl {α:Type} (sz:Nat) (R:Q4→α→List Value→Prop) (σ:Q4) (v:Value) (xs:List α):Prop:=
 ∃a c,v= .slice a xs.length c∧xs.length≤c∧c≤maxLen∧(a=none→c=0)∧
  ∀b,a=some b→(0<xs.length→b.spot=none)∧ ∀i x,xs[i]? =some x→ ∃cs,Z0 σ (b.add (i*sz)) cs∧cs.length=sz∧R σ x cs
theorem Z0.le {σ σ':Q4} {a:Addr} {cs:List Value} (h:Z0 σ a cs) (f: ∀b o,σ b=some o→σ' b=some o):Z0 σ' a cs:=by
 obtain ⟨i,E1,e,d,g,c⟩:=h
 exact ⟨i,E1,e,d,f _ _ g,c⟩
section
variable {α : Type} {R : Q4 → α → List Value → Prop} {sz : Nat} {σ σ' : Q4} {v : Value} {xs : List α}
theorem Sl.le [hr:Rep R] (h:Sl sz R σ v xs) (d: ∀b o,σ b=some o→σ' b=some o):Sl sz R σ' v xs:=by
 obtain ⟨a,c,p,m,k,r,g⟩:=h
 refine ⟨a,c,p,m,k,r,fun b f=>⟨(g b f).1,fun i x l=>?_⟩⟩
 obtain ⟨cs,n,q,j⟩:=(g b f).2 i x l
 exact ⟨cs,n.le d,q,hr.up d j⟩
theorem Sl.up [Rep R] (h:Sl sz R σ v xs) (a:Stp w σ w' σ'):Sl sz R σ' v xs:=h.le a.le
theorem Sl.max (h:Sl sz R σ v xs):xs.length≤9223372036854775807:=by
 obtain ⟨a,c,g,d,b,f⟩:=h
 simp only[maxLen] at b;omega
theorem Sl.nil:Sl sz R σ (.slice none 0 0) ([]:List α):=⟨none,0,rfl,by simp,by simp,fun _=>rfl,fun b a=>by cases a⟩
theorem Q8b {c e t:TypeId} {cs:List Bool} [ts:TS P c e] {a:Option Addr} {n b:Nat}:X5 P .len [c] t cs [.slice a n b] w K=K (I n) w:=by
 have h:(Builtin.len_ #[c] t #[.slice a n b]).run P w= .ok (I n) w:=by
  simp[Builtin.len_,run_underlying ts.h,goInt]
 exact Y2 h
theorem X3c {b e t:TypeId} {cs:List Bool} [ts:TS P b e] (h:Sl sz R σ v xs):X5 P .len [b] t cs [v] w K=K (I xs.length) w:=by
 obtain ⟨a,c,rfl,_⟩:=h
 exact Q8b
theorem X4h {t e:TypeId} {by_:Nat} {z:Value} [TS P t e] [TZ P e sz by_ z] (h:Sl sz R σ v xs) {k:IntKind} {i:Int} (o:0≤i) (g:i.toNat<xs.length)
 (d: ∀a cs,Z0 σ a cs→cs.length=sz→R σ xs[i.toNat] cs→K (.pointer (some a)) w):indexAddr P t v (.int k i) w K:=by
 obtain ⟨a,j,rfl,q,p,n,m⟩:=h
 cases a with
 | none=>have:=n rfl;omega
 | some b=>
  rw[Rf o (by omega)]
  obtain ⟨cs,f,l,c⟩:=(m b rfl).2 i.toNat xs[i.toNat] (by simp[g])
  exact d _ cs f l c
end
theorem Stp.turn {σ0 σ:Q4} {row:Option Nat} (b:w.grownBy w' row) (a:Stp w0 σ0 w σ) (d: ∀k,row=some k→w0.heap.size≤k∧σ k=none):Stp w0 σ0 w' σ:=by
 refine ⟨⟨b.os.trans a.bel.os,b.tape.trans a.bel.tape,b.output.trans a.bel.output,Nat.le_trans a.bel.size b.size,fun k f=>?_⟩,?_,a.le,a.old⟩
 ·refine (b.block k (Nat.lt_of_lt_of_le f a.bel.size) ?_).trans (a.bel.block k f)
  intro e;have:=(d k e.symm).1;omega
 ·intro k o c
  refine (b.block k (a.sat.lt c) ?_).trans (a.sat k o c)
  intro e;rw[(d k e.symm).2] at c;cases c
def V3 {α:Type} (B:Nat) (e:TypeId) (sz:Nat) (R:Q4→α→List Value→Prop) (σ:Q4) (w:World) (v:Value) (xs:List α):Prop:=
 ∃cells,w.ownsRow B e sz v xs.length cells∧(∀k,v.ownBlock=some k→σ k=none)∧ ∀i x,xs[i]? =some x→R σ x ((cells.drop (i*sz)).take sz)
section
variable {α : Type} {R : Q4 → α → List Value → Prop} {B sz : Nat} {e : TypeId} {σ σ' : Q4} {v u : Value} {xs ys : List α}
theorem V3.nil:V3 B e sz R σ w (.slice none 0 0) ([]:List α):=⟨[],World.ownsRow_nil w B e sz,by intro k a;simp[Value.ownBlock] at a,by intro i x h;simp at h⟩
theorem V3.mem (h:V3 B e sz R σ w v xs): ∀k,v.ownBlock=some k→B≤k∧k<w.heap.size∧σ k=none:=by
 obtain ⟨cells,f,d,_⟩:=h
 intro k c
 obtain ⟨a,b⟩:=f.lt k c
 exact ⟨a,b,d k c⟩
theorem V3.up [hr:Rep R] (h:V3 B e sz R σ w v xs) (a:Stp w σ w' σ'):V3 B e sz R σ' w' v xs:=by
 obtain ⟨cells,c,g,d⟩:=h
 refine ⟨cells,c.kept ⟨a.bel.os,a.bel.tape,a.bel.output,a.bel.size,fun k j _=>a.bel.block k j⟩ (by cases b:v.ownBlock<;>simp) (row:=none),?_,fun i x f=>hr.up a.le (d i x f)⟩
 intro k b
 rw[a.old k (c.lt k b).2];exact g k b
theorem Sl.cells (h:Sl sz R σ v xs) (J:X4 w σ) [hr:Rep R]: ∃(a:Option Addr) (d:Nat) (c:List Value),v= .slice a xs.length d∧(a=none→d=0)∧c.length=xs.length*sz∧(∀b,a=some b→ ∀j u,c[j]? =some u→w.cell? (b.add j)=some u)∧(∀u∈c,u.oneCell'=true)∧
 ∀i x,xs[i]? =some x→R σ x ((c.drop (i*sz)).take sz):=by
 obtain ⟨a,d,rfl,N,M,q,A⟩:=h
 cases a with
 | none=>
  have Q:=q rfl
  have f:xs=[]:=List.eq_nil_of_length_eq_zero (by omega)
  subst f
  exact ⟨none,d,[],rfl,q,by simp,fun b H=>(by cases H),by simp,by simp⟩
 | some b=>
  obtain ⟨D,m⟩:=A b rfl
  clear A
  have key: ∀(ys:List α) (k:Nat),(∀i x,ys[i]? =some x→ ∃cs,Z0 σ (b.add ((k+i)*sz)) cs∧cs.length=sz∧R σ x cs)→
   ∃c:List Value,c.length=ys.length*sz∧(∀j u,c[j]? =some u→w.cell? (b.add (k*sz+j))=some u)∧(∀u∈c,u.oneCell'=true)∧ ∀i x,ys[i]? =some x→R σ x ((c.drop (i*sz)).take sz):=by
   intro ys
   induction ys with
   | nil=>intro k _;exact ⟨[],by simp,by simp,by simp,by simp⟩
   | cons y r C=>
    intro k s
    obtain ⟨cs,E,z,t⟩:=s 0 y rfl
    obtain ⟨c,p,n,g,o⟩:=C (k+1) (fun i x f=>by
     have:=s (i+1) x (by simpa using f)
     rwa [show k+1+i=k+(i+1) by omega])
    refine ⟨cs++c,by simp[p,z,Nat.add_mul,Nat.add_comm],?_,?_,?_⟩
    ·intro j u hu
     by_cases L:j<sz
     ·rw[List.getElem?_append_left (by omega)] at hu
      have:=E.cell J hu
      rwa [Ys,Nat.add_zero] at this
     ·rw[List.getElem?_append_right (by omega)] at hu
      have:=n _ _ hu
      rwa [z,show (k+1)*sz+(j-sz)=k*sz+j by rw[Nat.add_mul];omega] at this
    ·intro u hu
     rcases List.mem_append.1 hu with hu | hu
     ·exact hr.one t u hu
     ·exact g u hu
    ·intro i x f
     cases i with
     | zero=>
      simp at f;subst f
      simp only[Nat.zero_mul,List.drop_zero]
      rw[List.take_append_of_le_length (by omega),List.take_of_length_le (by omega)];exact t
     | succ i=>
      have:=o i x (by simpa using f)
      rw[show (i+1)*sz=cs.length+i*sz by rw[Nat.add_mul];omega,List.drop_append]
      simpa [List.drop_eq_nil_of_le] using this
  obtain ⟨c,p,n,g,o⟩:=key xs 0 (fun i x f=>by rw[Nat.zero_add];exact m i x f)
  refine ⟨some b,d,c,rfl,q,p,?_,g,o⟩
  intro O l j u hu
  cases l
  have:=n j u hu
  rwa [Nat.zero_mul,Nat.zero_add] at this
end
section
variable {α : Type} {R : Q4 → α → List Value → Prop} {sz : Nat} {e : TypeId} {σ σ0 : Q4} {v u : Value} {xs ys : List α}
theorem Vm (cells a:List Value) (n i:Nat) (c:cells.length=n*sz) (b:i<n):((cells++a).drop (i*sz)).take sz=(cells.drop (i*sz)).take sz:=by
 have h:i*sz+sz≤n*sz:=by rw[←Nat.succ_mul];exact Nat.mul_le_mul_right _ b
 rw[List.drop_append_of_le_length (by omega),List.take_append_of_le_length (by simp only[List.length_drop];omega)]
theorem app {t s:TypeId} {by_:Nat} {z:Value} {cs:List Bool} [ts:TS P t e] [tz:TZ P e sz by_ z] [hr:Rep R] (C:Stp w0 σ0 w σ) (ha:V3 w0.heap.size e sz R σ w v xs) (W:Sl sz R σ u ys) (J:(z.cells.size==sz&&decide (0<sz))=true)
 (hb:(xs.length+ys.length)*by_≤140737488355328) (hm:xs.length+ys.length≤9223372036854775807)
 (h: ∀d w',w.grownBy w' v.ownBlock→Stp w0 σ0 w' σ→V3 w0.heap.size e sz R σ w' d (xs++ys)→(d.ownBlock=v.ownBlock∨ ∀k,d.ownBlock=some k→w.heap.size≤k)→K d w'):X5 P .append [t,t] s cs [v,u] w K:=by
 obtain ⟨cells,r,O,h3⟩:=ha
 obtain ⟨a,l,c,rfl,V,U,Z,n4,n5⟩:=W.cells C.sat
 obtain ⟨i,D,L,M,o⟩:=tz.info
 have q: ∀d w',(Builtin.append_ #[t,t] s #[v, .slice a ys.length l]).run P w= .ok d w'→w'.ownsRow w0.heap.size e sz d (xs.length+ys.length) (cells++c)→w.grownBy w' v.ownBlock→(d.ownBlock=v.ownBlock∨d.ownBlock=some w.heap.size)→X5 P .append [t,t] s cs [v, .slice a ys.length l] w K:=by
  intro d w' y f m hat
  have p:(builtin .append #[t,t] s cs.toArray #[v, .slice a ys.length l]).run P w= .ok (.value d) w':=by
   simp[builtin,y]
  unfold X5
  rw[Qu];unfold T5
  rw[p]
  refine h d w' m (Stp.turn m C fun k n=>⟨(r.lt k n).1,O k n⟩) ⟨cells++c,by rw[List.length_append];exact f,?_,?_⟩ ?_
  ·intro k n
   rcases hat with hat | hat
   ·exact O k (hat▸n)
   ·rw[hat] at n;cases n;exact C.sat.none (Nat.le_refl _)
  ·intro j x A
   by_cases N:j<xs.length
   ·rw[List.getElem?_append_left N] at A
    rw[Vm cells c xs.length j r.1 N]
    exact h3 j x A
   ·rw[List.getElem?_append_right (by omega)] at A
    have:=n5 _ _ A
    rw[show j*sz=cells.length+(j-xs.length)*sz by rw[r.1,←Nat.add_mul];congr 1;omega,List.drop_append]
    simpa [List.drop_eq_nil_of_le] using this
  ·rcases hat with hat | hat
   ·exact .inl hat
   ·right;intro k n;rw[hat] at n;cases n;exact Nat.le_refl _
 simp only[Bool.and_eq_true,beq_iff_eq,decide_eq_true_eq] at J
 cases a with
 | some b=>
  obtain ⟨d,w',g1,g2,g3,_,X⟩:=run_append_own_at (P:=P) w w0.heap.size t s e i z sz by_ ts.h D o L M J.1 J.2 v xs.length cells r b ys.length l c U (Z b rfl) n4 (by simp only[maxLen];omega) hb C.bel.size
  exact q d w' g1 g2 g3 X
 | none=>
  have Y:ys=[]:=List.eq_nil_of_length_eq_zero (by obtain ⟨a',Q,e',q1,_,q3,_⟩:=W;injection e' with _ e2 e3;have:=V rfl;subst e3;omega)
  have E:=V rfl
  subst Y E
  have hn:c=[]:=List.eq_nil_of_length_eq_zero (by simpa using U)
  subst hn
  have f:=r
  rcases r.2 with ⟨rfl,h0⟩ | ⟨g,l,ag,rfl,ai,hg,H,_⟩
  ·refine q (.slice none 0 0) w ?_ (by simpa using f) (World.grownBy.refl w _) (.inl rfl)
   simp[Builtin.append_,run_underlying ts.h,sizeOf,typeInfo,D,Builtin.lenOf,Builtin.firstCells]
  ·refine q _ w ?_ (by simpa using f) (World.grownBy.refl w _) (.inl rfl)
   simp[Builtin.append_,run_underlying ts.h,sizeOf,typeInfo,D,Builtin.lenOf,Builtin.firstCells,H,storeCells]
end
section
variable {α : Type} {R : Q4 → α → List Value → Prop} {sz : Nat} {e : TypeId} {σ σ0 : Q4} {v u : Value} {xs ys : List α}
theorem Q4.put_le {w:World} (d:X4 w σ) {b:Nat} (h:σ b=none) (o:Obj): ∀k p,σ k=some p→(σ.put b o) k=some p:=by
 intro k p c
 by_cases a:k=b
 ·subst a;rw[h] at c;cases c
 ·simp only[Q4.put,if_neg a];exact c
theorem Stp.put {b:Nat} {o:Obj} (d:Stp w0 σ0 w σ) (f:σ b=none) (h:w0.heap.size≤b) (g:w.heap[b]? =some o):Stp w0 σ0 w (σ.put b o):=by
 refine ⟨d.bel,?_,fun k p a=>Q4.put_le d.sat f o k p (d.le k p a),?_⟩
 ·intro k p a
  by_cases c:k=b
  ·subst c;simp only[Q4.put,if_true] at a;cases a;exact g
  ·simp only[Q4.put,if_neg c] at a;exact d.sat k p a
 ·intro k a
  simp only[Q4.put];rw[if_neg (by omega)];exact d.old k a
theorem V3.keep [hr:Rep R] (h:V3 w0.heap.size e sz R σ w v xs) (n:Stp w0 σ0 w σ): ∃σ',Stp w0 σ0 w σ'∧Sl sz R σ' v xs∧(∀k o,σ k=some o→σ' k=some o)∧(∀k,some k≠v.ownBlock→σ' k=σ k):=by
 obtain ⟨cells,t,D,A⟩:=h
 rcases t.2 with ⟨rfl,J⟩ | ⟨g,q,c,rfl,E,z,p,f,H,m⟩
 ·have:xs=[]:=List.eq_nil_of_length_eq_zero J
  subst this
  exact ⟨σ,n,Sl.nil,fun _ _ h=>h,fun _ _=>rfl⟩
 ·have r:=D g rfl
  have a:=Q4.put_le n.sat r (.cells c e (0,0))
  refine ⟨σ.put g (.cells c e (0,0)),n.put r E z,⟨_,q,rfl,p,f,by simp,?_⟩,a,?_⟩
  ·intro b l
   cases l
   refine ⟨fun _=>rfl,fun i x s=>⟨(cells.drop (i*sz)).take sz,⟨K8 rfl _,c,e,(0,0),by rw[B5];simp[Q4.put],?_⟩,?_,hr.up a (A i x s)⟩⟩
   ·intro j u d
    rw[Yr]
    rw[List.getElem?_take] at d
    split at d
    ·rw[List.getElem?_drop,←m,List.getElem?_take] at d
     split at d
     ·simpa using d
     ·cases d
    ·cases d
   ·have y:i<xs.length:=(List.getElem?_eq_some_iff.1 s).1
    have h:i*sz+sz≤xs.length*sz:=by rw[←Nat.succ_mul];exact Nat.mul_le_mul_right _ y
    rw[List.length_take,List.length_drop,t.1];omega
  ·intro k C
   have:k≠g:=by intro e;subst e;exact C rfl
   simp only[Q4.put,if_neg this]
theorem Sl.piece {a:Option Addr} {n d:Nat} (h:Sl sz R σ (.slice a n d) xs) (l m:Nat) (O:l+m≤xs.length):Sl sz R σ (.slice (if d=l then a else a.map (·.add (l*sz))) m (d-l)) ((xs.drop l).take m):=by
 obtain ⟨L,k,s,N,M,J,q⟩:=h
 injection s with y t H
 subst y t H
 have c:((xs.drop l).take m).length=m:=by simp;omega
 refine ⟨_,d-l,by rw[c],by rw[c];omega,by omega,?_,?_⟩
 ·intro j
  split at j
  ·omega
  ·cases a with
   | none=>have:=J rfl;omega
   | some b=>simp at j
 ·intro b g
  split at g
  ·rename_i E
   obtain ⟨o,p⟩:=q b g
   have z:m=0:=by omega
   subst z
   exact ⟨fun h=>by simp at h,by simp⟩
  ·cases a with
   | none=>simp at g
   | some C=>
    simp only[Option.map_some,Option.some.injEq] at g
    obtain ⟨o,p⟩:=q C rfl
    subst g
    refine ⟨fun h=>K8 (o (by rw[c] at h;omega)) _,fun i x f=>?_⟩
    rw[List.getElem?_take] at f
    split at f
    ·rw[List.getElem?_drop] at f
     obtain ⟨cs,A,D,r⟩:=p _ _ f
     refine ⟨cs,?_,D,r⟩
     rw[Ys,←Nat.add_mul];exact A
    ·cases f
theorem Bw {t:TypeId} {by_:Nat} {z:Value} [ts:TS P t e] [tz:TZ P e sz by_ z] (h:Sl sz R σ v xs) (d c:Option Value) (l m:Nat) (i:d=none∧l=0∨d=some (I l)) (g:c=none∧m=xs.length∨c=some (I m)) (f:l≤m) (r:m≤xs.length)
 (k: ∀j,Sl sz R σ j ((xs.drop l).take (m-l))→K j w):R6 P t v d c none w K:=by
 have o:=h
 obtain ⟨a,b,rfl,s,q,C,y⟩:=h
 have hh: ∀w:World,(Instr.sliceBounds true xs.length b d c none).run P w= .ok (l,m,b) w:=by
  intro w
  have p:(m:Int)≤b:=by omega
  have A:(l:Int)≤m:=by omega
  have n:m≤b:=by omega
  rcases i with ⟨rfl,rfl⟩ | rfl<;>rcases g with ⟨rfl,rfl⟩ | rfl<;>
   simp[Instr.sliceBounds,Instr.sliceBound,asIntOf,n,f]<;>intros<;>omega
 unfold R6
 have:(Instr.sliceAt t (.slice a xs.length b) d c none).run P w= .ok (.slice (if b=l then a else a.map (·.add (l*sz))) (m-l) (b-l)) w:=by
  simp[Instr.sliceAt,run_underlying ts.h,Instr.slice,hh,W5 tz]
 rw[Y2 this]
 exact k _ (o.piece l (m-l) (by omega))
def en:Nat→List Value→List (Nat×Value)
 | _,[]=>[]
 | i,v::r=>(i,v)::en (i+1) r
theorem X0z (off:Nat): ∀(vs:List Value) (k:Nat) (cs:Array Value),off+k+vs.length≤cs.size→
 ((vs.zipIdx k).foldl (fun cs (p:Value×Nat)=>cs.setIfInBounds (off+p.2) p.1) cs).toList=cs.toList.take (off+k)++vs++cs.toList.drop (off+k+vs.length):=by
 intro vs
 induction vs with
 | nil=>intro k cs _;simp
 | cons v r ih=>
  intro k cs h
  simp only[List.length_cons] at h
  rw[List.zipIdx_cons,List.foldl_cons,ih (k+1) _ (by simp;omega)]
  simp only[Array.toList_setIfInBounds,List.length_cons]
  apply List.ext_getElem?
  intro i
  simp only[List.getElem?_append,List.length_take,List.length_set,Array.length_toList,List.getElem?_take,List.getElem?_drop,List.length_append,List.getElem?_set,List.length_cons]
  rcases Nat.lt_trichotomy i (off+k) with hi | hi | hi
  ·simp[show i<off+(k+1) by omega,hi,show i<min (off+(k+1)) cs.size by omega,show i<min (off+(k+1)) cs.size+r.length by omega,show i<min (off+k) cs.size by omega,show i<min (off+k) cs.size+(r.length+1) by omega,show off+k≠i by omega]
  ·subst hi
   simp[show off+k<off+(k+1) by omega,show off+k<min (off+(k+1)) cs.size by omega,show off+k<min (off+(k+1)) cs.size+r.length by omega,show¬off+k<min (off+k) cs.size by omega,show off+k<min (off+k) cs.size+(r.length+1) by omega,show off+k<cs.size by omega,show off+k-min (off+k) cs.size=0 by omega]
  ·by_cases h2:i<off+(k+1)+r.length
   ·simp[show¬i<min (off+(k+1)) cs.size by omega,show i<min (off+(k+1)) cs.size+r.length by omega,show¬i<min (off+k) cs.size by omega,show i<min (off+k) cs.size+(r.length+1) by omega,show i-min (off+k) cs.size=(i-min (off+(k+1)) cs.size)+1 by omega]
   ·simp only[show¬i<min (off+(k+1)) cs.size+r.length by omega,show¬i<min (off+k) cs.size+(r.length+1) by omega,if_false]
    rw[show off+(k+1)+r.length+(i-(min (off+(k+1)) cs.size+r.length))=i by omega,show off+k+(r.length+1)+(i-(min (off+k) cs.size+(r.length+1)))=i by omega,if_neg (by omega)]
theorem Q80 (sz:Nat): ∀(vs:List Value) (i:Nat) (cs:Array Value),(i+vs.length)*sz≤cs.size→(∀v∈vs,v.cells.size=sz)→
 ∃cs',Instr.fill (fun i=>some (i*sz,sz)) cs (en i vs)=some cs'∧cs'.toList=cs.toList.take (i*sz)++vs.flatMap (·.cells.toList)++cs.toList.drop ((i+vs.length)*sz):=by
 intro vs
 induction vs with
 | nil=>intro i cs _ _;exact ⟨cs,rfl,by simp⟩
 | cons v r ih=>
  intro i cs h hv
  have hv0:=hv v (by simp)
  simp only[List.length_cons] at h
  have h1:i*sz+sz≤cs.size:=by
   have:(i+1)*sz≤(i+(r.length+1))*sz:=Nat.mul_le_mul_right _ (by omega)
   rw[Nat.succ_mul] at this;omega
  have hset:=X0z (i*sz) v.cells.toList 0 cs (by simp;omega)
  simp only[Nat.add_zero] at hset
  have e1:v.cells.zipIdx.foldl (fun cs (p:Value×Nat)=>cs.setIfInBounds (i*sz+p.2) p.1) cs=(v.cells.toList.zipIdx 0).foldl (fun cs (p:Value×Nat)=>cs.setIfInBounds (i*sz+p.2) p.1) cs:=by
   rw[←Array.foldl_toList,Array.toList_zipIdx]
  have hsz':((v.cells.toList.zipIdx 0).foldl (fun cs (p:Value×Nat)=>cs.setIfInBounds (i*sz+p.2) p.1) cs).size=cs.size:=by
   rw[←Array.length_toList,hset]
   simp;omega
  obtain ⟨cs',q1,q2⟩:=ih (i+1) _ (by rw[hsz'];rw[show i+1+r.length=i+(r.length+1) by omega];exact h) (fun u hu=>hv u (by simp[hu]))
  refine ⟨cs',?_,?_⟩
  ·simp only[en,Instr.fill]
   rw[if_neg (by simp[hv0];omega)]
   rw[e1];exact q1
  ·rw[q2,hset]
   simp only[List.flatMap_cons,List.length_cons,Array.length_toList,hv0]
   have e2:(i+1)*sz=i*sz+sz:=by rw[Nat.succ_mul]
   have e3:(i+(r.length+1))*sz=i*sz+sz+r.length*sz:=by rw[Nat.add_mul,Nat.succ_mul];omega
   have e4:(i+1+r.length)*sz=i*sz+sz+r.length*sz:=by rw[Nat.add_mul,Nat.succ_mul]
   rw[e2,e3,e4]
   have t1:(cs.toList.take (i*sz)).length=i*sz:=by simp;omega
   have t2:(cs.toList.take (i*sz)++v.cells.toList).length=i*sz+sz:=by rw[List.length_append,t1];simp[hv0]
   have k1: ∀C:List Value,(cs.toList.take (i*sz)++v.cells.toList++C).take (i*sz+sz)=cs.toList.take (i*sz)++v.cells.toList:=by
    intro C
    rw[List.take_append_of_le_length (by omega),List.take_of_length_le (by omega)]
   have k2: ∀(C:List Value) (n:Nat),(cs.toList.take (i*sz)++v.cells.toList++C).drop (i*sz+sz+n)=C.drop n:=by
    intro C n
    rw[List.drop_append,t2,List.drop_eq_nil_of_le (by omega),List.nil_append]
    congr 1;omega
   rw[k1,k2,List.drop_drop]
   simp only[List.append_assoc]
theorem Ul {t:TypeId} {by_:Nat} {z:Value} [ts:TS P t e] [tz:TZ P e sz by_ z] (vs:List Value) (hv: ∀v∈vs,v.cells.size=sz) (hsm:vs.length*sz≤16777216) (w:World):
 ∃cells:Array Value,(Instr.buildSlice t vs.length (en 0 vs).toArray).run P w= .ok (.slice (some ⟨w.heap.size,0,none⟩) vs.length vs.length) (w.alloc (.cells cells e))∧cells.toList=vs.flatMap (·.cells.toList):=by
 have h2: ¬vs.length*sz>2 ^ 24:=by omega
 by_cases h:vs.length*sz=0
 ·obtain ⟨cells,hf,hl⟩:=Q80 sz vs 0 ((Array.range (vs.length*sz)).map ((#[]:Array Value)[· % (#[]:Array Value).size]!)) (by simp) hv
  refine ⟨cells,?_,by rw[hl];simp⟩
  simp only[Instr.buildSlice,Sem.run_bind,run_underlying ts.h,Result.andThen_ok,W5 tz,if_neg h2,if_pos h,Sem.run_pure,hf]
  simp[newRow]
 ·obtain ⟨cells,hf,hl⟩:=Q80 sz vs 0 ((Array.range (vs.length*sz)).map (z.cells[· % z.cells.size]!)) (by simp) hv
  refine ⟨cells,?_,by rw[hl];simp⟩
  simp only[Instr.buildSlice,Sem.run_bind,run_underlying ts.h,Result.andThen_ok,W5 tz,if_neg h2,if_neg h,Sem.run_pure,Yq tz,hf]
  simp[newRow]
theorem Q2J {vs:List Value} (d: ∀v∈vs,v.cells.size=sz) (i:Nat) (v:Value) (h:vs[i]? =some v):((vs.flatMap (·.cells.toList)).drop (i*sz)).take sz=v.cells.toList:=by
 induction vs generalizing i with
 | nil=>simp at h
 | cons a r f=>
  have b:=d a (by simp)
  cases i with
  | zero=>
   simp at h;subst h
   rw[List.flatMap_cons,Nat.zero_mul,List.drop_zero,List.take_append_of_le_length (by simp[b]),List.take_of_length_le (by simp[b])]
  | succ i=>
   rw[List.flatMap_cons,Nat.succ_mul,List.drop_append,List.drop_eq_nil_of_le (by simp[b]),List.nil_append]
   rw[show i*sz+sz-a.cells.toList.length=i*sz by simp[b]]
   exact f (fun v c=>d v (by simp[c])) i (by simpa using h)
theorem Oq {vs:List Value} (b: ∀v∈vs,v.cells.size=sz):(vs.flatMap (·.cells.toList)).length=vs.length*sz:=by
 induction vs with
 | nil=>simp
 | cons a r c=>
  rw[List.flatMap_cons,List.length_append,c (fun v h=>b v (by simp[h]))]
  simp[b a (by simp),Nat.succ_mul,Nat.add_comm]
def Gy (R:Q4→α→List Value→Prop) (σ:Q4):List Value→List α→Prop
 | [],[]=>True
 | v::vs,x::xs=>R σ x v.cells.toList∧Gy R σ vs xs
 | _,_=>False
theorem Gy.len {vs:List Value} (h:Gy R σ vs xs):vs.length=xs.length:=by
 induction vs generalizing xs with
 | nil=>cases xs with
  | nil=>rfl
  | cons=>exact h.elim
 | cons v r a=>cases xs with
  | nil=>exact h.elim
  | cons x y=>simp[a h.2]
theorem Gy.get {vs:List Value} (h:Gy R σ vs xs) {i:Nat} {x:α} (a:xs[i]? =some x): ∃v,vs[i]? =some v∧R σ x v.cells.toList:=by
 induction vs generalizing xs i with
 | nil=>cases xs with
  | nil=>simp at a
  | cons=>exact h.elim
 | cons v r d=>cases xs with
  | nil=>exact h.elim
  | cons y ys=>
   cases i with
   | zero=>simp at a;subst a;exact ⟨v,rfl,h.1⟩
   | succ i=>obtain ⟨u,b,c⟩:=d h.2 (i:=i) (by simpa using a);exact ⟨u,by simpa using b,c⟩
theorem Xj {t:TypeId} {by_:Nat} {z:Value} {n:Nat} {a:List (Nat×Value)} [ts:TS P t e] [tz:TZ P e sz by_ z] (j:Stp w0 σ0 w σ) (vs:List Value) (xs:List α) (q:n=vs.length) (y:a=en 0 vs) (c: ∀v∈vs,v.cells.size=sz) (b:(decide (0<sz)&&decide (vs.length*sz≤16777216))=true) (m:Gy R σ vs xs)
 (h: ∀v w',Stp w σ w' σ→V3 w0.heap.size e sz R σ w' v xs→(∀k,v.ownBlock=some k→w.heap.size≤k)→K v w'):buildSlice P t n a w K:=by
 subst q y
 simp only[Bool.and_eq_true,decide_eq_true_eq] at b
 obtain ⟨l,b⟩:=b
 obtain ⟨cells,p,d⟩:=Ul (P:=P) (t:=t) vs c b w
 unfold buildSlice
 rw[Y2 p]
 have f:=m.len
 refine h _ _ (Stp.own j.sat _) ⟨cells.toList,⟨by rw[d,Oq c,f], .inr ⟨_,_,cells,by rw[f],j.bel.size,heap_alloc_new w _,by omega,?_,?_,?_⟩⟩,?_,?_⟩ ?_
 ·simp only[maxLen]
  have:vs.length*1≤vs.length*sz:=Nat.mul_le_mul_left _ l
  omega
 ·rw[←Array.length_toList,d,Oq c,f]
 ·rw[List.take_of_length_le (by rw[d,Oq c,f];exact Nat.le_refl _)]
 ·intro k g;cases g;exact j.sat.none (Nat.le_refl _)
 ·intro i x o
  obtain ⟨v,r,s⟩:=m.get o
  rw[d,Q2J c i v r];exact s
 ·intro k g;cases g;exact Nat.le_refl _
theorem O4 [Rep R] {t:TypeId} {by_:Nat} {z:Value} {n:Nat} {a:List (Nat×Value)} [ts:TS P t e] [tz:TZ P e sz by_ z] (k:X4 w σ) (vs:List Value) (xs:List α) (i:n=vs.length) (l:a=en 0 vs) (g: ∀v∈vs,v.cells.size=sz) (b:(decide (0<sz)&&decide (vs.length*sz≤16777216))=true) (c:Gy R σ vs xs)
 (h: ∀v w' σ',Stp w σ w' σ'→Sl sz R σ' v xs→K v w'):buildSlice P t n a w K:=by
 refine Xj (Stp.refl k) vs xs i l g b c fun v w' d m _=>?_
 obtain ⟨σ',f,j,_⟩:=m.keep d
 exact h v w' σ' f j
theorem X3a {t:TypeId} {k a:Nat} {b:TypeId} [tf:TF P t k a b] [tg:TG P b false] {cs:Array Value} {v:Value} (l:cs[a]? =some v):We P t (.agg cs) k w K=K v w:=by
 unfold We
 have hh:=tf.h
 unfold Q3C at hh
 split at hh
 ·rename_i m g
  obtain ⟨f,d,c⟩:=Option.map_eq_some_iff.1 hh
  simp only[Prod.mk.injEq] at c
  obtain ⟨j,i⟩:=c
  subst i j
  exact Y2 (by simp[Instr.field,run_underlying g,d,asAgg,part,Je tg,l])
 ·cases hh
theorem Xd {f:Fn} {first caps:List Value}:N6 P f first caps w K=K (.func f first.toArray caps.toArray) w:=Y2 (by simp[Instr.makeFunc])
theorem W4 {t:TypeId} {a:List (Nat×Value)} {cells:Array Value} (h:P.built t a=some cells) (b:K (.agg cells) w):D7 P t a w K:=by
 unfold D7
 rw[Y2 (run_build w t a.toArray cells h)];exact b
end
def O5 (o:Option Obj) (m:List (List UInt8×Value)):Prop:=
 ∃es a,o=some (.map es a)∧es.toList.map (fun e=>(e.key,e.val))=m.map (fun p=>(S p.1,p.2))∧(es.toList.map (·.born)).Pairwise (· < ·)∧ ∀e∈es.toList,e.born<a
def M9 (m:List (List UInt8×Value)) (k:List UInt8):Option Value:=match m with
 | []=>none
 | p::r=>if p.1=k then some p.2 else M9 r k
def Yb (m:List (List UInt8×Value)) (k:List UInt8) (v:Value):List (List UInt8×Value):=match m with
 | []=>[(k,v)]
 | p::r=>if p.1=k then (k,v)::r else p::Yb r k v
theorem Co (a b:List UInt8):((⟨a.toArray⟩:ByteArray)==⟨b.toArray⟩)=decide (a=b):=by
 rw[←Q3G]
 show (a.toArray==b.toArray)=_
 simp
theorem Ce (k:List UInt8): ∀(es:List MapEntry) (m:List (List UInt8×Value)) (i:Nat),es.map (fun e=>(e.key,e.val))=m.map (fun p=>(S p.1,p.2))→
 ∃r,Instr.findNow .string (S k) es i=some r∧r.map (·.2)=M9 m k∧(∀j v,r=some (j,v)→i≤j∧(∃e,es[j-i]? =some e∧e.key=S k)∧ ∀u,(es.modify (j-i) fun e=>{e with key:=S k,val:=u}).map (fun e=>(e.key,e.val))=(Yb m k u).map (fun p=>(S p.1,p.2)))∧
  (r=none→ ∀u,Yb m k u=m++[(k,u)]):=by
 intro es
 induction es with
 | nil=>
  intro m i h
  cases m with
  | nil=>exact ⟨none,rfl,rfl,(by simp),fun _ u=>rfl⟩
  | cons=>simp at h
 | cons e r o=>
  intro m i h
  cases m with
  | nil=>simp at h
  | cons p q=>
   simp only[List.map_cons,List.cons.injEq,Prod.mk.injEq] at h
   obtain ⟨⟨c,g⟩,f⟩:=h
   simp only[Instr.findNow,c,Instr.sameNow,Co]
   by_cases a:p.1=k
   ·have d:decide (k=p.1)=true:=by simp[a]
    simp only[d]
    refine ⟨_,rfl,by simp[M9,a,g],?_,by simp⟩
    intro j v b
    cases b
    refine ⟨Nat.le_refl _,⟨e,by simp,by rw[c,a]⟩,fun u=>?_⟩
    simp[Yb,a,f]
   ·have d:decide (k=p.1)=false:=by simp;exact fun e=>a e.symm
    simp only[d]
    obtain ⟨n,A,C,s,y⟩:=o q (i+1) f
    refine ⟨n,A,by simp[M9,a,C],?_,?_⟩
    ·intro j v b
     obtain ⟨D,t,l⟩:=s j v b
     refine ⟨by omega,by rw[show j-i=(j-(i+1))+1 by omega];simpa using t,fun u=>?_⟩
     have:=l u
     rw[show j-i=(j-(i+1))+1 by omega]
     simp[Yb,a,c,g,this]
    ·intro z u
     simp[Yb,a,y z u]
theorem F6 {t:TypeId} (a:P.underlying t=some .string) (b:Bool) (k:List UInt8) (w:World):(Instr.checkKey b 10000 t (S k)).run P w= .ok () w:=by
 unfold Instr.checkKey
 simp[run_underlying a]
theorem Q2j {t g f:TypeId} {sz by_:Nat} {z:Value} [tm:TM P t g f] [tz:TZ P f sz by_ z] (b:P.underlying g=some .string) {r:Nat} {m:List (List UInt8×Value)} (l:O5 (w.heap[r]?) m) (k:List UInt8):
 lookup P t (.map (some r)) (S k) true w K=K (match M9 m k with | some v=> .tuple #[v, .bool true] | none=> .tuple #[z, .bool false]) w:=by
 obtain ⟨es,a,o,n,q,A⟩:=l
 obtain ⟨i,d,c,s,y⟩:=Ce k es.toList m 0 n
 unfold lookup
 refine Y2 ?_
 simp only[Instr.lookup,Sem.run_bind,run_underlying tm.h,Result.andThen_ok,Instr.findKey,run_underlying b,d,F6 b]
 have j:(getObj r).run P w= .ok (.map es a) w:=by simp[getObj,Sem.run,o]
 simp only[j,Result.andThen_ok,Sem.run_bind,Sem.run_pure,F6 b,run_underlying b,d]
 cases i with
 | none=>simp at c;rw[←c];simp[Yq tz]
 | some p=>simp at c;rw[←c];simp
theorem Q4x {t f d:TypeId} {sz by_:Nat} {z:Value} [tm:TM P t f d] [tz:TZ P d sz by_ z] (c:P.underlying f=some .string) {r:Nat} {m:List (List UInt8×Value)} (j:O5 (w.heap[r]?) m) (k:List UInt8):
 lookup P t (.map (some r)) (S k) false w K=K ((M9 m k).getD z) w:=by
 obtain ⟨es,a,n,l,q,A⟩:=j
 obtain ⟨g,o,b,s,y⟩:=Ce k es.toList m 0 l
 unfold lookup
 refine Y2 ?_
 have i:(getObj r).run P w= .ok (.map es a) w:=by simp[getObj,Sem.run,n]
 simp only[Instr.lookup,Sem.run_bind,run_underlying tm.h,Result.andThen_ok,Instr.findKey,run_underlying c,o,F6 c,i,Sem.run_pure]
 cases g with
 | none=>simp at b;rw[←b];simp[Yq tz]
 | some p=>simp at b;rw[←b];simp
def H0 (σ:Q4) (w:World) (r:Nat) (m:List (List UInt8×Value)):Prop:=σ r=none∧O5 (w.heap[r]?) m
def P6 (σ:Q4) (r:Nat) (m:List (List UInt8×Value)):Prop:=O5 (σ r) m
theorem P6.is {σ:Q4} {r:Nat} {m:List (List UInt8×Value)} (h:P6 σ r m) (b:X4 w σ):O5 (w.heap[r]?) m:=by
 obtain ⟨es,a,d,c⟩:=h
 exact ⟨es,a,b _ _ d,c⟩
theorem P6.le {σ σ':Q4} {r:Nat} {m:List (List UInt8×Value)} (h:P6 σ r m) (c: ∀b o,σ b=some o→σ' b=some o):P6 σ' r m:=by
 obtain ⟨es,a,f,d⟩:=h
 exact ⟨es,a,c _ _ f,d⟩
theorem P6.up {σ σ':Q4} {r:Nat} {m:List (List UInt8×Value)} (h:P6 σ r m) (a:Stp w σ w' σ'):P6 σ' r m:=h.le a.le
theorem H0.lt {σ:Q4} {r:Nat} {m:List (List UInt8×Value)} (h:H0 σ w r m):r<w.heap.size:=by
 obtain ⟨_,es,a,b,_⟩:=h
 exact (Array.getElem?_eq_some_iff.1 b).1
theorem H0.up {σ σ':Q4} {r:Nat} {m:List (List UInt8×Value)} (h:H0 σ w r m) (a:Stp w σ w' σ'):H0 σ' w' r m:=by
 have b:=h.lt
 exact ⟨(a.old r b).trans h.1,(a.bel.block r b).symm▸h.2⟩
theorem Q0f {t:TypeId} {σ:Q4} (a:X4 w σ) (h: ∀r w',w.heap.size≤r→Stp w σ w' σ→H0 σ w' r []→K (.map (some r)) w'):Cn P t none w K:=by
 unfold Cn
 rw[Y2 (v:= .map (some w.heap.size)) (w':=w.alloc (.map #[] 0)) (by simp[Instr.makeMap])]
 exact h _ _ (Nat.le_refl _) (Stp.own a _) ⟨a.none (Nat.le_refl _), #[],0,heap_alloc_new w _,rfl,by simp,by simp⟩
theorem H0.keep {σ σ0:Q4} {r:Nat} {m:List (List UInt8×Value)} (h:H0 σ w r m) (c:Stp w0 σ0 w σ) (g:w0.heap.size≤r): ∃σ',Stp w0 σ0 w σ'∧P6 σ' r m∧(∀k o,σ k=some o→σ' k=some o)∧(∀k,k≠r→σ' k=σ k):=by
 obtain ⟨b,es,a,i,f⟩:=h
 exact ⟨σ.put r (.map es a),c.put b g i,⟨es,a,by simp[Q4.put],f⟩,Q4.put_le c.sat b _,fun k d=>by simp only[Q4.put,if_neg d]⟩
theorem He {t U et:TypeId} [tm:TM P t U et] (s:P.underlying U=some .string) {σ:Q4} {r:Nat} {m:List (List UInt8×Value)} (hm:H0 σ w r m) (k:List UInt8) (v:Value)
 (h: ∀w',Upd w r w'→H0 σ w' r (Yb m k v)→K undef w'):mapUpdate P t (.map (some r)) (S k) v w K:=by
 obtain ⟨V,es,d,C,N,L,E⟩:=hm
 obtain ⟨X,O,q2,q3,q4⟩:=Ce k es.toList m 0 N
 have J:(getObj r).run P w= .ok (.map es d) w:=by simp[getObj,Sem.run,C]
 have hl:=(Array.getElem?_eq_some_iff.1 C).1
 have l: ∀o,o=Obj.map es d∨True→(∀c e f,o≠ .cells c e f)→(setObj r o).run P w= .ok () {w with heap:=w.heap.setIfInBounds r o}:=by
  intro o _ _
  simp[setObj,Sem.run,C]
 have A: ∀o,Upd w r {w with heap:=w.heap.setIfInBounds r o}:=fun o=>⟨rfl,rfl,rfl,by simp,fun k s=>by simp only[Array.getElem?_setIfInBounds];rw[if_neg (by omega)]⟩
 have z: ∀o,({w with heap:=w.heap.setIfInBounds r o}:World).heap[r]? =some o:=fun o=>by simp[Array.getElem?_setIfInBounds,hl]
 unfold mapUpdate
 cases X with
 | none=>
  rw[Wk (w':={w with heap:=w.heap.setIfInBounds r (.map (es.push {key:=S k,val:=v,born:=d}) (d+1))}) (by
   simp only[Instr.mapUpdate,Sem.run_bind,run_underlying tm.h,Result.andThen_ok,Instr.findKey,run_underlying s,O,F6 s,J,Sem.run_pure]
   exact l _ (.inr trivial) (by intros;simp))]
  refine h _ (A _) ⟨V,_,_,z _,?_,?_,?_⟩
  ·rw[q4 rfl];simp[N]
  ·simp only[Array.toList_push,List.map_append,List.map_cons,List.map_nil]
   rw[List.pairwise_append]
   refine ⟨L,by simp,?_⟩
   intro a Z b Q
   simp at Q;subst Q
   obtain ⟨e,q,rfl⟩:=List.mem_map.1 Z
   exact E e q
  ·intro e q
   simp at q
   rcases q with q | rfl
   ·have:=E e (by simpa using q);omega
   ·simp
 | some p=>
  obtain ⟨j,u⟩:=p
  obtain ⟨z1,z2,H⟩:=q3 j u rfl
  obtain ⟨e,M,Y⟩:=z2
  simp only[Nat.sub_zero] at M H
  have g:((es.modify j fun e=>{e with key:=S k,val:=v}).toList.map (·.born))=es.toList.map (·.born):=by
   apply List.ext_getElem?
   intro i
   simp only[Array.toList_modify,List.getElem?_map,List.getElem?_modify]
   by_cases D:j=i<;>cases es.toList[i]? <;>simp[D]
  have n:(Instr.keyThatStays (S k) (S k)).run P w= .ok (S k) w:=by
   simp[Instr.keyThatStays,Instr.sameBits,Co]
  rw[Wk (w':={w with heap:=w.heap.setIfInBounds r (.map (es.modify j fun e=>{e with key:=S k,val:=v}) d)}) (by
   simp only[Instr.mapUpdate,Sem.run_bind,run_underlying tm.h,Result.andThen_ok,Instr.findKey,run_underlying s,O,F6 s,J,Sem.run_pure]
   rw[show ((es[j]?).map (·.key)).getD (S k)=S k by rw[←Array.getElem?_toList,M];simp[Y]]
   simp only[n,Result.andThen_ok]
   exact l _ (.inr trivial) (by intros;simp))]
  refine h _ (A _) ⟨V,_,_,z _,?_,?_,?_⟩
  ·simp only[Array.toList_modify];exact H v
  ·rw[g];exact L
  ·intro x hx
   have:x.born∈es.toList.map (·.born):=by rw[←g];exact List.mem_map.2 ⟨x,hx,rfl⟩
   obtain ⟨y,W,e⟩:=List.mem_map.1 this
   rw[←e];exact E y W
end Go.Emb

namespace Go.Emb
open Go.RowKit
variable {P : Program} {w w0 w1 w' w'' : World} {K : Value → World → Prop}
theorem Z5 {c b:Bool} {a:World→(Value→World→Prop)→Prop} (e:c=b→a w K) (d:c=(!b)→K undef w):Q1 (.bool c) b w a K:=by
 cases c<;>cases b
 ·rw[N5];exact e rfl
 ·rw[E7];exact d rfl
 ·rw[G6];exact d rfl
 ·rw[L4];exact e rfl
theorem Q6 {c:Bool} {t e:Prop} (b:c=true→t) (a:c=false→e):X1 (.bool c) t e:=by
 cases c
 ·rw[Wl];exact a rfl
 ·rw[Ov];exact b rfl
theorem X0 {α:Type} {R:Q4→α→List Value→Prop} {sz:Nat} {σ:Q4} {v:Value} {xs:List α} {a e t:TypeId} {cs:List Bool} [ts:TS P a e] (h:Sl sz R σ v xs) (b:K (I xs.length) w):X5 P .len [a] t cs [v] w K:=by
 rw[X3c h];exact b
structure Kpt (D : Nat → Prop) (w w' : World) : Prop where
  os : w'.os = w.os
  tape : w'.tape = w.tape
  output : w'.output = w.output
  size : w.heap.size ≤ w'.heap.size
  block : ∀ k, k < w.heap.size → ¬ D k → w'.heap[k]? = w.heap[k]?
theorem Kpt.refl {D:Nat→Prop}:Kpt D w w:=⟨rfl,rfl,rfl,Nat.le_refl _,fun _ _ _=>rfl⟩
theorem Kpt.trans {D:Nat→Prop} (h:Kpt D w w') (k:Kpt D w' w''):Kpt D w w'':=
 ⟨k.os.trans h.os,k.tape.trans h.tape,k.output.trans h.output,Nat.le_trans h.size k.size,fun i b a=>(k.block i (Nat.lt_of_lt_of_le b h.size) a).trans (h.block i b a)⟩
theorem Kpt.of_below {D:Nat→Prop} (h:Below w.heap.size w w'):Kpt D w w':=⟨h.os,h.tape,h.output,h.size,fun k a _=>h.block k a⟩
theorem Kpt.of_grown {D:Nat→Prop} {row:Option Nat} (h:w.grownBy w' row) (a: ∀k,row=some k→D k):Kpt D w w':=⟨h.os,h.tape,h.output,h.size,fun k c b=>h.block k c (fun e=>b (a k e.symm))⟩
theorem Kpt.of_upd {D:Nat→Prop} {b:Nat} (h:Upd w b w') (c:D b):Kpt D w w':=⟨h.os,h.tape,h.output,by rw[h.size];exact Nat.le_refl _,fun k d a=>h.block k (fun e=>a (e▸c))⟩
theorem Kpt.mono {D a:Nat→Prop} (h:Kpt D w w') (d: ∀k,k<w.heap.size→D k→a k):Kpt a w w':=⟨h.os,h.tape,h.output,h.size,fun k b c=>h.block k b (fun e=>c (d k b e))⟩
theorem Kpt.below {D:Nat→Prop} (h:Kpt D w w') (a: ∀k,¬D k):Below w.heap.size w w':=⟨h.os,h.tape,h.output,h.size,fun k b=>h.block k b (a k)⟩
theorem Stp.kp {σ0 σ:Q4} {D:Nat→Prop} (a:Stp w0 σ0 w σ) (b:Kpt D w w') (f: ∀k,D k→w0.heap.size≤k∧σ k=none):Stp w0 σ0 w' σ:=by
 refine ⟨⟨b.os.trans a.bel.os,b.tape.trans a.bel.tape,b.output.trans a.bel.output,Nat.le_trans a.bel.size b.size,fun k c=>?_⟩,?_,a.le,a.old⟩
 ·refine (b.block k (Nat.lt_of_lt_of_le c a.bel.size) ?_).trans (a.bel.block k c)
  intro e;have:=(f k e).1;omega
 ·intro k o d
  refine (b.block k (a.sat.lt d) ?_).trans (a.sat k o d)
  intro e;rw[(f k e).2] at d;cases d
theorem Z9.kp {σ:Q4} {D:Nat→Prop} {k:Nat} {cs:List Value} (h:Z9 σ w k cs) (b:Kpt D w w') (a: ¬D k):Z9 σ w' k cs:=by
 have d:=h.lt
 obtain ⟨f,e,c⟩:=h
 exact ⟨f,e,(b.block k d a).trans c⟩
theorem H0.kp {σ:Q4} {D:Nat→Prop} {r:Nat} {m:List (List UInt8×Value)} (h:H0 σ w r m) (b:Kpt D w w') (a: ¬D r):H0 σ w' r m:=
 ⟨h.1,(b.block r h.lt a).symm▸h.2⟩
theorem V3.kp {α:Type} {R:Q4→α→List Value→Prop} {B sz:Nat} {e:TypeId} {σ:Q4} {v:Value} {xs:List α} {D:Nat→Prop} (h:V3 B e sz R σ w v xs) (l:Kpt D w w') (c: ∀k,v.ownBlock=some k→ ¬D k):V3 B e sz R σ w' v xs:=by
 obtain ⟨cells,i,m,j⟩:=h
 refine ⟨cells,⟨i.1,?_⟩,m,j⟩
 rcases i.2 with n | ⟨g,d,b,rfl,o,f,a⟩
 ·exact .inl n
 ·refine .inr ⟨g,d,b,rfl,o,?_,a⟩
  rw[l.block g (Array.getElem?_eq_some_iff.1 f).1 (c g rfl)];exact f
theorem bt {w w1 a:World} (b:Below w.heap.size w w1) (c:Below w1.heap.size w1 a):Below w.heap.size w a:=b.trans (c.mono b.size)
abbrev Y9:Nat:=140737488351232
def X9 (_:Q4) (s:List UInt8) (cs:List Value):Prop:=cs=[S s]∧s.length≤Y9
instance:Rep X9:=⟨fun _ h=>h,fun h u hu=>by rw[h.1] at hu;simp at hu;subst hu;rfl⟩
def Vp (_:Q4) (n:Int) (cs:List Value):Prop:=cs=[I n]∧ -9223372036854775808≤n∧n≤9223372036854775807
instance:Rep Vp:=⟨fun _ h=>h,fun h u hu=>by rw[h.1] at hu;simp at hu;subst hu;rfl⟩
def Q9l (_:Q4) (b:Bool) (cs:List Value):Prop:=cs=[.bool b]
instance:Rep Q9l:=⟨fun _ h=>h,fun h u hu=>by rw[h] at hu;simp at hu;subst hu;rfl⟩
def UpI (N:Nat) (a:Nat→World→Prop) (x:Value) (w:World):Prop:= ∃n:Nat,x=I n∧n≤N∧a n w
def UpM (N:Nat) (x:Value):Nat:=match x with | .int _ n=>N-n.toNat | _=>0
theorem U4 {A:(Value→World→Prop)→Value→(Nat→Value)→World→Prop} (N:Nat) (a:Nat→World→Prop) (f:a 0 w)
 (b: ∀n w d,n≤N→a n w→A (fun y w'=>UpI N a y w'∧UpM N y<UpM N (I n)) (I n) d w):lp (α:=Value) (.int .i64 0) w A:=by
 refine Jo (UpI N a) (fun x _=>UpM N x) ⟨0,rfl,Nat.zero_le _,f⟩ ?_
 rintro _ d w' ⟨n,rfl,c,e⟩
 exact b n w' d c e
theorem Y6 {N n:Nat} {a:Nat→World→Prop} (d:N≤9223372036854775807) (b:n<N) (c:a (n+1) w):UpI N a (.int .i64 (IntKind.i64.wrap (n+1))) w∧UpM N (.int .i64 (IntKind.i64.wrap (n+1)))<UpM N (I n):=by
 rw[F3 (by omega) (by omega)]
 exact ⟨⟨n+1,rfl,b,c⟩,by simp only[UpM];omega⟩
def Bh {α:Type} (N:Nat) (a:Nat→α→World→Prop) (x:α×Value) (w:World):Prop:= ∃n:Nat,x.2=I n∧n≤N∧a n x.1 w
def Mz {α:Type} (N:Nat) (x:α×Value):Nat:=UpM N x.2
theorem E3 {α:Type} {A:(α×Value→World→Prop)→α×Value→(Nat→Value)→World→Prop} {a:α} (N:Nat) (b:Nat→α→World→Prop) (h:b 0 a w)
 (c: ∀n a w d,n≤N→b n a w→A (fun y w'=>Bh N b y w'∧Mz N y<Mz N (a,I n)) (a,I n) d w):lp (α:=α×Value) (a, .int .i64 0) w A:=by
 refine Jo (Bh N b) (fun x _=>Mz N x) ⟨0,rfl,Nat.zero_le _,h⟩ ?_
 rintro ⟨a,x⟩ d w' ⟨n,e,g,f⟩
 simp only at e f
 subst e
 exact c n a w' d g f
theorem J1 {α:Type} {a c:α} {N n:Nat} {b:Nat→α→World→Prop} (f:N≤9223372036854775807) (d:n<N) (e:b (n+1) c w):Bh N b (c, .int .i64 (IntKind.i64.wrap (n+1))) w∧Mz N (c, .int .i64 (IntKind.i64.wrap (n+1)))<Mz N (a,I n):=by
 rw[F3 (by omega) (by omega)]
 exact ⟨⟨n+1,rfl,d,e⟩,by simp only[Mz,UpM];omega⟩
theorem M6 {α:Type} {R:Q4→α→List Value→Prop} {sz:Nat} {σ:Q4} {v:Value} {xs:List α} {t e:TypeId} {by_:Nat} {z:Value} [TS P t e] [TZ P e sz by_ z] (h:Sl sz R σ v xs) {n:Nat} (g:n<xs.length)
 (c: ∀a cs,Z0 σ a cs→cs.length=sz→R σ xs[n] cs→K (.pointer (some a)) w):indexAddr P t v (I n) w K:=
 X4h h (by omega) (by simpa using g) (fun a cs f d b=>c a cs f d (by simpa using b))
theorem Y5 {t:TypeId} {sz by_:Nat} {z:Value} {A:Value→Value→World→Prop} [tz:TZ P t sz by_ z] {σ:Q4} {cs:List Value} (q:X4 w σ) (o:z.cells.size=sz) (i:cs.length=sz) (l: ∀u∈cs,u.oneCell'=true)
 (h: ∀a w' d,Stp w σ w' d→Z0 d a cs→A (.pointer (some a)) undef w'):L3 P t w (fun p w=>Z6 P t p (.agg cs.toArray) w (fun u w=>A p u w)):=by
 refine Sj q fun b w1 f g e=>?_
 refine sta e (by simpa using o) i (by rw[List.all_toArray];exact List.all_eq_true.2 l) fun n r c=>?_
 have k:Stp w σ n σ:=r.stp g f e.1
 obtain ⟨d,j,m,_⟩:=c.keep k f
 exact h _ _ _ j m
theorem U6 {t:TypeId} {by_:Nat} {z:Value} {A:Value→Value→World→Prop} [tz:TZ P t 1 by_ z] {σ:Q4} {v:Value} (s:X4 w σ) (q:z.cells.size=1) (r:v.cells= #[v]) (m:v.oneCell'=true)
 (h: ∀a w' d,Stp w σ w' d→Z0 d a [v]→A (.pointer (some a)) undef w'):L3 P t w (fun p w=>Z6 P t p v w (fun u w=>A p u w)):=by
 refine Sj s fun b w1 g i f=>?_
 have j:z.cells.toList.length=1:=by simpa using q
 refine st0 f (by omega) r m fun o y c=>?_
 have l:Stp w σ o σ:=y.stp i g f.1
 have e:z.cells.toList.set 0 v=[v]:=by
  match hzl:z.cells.toList,j with
  | [x],_=>rfl
 rw[e] at c
 obtain ⟨d,k,n,_⟩:=c.keep l g
 exact h _ _ _ k n
theorem N0 {α:Type} {xs:List α} {p:α→Bool} {n:Nat} (h:n<xs.length):(xs.take (n+1)).any p=((xs.take n).any p||p xs[n]):=by
 rw[List.take_add_one,List.getElem?_eq_getElem h,List.any_append];simp
theorem B6 {α:Type} {xs:List α} {p:α→Bool} {n:Nat} (h:n<xs.length) (a:p xs[n]=true):xs.any p=true:=List.any_eq_true.2 ⟨_,List.getElem_mem h,a⟩
theorem E0 {α:Type} {xs:List α} {p:α→Bool} {n:Nat} (h: ¬n<xs.length):(xs.take n).any p=xs.any p:=by rw[List.take_of_length_le (by omega)]
end Go.Emb

namespace Go.Hm
open Go.Kd
structure Fld where
  name : Q9
  kind : Q9
  tr : Bool
deriving DecidableEq
structure Ins where
  op : Q9
  n : Int
  s : Q9
deriving DecidableEq
structure Cat where
  frm : Int
  to : Int
  at_ : Int
  cls : Q9
deriving DecidableEq
structure Met where
  name : Q9
  params : List Q9
  result : Q9
  abs : Bool
  locals : Int
  code : List Ins
  catches : List Cat
deriving DecidableEq
structure Cla where
  name : Q9
  super : Q9
  like : List Q9
  iface : Bool
  abs : Bool
  fin : Bool
  fields : List Fld
  methods : List Hm.Met
deriving DecidableEq
def Fld.zero:Fld:=⟨[],[],false⟩
def Met.zero:Hm.Met:=⟨[],[],[],false,0,[],[]⟩
def Cla.zero:Cla:=⟨[],[],[],false,false,false,[],[]⟩
end Go.Hm

namespace Go.Emb
open Go.RowKit Go.Hm
abbrev Q10 (n:Int):Prop:= -9223372036854775808≤n∧n≤9223372036854775807
def E5 (_:Q4) (f:Fld) (cs:List Value):Prop:=cs=[S f.name,S f.kind, .bool f.tr]∧f.name.length≤Y9∧f.kind.length≤Y9
def I0 (_:Q4) (i:Ins) (cs:List Value):Prop:=cs=[S i.op,I i.n,S i.s]∧i.op.length≤Y9∧Q10 i.n∧i.s.length≤Y9
def Yk (_:Q4) (c:Cat) (cs:List Value):Prop:=cs=[I c.frm,I c.to,I c.at_,S c.cls]∧Q10 c.frm∧Q10 c.to∧Q10 c.at_∧c.cls.length≤Y9
def L9 (σ:Q4) (m:Hm.Met) (cs:List Value):Prop:= ∃pv a b,cs=[S m.name,pv,S m.result, .bool m.abs,I m.locals,a,b]∧Sl 1 X9 σ pv m.params∧Sl 3 I0 σ a m.code∧Sl 4 Yk σ b m.catches∧m.name.length≤Y9∧m.result.length≤Y9∧Q10 m.locals
def V4 (σ:Q4) (c:Cla) (cs:List Value):Prop:= ∃a b mv,cs=[S c.name,S c.super,a, .bool c.iface, .bool c.abs, .bool c.fin,b,mv]∧Sl 1 X9 σ a c.like∧Sl 3 E5 σ b c.fields∧Sl 7 L9 σ mv c.methods∧c.name.length≤Y9∧c.super.length≤Y9
theorem I9 {α:Type} {sz:Nat} {R:Q4→α→List Value→Prop} {σ:Q4} {v:Value} {xs:List α} (h:Sl sz R σ v xs):v.oneCell'=true:=by
 obtain ⟨a,b,rfl,_⟩:=h;rfl
instance:Rep E5:=⟨fun _ h=>h,fun h u hu=>by rw[h.1] at hu;simp at hu;rcases hu with rfl | rfl | rfl<;>rfl⟩
instance:Rep I0:=⟨fun _ h=>h,fun h u hu=>by rw[h.1] at hu;simp at hu;rcases hu with rfl | rfl | rfl<;>rfl⟩
instance:Rep Yk:=⟨fun _ h=>h,fun h u hu=>by rw[h.1] at hu;simp at hu;rcases hu with rfl | rfl | rfl | rfl<;>rfl⟩
instance:Rep L9:=⟨fun hk ⟨pv,cv,hv,h1,h2,h3,h4,h5⟩=>⟨pv,cv,hv,h1,h2.le hk,h3.le hk,h4.le hk,h5⟩,fun ⟨pv,cv,hv,h1,h2,h3,h4,h5⟩ u hu=>by
 rw[h1] at hu;simp at hu;rcases hu with rfl | rfl | rfl | rfl | rfl | rfl | rfl
 ·rfl
 ·exact I9 h2
 ·rfl
 ·rfl
 ·rfl
 ·exact I9 h3
 ·exact I9 h4⟩
instance:Rep V4:=⟨fun hk ⟨pv,cv,hv,h1,h2,h3,h4,h5⟩=>⟨pv,cv,hv,h1,h2.le hk,h3.le hk,h4.le hk,h5⟩,fun ⟨pv,cv,hv,h1,h2,h3,h4,h5⟩ u hu=>by
 rw[h1] at hu;simp at hu;rcases hu with rfl | rfl | rfl | rfl | rfl | rfl | rfl | rfl
 ·rfl
 ·rfl
 ·exact I9 h2
 ·rfl
 ·rfl
 ·rfl
 ·exact I9 h3
 ·exact I9 h4⟩
end Go.Emb
