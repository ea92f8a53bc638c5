/- Parts of a proof about the given program: its functions as texts of their own, what each computes, plain laws of that. The conditions of each stand in its statement. -/
import Derived.Test.YtfppjenblllfaaaGreatDoorB1
import Derived.Below
import Derived.Maps.AppendAt
set_option linter.unnecessarySimpa false
set_option linter.defProp false
set_option linter.unusedSectionVars false
set_option linter.unusedVariables false
set_option linter.unusedSimpArgs false
set_option maxRecDepth 100000
namespace Go.Proofs.YtfppjenblllfaaaGreatDoor
open Go.Emb
def Nr (d c:Value) (w:World) (K:Value→World→Prop):Prop:= Q3 P .eql T.a (.tmp 7) (.const (.string ⟨#[]⟩)) d (.string ⟨#[]⟩) w fun j w=>Q1 j false w (fun w J=>J c w) fun t w=>Q1 j false w (Q3 P .eql T.a (.tmp 10) (.const (.string ⟨#[]⟩)) t (.string ⟨#[]⟩)) fun g w=>pick P j (.bool true) g w fun m w=>X1 m (K d w) (X5 P .len [T.a] T.e [false] [c] w fun f w=>Q3 P .eql T.e (.tmp 15) (.const (.int .i64 1)) f (.int .i64 1) w fun b w=>Q1 b true w (fun w J=>J c w) fun h w=>Q1 b true w (H2 P T.a h (.int .i64 0)) fun p w=>Q1 b true w (Q3 P .lss T.w (.tmp 19) (.const (.int .u8 128)) p (.int .u8 128)) fun s w=>pick P b s (.bool false) w fun o w=>X1 o (H2 P T.a c (.int .i64 0) w fun l w=>Q0 P F.cT [d,l] w fun k w=>K k w) (Q0 P F.cg [c] w fun e w=>ext P e 0 w fun r w=>ext P e 1 w fun i w=>W6 P T.a4 w fun a w=>Z4 P T.a4 a r w fun _u w=>X1 i (Q0 P F.am [d,a] w fun q w=>K q w) (Q0 P F.cQ [d,c] w fun n w=>K n w)))
theorem Ty {a b:Value} {w:World} {K:Value→World→Prop} (h:Nr a b w K):Q0 P F.bK [a,b] w K:=Q9 (List.replicate 12 none) Tryz.func38 rfl (by decide) (by kernel_rfl) h
def Nv (m f:Value) (w:World) (K:Value→World→Prop):Prop:= Q3 P .eql T.a (.tmp 6) (.const (.string ⟨#[110,117,108,108]⟩)) f (.string ⟨#[110,117,108,108]⟩) w fun l w=>X1 l (K (.bool true) w) (Q0 P F.bK [f,(.string ⟨#[91,93]⟩)] w fun k w=>Q0 P F.z [f] w fun a w=>Q1 a true w (fun w J=>J k w) fun g w=>Q1 a true w (Q0 P F.ae [g]) fun d w=>Q1 a true w (fun w J=>J d w) fun b w=>Q1 b false w (fun w J=>J m w) fun h w=>Q1 b false w (fun w J=>J k w) fun c w=>Q1 b false w (Q0 P F.n [h,c]) fun e w=>Q1 a true w (pick P b (.bool true) e) fun i w=>pick P a i (.bool false) w fun j w=>K j w)
theorem Al {a b:Value} {w:World} {K:Value→World→Prop} (h:Nv a b w K):Q0 P F.r [a,b] w K:=Q9 (List.replicate 6 none) Tryz.func20 rfl (by decide) (by kernel_rfl) h
def Zu (c f:Value) (w:World) (K:Value→World→Prop):Prop:= Q3 P .neq T.a (.tmp 4) (.const (.string ⟨#[110,117,108,108]⟩)) c (.string ⟨#[110,117,108,108]⟩) w fun a w=>Q1 a true w (Q2 P T.r f) fun e w=>Q1 a true w (fun w J=>J c w) fun g w=>Q1 a true w (Q0 P F.r [e,g]) fun d w=>pick P a d (.bool false) w fun b w=>K b w
theorem Rt {a b:Value} {w:World} {K:Value→World→Prop} (h:Zu a b w K):Q0 P F.an [a,b] w K:=Q9 (List.replicate 2 none) Tryz.func105 rfl (by decide) (by kernel_rfl) h
def Jc (c d:Value) (w:World) (K:Value→World→Prop):Prop:= Q2 P T.y d w fun e w=>Z5 P e [c] w fun b w=>J4 P .not b w fun a w=>K a w
theorem Se {a b:Value} {w:World} {K:Value→World→Prop} (h:Jc a b w K):Q0 P F.ao [a,b] w K:=Q9 (List.replicate 2 none) Tryz.func106 rfl (by decide) (by kernel_rfl) h
def Q0l (s:Value) (w:World) (K:Value→World→Prop):Prop:= box P T.d s w fun b w=>dr w fun a c=>Q6 a (fun j=> ∀w,c w→fieldAddr P T.d b 1 w (dk a j w)) fun j=>Q6 a (fun g=> ∀w,c w→fieldAddr P T.d b 2 w (dk a g w)) fun g=>Q6 a (fun d=> ∀m w,c w→j m w→Q2 P T.b m w (dk a d w)) fun d=>Q6 a (fun h=> ∀i w,c w→d i w→Q0 P F.cR [i,(.string ⟨#[44]⟩)] w (dk a h w)) fun h=>Q6 a (fun k=> ∀l w,c w→h l w→Q3 P .add T.a (.const (.string ⟨#[40]⟩)) (.tmp 5) (.string ⟨#[40]⟩) l w (dk a k w)) fun k=>Q6 a (fun o=> ∀e w,c w→k e w→Q3 P .add T.a (.tmp 6) (.const (.string ⟨#[41]⟩)) e (.string ⟨#[41]⟩) w (dk a o w)) fun o=>Q6 a (fun n=> ∀f w,c w→g f w→Q2 P T.a f w (dk a n w)) fun n=>∀m f i l e q r w,c w→j m w→g f w→d i w→h l w→k e w→o q w→n r w→ Q3 P .add T.a (.tmp 7) (.tmp 9) q r w fun p w=>K p w
theorem Q6R {a:Value} {w:World} {K:Value→World→Prop} (h:Q0l a w K):Q0 P F.ch [a] w K:=Q9 (List.replicate 2 none) Tryz.func110 rfl (by decide) (by kernel_rfl) h
def Yr (Z X a2 Y:Value) (w:World) (K:Value→World→Prop):Prop:= box P T.d Z w fun b w=>Q2 P T.t X w fun t9 w=>fieldAddr P T.d b 0 w fun U w=>Q2 P T.a U w fun M w=>lookup P T.t t9 M true w fun E w=>ext P E 0 w fun V w=>ext P E 1 w fun f w=>dr w fun a d=>Q6 a (fun r=> ∀w,d w→fieldAddr P T.d b 0 w (dk a r w)) fun r=>Q6 a (fun l=> ∀w,d w→fieldAddr P T.d b 0 w (dk a l w)) fun l=>Q6 a (fun h=> ∀w,d w→fieldAddr P T.c a2 0 w (dk a h w)) fun h=>Q6 a (fun e=> ∀w,d w→Q2 P T.t X w (dk a e w)) fun e=>Q6 a (fun k=> ∀i w,d w→r i w→Q2 P T.a i w (dk a k w)) fun k=>Q6 a (fun z=> ∀w,d w→Q2 P T.t Y w (dk a z w)) fun z=>Q6 a (fun A=> ∀s w,d w→l s w→Q2 P T.a s w (dk a A w)) fun A=>Q6 a (fun v=> ∀w,d w→Q2 P T.d b w (dk a v w)) fun v=>Q6 a (fun y=> ∀t w,d w→v t w→Q0 P F.ch [t] w (dk a y w)) fun y=>Q6 a (fun B=> ∀n w,d w→h n w→Q2 P T.a n w (dk a B w)) fun B=>Q6 a (fun q=> ∀c o w,d w→e c w→k o w→mapEntry P T.t c o w (dk a q w)) fun q=>Q6 a (fun m=> ∀p w,d w→q p w→ext P p 1 w (dk a m w)) fun m=>Q6 a (fun g=> ∀c u j w,d w→e c w→m u w→y j w→entryStore P T.t c u j w (dk a g w)) fun g=>∀i s n c o C H t j D p u O w,d w→r i w→l s w→h n w→e c w→k o w→z C w→A H w→v t w→y j w→B D w→q p w→m u w→g O w→ mapUpdate P T.t C H D w fun _u w=>Q1 f true w (fun w J=>J V w) fun R w=>Q1 f true w (Q2 P T.d b) fun N w=>Q1 f true w (Q0 P F.ch [N]) fun L w=>Q1 f true w (Q3 P .neq T.a (.tmp 29) (.tmp 31) R L) fun W w=>pick P f W (.bool false) w fun Q w=>K Q w
theorem Hc {b c a d:Value} {w:World} {K:Value→World→Prop} (h:Yr b c a d w K):Q0 P F.aL [b,c,a,d] w K:=Q9 (List.replicate 4 none) Tryz.func109 rfl (by decide) (by kernel_rfl) h
def Jj (f g b:Value) (w:World) (K:Value→World→Prop):Prop:= box P T.c f w fun a w=>fieldAddr P T.c a 7 w fun c w=>Q2 P T.g c w fun e w=>N7 P (.func F.aL) [] [g,a,b] w fun d w=>Q0 P F.a [e,d] w fun h w=>K h w
theorem Sx {b c a:Value} {w:World} {K:Value→World→Prop} (h:Jj b c a w K):Q0 P F.b0 [b,c,a] w K:=Q9 (List.replicate 2 none) Tryz.func107 rfl (by decide) (by kernel_rfl) h
def Q0z (e f:Value) (w:World) (K:Value→World→Prop):Prop:= box P T.d e w fun a w=>fieldAddr P T.d a 0 w fun g w=>Q2 P T.a g w fun b w=>Q2 P T.a f w fun d w=>Q3 P .eql T.a (.tmp 5) (.tmp 6) b d w fun c w=>K c w
theorem Q7b {a b:Value} {w:World} {K:Value→World→Prop} (h:Q0z a b w K):Q0 P F.cU [a,b] w K:=Q9 (List.replicate 2 none) Tryz.func203 rfl (by decide) (by kernel_rfl) h
def Q3x (o q:Value) (w:World) (K:Value→World→Prop):Prop:= box P T.c o w fun b w=>box P T.a q w fun a w=>W6 P T.d w fun d w=>fieldAddr P T.c b 7 w fun m w=>Q2 P T.g m w fun n w=>N7 P (.func F.cU) [] [a] w fun p w=>Q0 P F.k [n,p] w fun c w=>Q3 P .lss T.e (.tmp 11) (.const (.int .i64 0)) c (.int .i64 0) w fun h w=>X1 h (O4 P T.d [] w fun l w=>Z4 P T.d d l w fun _u w=>W3 P T.d d w fun j=>K (.tuple #[j,(.bool false)]) w) (fieldAddr P T.c b 7 w fun k w=>Q2 P T.g k w fun e w=>indexAddr P T.g e c w fun g w=>Q2 P T.d g w fun f w=>Q0 P F.c8 [f] w fun i w=>Z4 P T.d d i w fun _u w=>W3 P T.d d w fun j=>K (.tuple #[j,(.bool true)]) w)
theorem Q9d {a b:Value} {w:World} {K:Value→World→Prop} (h:Q3x a b w K):Q0 P F.cB [a,b] w K:=Q9 (List.replicate 6 none) Tryz.func168 rfl (by decide) (by kernel_rfl) h
def Q01:W1:=[none,none,none,some ([19],[6,8,10,11,12,13,14,15,19,20,21,22,23,24,25,26,27,28,29,30,31,32,33,34,35,36,37,38,39,40,41,42,43,44,45,46,47]),none,none,none,none,none,none,none,none,none,none,none,none]
def Oo (B M L:Value) (w:World) (K:Value→World→Prop):Prop:= box P T.c M w fun f w=>W6 P T.d w fun i w=>fieldAddr P T.c f 2 w fun s w=>Q2 P T.b s w fun l w=>X5 P .len [T.b] T.e [false] [l] w fun r w=>lp (α:=Value) (.int .i64 0) w fun c y N w=>Q3 P .lss T.e (.tmp 19) (.tmp 18) y r w fun D w=>X1 D (indexAddr P T.b l y w fun v w=>Q2 P T.a v w fun d w=>Q0 P F.h [B,d] w fun A w=>Q0 P F.cB [A,L] w fun m w=>ext P m 0 w fun C w=>ext P m 1 w fun t w=>W6 P T.d w fun a w=>Z4 P T.d a C w fun _u w=>X1 t (dr w fun k p=>Q6 k (fun h=> ∀w,p w→Q2 P T.d a w (dk k h w)) fun h=>∀n w,p w→h n w→ Z4 P T.d i n w fun _u w=>W3 P T.d i w fun o=>K (.tuple #[d,o,(.bool true)]) w) (Q0 P F.h [B,d] w fun u w=>Q0 P F.aY [B,u,L] w fun g w=>ext P g 0 w fun J w=>ext P g 1 w fun E w=>ext P g 2 w fun z w=>W6 P T.d w fun b w=>Z4 P T.d b E w fun _u w=>X1 z (dr w fun k p=>Q6 k (fun e=> ∀w,p w→Q2 P T.d b w (dk k e w)) fun e=>∀j w,p w→e j w→ Z4 P T.d i j w fun _u w=>W3 P T.d i w fun o=>K (.tuple #[J,o,(.bool true)]) w) (Q3 P .add T.e (.tmp 19) (.const (.int .i64 1)) y (.int .i64 1) w fun q w=>c q w))) (O4 P T.d [] w fun H w=>Z4 P T.d i H w fun _u w=>W3 P T.d i w fun o=>K (.tuple #[(.string ⟨#[]⟩),o,(.bool false)]) w)
theorem Ak {b c a:Value} {w:World} {K:Value→World→Prop} (h:Oo b c a w K):Q0 P F.aY [b,c,a] w K:=Q9 Q01 Tryz.func169 rfl (by decide) (by kernel_rfl) h
def Gp:W1:=[none,none,none,none,none,some ([26],[6,8,11,12,13,26,27,28,29,30,31,32,33,34,35,36,37,38,39,40]),none,none,none,none,none,none,none,none,none,some ([43],[6,8,15,16,17,18,43,44,45,46,47,48,49,50,51,52,53,54,55,56,57,58]),none,none,none,none,none,none,none,none]
def Wz (Y a1 Z:Value) (w:World) (K:Value→World→Prop):Prop:= W6 P T.d w fun q w=>Q0 P F.aX [Y,a1] w fun e w=>Q0 P F.t [e] w fun aa w=>X5 P .len [T.h] T.e [false] [e] w fun J w=>lp (α:=Value) (.int .i64 0) w fun i A d_ w=>Q3 P .lss T.e (.tmp 26) (.tmp 25) A J w fun B w=>X1 B (indexAddr P T.h e A w fun X w=>Q2 P T.c X w fun M w=>W6 P T.c w fun a w=>Z4 P T.c a M w fun _u w=>Q2 P T.c a w fun z w=>Q0 P F.cB [z,Z] w fun u w=>ext P u 0 w fun W w=>ext P u 1 w fun R w=>W6 P T.d w fun c w=>Z4 P T.d c W w fun _u w=>X1 R (dr w fun g p=>Q6 g (fun j=> ∀w,p w→fieldAddr P T.c a 0 w (dk g j w)) fun j=>Q6 g (fun k=> ∀h w,p w→j h w→Q2 P T.a h w (dk g k w)) fun k=>Q6 g (fun l=> ∀w,p w→Q2 P T.d c w (dk g l w)) fun l=>∀h s t w,p w→j h w→k s w→l t w→ Z4 P T.d q t w fun _u w=>W3 P T.d q w fun v=>K (.tuple #[s,v,(.bool true)]) w) (Q3 P .add T.e (.tmp 26) (.const (.int .i64 1)) A (.int .i64 1) w fun U w=>i U w)) (X5 P .len [T.h] T.e [false] [e] w fun O w=>lp (α:=Value) (.int .i64 0) w fun f m d_ w=>Q3 P .lss T.e (.tmp 43) (.tmp 42) m O w fun V w=>X1 V (indexAddr P T.h e m w fun E w=>Q2 P T.c E w fun H w=>W6 P T.c w fun d w=>Z4 P T.c d H w fun _u w=>Q2 P T.c d w fun L w=>Q0 P F.aY [Y,L,Z] w fun o w=>ext P o 0 w fun C w=>ext P o 1 w fun D w=>ext P o 2 w fun y w=>W6 P T.d w fun b w=>Z4 P T.d b D w fun _u w=>X1 y (dr w fun g p=>Q6 g (fun n=> ∀w,p w→Q2 P T.d b w (dk g n w)) fun n=>∀r w,p w→n r w→ Z4 P T.d q r w fun _u w=>W3 P T.d q w fun v=>K (.tuple #[C,v,(.bool true)]) w) (Q3 P .add T.e (.tmp 43) (.const (.int .i64 1)) m (.int .i64 1) w fun N w=>f N w)) (O4 P T.d [] w fun Q w=>Z4 P T.d q Q w fun _u w=>W3 P T.d q w fun v=>K (.tuple #[(.string ⟨#[]⟩),v,(.bool false)]) w))
theorem Fu {b c a:Value} {w:World} {K:Value→World→Prop} (h:Wz b c a w K):Q0 P F.aF [b,c,a] w K:=Q9 Gp Tryz.func111 rfl (by decide) (by kernel_rfl) h
def Bw:W1:=[none,none,none,some ([21],[4,6,21,22,23,24,25,26,27,28,29,30,31,32]),none,none,none,none,none,none,none,none,none,some ([37],[4,9,37,38,39,40,41,42,43,44,45,46]),none,none,none,none,none,none,none,none,some ([50],[4,11,50,51,52,53,54,55,56,57,58,59,60,61,62,63,64,65,66,67,68,69,70]),none,none,none,none,none,none,none,none,none,none,none,none,none,none,none,some ([],[4,14,15,16,17,82,83,84,85,86,87,88,89,90,91,92,93,94,95,96,97,98,99,100]),none,none,none,none,none,none,none]
def Vi (a0 a1:Value) (w:World) (K:Value→World→Prop):Prop:= box P T.r a0 w fun v w=>box P T.c a1 w fun m w=>fieldAddr P T.c m 6 w fun C w=>Q2 P T.i C w fun o w=>X5 P .len [T.i] T.e [false] [o] w fun ah w=>lp (α:=Value) (.int .i64 0) w fun f x3 d_ w=>Q3 P .lss T.e (.tmp 21) (.tmp 20) x3 ah w fun a2 w=>X1 a2 (indexAddr P T.i o x3 w fun O w=>Q2 P T.l O w fun Q w=>W6 P T.l w fun t6 w=>Z4 P T.l t6 Q w fun _u w=>Q2 P T.r v w fun N w=>fieldAddr P T.c m 1 w fun be w=>Q2 P T.a be w fun A w=>fieldAddr P T.l t6 0 w fun aw w=>Q2 P T.a aw w fun bg w=>Q0 P F.aK [N,A,bg] w fun E w=>Q3 P .geq T.e (.tmp 30) (.const (.int .i64 0)) E (.int .i64 0) w fun ax w=>X1 ax (K (.int .i64 64) w) (Q3 P .add T.e (.tmp 21) (.const (.int .i64 1)) x3 (.int .i64 1) w fun bn w=>f bn w)) (N7 P (.func F.an) [] [v] w fun af w=>W6 P T.y w fun u w=>Z4 P T.y u af w fun _u w=>fieldAddr P T.c m 6 w fun av w=>Q2 P T.i av w fun s w=>X5 P .len [T.i] T.e [false] [s] w fun V w=>lp (α:=Value) (.int .i64 0) w fun c h d_ w=>Q3 P .lss T.e (.tmp 37) (.tmp 36) h V w fun a5 w=>X1 a5 (indexAddr P T.i s h w fun ad w=>Q2 P T.l ad w fun bi w=>W6 P T.l w fun t9 w=>Z4 P T.l t9 bi w fun _u w=>Q2 P T.y u w fun bl w=>fieldAddr P T.l t9 1 w fun ak w=>Q2 P T.a ak w fun ac w=>Z5 P bl [ac] w fun ap w=>J4 P .not ap w fun H w=>X1 H (K (.int .i64 65) w) (Q3 P .add T.e (.tmp 37) (.const (.int .i64 1)) h (.int .i64 1) w fun M w=>c M w)) (fieldAddr P T.c m 7 w fun ay w=>Q2 P T.g ay w fun p w=>X5 P .len [T.g] T.e [false] [p] w fun a8 w=>lp (α:=Value) (.int .i64 0) w fun a j d_ w=>Q3 P .lss T.e (.tmp 50) (.tmp 49) j a8 w fun an w=>X1 an (indexAddr P T.g p j w fun az w=>Q2 P T.d az w fun D w=>W6 P T.d w fun e w=>Z4 P T.d e D w fun _u w=>Q2 P T.y u w fun y w=>fieldAddr P T.d e 2 w fun Y w=>Q2 P T.a Y w fun ao w=>Z5 P y [ao] w fun J w=>J4 P .not J w fun g w=>Q1 g true w (fieldAddr P T.d e 2) fun bd w=>Q1 g true w (Q2 P T.a bd) fun a4 w=>Q1 g true w (Q3 P .neq T.a (.tmp 61) (.const (.string ⟨#[]⟩)) a4 (.string ⟨#[]⟩)) fun a7 w=>pick P g a7 (.bool false) w fun b w=>Q1 b false w (fieldAddr P T.d e 1) fun B w=>Q1 b false w (Q2 P T.b B) fun a9 w=>Q1 b false w (N7 P (.func F.ao) [] [u]) fun aq w=>Q1 b false w (Q0 P F.e [a9,aq]) fun bk w=>pick P b (.bool true) bk w fun bb w=>X1 bb (K (.int .i64 65) w) (Q3 P .add T.e (.tmp 50) (.const (.int .i64 1)) j (.int .i64 1) w fun a6 w=>a a6 w)) (Cw P T.t none w fun ae w=>Cw P T.t none w fun Z w=>W6 P T.t w fun n w=>W6 P T.t w fun i w=>Z4 P T.t n ae w fun _u w=>Z4 P T.t i Z w fun _u w=>Q2 P T.r v w fun ar w=>fieldAddr P T.c m 0 w fun bc w=>Q2 P T.a bc w fun ab w=>N7 P (.func F.b0) [] [n,i] w fun R w=>Q0 P F.y [ar,ab,R] w fun aj w=>X1 aj (K (.int .i64 66) w) (fieldAddr P T.c m 4 w fun ba w=>Q2 P T.p ba w fun bh w=>X1 bh (K (.int .i64 0) w) (Q2 P T.t i w fun L w=>rng P T.t L w fun r w=>lp (α:=Unit) () w fun d br d_ w=>J6 P r false T.x w fun U w=>ext P U 0 w fun z w=>X1 z (Q8Y P r w fun am w=>ext P am 0 w fun a3 w=>Q2 P T.r v w fun W w=>fieldAddr P T.c m 0 w fun ai w=>Q2 P T.a ai w fun X w=>Q0 P F.aF [W,X,a3] w fun k w=>ext P k 0 w fun bu w=>ext P k 1 w fun bm w=>ext P k 2 w fun bj w=>W6 P T.d w fun q w=>Z4 P T.d q bm w fun _u w=>J4 P .not bj w fun l w=>Q1 l false w (fieldAddr P T.d q 3) fun bf w=>Q1 l false w (Q2 P T.p bf) fun al w=>pick P l (.bool true) al w fun t w=>X1 t (K (.int .i64 67) w) (d () w)) (K (.int .i64 0) w))))))
theorem Bp {a b:Value} {w:World} {K:Value→World→Prop} (h:Vi a b w K):Q0 P F.bd [a,b] w K:=Q9 Bw Tryz.func51 rfl (by decide) (by kernel_rfl) h
def Q98:W1:=[none,none,none,none,none,some ([30],[2,3,4,7,8,9,30,31,32,33,34,35,36,37,38,39,40,41,42,43,44,45,46,47,48,49,50,51,52]),none,none,none,none,none,none,none,none,none,none,some ([58],[2,3,4,10,11,58,59,60,61,62,63,64,65,66,67,68,69,70,71,72,73,74,75,76,77]),none,none,none,none,none,none,none,none,none,some ([85],[2,3,4,12,13,14,85,86,87,88,89,90,91,92,93,94,95,96,97]),none,none,none,none,none,none,none,none,none,none,none,none,none,some ([114],[2,3,4,17,18,114,115,116,117,118,119,120,121,122,123,124,125,126,127,128,129,130,131,132,133]),none,none,none,none,none,none,none,none]
def Q3j (a0:Value) (w:World) (K:Value→World→Prop):Prop:= Q0 P F.cG [] w fun a3 w=>Cw P T.v none w fun a7 w=>O4 P T.u [(0,a3),(1,a7)] w fun bq w=>box P T.u bq w fun a w=>nilCheck P a w fun az w=>fieldAddr P T.u az 0 w fun ay w=>Q2 P T.h ay w fun bs w=>X5 P .len [T.h] T.e [false] [bs] w fun d w=>X5 P .len [T.h] T.e [false] [a0] w fun bu w=>lp (α:=Value) (.int .i64 0) w fun u x5 d_ w=>Q3 P .lss T.e (.tmp 30) (.tmp 29) x5 bu w fun bg w=>X1 bg (indexAddr P T.h a0 x5 w fun a5 w=>Q2 P T.c a5 w fun bf w=>W6 P T.c w fun t8 w=>Z4 P T.c t8 bf w fun _u w=>Q2 P T.c t8 w fun bz w=>Q0 P F.cw [bz] w fun U w=>Q3 P .neq T.s (.tmp 37) (.const (.int .i64 0)) U (.int .i64 0) w fun bm w=>X1 bm (K (.tuple #[(.pointer none),x5,U]) w) (dr w fun b c=>Q6 b (fun j=> ∀w,c w→nilCheck P a w (dk b j w)) fun j=>Q6 b (fun l=> ∀o w,c w→j o w→fieldAddr P T.u o 0 w (dk b l w)) fun l=>Q6 b (fun H=> ∀q w,c w→l q w→Q2 P T.h q w (dk b H w)) fun H=>Q6 b (fun n=> ∀w,c w→Q2 P T.c t8 w (dk b n w)) fun n=>Q6 b (fun r=> ∀i w,c w→n i w→Q0 P F.cx [i] w (dk b r w)) fun r=>Q6 b (fun M=> ∀s w,c w→r s w→buildSlice P T.h 1 [(0,s)] w (dk b M w)) fun M=>∀o q Q i s aa w,c w→j o w→l q w→H Q w→n i w→r s w→M aa w→ X5 P .append [T.h,T.h] T.h [false,false] [Q,aa] w fun bo w=>nilCheck P a w fun bh w=>fieldAddr P T.u bh 0 w fun bc w=>Z4 P T.h bc bo w fun _u w=>Q3 P .add T.e (.tmp 30) (.const (.int .i64 1)) x5 (.int .i64 1) w fun bi w=>u bi w)) (nilCheck P a w fun ar w=>fieldAddr P T.u ar 0 w fun a2 w=>Q2 P T.h a2 w fun Z w=>X5 P .len [T.h] T.e [false] [Z] w fun aw w=>lp (α:=Value) (.int .i64 0) w fun g h d_ w=>Q3 P .lss T.e (.tmp 58) (.tmp 57) h aw w fun bd w=>X1 bd (indexAddr P T.h Z h w fun bl w=>Q2 P T.c bl w fun bn w=>W6 P T.c w fun E w=>Z4 P T.c E bn w fun _u w=>fieldAddr P T.c E 0 w fun be w=>Q2 P T.a be w fun av w=>Q0 P F.n [a,av] w fun bp w=>X1 bp (Q3 P .sub T.e (.tmp 67) (.tmp 68) h d w fun br w=>K (.tuple #[(.pointer none),br,(.int .i64 60)]) w) (dr w fun b c=>Q6 b (fun t=> ∀w,c w→nilCheck P a w (dk b t w)) fun t=>Q6 b (fun k=> ∀p w,c w→t p w→fieldAddr P T.u p 1 w (dk b k w)) fun k=>Q6 b (fun y=> ∀w,c w→fieldAddr P T.c E 0 w (dk b y w)) fun y=>Q6 b (fun J=> ∀m w,c w→k m w→Q2 P T.v m w (dk b J w)) fun J=>Q6 b (fun N=> ∀v w,c w→y v w→Q2 P T.a v w (dk b N w)) fun N=>∀p m v ad V w,c w→t p w→k m w→y v w→J ad w→N V w→ mapUpdate P T.v ad V h w fun _u w=>Q3 P .add T.e (.tmp 58) (.const (.int .i64 1)) h (.int .i64 1) w fun a8 w=>g a8 w)) (nilCheck P a w fun bx w=>fieldAddr P T.u bx 0 w fun ax w=>Q2 P T.h ax w fun bv w=>R5 P T.h bv (some d) none none w fun O w=>X5 P .len [T.h] T.e [false] [O] w fun bb w=>lp (α:=Value) (.int .i64 0) w fun e z d_ w=>Q3 P .lss T.e (.tmp 85) (.tmp 84) z bb w fun a4 w=>X1 a4 (indexAddr P T.h O z w fun a9 w=>Q2 P T.c a9 w fun a1 w=>W6 P T.c w fun ac w=>Z4 P T.c ac a1 w fun _u w=>Q2 P T.c ac w fun bk w=>Q0 P F.bo [a,bk] w fun ao w=>Q3 P .neq T.s (.tmp 93) (.const (.int .i64 0)) ao (.int .i64 0) w fun b0 w=>X1 b0 (K (.tuple #[(.pointer none),z,ao]) w) (Q3 P .add T.e (.tmp 85) (.const (.int .i64 1)) z (.int .i64 1) w fun bw w=>e bw w)) (nilCheck P a w fun ba w=>fieldAddr P T.u ba 0 w fun an w=>Q2 P T.h an w fun ae w=>R5 P T.h ae (some d) none none w fun R w=>N7 P (.func F.bv) [a] [] w fun am w=>Q0 P F.s [R,am] w fun C w=>Q3 P .geq T.e (.tmp 107) (.const (.int .i64 0)) C (.int .i64 0) w fun Y w=>X1 Y (K (.tuple #[(.pointer none),C,(.int .i64 63)]) w) (Q0 P F.bw [a,d] w fun D w=>X5 P .len [T.z] T.e [false] [D] w fun ai w=>lp (α:=Value) (.int .i64 0) w fun f L d_ w=>Q3 P .lss T.e (.tmp 114) (.tmp 113) L ai w fun al w=>X1 al (indexAddr P T.z D L w fun ag w=>Q2 P T.e ag w fun A w=>nilCheck P a w fun ap w=>fieldAddr P T.u ap 0 w fun ab w=>Q2 P T.h ab w fun ak w=>indexAddr P T.h ak A w fun aj w=>Q2 P T.c aj w fun W w=>Q0 P F.bd [a,W] w fun B w=>Q3 P .neq T.s (.tmp 127) (.const (.int .i64 0)) B (.int .i64 0) w fun af w=>X1 af (Q3 P .sub T.e (.tmp 129) (.tmp 130) A d w fun ah w=>K (.tuple #[(.pointer none),ah,B]) w) (Q3 P .add T.e (.tmp 114) (.const (.int .i64 1)) L (.int .i64 1) w fun X w=>f X w)) (K (.tuple #[a,(.int .i64 0),(.int .i64 0)]) w)))))
theorem Q8K {a:Value} {w:World} {K:Value→World→Prop} (h:Q3j a w K):Q0 P F.cP [a] w K:=Q9 Q98 Tryz.func25 rfl (by decide) (by kernel_rfl) h
def Vk (w:World) (K:Value→World→Prop):Prop:= O4 P T.k [(0,(.string ⟨#[105,110,116]⟩)),(1,(.int .i64 1))] w fun r w=>O4 P T.k [(0,(.string ⟨#[114,101,116,117,114,110]⟩))] w fun t w=>buildSlice P T.n 2 [(0,r),(1,t)] w fun q w=>O4 P T.l [(0,(.string ⟨#[120]⟩)),(1,(.string ⟨#[105,110,116]⟩))] w fun s w=>O4 P T.l [(0,(.string ⟨#[110,101,120,116]⟩)),(1,(.string ⟨#[65]⟩))] w fun o w=>buildSlice P T.i 2 [(0,s),(1,o)] w fun n w=>buildSlice P T.b 2 [(0,(.string ⟨#[105,110,116]⟩)),(1,(.string ⟨#[65]⟩))] w fun p w=>O4 P T.d [(0,(.string ⟨#[102]⟩)),(1,p),(2,(.string ⟨#[105,110,116]⟩)),(4,(.int .i64 3)),(5,q)] w fun l w=>O4 P T.k [(0,(.string ⟨#[114,101,116,117,114,110]⟩))] w fun b w=>buildSlice P T.n 1 [(0,b)] w fun g w=>O4 P T.d [(0,(.string ⟨#[103]⟩)),(4,(.int .i64 1)),(5,g)] w fun m w=>buildSlice P T.g 2 [(0,l),(1,m)] w fun k w=>O4 P T.c [(0,(.string ⟨#[65]⟩)),(1,(.string ⟨#[79,98,106,101,99,116]⟩)),(6,n),(7,k)] w fun a w=>buildSlice P T.b 1 [(0,(.string ⟨#[73]⟩))] w fun d w=>O4 P T.l [(0,(.string ⟨#[108]⟩)),(1,(.string ⟨#[65,91,93]⟩))] w fun f w=>buildSlice P T.i 1 [(0,f)] w fun c w=>O4 P T.c [(0,(.string ⟨#[66]⟩)),(1,(.string ⟨#[65]⟩)),(2,d),(6,c)] w fun i w=>O4 P T.c [(0,(.string ⟨#[73]⟩)),(1,(.string ⟨#[79,98,106,101,99,116]⟩)),(3,(.bool true)),(4,(.bool true))] w fun j w=>O4 P T.c [(0,(.string ⟨#[68]⟩)),(1,(.string ⟨#[79,98,106,101,99,116]⟩)),(4,(.bool true))] w fun h w=>buildSlice P T.h 4 [(0,a),(1,i),(2,j),(3,h)] w fun e w=>K e w
theorem Bt {w:World} {K:Value→World→Prop} (h:Vk w K):Q0 P F.aB [] w K:=Q9 (List.replicate 3 none) Tryz.func26 rfl (by decide) (by kernel_rfl) h
def Pk:W1:=[none,none,none,none,none,some ([1,3],[1,3,10,11,12,13,14,15,16,17,18,19,20,21,22,23]),none,none,none,none]
def Mh (w:World) (K:Value→World→Prop):Prop:= O4 P T.c [(0,(.string ⟨#[79,98,106,101,99,116]⟩))] w fun o w=>O4 P T.l [(0,(.string ⟨#[119,104,97,116]⟩)),(1,(.string ⟨#[116,101,120,116]⟩))] w fun p w=>buildSlice P T.i 1 [(0,p)] w fun m w=>O4 P T.c [(0,(.string ⟨#[70,97,117,108,116]⟩)),(1,(.string ⟨#[79,98,106,101,99,116]⟩)),(6,m)] w fun l w=>buildSlice P T.h 2 [(0,o),(1,l)] w fun n w=>buildSlice P T.b 6 [(0,(.string ⟨#[78,117,108,108,70,97,117,108,116]⟩)),(1,(.string ⟨#[73,110,100,101,120,70,97,117,108,116]⟩)),(2,(.string ⟨#[67,97,115,116,70,97,117,108,116]⟩)),(3,(.string ⟨#[90,101,114,111,70,97,117,108,116]⟩)),(4,(.string ⟨#[82,111,111,109,70,97,117,108,116]⟩)),(5,(.string ⟨#[67,97,108,108,70,97,117,108,116]⟩))] w fun k w=>lp (α:=Value×Value) (n,(.int .i64 0)) w fun a b q w=>X5 P .len [T.b] T.e [false] [k] w fun f w=>Q3 P .lss T.e (.tmp 10) (.tmp 12) b.2 f w fun j w=>X1 j (indexAddr P T.b k b.2 w fun h w=>Q2 P T.a h w fun i w=>O4 P T.c [(0,i),(1,(.string ⟨#[70,97,117,108,116]⟩)),(5,(.bool true))] w fun g w=>buildSlice P T.h 1 [(0,g)] w fun d w=>X5 P .append [T.h,T.h] T.h [false,false] [b.1,d] w fun e w=>Q3 P .add T.e (.tmp 14) (.const (.int .i64 1)) b.2 (.int .i64 1) w fun c w=>a (e,c) w) (K b.1 w)
theorem Pj {w:World} {K:Value→World→Prop} (h:Mh w K):Q0 P F.bx [] w K:=Q9 Pk Tryz.func52 rfl (by decide) (by kernel_rfl) h
def Ad:W1:=[none,none,none,some ([3],[2,3,4,5,6,7,8,9,10,11,12,13,14,15,16,17,18,19,20,21,22,23,24,25,26,27,28,29,30,31,32,33,34,35,36,37]),none,none,none,none,none,none,none]
def Ox (a0:Value) (w:World) (K:Value→World→Prop):Prop:= box P T.c a0 w fun b w=>lp (α:=Value) (.int .i64 0) w fun g J d_ w=>fieldAddr P T.c b 7 w fun Z w=>Q2 P T.g Z w fun Y w=>X5 P .len [T.g] T.e [false] [Y] w fun t8 w=>Q3 P .lss T.e (.tmp 5) (.tmp 8) J t8 w fun t9 w=>X1 t9 (fieldAddr P T.c b 7 w fun B w=>Q2 P T.g B w fun W w=>indexAddr P T.g W J w fun j w=>Q2 P T.d j w fun p w=>W6 P T.d w fun a w=>Z4 P T.d a p w fun _u w=>fieldAddr P T.d a 1 w fun v w=>Q2 P T.b v w fun m w=>X5 P .len [T.b] T.e [false] [m] w fun L w=>Q3 P .gtr T.e (.tmp 19) (.const (.int .i64 32)) L (.int .i64 32) w fun e w=>Q1 e false w (fieldAddr P T.d a 6) fun r w=>Q1 e false w (Q2 P T.q r) fun y w=>Q1 e false w (X5 P .len [T.q] T.e [false] [y]) fun z w=>Q1 e false w (Q3 P .gtr T.e (.tmp 24) (.const (.int .i64 32)) z (.int .i64 32)) fun A w=>pick P e (.bool true) A w fun d w=>Q1 d false w (fieldAddr P T.d a 5) fun E w=>Q1 d false w (Q2 P T.n E) fun O w=>Q1 d false w (X5 P .len [T.n] T.e [false] [O]) fun q w=>Q1 d false w (Q3 P .gtr T.e (.tmp 30) (.const (.int .i64 200)) q (.int .i64 200)) fun i w=>pick P d (.bool true) i w fun h w=>Q1 h false w (fieldAddr P T.d a 4) fun X w=>Q1 h false w (Q2 P T.e X) fun R w=>Q1 h false w (Q3 P .gtr T.e (.tmp 35) (.const (.int .i64 64)) R (.int .i64 64)) fun D w=>pick P h (.bool true) D w fun H w=>X1 H (K (.bool true) w) (Q3 P .add T.e (.tmp 10) (.const (.int .i64 1)) J (.int .i64 1) w fun k w=>g k w)) (fieldAddr P T.c b 2 w fun u w=>Q2 P T.b u w fun N w=>X5 P .len [T.b] T.e [false] [N] w fun U w=>Q3 P .gtr T.e (.tmp 40) (.const (.int .i64 32)) U (.int .i64 32) w fun f w=>Q1 f false w (fieldAddr P T.c b 6) fun M w=>Q1 f false w (Q2 P T.i M) fun V w=>Q1 f false w (X5 P .len [T.i] T.e [false] [V]) fun s w=>Q1 f false w (Q3 P .gtr T.e (.tmp 45) (.const (.int .i64 32)) s (.int .i64 32)) fun t w=>pick P f (.bool true) t w fun c w=>Q1 c false w (fieldAddr P T.c b 7) fun C w=>Q1 c false w (Q2 P T.g C) fun l w=>Q1 c false w (X5 P .len [T.g] T.e [false] [l]) fun Q w=>Q1 c false w (Q3 P .gtr T.e (.tmp 51) (.const (.int .i64 32)) Q (.int .i64 32)) fun n w=>pick P c (.bool true) n w fun o w=>K o w)
theorem Tx {a:Value} {w:World} {K:Value→World→Prop} (h:Ox a w K):Q0 P F.bM [a] w K:=Q9 Ad Tryz.func112 rfl (by decide) (by kernel_rfl) h
def Pl:W1:=[none,none,none,some ([4],[4,5,6,7]),none,none,none,none]
def Lk (b:Value) (w:World) (K:Value→World→Prop):Prop:= jn (α:=Value) w (fun a w=>Q3 P .eql T.a (.tmp 3) (.const (.string ⟨#[105,110,116]⟩)) b (.string ⟨#[105,110,116]⟩) w fun c w=>X1 c (a c w) (Q3 P .eql T.a (.tmp 3) (.const (.string ⟨#[98,111,111,108]⟩)) b (.string ⟨#[98,111,111,108]⟩) w fun d w=>X1 d (a d w) (Q3 P .eql T.a (.tmp 3) (.const (.string ⟨#[116,101,120,116]⟩)) b (.string ⟨#[116,101,120,116]⟩) w fun e w=>a e w))) fun f g w=>X1 f (K (.bool true) w) (K (.bool false) w)
theorem Iw {a:Value} {w:World} {K:Value→World→Prop} (h:Lk a w K):Q0 P F.aj [a] w K:=Q9 Pl Tryz.func62 rfl (by decide) (by kernel_rfl) h
def Ae:W1:=[none,none,none,some ([3],[2,3,4,5,6,7,8,9,10,11,12,13,14,15,16,17,18,19,20,21,22,23,24,25,26,27,28,29,30,31,32,33,34,35,36,37,38,39,40,41,42,43,44,45,46,47,48,49,50]),none,none,none,none,none,none,none]
def Oj (j:Value) (w:World) (K:Value→World→Prop):Prop:= lp (α:=Value) (.int .i64 0) w fun i h d_ w=>X5 P .len [T.a] T.e [false] [j] w fun t7 w=>Q3 P .lss T.e (.tmp 5) (.tmp 7) h t7 w fun t8 w=>X1 t8 (H2 P T.a j h w fun Y w=>Q3 P .geq T.w (.tmp 13) (.const (.int .u8 97)) Y (.int .u8 97) w fun e w=>Q1 e true w (fun w J=>J j w) fun q w=>Q1 e true w (fun w J=>J h w) fun y w=>Q1 e true w (H2 P T.a q y) fun o w=>Q1 e true w (Q3 P .leq T.w (.tmp 18) (.const (.int .u8 122)) o (.int .u8 122)) fun M w=>pick P e M (.bool false) w fun a w=>Q1 a false w (fun w J=>J j w) fun s w=>Q1 a false w (fun w J=>J h w) fun z w=>Q1 a false w (H2 P T.a s z) fun A w=>Q1 a false w (Q3 P .geq T.w (.tmp 24) (.const (.int .u8 65)) A (.int .u8 65)) fun B w=>Q1 a false w (fun w J=>J B w) fun d w=>Q1 d true w (fun w J=>J j w) fun m w=>Q1 d true w (fun w J=>J h w) fun E w=>Q1 d true w (H2 P T.a m E) fun Q w=>Q1 d true w (Q3 P .leq T.w (.tmp 29) (.const (.int .u8 90)) Q (.int .u8 90)) fun r w=>Q1 a false w (pick P d r (.bool false)) fun k w=>pick P a (.bool true) k w fun ab w=>J4 P .not ab w fun b w=>Q1 b true w (fun w J=>J h w) fun D w=>Q1 b true w (Q3 P .eql T.e (.tmp 36) (.const (.int .i64 0)) D (.int .i64 0)) fun L w=>Q1 b true w (fun w J=>J L w) fun c w=>Q1 c false w (fun w J=>J j w) fun O w=>Q1 c false w (fun w J=>J h w) fun W w=>Q1 c false w (H2 P T.a O W) fun aa w=>Q1 c false w (Q3 P .lss T.w (.tmp 41) (.const (.int .u8 48)) aa (.int .u8 48)) fun U w=>Q1 b true w (pick P c (.bool true) U) fun N w=>Q1 b true w (fun w J=>J N w) fun f w=>Q1 f false w (fun w J=>J j w) fun t w=>Q1 f false w (fun w J=>J h w) fun v w=>Q1 f false w (H2 P T.a t v) fun l w=>Q1 f false w (Q3 P .gtr T.w (.tmp 47) (.const (.int .u8 57)) l (.int .u8 57)) fun X w=>Q1 b true w (pick P f (.bool true) X) fun C w=>pick P b C (.bool false) w fun n w=>X1 n (K (.bool false) w) (Q3 P .add T.e (.tmp 9) (.const (.int .i64 1)) h (.int .i64 1) w fun Z w=>i Z w)) (X5 P .len [T.a] T.e [false] [j] w fun p w=>Q3 P .geq T.e (.tmp 52) (.const (.int .i64 1)) p (.int .i64 1) w fun g w=>Q1 g true w (fun w J=>J j w) fun H w=>Q1 g true w (X5 P .len [T.a] T.e [false] [H]) fun V w=>Q1 g true w (Q3 P .leq T.e (.tmp 56) (.const (.int .i64 32)) V (.int .i64 32)) fun u w=>pick P g u (.bool false) w fun R w=>K R w)
theorem Af {a:Value} {w:World} {K:Value→World→Prop} (h:Oj a w K):Q0 P F.aZ [a] w K:=Q9 Ae Tryz.func204 rfl (by decide) (by kernel_rfl) h
def Nj (b:Value) (w:World) (K:Value→World→Prop):Prop:= Q0 P F.aZ [b] w fun a w=>Q1 a true w (fun w J=>J b w) fun e w=>Q1 a true w (H2 P T.a e (.int .i64 0)) fun d w=>Q1 a true w (Q3 P .leq T.w (.tmp 7) (.const (.int .u8 90)) d (.int .u8 90)) fun f w=>pick P a f (.bool false) w fun c w=>K c w
theorem Ps {a:Value} {w:World} {K:Value→World→Prop} (h:Nj a w K):Q0 P F.f [a] w K:=Q9 (List.replicate 2 none) Tryz.func170 rfl (by decide) (by kernel_rfl) h
def Tn:W1:=[none,none,none,some ([0,3],[0,3,4,5,6,7,8,9,10,11,12,13,14,15,16,17,18,19,20,21]),none,none,none,none]
def Ns (o:Value) (w:World) (K:Value→World→Prop):Prop:= lp (α:=Value×Value) (o,(.int .i64 0)) w fun a c q w=>X5 P .len [T.a] T.e [false] [c.1] w fun n w=>Q3 P .geq T.e (.tmp 5) (.const (.int .i64 2)) n (.int .i64 2) w fun b w=>Q1 b true w (fun w J=>J c.1 w) fun m w=>Q1 b true w (fun w J=>J c.1 w) fun p w=>Q1 b true w (X5 P .len [T.a] T.e [false] [p]) fun k w=>Q1 b true w (Q3 P .sub T.e (.tmp 10) (.const (.int .i64 2)) k (.int .i64 2)) fun d w=>Q1 b true w (R5 P T.a m (some d) none none) fun f w=>Q1 b true w (Q3 P .eql T.a (.tmp 12) (.const (.string ⟨#[91,93]⟩)) f (.string ⟨#[91,93]⟩)) fun l w=>pick P b l (.bool false) w fun j w=>X1 j (Q3 P .add T.e (.tmp 15) (.const (.int .i64 1)) c.2 (.int .i64 1) w fun e w=>X5 P .len [T.a] T.e [false] [c.1] w fun g w=>Q3 P .sub T.e (.tmp 19) (.const (.int .i64 2)) g (.int .i64 2) w fun i w=>R5 P T.a c.1 none (some i) none w fun h w=>a (h,e) w) (K c.2 w)
theorem Tu {a:Value} {w:World} {K:Value→World→Prop} (h:Ns a w K):Q0 P F.ar [a] w K:=Q9 Tn Tryz.func177 rfl (by decide) (by kernel_rfl) h
def Mw (h:Value) (w:World) (K:Value→World→Prop):Prop:= Q0 P F.ar [h] w fun m w=>X5 P .len [T.a] T.e [false] [h] w fun n w=>Q3 P .mul T.e (.const (.int .i64 2)) (.tmp 10) (.int .i64 2) m w fun g w=>Q3 P .sub T.e (.tmp 9) (.tmp 11) n g w fun f w=>R5 P T.a h none (some f) none w fun c w=>Q3 P .leq T.e (.tmp 14) (.const (.int .i64 3)) m (.int .i64 3) w fun a w=>Q1 a true w (fun w J=>J c w) fun d w=>Q1 a true w (Q0 P F.aj [d]) fun j w=>Q1 a true w (fun w J=>J j w) fun b w=>Q1 b false w (fun w J=>J c w) fun l w=>Q1 b false w (Q0 P F.f [l]) fun i w=>Q1 a true w (pick P b (.bool true) i) fun k w=>pick P a k (.bool false) w fun e w=>K e w
theorem Kg {a:Value} {w:World} {K:Value→World→Prop} (h:Mw a w K):Q0 P F.l [a] w K:=Q9 (List.replicate 4 none) Tryz.func120 rfl (by decide) (by kernel_rfl) h
def Wb (b:Value) (w:World) (K:Value→World→Prop):Prop:= Q0 P F.aZ [b] w fun a w=>Q1 a true w (fun w J=>J b w) fun e w=>Q1 a true w (H2 P T.a e (.int .i64 0)) fun d w=>Q1 a true w (Q3 P .geq T.w (.tmp 7) (.const (.int .u8 97)) d (.int .u8 97)) fun f w=>pick P a f (.bool false) w fun c w=>K c w
theorem Ft {a:Value} {w:World} {K:Value→World→Prop} (h:Wb a w K):Q0 P F.w [a] w K:=Q9 (List.replicate 2 none) Tryz.func171 rfl (by decide) (by kernel_rfl) h
end Go.Proofs.YtfppjenblllfaaaGreatDoor

set_option maxRecDepth 100000
namespace Go.Proofs.YtfppjenblllfaaaGreatDoor
open Go.Emb
def Ev (w:World) (K:Value→World→Prop):Prop:= buildSlice P T.b 42 [(0,(.string ⟨#[105,110,116]⟩)),(1,(.string ⟨#[116,114,117,101]⟩)),(2,(.string ⟨#[102,97,108,115,101]⟩)),(3,(.string ⟨#[119,111,114,100]⟩)),(4,(.string ⟨#[110,117,108,108]⟩)),(5,(.string ⟨#[108,111,97,100]⟩)),(6,(.string ⟨#[115,116,111,114,101]⟩)),(7,(.string ⟨#[112,111,112]⟩)),(8,(.string ⟨#[100,117,112]⟩)),(9,(.string ⟨#[115,119,97,112]⟩)),(10,(.string ⟨#[97,100,100]⟩)),(11,(.string ⟨#[115,117,98]⟩)),(12,(.string ⟨#[109,117,108]⟩)),(13,(.string ⟨#[100,105,118]⟩)),(14,(.string ⟨#[114,101,109]⟩)),(15,(.string ⟨#[110,101,103]⟩)),(16,(.string ⟨#[108,101,115,115]⟩)),(17,(.string ⟨#[115,97,109,101]⟩)),(18,(.string ⟨#[110,111,116]⟩)),(19,(.string ⟨#[98,111,116,104]⟩)),(20,(.string ⟨#[106,111,105,110]⟩)),(21,(.string ⟨#[115,105,122,101]⟩)),(22,(.string ⟨#[106,117,109,112]⟩)),(23,(.string ⟨#[98,114,97,110,99,104]⟩)),(24,(.string ⟨#[110,101,119]⟩)),(25,(.string ⟨#[103,101,116]⟩)),(26,(.string ⟨#[112,117,116]⟩)),(27,(.string ⟨#[99,97,108,108]⟩)),(28,(.string ⟨#[97,114,114,97,121]⟩)),(29,(.string ⟨#[97,116]⟩)),(30,(.string ⟨#[115,101,116]⟩)),(31,(.string ⟨#[105,115]⟩)),(32,(.string ⟨#[99,97,115,116]⟩)),(33,(.string ⟨#[114,101,116,117,114,110]⟩)),(34,(.string ⟨#[116,104,114,111,119]⟩)),(35,(.string ⟨#[111,117,116]⟩)),(36,(.string ⟨#[101,113,117,97,108]⟩)),(37,(.string ⟨#[97,110,100]⟩)),(38,(.string ⟨#[111,114]⟩)),(39,(.string ⟨#[120,111,114]⟩)),(40,(.string ⟨#[115,104,108]⟩)),(41,(.string ⟨#[115,104,114]⟩))] w fun a w=>K a w
theorem Q0I {w:World} {K:Value→World→Prop} (h:Ev w K):Q0 P F.bT [] w K:=Q9 (List.replicate 2 none) Tryz.func63 rfl (by decide) (by kernel_rfl) h
def Gu:W1:=[none,none,none,none,some ([4],[2,4,6,7,8,9,10,11,12,13,14,15,16,17,18]),none,none,none,none,none,none]
def Wa (i:Value) (w:World) (K:Value→World→Prop):Prop:= Q0 P F.bT [] w fun g w=>lp (α:=Value) (.int .i64 0) w fun a b k w=>X5 P .len [T.b] T.e [false] [g] w fun j w=>Q3 P .lss T.e (.tmp 6) (.tmp 8) b j w fun h w=>X1 h (indexAddr P T.b g b w fun e w=>Q2 P T.a e w fun d w=>Q3 P .eql T.a (.tmp 15) (.tmp 16) d i w fun c w=>X1 c (K b w) (Q3 P .add T.e (.tmp 10) (.const (.int .i64 1)) b (.int .i64 1) w fun f w=>a f w)) (K (.int .i64 (-1)) w)
theorem Gk {a:Value} {w:World} {K:Value→World→Prop} (h:Wa a w K):Q0 P F.bn [a] w K:=Q9 Gu Tryz.func34 rfl (by decide) (by kernel_rfl) h
def Kh:W1:=[none,none,none,some ([4],[4,5,6,7,8,9]),none,none,none,none,none,some ([10],[10,11,12,13,14,15,16,17,18]),none,none,none,none,none,none,none,none,none,none,none,none]
def Mc (a:Value) (w:World) (K:Value→World→Prop):Prop:= jn (α:=Value) w (fun h w=>Q3 P .eql T.a (.tmp 3) (.const (.string ⟨#[105,110,116]⟩)) a (.string ⟨#[105,110,116]⟩) w fun q w=>X1 q (h q w) (Q3 P .eql T.a (.tmp 3) (.const (.string ⟨#[108,111,97,100]⟩)) a (.string ⟨#[108,111,97,100]⟩) w fun o w=>X1 o (h o w) (Q3 P .eql T.a (.tmp 3) (.const (.string ⟨#[115,116,111,114,101]⟩)) a (.string ⟨#[115,116,111,114,101]⟩) w fun n w=>X1 n (h n w) (Q3 P .eql T.a (.tmp 3) (.const (.string ⟨#[106,117,109,112]⟩)) a (.string ⟨#[106,117,109,112]⟩) w fun p w=>X1 p (h p w) (Q3 P .eql T.a (.tmp 3) (.const (.string ⟨#[98,114,97,110,99,104]⟩)) a (.string ⟨#[98,114,97,110,99,104]⟩) w fun u w=>h u w))))) fun s t w=>X1 s (K (.int .i64 1) w) (jn (α:=Value) w (fun b w=>Q3 P .eql T.a (.tmp 3) (.const (.string ⟨#[119,111,114,100]⟩)) a (.string ⟨#[119,111,114,100]⟩) w fun d w=>X1 d (b d w) (Q3 P .eql T.a (.tmp 3) (.const (.string ⟨#[110,101,119]⟩)) a (.string ⟨#[110,101,119]⟩) w fun g w=>X1 g (b g w) (Q3 P .eql T.a (.tmp 3) (.const (.string ⟨#[103,101,116]⟩)) a (.string ⟨#[103,101,116]⟩) w fun j w=>X1 j (b j w) (Q3 P .eql T.a (.tmp 3) (.const (.string ⟨#[112,117,116]⟩)) a (.string ⟨#[112,117,116]⟩) w fun i w=>X1 i (b i w) (Q3 P .eql T.a (.tmp 3) (.const (.string ⟨#[99,97,108,108]⟩)) a (.string ⟨#[99,97,108,108]⟩) w fun c w=>X1 c (b c w) (Q3 P .eql T.a (.tmp 3) (.const (.string ⟨#[97,114,114,97,121]⟩)) a (.string ⟨#[97,114,114,97,121]⟩) w fun e w=>X1 e (b e w) (Q3 P .eql T.a (.tmp 3) (.const (.string ⟨#[105,115]⟩)) a (.string ⟨#[105,115]⟩) w fun f w=>X1 f (b f w) (Q3 P .eql T.a (.tmp 3) (.const (.string ⟨#[99,97,115,116]⟩)) a (.string ⟨#[99,97,115,116]⟩) w fun k w=>b k w)))))))) fun r t w=>X1 r (K (.int .i64 2) w) (Q0 P F.bn [a] w fun m w=>Q3 P .lss T.e (.tmp 20) (.const (.int .i64 0)) m (.int .i64 0) w fun l w=>X1 l (K (.int .i64 (-1)) w) (K (.int .i64 0) w)))
theorem Pd {a:Value} {w:World} {K:Value→World→Prop} (h:Mc a w K):Q0 P F.aH [a] w K:=Q9 Kh Tryz.func18 rfl (by decide) (by kernel_rfl) h
def Lw (f h:Value) (w:World) (K:Value→World→Prop):Prop:= X5 P .len [T.a] T.e [false] [f] w fun n w=>Q3 P .lss T.e (.tmp 5) (.tmp 7) h n w fun b w=>Q1 b true w (fun w J=>J f w) fun i w=>Q1 b true w (fun w J=>J h w) fun e w=>Q1 b true w (H2 P T.a i e) fun d w=>Q1 b true w (Q3 P .geq T.w (.tmp 12) (.const (.int .u8 128)) d (.int .u8 128)) fun j w=>pick P b j (.bool false) w fun a w=>Q1 a true w (fun w J=>J f w) fun k w=>Q1 a true w (fun w J=>J h w) fun c w=>Q1 a true w (H2 P T.a k c) fun g w=>Q1 a true w (Q3 P .lss T.w (.tmp 18) (.const (.int .u8 192)) g (.int .u8 192)) fun l w=>pick P a l (.bool false) w fun m w=>K m w
theorem Ku {a b:Value} {w:World} {K:Value→World→Prop} (h:Lw a b w K):Q0 P F.u [a,b] w K:=Q9 (List.replicate 2 none) Tryz.func242 rfl (by decide) (by kernel_rfl) h
def Tv:W1:=[none,none,some ([],[2,4,5,9,10,11,12,13,14,15,16,17,18,19,20,21,22,23,24,25,26,27,28,29,30,31,32,33,34,35,36,37,38,39,40,41,42,43,44,45,46,47,48,49,50,51,52,53,54,55,56,57,58,59,60,61,62,63,64,65,66,67,68,69,70,71,72,73,74,75,76,77,78,79,80,81,82,83,84,85,86,87,88,89,90,91,92,93,94,95,96,97,98,99,100,101,102,103,104,105,106]),none,none,none,none,none,none,none,none,none,none,none,none,none]
def Og (c:Value) (w:World) (K:Value→World→Prop):Prop:= H2 P T.a c (.int .i64 0) w fun t7 w=>conv P T.w T.e t7 w fun D w=>jn (α:=Unit) w (fun J2 w=>Q3 P .lss T.e (.tmp 10) (.const (.int .i64 128)) D (.int .i64 128) w fun a8 w=>X1 a8 (K (.int .i64 1) w) (Q3 P .geq T.e (.tmp 13) (.const (.int .i64 194)) D (.int .i64 194) w fun ax w=>Q1 ax true w (fun w J=>J D w) fun bm w=>Q1 ax true w (Q3 P .lss T.e (.tmp 16) (.const (.int .i64 224)) bm (.int .i64 224)) fun bb w=>pick P ax bb (.bool false) w fun ai w=>Q1 ai true w (fun w J=>J c w) fun bg w=>Q1 ai true w (Q0 P F.u [bg,(.int .i64 1)]) fun bs w=>pick P ai bs (.bool false) w fun bn w=>X1 bn (K (.int .i64 2) w) (Q3 P .geq T.e (.tmp 24) (.const (.int .i64 224)) D (.int .i64 224) w fun al w=>Q1 al true w (fun w J=>J D w) fun a7 w=>Q1 al true w (Q3 P .lss T.e (.tmp 27) (.const (.int .i64 240)) a7 (.int .i64 240)) fun bk w=>pick P al bk (.bool false) w fun aw w=>Q1 aw true w (fun w J=>J c w) fun bl w=>Q1 aw true w (Q0 P F.u [bl,(.int .i64 1)]) fun b1 w=>pick P aw b1 (.bool false) w fun ap w=>Q1 ap true w (fun w J=>J c w) fun b0 w=>Q1 ap true w (Q0 P F.u [b0,(.int .i64 2)]) fun bc w=>pick P ap bc (.bool false) w fun br w=>X1 br (dr w fun a b=>Q6 a (fun O=> ∀w,b w→Q3 P .rem T.e (.tmp 38) (.const (.int .i64 16)) D (.int .i64 16) w (dk a O w)) fun O=>Q6 a (fun E=> ∀s w,b w→O s w→Q3 P .mul T.e (.tmp 39) (.const (.int .i64 4096)) s (.int .i64 4096) w (dk a E w)) fun E=>Q6 a (fun C=> ∀w,b w→H2 P T.a c (.int .i64 1) w (dk a C w)) fun C=>Q6 a (fun k=> ∀u w,b w→C u w→Q3 P .rem T.w (.tmp 42) (.const (.int .u8 64)) u (.int .u8 64) w (dk a k w)) fun k=>Q6 a (fun B=> ∀w,b w→H2 P T.a c (.int .i64 2) w (dk a B w)) fun B=>Q6 a (fun X=> ∀z w,b w→B z w→Q3 P .rem T.w (.tmp 48) (.const (.int .u8 64)) z (.int .u8 64) w (dk a X w)) fun X=>Q6 a (fun p=> ∀r w,b w→k r w→conv P T.w T.e r w (dk a p w)) fun p=>Q6 a (fun g=> ∀A w,b w→p A w→Q3 P .mul T.e (.tmp 44) (.const (.int .i64 64)) A (.int .i64 64) w (dk a g w)) fun g=>Q6 a (fun ao=> ∀aa i w,b w→E aa w→g i w→Q3 P .add T.e (.tmp 40) (.tmp 45) aa i w (dk a ao w)) fun ao=>Q6 a (fun av=> ∀N w,b w→X N w→conv P T.w T.e N w (dk a av w)) fun av=>∀s aa u r z N A i az a2 w,b w→O s w→E aa w→C u w→k r w→B z w→X N w→p A w→g i w→ao az w→av a2 w→ Q3 P .add T.e (.tmp 46) (.tmp 50) az a2 w fun aq w=>Q3 P .geq T.e (.tmp 52) (.const (.int .i64 2048)) aq (.int .i64 2048) w fun d w=>Q1 d true w (fun w J=>J aq w) fun bd w=>Q1 d true w (Q3 P .lss T.e (.tmp 55) (.const (.int .i64 55296)) bd (.int .i64 55296)) fun bh w=>Q1 d true w (fun w J=>J bh w) fun ak w=>Q1 ak false w (fun w J=>J aq w) fun bx w=>Q1 ak false w (Q3 P .gtr T.e (.tmp 58) (.const (.int .i64 57343)) bx (.int .i64 57343)) fun bi w=>Q1 d true w (pick P ak (.bool true) bi) fun bw w=>pick P d bw (.bool false) w fun bo w=>X1 bo (K (.int .i64 3) w) (J2 () w)) (Q3 P .geq T.e (.tmp 63) (.const (.int .i64 240)) D (.int .i64 240) w fun ar w=>Q1 ar true w (fun w J=>J D w) fun bq w=>Q1 ar true w (Q3 P .lss T.e (.tmp 66) (.const (.int .i64 245)) bq (.int .i64 245)) fun bj w=>pick P ar bj (.bool false) w fun ay w=>Q1 ay true w (fun w J=>J c w) fun bp w=>Q1 ay true w (Q0 P F.u [bp,(.int .i64 1)]) fun bf w=>pick P ay bf (.bool false) w fun an w=>Q1 an true w (fun w J=>J c w) fun bv w=>Q1 an true w (Q0 P F.u [bv,(.int .i64 2)]) fun be w=>pick P an be (.bool false) w fun am w=>Q1 am true w (fun w J=>J c w) fun bu w=>Q1 am true w (Q0 P F.u [bu,(.int .i64 3)]) fun bz w=>pick P am bz (.bool false) w fun ba w=>X1 ba (dr w fun a b=>Q6 a (fun ac=> ∀w,b w→Q3 P .rem T.e (.tmp 81) (.const (.int .i64 8)) D (.int .i64 8) w (dk a ac w)) fun ac=>Q6 a (fun V=> ∀l w,b w→ac l w→Q3 P .mul T.e (.tmp 82) (.const (.int .i64 262144)) l (.int .i64 262144) w (dk a V w)) fun V=>Q6 a (fun W=> ∀w,b w→H2 P T.a c (.int .i64 1) w (dk a W w)) fun W=>Q6 a (fun j=> ∀ae w,b w→W ae w→Q3 P .rem T.w (.tmp 85) (.const (.int .u8 64)) ae (.int .u8 64) w (dk a j w)) fun j=>Q6 a (fun h=> ∀w,b w→H2 P T.a c (.int .i64 2) w (dk a h w)) fun h=>Q6 a (fun m=> ∀H w,b w→h H w→Q3 P .rem T.w (.tmp 91) (.const (.int .u8 64)) H (.int .u8 64) w (dk a m w)) fun m=>Q6 a (fun y=> ∀w,b w→H2 P T.a c (.int .i64 3) w (dk a y w)) fun y=>Q6 a (fun M=> ∀Z w,b w→y Z w→Q3 P .rem T.w (.tmp 97) (.const (.int .u8 64)) Z (.int .u8 64) w (dk a M w)) fun M=>Q6 a (fun U=> ∀q w,b w→j q w→conv P T.w T.e q w (dk a U w)) fun U=>Q6 a (fun v=> ∀n w,b w→U n w→Q3 P .mul T.e (.tmp 87) (.const (.int .i64 4096)) n (.int .i64 4096) w (dk a v w)) fun v=>Q6 a (fun R=> ∀f t w,b w→V f w→v t w→Q3 P .add T.e (.tmp 83) (.tmp 88) f t w (dk a R w)) fun R=>Q6 a (fun L=> ∀ad w,b w→m ad w→conv P T.w T.e ad w (dk a L w)) fun L=>Q6 a (fun Q=> ∀af w,b w→L af w→Q3 P .mul T.e (.tmp 93) (.const (.int .i64 64)) af (.int .i64 64) w (dk a Q w)) fun Q=>Q6 a (fun ah=> ∀o ab w,b w→R o w→Q ab w→Q3 P .add T.e (.tmp 89) (.tmp 94) o ab w (dk a ah w)) fun ah=>Q6 a (fun aj=> ∀Y w,b w→M Y w→conv P T.w T.e Y w (dk a aj w)) fun aj=>∀l f ae q H ad Z Y n t o af ab a5 a1 w,b w→ac l w→V f w→W ae w→j q w→h H w→m ad w→y Z w→M Y w→U n w→v t w→R o w→L af w→Q ab w→ah a5 w→aj a1 w→ Q3 P .add T.e (.tmp 95) (.tmp 99) a5 a1 w fun ag w=>Q3 P .geq T.e (.tmp 101) (.const (.int .i64 65536)) ag (.int .i64 65536) w fun e w=>Q1 e true w (fun w J=>J ag w) fun a4 w=>Q1 e true w (Q3 P .leq T.e (.tmp 104) (.const (.int .i64 1114111)) a4 (.int .i64 1114111)) fun a6 w=>pick P e a6 (.bool false) w fun a3 w=>X1 a3 (K (.int .i64 4) w) (J2 () w)) (J2 () w))))) fun z2 d_ w=>K (.int .i64 0) w
theorem Q00 {a:Value} {w:World} {K:Value→World→Prop} (h:Og a w K):Q0 P F.bQ [a] w K:=Q9 Tv Tryz.func240 rfl (by decide) (by kernel_rfl) h
def Pb:W1:=[none,none,some ([0],[0,2,3,4,5,6,7,8,9,10,11,12]),none,none,none,none,none,none,none]
def Ly (g:Value) (w:World) (K:Value→World→Prop):Prop:= lp (α:=Value) g w fun a b h w=>Q3 P .neq T.a (.tmp 4) (.const (.string ⟨#[]⟩)) b (.string ⟨#[]⟩) w fun f w=>X1 f (Q0 P F.bQ [b] w fun d w=>Q3 P .eql T.e (.tmp 8) (.const (.int .i64 0)) d (.int .i64 0) w fun e w=>X1 e (K (.bool false) w) (R5 P T.a b (some d) none none w fun c w=>a c w)) (K (.bool true) w)
theorem Pv {a:Value} {w:World} {K:Value→World→Prop} (h:Ly a w K):Q0 P F.bH [a] w K:=Q9 Pb Tryz.func232 rfl (by decide) (by kernel_rfl) h
def Po:W1:=[none,none,none,some ([5],[2,3,4,5,6,7,8,9,10,11,12,13,14,15,16,17,18,19,20,21,22,23,24,25,26,27,28,29,30,31,32,33]),none,none,none,none,none,none]
def My (z:Value) (w:World) (K:Value→World→Prop):Prop:= lp (α:=Value) (.int .i64 0) w fun k u N w=>X5 P .len [T.a] T.e [false] [z] w fun L w=>Q3 P .lss T.e (.tmp 6) (.tmp 8) u L w fun M w=>X1 M (H2 P T.a z u w fun H w=>Q3 P .eql T.w (.tmp 14) (.const (.int .u8 46)) H (.int .u8 46) w fun D w=>X1 D (dr w fun b d=>Q6 b (fun t=> ∀w,d w→R5 P T.a z none (some u) none w (dk b t w)) fun t=>Q6 b (fun l=> ∀w,d w→Q3 P .add T.e (.tmp 20) (.const (.int .i64 1)) u (.int .i64 1) w (dk b l w)) fun l=>Q6 b (fun v=> ∀j w,d w→l j w→R5 P T.a z (some j) none none w (dk b v w)) fun v=>Q6 b (fun i=> ∀w,d w→R5 P T.a z none (some u) none w (dk b i w)) fun i=>Q6 b (fun c=> ∀h w,d w→i h w→Q0 P F.f [h] w (dk b c w)) fun c=>Q6 b (fun f=> ∀a w,d w→c a w→Q1 a true w (fun w J=>J z w) (dk b f w)) fun f=>Q6 b (fun p=> ∀a w,d w→c a w→Q1 a true w (fun w J=>J u w) (dk b p w)) fun p=>Q6 b (fun q=> ∀a n w,d w→c a w→p n w→Q1 a true w (Q3 P .add T.e (.tmp 29) (.const (.int .i64 1)) n (.int .i64 1)) (dk b q w)) fun q=>Q6 b (fun m=> ∀a r g w,d w→c a w→f r w→q g w→Q1 a true w (R5 P T.a r (some g) none none) (dk b m w)) fun m=>Q6 b (fun o=> ∀a e w,d w→c a w→m e w→Q1 a true w (Q0 P F.w [e]) (dk b o w)) fun o=>Q6 b (fun y=> ∀a s w,d w→c a w→o s w→pick P a s (.bool false) w (dk b y w)) fun y=>∀A j B h a r n g e s C w,d w→t A w→l j w→v B w→i h w→c a w→f r w→p n w→q g w→m e w→o s w→y C w→ K (.tuple #[A,B,C]) w) (Q3 P .add T.e (.tmp 10) (.const (.int .i64 1)) u (.int .i64 1) w fun E w=>k E w)) (K (.tuple #[(.string ⟨#[]⟩),(.string ⟨#[]⟩),(.bool false)]) w)
theorem Ic {a:Value} {w:World} {K:Value→World→Prop} (h:My a w K):Q0 P F.bI [a] w K:=Q9 Po Tryz.func233 rfl (by decide) (by kernel_rfl) h
def Ka:W1:=[none,none,none,none,none,none,some ([4],[4,5,6,7,8,30,31,32,33,34,35,36,37,38,39,40,41,42,43,44,45,46,47,48,49,50,51,52,53,54,55,56,57,58,59,60,61,62,63,64,65,66,67,68,69,70,71,72,73,74,75,76,77,78,79,80,81,82,83,84,85,86,87,88,89,90,91,92,93,94,95,96,97,98,99,100,101,102,103,104,105,106,107,108,109,110]),none,none,none,none,none,some ([4,5],[4,5,59,60,61,62,63,64,65,66,67,68,69,70,71,72,73]),none,none,none,none,some ([82],[82,83,84]),none,none,none,none,none,none,none]
def Lq (a0:Value) (w:World) (K:Value→World→Prop):Prop:= box P T.k a0 w fun d w=>fieldAddr P T.k d 0 w fun t9 w=>Q2 P T.a t9 w fun ba w=>Q0 P F.aH [ba] w fun i w=>Q3 P .lss T.e (.tmp 12) (.const (.int .i64 0)) i (.int .i64 0) w fun ai w=>X1 ai (K (.int .i64 40) w) (Q3 P .eql T.e (.tmp 14) (.const (.int .i64 1)) i (.int .i64 1) w fun l w=>Q1 l false w (fieldAddr P T.k d 1) fun M w=>Q1 l false w (Q2 P T.ac M) fun D w=>Q1 l false w (Q3 P .eql T.ac (.tmp 18) (.const (.int .i64 0)) D (.int .i64 0)) fun Y w=>pick P l (.bool true) Y w fun h w=>Q1 h true w (fun w J=>J i w) fun ao w=>Q1 h true w (Q3 P .eql T.e (.tmp 22) (.const (.int .i64 2)) ao (.int .i64 2)) fun N w=>Q1 h true w (fun w J=>J N w) fun k w=>Q1 k false w (fieldAddr P T.k d 2) fun O w=>Q1 k false w (Q2 P T.a O) fun a1 w=>Q1 k false w (Q3 P .eql T.a (.tmp 26) (.const (.string ⟨#[]⟩)) a1 (.string ⟨#[]⟩)) fun B w=>Q1 h true w (pick P k (.bool true) B) fun ak w=>pick P h ak (.bool false) w fun a w=>jn (α:=Value) w (fun n w=>Q3 P .eql T.e (.tmp 30) (.const (.int .i64 2)) i (.int .i64 2) w fun al w=>X1 al (fieldAddr P T.k d 0 w fun be w=>Q2 P T.a be w fun f w=>Q3 P .eql T.a (.tmp 33) (.const (.string ⟨#[119,111,114,100]⟩)) f (.string ⟨#[119,111,114,100]⟩) w fun L w=>X1 L (Q1 a true w (fieldAddr P T.k d 2) fun aw w=>Q1 a true w (Q2 P T.a aw) fun am w=>Q1 a true w (X5 P .len [T.a] T.e [false] [am]) fun af w=>Q1 a true w (Q3 P .leq T.e (.tmp 51) (.const (.int .i64 64)) af (.int .i64 64)) fun an w=>pick P a an (.bool false) w fun j w=>Q1 j true w (fieldAddr P T.k d 2) fun V w=>Q1 j true w (Q2 P T.a V) fun ag w=>Q1 j true w (Q0 P F.bH [ag]) fun E w=>pick P j E (.bool false) w fun a4 w=>lp (α:=Value×Value) (a4,(.int .i64 0)) w fun g b d_ w=>fieldAddr P T.k d 2 w fun az w=>Q2 P T.a az w fun ap w=>X5 P .len [T.a] T.e [false] [ap] w fun av w=>Q3 P .lss T.e (.tmp 59) (.tmp 62) b.2 av w fun ab w=>X1 ab (Q1 b.1 true w (fieldAddr P T.k d 2) fun bc w=>Q1 b.1 true w (Q2 P T.a bc) fun ay w=>Q1 b.1 true w (fun w J=>J b.2 w) fun ar w=>Q1 b.1 true w (H2 P T.a ay ar) fun ac w=>Q1 b.1 true w (Q3 P .neq T.w (.tmp 71) (.const (.int .u8 10)) ac (.int .u8 10)) fun W w=>pick P b.1 W (.bool false) w fun aj w=>Q3 P .add T.e (.tmp 64) (.const (.int .i64 1)) b.2 (.int .i64 1) w fun C w=>g (aj,C) w) (n b.1 w)) (Q3 P .eql T.a (.tmp 33) (.const (.string ⟨#[110,101,119]⟩)) f (.string ⟨#[110,101,119]⟩) w fun X w=>X1 X (Q1 a true w (fieldAddr P T.k d 2) fun ax w=>Q1 a true w (Q2 P T.a ax) fun a6 w=>Q1 a true w (Q0 P F.f [a6]) fun H w=>pick P a H (.bool false) w fun a3 w=>n a3 w) (jn (α:=Value) w (fun r w=>Q3 P .eql T.a (.tmp 33) (.const (.string ⟨#[105,115]⟩)) f (.string ⟨#[105,115]⟩) w fun o w=>X1 o (r o w) (Q3 P .eql T.a (.tmp 33) (.const (.string ⟨#[99,97,115,116]⟩)) f (.string ⟨#[99,97,115,116]⟩) w fun ae w=>r ae w)) fun aa d_ w=>X1 aa (Q1 a true w (fieldAddr P T.k d 2) fun R w=>Q1 a true w (Q2 P T.a R) fun ad w=>Q1 a true w (Q0 P F.l [ad]) fun U w=>pick P a U (.bool false) w fun e w=>Q1 e true w (fieldAddr P T.k d 2) fun bb w=>Q1 e true w (Q2 P T.a bb) fun bd w=>Q1 e true w (Q0 P F.aj [bd]) fun a9 w=>Q1 e true w (J4 P .not a9) fun a5 w=>pick P e a5 (.bool false) w fun aq w=>n aq w) (Q3 P .eql T.a (.tmp 33) (.const (.string ⟨#[97,114,114,97,121]⟩)) f (.string ⟨#[97,114,114,97,121]⟩) w fun a2 w=>X1 a2 (Q1 a true w (fieldAddr P T.k d 2) fun u w=>Q1 a true w (Q2 P T.a u) fun p w=>Q1 a true w (Q0 P F.l [p]) fun q w=>pick P a q (.bool false) w fun c w=>Q1 c true w (fieldAddr P T.k d 2) fun z w=>Q1 c true w (Q2 P T.a z) fun y w=>Q1 c true w (Q0 P F.ar [y]) fun s w=>Q1 c true w (Q3 P .lss T.e (.tmp 108) (.const (.int .i64 3)) s (.int .i64 3)) fun v w=>pick P c v (.bool false) w fun t w=>n t w) (fieldAddr P T.k d 2 w fun a7 w=>Q2 P T.a a7 w fun Q w=>Q0 P F.bI [Q] w fun m w=>ext P m 0 w fun bi w=>ext P m 1 w fun bh w=>ext P m 2 w fun a8 w=>Q1 a true w (fun w J=>J a8 w) fun Z w=>pick P a Z (.bool false) w fun ah w=>n ah w))))) (n a w)) fun z6 d_ w=>J4 P .not z6 w fun A w=>X1 A (K (.int .i64 41) w) (K (.int .i64 0) w))
theorem Kb {a:Value} {w:World} {K:Value→World→Prop} (h:Lq a w K):Q0 P F.bG [a] w K:=Q9 Ka Tryz.func221 rfl (by decide) (by kernel_rfl) h
def Q0e:W1:=[none,none,none,some ([3],[2,3,4,5,6,7,8,9,10,11,12,13,14,15,16,17,18]),none,none,none,none,none,none,none]
def Es (h:Value) (w:World) (K:Value→World→Prop):Prop:= lp (α:=Value) (.int .i64 0) w fun a g k w=>X5 P .len [T.n] T.e [false] [h] w fun i w=>Q3 P .lss T.e (.tmp 5) (.tmp 7) g i w fun j w=>X1 j (indexAddr P T.n h g w fun e w=>Q2 P T.k e w fun d w=>Q0 P F.bG [d] w fun b w=>Q3 P .neq T.s (.tmp 16) (.const (.int .i64 0)) b (.int .i64 0) w fun c w=>X1 c (K b w) (Q3 P .add T.e (.tmp 9) (.const (.int .i64 1)) g (.int .i64 1) w fun f w=>a f w)) (K (.int .i64 0) w)
theorem Q0W {a:Value} {w:World} {K:Value→World→Prop} (h:Es a w K):Q0 P F.bb [a] w K:=Q9 Q0e Tryz.func205 rfl (by decide) (by kernel_rfl) h
def Gl:W1:=[none,none,none,none,some ([3,4],[3,4,21,22,23,24,25,26,27,28,29,30,31,32,33,34,35,36]),none,none,none,none,none,none,none,none,none,some ([3,6],[3,6,7,60,61,62,63,64,65,66,67,68,69,70,71,72,73,74,75,76,77,78,79,80,81,82,83,84,85,86,87,88,89,90,91,92,93,94,95,96,97,98,99,100,101,102,103,104,105,106]),none,none,none,none,none]
def Wd (a0:Value) (w:World) (K:Value→World→Prop):Prop:= box P T.d a0 w fun d w=>fieldAddr P T.d d 0 w fun t8 w=>Q2 P T.a t8 w fun t9 w=>Q0 P F.w [t9] w fun h w=>Q1 h true w (fieldAddr P T.d d 2) fun ai w=>Q1 h true w (Q2 P T.a ai) fun a8 w=>Q1 h true w (Q3 P .eql T.a (.tmp 13) (.const (.string ⟨#[]⟩)) a8 (.string ⟨#[]⟩)) fun bu w=>Q1 h true w (fun w J=>J bu w) fun p w=>Q1 p false w (fieldAddr P T.d d 2) fun bd w=>Q1 p false w (Q2 P T.a bd) fun ad w=>Q1 p false w (Q0 P F.l [ad]) fun X w=>Q1 h true w (pick P p (.bool true) X) fun ar w=>pick P h ar (.bool false) w fun az w=>lp (α:=Value×Value) (az,(.int .i64 0)) w fun o e d_ w=>fieldAddr P T.d d 1 w fun be w=>Q2 P T.b be w fun ae w=>X5 P .len [T.b] T.e [false] [ae] w fun af w=>Q3 P .lss T.e (.tmp 21) (.tmp 24) e.2 af w fun ag w=>X1 ag (Q1 e.1 true w (fieldAddr P T.d d 1) fun Z w=>Q1 e.1 true w (Q2 P T.b Z) fun ba w=>Q1 e.1 true w (fun w J=>J e.2 w) fun b0 w=>Q1 e.1 true w (indexAddr P T.b ba b0) fun ay w=>Q1 e.1 true w (Q2 P T.a ay) fun a9 w=>Q1 e.1 true w (Q0 P F.l [a9]) fun bs w=>pick P e.1 bs (.bool false) w fun ak w=>Q3 P .add T.e (.tmp 26) (.const (.int .i64 1)) e.2 (.int .i64 1) w fun W w=>o (ak,W) w) (fieldAddr P T.d d 3 w fun bl w=>Q2 P T.p bl w fun bg w=>X1 bg (Q1 e.1 true w (fieldAddr P T.d d 4) fun bz w=>Q1 e.1 true w (Q2 P T.e bz) fun a2 w=>Q1 e.1 true w (Q3 P .eql T.e (.tmp 42) (.const (.int .i64 0)) a2 (.int .i64 0)) fun av w=>pick P e.1 av (.bool false) w fun j w=>Q1 j true w (fieldAddr P T.d d 5) fun ac w=>Q1 j true w (Q2 P T.n ac) fun bb w=>Q1 j true w (X5 P .len [T.n] T.e [false] [bb]) fun a5 w=>Q1 j true w (Q3 P .eql T.e (.tmp 48) (.const (.int .i64 0)) a5 (.int .i64 0)) fun bj w=>pick P j bj (.bool false) w fun k w=>Q1 k true w (fieldAddr P T.d d 6) fun bc w=>Q1 k true w (Q2 P T.q bc) fun Y w=>Q1 k true w (X5 P .len [T.q] T.e [false] [Y]) fun U w=>Q1 k true w (Q3 P .eql T.e (.tmp 54) (.const (.int .i64 0)) U (.int .i64 0)) fun ao w=>pick P k ao (.bool false) w fun a4 w=>K a4 w) (fieldAddr P T.d d 5 w fun aa w=>Q2 P T.n aa w fun bp w=>X5 P .len [T.n] T.e [false] [bp] w fun r w=>lp (α:=Value×Value) (e.1,(.int .i64 0)) w fun m b d_ w=>fieldAddr P T.d d 6 w fun bf w=>Q2 P T.q bf w fun bi w=>X5 P .len [T.q] T.e [false] [bi] w fun aw w=>Q3 P .lss T.e (.tmp 60) (.tmp 63) b.2 aw w fun a7 w=>X1 a7 (fieldAddr P T.d d 6 w fun a6 w=>Q2 P T.q a6 w fun bx w=>indexAddr P T.q bx b.2 w fun bh w=>Q2 P T.o bh w fun ax w=>W6 P T.o w fun q w=>Z4 P T.o q ax w fun _u w=>Q1 b.1 true w (fieldAddr P T.o q 0) fun bm w=>Q1 b.1 true w (Q2 P T.e bm) fun aq w=>Q1 b.1 true w (Q3 P .geq T.e (.tmp 75) (.const (.int .i64 0)) aq (.int .i64 0)) fun ah w=>pick P b.1 ah (.bool false) w fun g w=>Q1 g true w (fieldAddr P T.o q 0) fun br w=>Q1 g true w (Q2 P T.e br) fun ab w=>Q1 g true w (fieldAddr P T.o q 1) fun bo w=>Q1 g true w (Q2 P T.e bo) fun aj w=>Q1 g true w (Q3 P .lss T.e (.tmp 80) (.tmp 82) ab aj) fun V w=>pick P g V (.bool false) w fun i w=>Q1 i true w (fieldAddr P T.o q 1) fun ap w=>Q1 i true w (Q2 P T.e ap) fun al w=>Q1 i true w (fun w J=>J r w) fun a1 w=>Q1 i true w (Q3 P .leq T.e (.tmp 87) (.tmp 88) al a1) fun am w=>pick P i am (.bool false) w fun n w=>Q1 n true w (fieldAddr P T.o q 2) fun bw w=>Q1 n true w (Q2 P T.e bw) fun an w=>Q1 n true w (Q3 P .geq T.e (.tmp 93) (.const (.int .i64 0)) an (.int .i64 0)) fun bv w=>pick P n bv (.bool false) w fun l w=>Q1 l true w (fieldAddr P T.o q 2) fun bq w=>Q1 l true w (Q2 P T.e bq) fun bn w=>Q1 l true w (fun w J=>J r w) fun a3 w=>Q1 l true w (Q3 P .lss T.e (.tmp 98) (.tmp 99) bn a3) fun R w=>pick P l R (.bool false) w fun f w=>Q1 f true w (fieldAddr P T.o q 3) fun t w=>Q1 f true w (Q2 P T.a t) fun M w=>Q1 f true w (Q0 P F.f [M]) fun Q w=>pick P f Q (.bool false) w fun E w=>Q3 P .add T.e (.tmp 65) (.const (.int .i64 1)) b.2 (.int .i64 1) w fun bk w=>m (E,bk) w) (Q1 b.1 true w (fun w J=>J r w) fun D w=>Q1 b.1 true w (Q3 P .gtr T.e (.tmp 109) (.const (.int .i64 0)) D (.int .i64 0)) fun v w=>pick P b.1 v (.bool false) w fun a w=>Q1 a true w (fieldAddr P T.d d 4) fun H w=>Q1 a true w (Q2 P T.e H) fun s w=>Q1 a true w (fieldAddr P T.d d 1) fun O w=>Q1 a true w (Q2 P T.b O) fun C w=>Q1 a true w (X5 P .len [T.b] T.e [false] [C]) fun z w=>Q1 a true w (Q3 P .gtr T.e (.tmp 114) (.tmp 117) s z) fun A w=>pick P a A (.bool false) w fun c w=>Q1 c true w (fieldAddr P T.d d 5) fun y w=>Q1 c true w (Q2 P T.n y) fun N w=>Q1 c true w (Q0 P F.bb [N]) fun B w=>Q1 c true w (Q3 P .eql T.s (.tmp 123) (.const (.int .i64 0)) B (.int .i64 0)) fun L w=>pick P c L (.bool false) w fun u w=>K u w)))
theorem Ge {a:Value} {w:World} {K:Value→World→Prop} (h:Wd a w K):Q0 P F.a2 [a] w K:=Q9 Gl Tryz.func172 rfl (by decide) (by kernel_rfl) h
def Kt:W1:=[none,none,none,none,some ([3,4],[3,4,5,26,27,28,29,30,31,32,33,34,35,36,37,38,39,40,41,42,43,44,45,46,47,48,49,50,51,52,53,54,55,56,57,58,59,60,61,62,63,64,65,66,67,68,69,70]),none,none,none,none,none,some ([3,5],[3,5,52,53,54,55,56,57,58,59,60,61,62,63,64,65,66,67,68,69,70]),none,none,none,none,none,some ([3,6],[3,6,7,71,72,73,74,75,76,77,78,79,80,81,82,83,84,85,86,87,88,89,90,91,92,93,94,95,96,97,98,99,100,101,102,103,104,105,106,107,108,109,110,111,112,113,114,115,116,117,118,119,120,121,122]),none,none,none,none,none,some ([3,7],[3,7,102,103,104,105,106,107,108,109,110,111,112,113,114,115,116,117,118,119,120,121,122]),none,none,none,none,none,some ([3,8],[3,8,9,10,123,124,125,126,127,128,129,130,131,132,133,134,135,136,137,138,139,140,141,142,143,144,145,146,147,148,149,150,151,152,153,154,155,156,157,158,159,160,161,162,163,164,165,166,167,168,169,170,171,172,173,174]),none,none,none,none,none,none,some ([3,10],[3,10,158,159,160,161,162,163,164,165,166,167,168,169,170,171,172,173,174]),none,none,none,none]
def Lh (a0:Value) (w:World) (K:Value→World→Prop):Prop:= box P T.c a0 w fun i w=>fieldAddr P T.c i 0 w fun eq w=>Q2 P T.a eq w fun d8 w=>Q0 P F.f [d8] w fun bq w=>Q1 bq true w (fieldAddr P T.c i 1) fun ee w=>Q1 bq true w (Q2 P T.a ee) fun ef w=>Q1 bq true w (Q0 P F.f [ef]) fun d4 w=>pick P bq d4 (.bool false) w fun ah w=>Q1 ah true w (fieldAddr P T.c i 0) fun et w=>Q1 ah true w (Q2 P T.a et) fun eh w=>Q1 ah true w (fieldAddr P T.c i 1) fun e1 w=>Q1 ah true w (Q2 P T.a e1) fun d5 w=>Q1 ah true w (Q3 P .neq T.a (.tmp 21) (.tmp 23) eh d5) fun d6 w=>pick P ah d6 (.bool false) w fun d7 w=>lp (α:=Value×Value) (d7,(.int .i64 0)) w fun bs x4 d_ w=>fieldAddr P T.c i 2 w fun eo w=>Q2 P T.b eo w fun ed w=>X5 P .len [T.b] T.e [false] [ed] w fun ei w=>Q3 P .lss T.e (.tmp 26) (.tmp 29) x4.2 ei w fun d2 w=>X1 d2 (dr w fun a b=>Q6 a (fun bz=> ∀w,b w→Q1 x4.1 true w (fieldAddr P T.c i 2) (dk a bz w)) fun bz=>Q6 a (fun bg=> ∀w,b w→Q1 x4.1 true w (fun w J=>J x4.2 w) (dk a bg w)) fun bg=>Q6 a (fun a6=> ∀b3 w,b w→bz b3 w→Q1 x4.1 true w (Q2 P T.b b3) (dk a a6 w)) fun a6=>Q6 a (fun bu=> ∀bj bf w,b w→a6 bj w→bg bf w→Q1 x4.1 true w (indexAddr P T.b bj bf) (dk a bu w)) fun bu=>Q6 a (fun b1=> ∀bd w,b w→bu bd w→Q1 x4.1 true w (Q2 P T.a bd) (dk a b1 w)) fun b1=>Q6 a (fun bv=> ∀bl w,b w→b1 bl w→Q1 x4.1 true w (Q0 P F.f [bl]) (dk a bv w)) fun bv=>Q6 a (fun j=> ∀bh w,b w→bv bh w→pick P x4.1 bh (.bool false) w (dk a j w)) fun j=>Q6 a (fun a3=> ∀c w,b w→j c w→Q1 c true w (fieldAddr P T.c i 2) (dk a a3 w)) fun a3=>Q6 a (fun ay=> ∀c w,b w→j c w→Q1 c true w (fun w J=>J x4.2 w) (dk a ay w)) fun ay=>Q6 a (fun br=> ∀c w,b w→j c w→Q1 c true w (fieldAddr P T.c i 0) (dk a br w)) fun br=>Q6 a (fun a4=> ∀c bk w,b w→j c w→a3 bk w→Q1 c true w (Q2 P T.b bk) (dk a a4 w)) fun a4=>Q6 a (fun a5=> ∀c a8 a1 w,b w→j c w→a4 a8 w→ay a1 w→Q1 c true w (indexAddr P T.b a8 a1) (dk a a5 w)) fun a5=>Q6 a (fun b9=> ∀c a2 w,b w→j c w→a5 a2 w→Q1 c true w (Q2 P T.a a2) (dk a b9 w)) fun b9=>Q6 a (fun ca=> ∀c bo w,b w→j c w→br bo w→Q1 c true w (Q2 P T.a bo) (dk a ca w)) fun ca=>∀b3 bf bj bd bl bh c bk a1 bo a8 a2 dp ct w,b w→bz b3 w→bg bf w→a6 bj w→bu bd w→b1 bl w→bv bh w→j c w→a3 bk w→ay a1 w→br bo w→a4 a8 w→a5 a2 w→b9 dp w→ca ct w→ Q1 c true w (Q3 P .neq T.a (.tmp 47) (.tmp 49) dp ct) fun e0 w=>pick P c e0 (.bool false) w fun ec w=>lp (α:=Value×Value) (ec,(.int .i64 0)) w fun ap e d_ w=>Q3 P .lss T.e (.tmp 52) (.tmp 53) e.2 x4.2 w fun el w=>X1 el (dr w fun a b=>Q6 a (fun b4=> ∀w,b w→Q1 e.1 true w (fieldAddr P T.c i 2) (dk a b4 w)) fun b4=>Q6 a (fun az=> ∀w,b w→Q1 e.1 true w (fun w J=>J e.2 w) (dk a az w)) fun az=>Q6 a (fun bb=> ∀w,b w→Q1 e.1 true w (fieldAddr P T.c i 2) (dk a bb w)) fun bb=>Q6 a (fun bx=> ∀w,b w→Q1 e.1 true w (fun w J=>J x4.2 w) (dk a bx w)) fun bx=>Q6 a (fun ba=> ∀bn w,b w→b4 bn w→Q1 e.1 true w (Q2 P T.b bn) (dk a ba w)) fun ba=>Q6 a (fun bm=> ∀b2 bc w,b w→ba b2 w→az bc w→Q1 e.1 true w (indexAddr P T.b b2 bc) (dk a bm w)) fun bm=>Q6 a (fun cb=> ∀b0 w,b w→bm b0 w→Q1 e.1 true w (Q2 P T.a b0) (dk a cb w)) fun cb=>Q6 a (fun a7=> ∀bp w,b w→bb bp w→Q1 e.1 true w (Q2 P T.b bp) (dk a a7 w)) fun a7=>Q6 a (fun bi=> ∀ax be w,b w→a7 ax w→bx be w→Q1 e.1 true w (indexAddr P T.b ax be) (dk a bi w)) fun bi=>Q6 a (fun cc=> ∀a9 w,b w→bi a9 w→Q1 e.1 true w (Q2 P T.a a9) (dk a cc w)) fun cc=>∀bn bc bp be b2 b0 c9 ax a9 c0 w,b w→b4 bn w→az bc w→bb bp w→bx be w→ba b2 w→bm b0 w→cb c9 w→a7 ax w→bi a9 w→cc c0 w→ Q1 e.1 true w (Q3 P .neq T.a (.tmp 63) (.tmp 68) c9 c0) fun e3 w=>pick P e.1 e3 (.bool false) w fun eg w=>Q3 P .add T.e (.tmp 55) (.const (.int .i64 1)) e.2 (.int .i64 1) w fun ey w=>ap (eg,ey) w) (Q3 P .add T.e (.tmp 31) (.const (.int .i64 1)) x4.2 (.int .i64 1) w fun ek w=>bs (e.1,ek) w)) (lp (α:=Value×Value) (x4.1,(.int .i64 0)) w fun aw f d_ w=>fieldAddr P T.c i 6 w fun ea w=>Q2 P T.i ea w fun ez w=>X5 P .len [T.i] T.e [false] [ez] w fun e4 w=>Q3 P .lss T.e (.tmp 71) (.tmp 74) f.2 e4 w fun eb w=>X1 eb (Q1 f.1 true w (fieldAddr P T.c i 6) fun d3 w=>Q1 f.1 true w (Q2 P T.i d3) fun e6 w=>Q1 f.1 true w (fun w J=>J f.2 w) fun er w=>Q1 f.1 true w (indexAddr P T.i e6 er) fun em w=>Q1 f.1 true w (fieldAddr P T.l em 0) fun ex w=>Q1 f.1 true w (Q2 P T.a ex) fun e9 w=>Q1 f.1 true w (Q0 P F.w [e9]) fun es w=>pick P f.1 es (.bool false) w fun n w=>Q1 n true w (fieldAddr P T.c i 6) fun d9 w=>Q1 n true w (Q2 P T.i d9) fun ep w=>Q1 n true w (fun w J=>J f.2 w) fun e2 w=>Q1 n true w (indexAddr P T.i ep e2) fun ej w=>Q1 n true w (fieldAddr P T.l ej 1) fun fb w=>Q1 n true w (Q2 P T.a fb) fun e8 w=>Q1 n true w (Q0 P F.l [e8]) fun e7 w=>pick P n e7 (.bool false) w fun bw w=>Q1 bw true w (fieldAddr P T.c i 3) fun e5 w=>Q1 bw true w (Q2 P T.p e5) fun ew w=>Q1 bw true w (J4 P .not ew) fun d1 w=>pick P bw d1 (.bool false) w fun cn w=>lp (α:=Value×Value) (cn,(.int .i64 0)) w fun aj d d_ w=>Q3 P .lss T.e (.tmp 102) (.tmp 103) d.2 f.2 w fun dx w=>X1 dx (dr w fun a b=>Q6 a (fun X=> ∀w,b w→Q1 d.1 true w (fieldAddr P T.c i 6) (dk a X w)) fun X=>Q6 a (fun af=> ∀w,b w→Q1 d.1 true w (fun w J=>J d.2 w) (dk a af w)) fun af=>Q6 a (fun O=> ∀w,b w→Q1 d.1 true w (fieldAddr P T.c i 6) (dk a O w)) fun O=>Q6 a (fun V=> ∀w,b w→Q1 d.1 true w (fun w J=>J f.2 w) (dk a V w)) fun V=>Q6 a (fun p=> ∀ad w,b w→X ad w→Q1 d.1 true w (Q2 P T.i ad) (dk a p w)) fun p=>Q6 a (fun s=> ∀W L w,b w→p W w→af L w→Q1 d.1 true w (indexAddr P T.i W L) (dk a s w)) fun s=>Q6 a (fun r=> ∀ag w,b w→s ag w→Q1 d.1 true w (fieldAddr P T.l ag 0) (dk a r w)) fun r=>Q6 a (fun ak=> ∀E w,b w→r E w→Q1 d.1 true w (Q2 P T.a E) (dk a ak w)) fun ak=>Q6 a (fun A=> ∀M w,b w→O M w→Q1 d.1 true w (Q2 P T.i M) (dk a A w)) fun A=>Q6 a (fun D=> ∀ac y w,b w→A ac w→V y w→Q1 d.1 true w (indexAddr P T.i ac y) (dk a D w)) fun D=>Q6 a (fun t=> ∀Z w,b w→D Z w→Q1 d.1 true w (fieldAddr P T.l Z 0) (dk a t w)) fun t=>Q6 a (fun al=> ∀C w,b w→t C w→Q1 d.1 true w (Q2 P T.a C) (dk a al w)) fun al=>∀ad L M y W ag E b7 ac Z C b6 w,b w→X ad w→af L w→O M w→V y w→p W w→s ag w→r E w→ak b7 w→A ac w→D Z w→t C w→al b6 w→ Q1 d.1 true w (Q3 P .neq T.a (.tmp 114) (.tmp 120) b7 b6) fun dl w=>pick P d.1 dl (.bool false) w fun dy w=>Q3 P .add T.e (.tmp 105) (.const (.int .i64 1)) d.2 (.int .i64 1) w fun dt w=>aj (dy,dt) w) (Q3 P .add T.e (.tmp 76) (.const (.int .i64 1)) f.2 (.int .i64 1) w fun eu w=>aw (d.1,eu) w)) (lp (α:=Value×Value) (f.1,(.int .i64 0)) w fun am h d_ w=>fieldAddr P T.c i 7 w fun dv w=>Q2 P T.g dv w fun da w=>X5 P .len [T.g] T.e [false] [da] w fun cu w=>Q3 P .lss T.e (.tmp 123) (.tmp 126) h.2 cu w fun ck w=>X1 ck (fieldAddr P T.c i 7 w fun ce w=>Q2 P T.g ce w fun cv w=>indexAddr P T.g cv h.2 w fun db w=>Q2 P T.d db w fun ci w=>W6 P T.d w fun t9 w=>Z4 P T.d t9 ci w fun _u w=>Q1 h.1 true w (Q2 P T.d t9) fun cr w=>Q1 h.1 true w (Q0 P F.a2 [cr]) fun dc w=>pick P h.1 dc (.bool false) w fun m w=>Q1 m true w (fieldAddr P T.d t9 3) fun cd w=>Q1 m true w (Q2 P T.p cd) fun ch w=>Q1 m true w (J4 P .not ch) fun de w=>Q1 m true w (fun w J=>J de w) fun aq w=>Q1 aq false w (fieldAddr P T.c i 4) fun du w=>Q1 aq false w (Q2 P T.p du) fun c3 w=>Q1 m true w (pick P aq (.bool true) c3) fun di w=>pick P m di (.bool false) w fun k w=>Q1 k true w (fieldAddr P T.c i 3) fun cf w=>Q1 k true w (Q2 P T.p cf) fun cq w=>Q1 k true w (J4 P .not cq) fun c1 w=>Q1 k true w (fun w J=>J c1 w) fun ar w=>Q1 ar false w (fieldAddr P T.d t9 3) fun cx w=>Q1 ar false w (Q2 P T.p cx) fun cy w=>Q1 k true w (pick P ar (.bool true) cy) fun ds w=>pick P k ds (.bool false) w fun c5 w=>lp (α:=Value×Value) (c5,(.int .i64 0)) w fun av g d_ w=>Q3 P .lss T.e (.tmp 158) (.tmp 159) g.2 h.2 w fun cz w=>X1 cz (dr w fun a b=>Q6 a (fun U=> ∀w,b w→Q1 g.1 true w (fieldAddr P T.c i 7) (dk a U w)) fun U=>Q6 a (fun q=> ∀w,b w→Q1 g.1 true w (fun w J=>J g.2 w) (dk a q w)) fun q=>Q6 a (fun H=> ∀w,b w→Q1 g.1 true w (fieldAddr P T.d t9 0) (dk a H w)) fun H=>Q6 a (fun N=> ∀ab w,b w→U ab w→Q1 g.1 true w (Q2 P T.g ab) (dk a N w)) fun N=>Q6 a (fun B=> ∀u Q w,b w→N u w→q Q w→Q1 g.1 true w (indexAddr P T.g u Q) (dk a B w)) fun B=>Q6 a (fun v=> ∀Y w,b w→B Y w→Q1 g.1 true w (fieldAddr P T.d Y 0) (dk a v w)) fun v=>Q6 a (fun an=> ∀z w,b w→v z w→Q1 g.1 true w (Q2 P T.a z) (dk a an w)) fun an=>Q6 a (fun ao=> ∀aa w,b w→H aa w→Q1 g.1 true w (Q2 P T.a aa) (dk a ao w)) fun ao=>∀ab Q aa u Y z b8 b5 w,b w→U ab w→q Q w→H aa w→N u w→B Y w→v z w→an b8 w→ao b5 w→ Q1 g.1 true w (Q3 P .neq T.a (.tmp 170) (.tmp 172) b8 b5) fun d0 w=>pick P g.1 d0 (.bool false) w fun co w=>Q3 P .add T.e (.tmp 161) (.const (.int .i64 1)) g.2 (.int .i64 1) w fun c7 w=>av (co,c7) w) (Q3 P .add T.e (.tmp 128) (.const (.int .i64 1)) h.2 (.int .i64 1) w fun cg w=>am (g.1,cg) w)) (Q1 h.1 true w (fieldAddr P T.c i 3) fun dn w=>Q1 h.1 true w (Q2 P T.p dn) fun cw w=>Q1 h.1 true w (J4 P .not cw) fun cs w=>Q1 h.1 true w (fun w J=>J cs w) fun o w=>Q1 o false w (fieldAddr P T.c i 4) fun dg w=>Q1 o false w (Q2 P T.p dg) fun c6 w=>Q1 o false w (fun w J=>J c6 w) fun R w=>Q1 R true w (fieldAddr P T.c i 1) fun cp w=>Q1 R true w (Q2 P T.a cp) fun c4 w=>Q1 R true w (Q3 P .eql T.a (.tmp 185) (.const (.string ⟨#[79,98,106,101,99,116]⟩)) c4 (.string ⟨#[79,98,106,101,99,116]⟩)) fun c8 w=>Q1 o false w (pick P R c8 (.bool false)) fun dd w=>Q1 h.1 true w (pick P o (.bool true) dd) fun df w=>pick P h.1 df (.bool false) w fun l w=>Q1 l true w (fieldAddr P T.c i 4) fun cm w=>Q1 l true w (Q2 P T.p cm) fun dh w=>Q1 l true w (fun w J=>J dh w) fun ai w=>Q1 ai true w (fieldAddr P T.c i 5) fun c2 w=>Q1 ai true w (Q2 P T.p c2) fun dw w=>Q1 l true w (pick P ai dw (.bool false)) fun dm w=>Q1 l true w (J4 P .not dm) fun cl w=>pick P l cl (.bool false) w fun dq w=>K dq w)))
theorem Kw {a:Value} {w:World} {K:Value→World→Prop} (h:Lh a w K):Q0 P F.bB [a] w K:=Q9 Kt Tryz.func113 rfl (by decide) (by kernel_rfl) h
def Lr (f:Value) (w:World) (K:Value→World→Prop):Prop:= box P T.c f w fun a w=>Q2 P T.c a w fun c w=>Q0 P F.bM [c] w fun g w=>X1 g (K (.int .i64 51) w) (Q2 P T.c a w fun b w=>Q0 P F.bB [b] w fun d w=>J4 P .not d w fun e w=>X1 e (K (.int .i64 50) w) (K (.int .i64 0) w))
theorem Pn {a:Value} {w:World} {K:Value→World→Prop} (h:Lr a w K):Q0 P F.bz [a] w K:=Q9 (List.replicate 8 none) Tryz.func53 rfl (by decide) (by kernel_rfl) h
def Ts:W1:=[none,none,none,some ([5],[4,5,6,7,8,9,10,11,12,13,14,15,16,17,18,19]),none,none,none,none,none,none]
def Ov (h j:Value) (w:World) (K:Value→World→Prop):Prop:= lp (α:=Value) (.int .i64 0) w fun a b l w=>X5 P .len [T.h] T.e [false] [h] w fun k w=>Q3 P .lss T.e (.tmp 6) (.tmp 8) b k w fun i w=>X1 i (indexAddr P T.h h b w fun d w=>fieldAddr P T.c d 0 w fun c w=>Q2 P T.a c w fun g w=>Q3 P .eql T.a (.tmp 16) (.tmp 17) g j w fun f w=>X1 f (K b w) (Q3 P .add T.e (.tmp 10) (.const (.int .i64 1)) b (.int .i64 1) w fun e w=>a e w)) (K (.int .i64 (-1)) w)
theorem Tq {a b:Value} {w:World} {K:Value→World→Prop} (h:Ov a b w K):Q0 P F.d [a,b] w K:=Q9 Ts Tryz.func54 rfl (by decide) (by kernel_rfl) h
def Gi:W1:=[none,none,none,none,none,none,none,some ([6],[4,6,7,28,29,30,31,32,33,34,35,36,37,38,39,40,41,42,43,44,45,46,47,48,49,50,51]),none,none,none,none,none,none,none]
def Wj (g W:Value) (w:World) (K:Value→World→Prop):Prop:= box P T.c W w fun b w=>fieldAddr P T.c b 1 w fun V w=>Q2 P T.a V w fun Q w=>Q0 P F.d [g,Q] w fun f w=>Q3 P .lss T.e (.tmp 12) (.const (.int .i64 0)) f (.int .i64 0) w fun d w=>Q1 d false w (fun w J=>J g w) fun k w=>Q1 d false w (fun w J=>J f w) fun o w=>Q1 d false w (indexAddr P T.h k o) fun t w=>Q1 d false w (fieldAddr P T.c t 3) fun n w=>Q1 d false w (Q2 P T.p n) fun C w=>pick P d (.bool true) C w fun c w=>Q1 c false w (fun w J=>J g w) fun r w=>Q1 c false w (fun w J=>J f w) fun u w=>Q1 c false w (indexAddr P T.h r u) fun v w=>Q1 c false w (fieldAddr P T.c v 5) fun y w=>Q1 c false w (Q2 P T.p y) fun E w=>pick P c (.bool true) E w fun l w=>X1 l (K (.int .i64 61) w) (lp (α:=Value) (.int .i64 0) w fun e H X w=>fieldAddr P T.c b 2 w fun L w=>Q2 P T.b L w fun q w=>X5 P .len [T.b] T.e [false] [q] w fun i w=>Q3 P .lss T.e (.tmp 28) (.tmp 31) H i w fun U w=>X1 U (fieldAddr P T.c b 2 w fun A w=>Q2 P T.b A w fun B w=>indexAddr P T.b B H w fun D w=>Q2 P T.a D w fun N w=>Q0 P F.d [g,N] w fun h w=>Q3 P .lss T.e (.tmp 42) (.const (.int .i64 0)) h (.int .i64 0) w fun a w=>Q1 a false w (fun w J=>J g w) fun p w=>Q1 a false w (fun w J=>J h w) fun s w=>Q1 a false w (indexAddr P T.h p s) fun j w=>Q1 a false w (fieldAddr P T.c j 3) fun O w=>Q1 a false w (Q2 P T.p O) fun z w=>Q1 a false w (J4 P .not z) fun m w=>pick P a (.bool true) m w fun M w=>X1 M (K (.int .i64 62) w) (Q3 P .add T.e (.tmp 33) (.const (.int .i64 1)) H (.int .i64 1) w fun R w=>e R w)) (K (.int .i64 0) w))
theorem Fz {a b:Value} {w:World} {K:Value→World→Prop} (h:Wj a b w K):Q0 P F.bp [a,b] w K:=Q9 Gi Tryz.func55 rfl (by decide) (by kernel_rfl) h
def Pa:W1:=[none,none,none,none,some ([3,4],[3,4,5,6,7,8,13,14,15,16,17,18,19,20,21,22,23,24,25,26,27,28,29,30,31,32,33,34,35,36,37,38,39,40,41,42,43,44,45,46,47,48,49,50,51,52,53,54]),none,none,none,none,none,none,none,some ([7],[7,8,34,35,36,37,38,39,40,41,42,43,44,45,46,47,48,49,50]),none,none,some ([],[8,40,41,42,43,44,45,46,47,48,49,50]),none,none,none,none,some ([9],[9,10,11,55,56,57,58,59,60,61,62,63,64,65,66,67,68,69,70,71,72,73,74,75,76,77,78,79,80,81,82,83,84,85,86,87,88,89,90,91,92,93,94,95,96,97,98,99,100,101,102,103]),none,none,none,none,some ([10],[10,11,61,62,63,64,65,66,67,68,69,70,71,72,73,74,75,76,77,78,79,80,81,82,83,84,85,86,87,88,89,90,91,92,93,94,95,96,97,98,99,100,101,102,103]),none,none,none,none,some ([11],[11,67,68,69,70,71,72,73,74,75,76,77,78,79,80,81,82,83,84,85,86,87,88,89,90,91,92,93,94,95,96,97,98,99,100,101,102,103]),none,none,none,none]
def Lv (a0:Value) (w:World) (K:Value→World→Prop):Prop:= buildSlice P T.a1 0 [] w fun bk w=>lp (α:=Value×Value) (bk,(.int .i64 0)) w fun ad r d_ w=>X5 P .len [T.h] T.e [false] [a0] w fun bu w=>Q3 P .lss T.e (.tmp 13) (.tmp 15) r.2 bu w fun bw w=>X1 bw (X5 P .len [T.h] T.e [false] [a0] w fun bd w=>Dh P T.a0 bd bd w fun be w=>dr w fun b d=>Q6 b (fun V=> ∀w,d w→indexAddr P T.h a0 r.2 w (dk b V w)) fun V=>Q6 b (fun aj=> ∀E w,d w→V E w→fieldAddr P T.c E 1 w (dk b aj w)) fun aj=>Q6 b (fun aa=> ∀w,d w→indexAddr P T.h a0 r.2 w (dk b aa w)) fun aa=>Q6 b (fun U=> ∀z w,d w→aa z w→fieldAddr P T.c z 2 w (dk b U w)) fun U=>Q6 b (fun C=> ∀D w,d w→aj D w→Q2 P T.a D w (dk b C w)) fun C=>Q6 b (fun a5=> ∀am w,d w→C am w→buildSlice P T.b 1 [(0,am)] w (dk b a5 w)) fun a5=>Q6 b (fun a3=> ∀ac w,d w→U ac w→Q2 P T.b ac w (dk b a3 w)) fun a3=>∀E D z ac am a6 bf w,d w→V E w→aj D w→aa z w→U ac w→C am w→a5 a6 w→a3 bf w→ X5 P .append [T.b,T.b] T.b [false,false] [a6,bf] w fun bb w=>lp (α:=Value) (.int .i64 0) w fun l a2 d_ w=>X5 P .len [T.b] T.e [false] [bb] w fun bl w=>Q3 P .lss T.e (.tmp 34) (.tmp 36) a2 bl w fun b0 w=>X1 b0 (jn (α:=Unit) w (fun a9 w=>indexAddr P T.b bb a2 w fun bn w=>Q2 P T.a bn w fun bq w=>Q0 P F.d [a0,bq] w fun a7 w=>Q3 P .geq T.e (.tmp 46) (.const (.int .i64 0)) a7 (.int .i64 0) w fun bs w=>X1 bs (indexAddr P T.a0 be a7 w fun bv w=>Z4 P T.p bv (.bool true) w fun _u w=>a9 () w) (a9 () w)) fun b4 d_ w=>Q3 P .add T.e (.tmp 38) (.const (.int .i64 1)) a2 (.int .i64 1) w fun bo w=>l bo w) (buildSlice P T.a1 1 [(0,be)] w fun bi w=>X5 P .append [T.a1,T.a1] T.a1 [false,false] [r.1,bi] w fun bg w=>Q3 P .add T.e (.tmp 17) (.const (.int .i64 1)) r.2 (.int .i64 1) w fun bh w=>ad (bg,bh) w)) (lp (α:=Value) (.int .i64 0) w fun m R d_ w=>X5 P .len [T.h] T.e [false] [a0] w fun bj w=>Q3 P .lss T.e (.tmp 55) (.tmp 57) R bj w fun b3 w=>X1 b3 (lp (α:=Value) (.int .i64 0) w fun o p d_ w=>X5 P .len [T.h] T.e [false] [a0] w fun bp w=>Q3 P .lss T.e (.tmp 61) (.tmp 63) p bp w fun br w=>X1 br (lp (α:=Value) (.int .i64 0) w fun n k d_ w=>X5 P .len [T.h] T.e [false] [a0] w fun b1 w=>Q3 P .lss T.e (.tmp 67) (.tmp 69) k b1 w fun bx w=>X1 bx (dr w fun b d=>Q6 b (fun aw=> ∀w,d w→indexAddr P T.a1 r.1 p w (dk b aw w)) fun aw=>Q6 b (fun ae=> ∀w,d w→indexAddr P T.a1 r.1 p w (dk b ae w)) fun ae=>Q6 b (fun a4=> ∀O w,d w→aw O w→Q2 P T.a0 O w (dk b a4 w)) fun a4=>Q6 b (fun ab=> ∀A w,d w→ae A w→Q2 P T.a0 A w (dk b ab w)) fun ab=>Q6 b (fun ao=> ∀aq w,d w→ab aq w→indexAddr P T.a0 aq k w (dk b ao w)) fun ao=>Q6 b (fun e=> ∀s w,d w→ao s w→Q2 P T.p s w (dk b e w)) fun e=>Q6 b (fun B=> ∀a w,d w→e a w→Q1 a false w (fun w J=>J r.1 w) (dk b B w)) fun B=>Q6 b (fun an=> ∀a w,d w→e a w→Q1 a false w (fun w J=>J p w) (dk b an w)) fun an=>Q6 b (fun Y=> ∀a N L w,d w→e a w→B N w→an L w→Q1 a false w (indexAddr P T.a1 N L) (dk b Y w)) fun Y=>Q6 b (fun Q=> ∀a w,d w→e a w→Q1 a false w (fun w J=>J R w) (dk b Q w)) fun Q=>Q6 b (fun al=> ∀a W w,d w→e a w→Y W w→Q1 a false w (Q2 P T.a0 W) (dk b al w)) fun al=>Q6 b (fun v=> ∀a M u w,d w→e a w→al M w→Q u w→Q1 a false w (indexAddr P T.a0 M u) (dk b v w)) fun v=>Q6 b (fun H=> ∀a ag w,d w→e a w→v ag w→Q1 a false w (Q2 P T.p ag) (dk b H w)) fun H=>Q6 b (fun f=> ∀a ay w,d w→e a w→H ay w→Q1 a false w (fun w J=>J ay w) (dk b f w)) fun f=>Q6 b (fun ak=> ∀c w,d w→f c w→Q1 c true w (fun w J=>J r.1 w) (dk b ak w)) fun ak=>Q6 b (fun t=> ∀c w,d w→f c w→Q1 c true w (fun w J=>J R w) (dk b t w)) fun t=>Q6 b (fun af=> ∀c ax ar w,d w→f c w→ak ax w→t ar w→Q1 c true w (indexAddr P T.a1 ax ar) (dk b af w)) fun af=>Q6 b (fun ah=> ∀c w,d w→f c w→Q1 c true w (fun w J=>J k w) (dk b ah w)) fun ah=>Q6 b (fun Z=> ∀c ai w,d w→f c w→af ai w→Q1 c true w (Q2 P T.a0 ai) (dk b Z w)) fun Z=>Q6 b (fun y=> ∀c av ap w,d w→f c w→Z av w→ah ap w→Q1 c true w (indexAddr P T.a0 av ap) (dk b y w)) fun y=>Q6 b (fun i=> ∀c X w,d w→f c w→y X w→Q1 c true w (Q2 P T.p X) (dk b i w)) fun i=>Q6 b (fun g=> ∀a c j w,d w→e a w→f c w→i j w→Q1 a false w (pick P c j (.bool false)) (dk b g w)) fun g=>Q6 b (fun q=> ∀a h w,d w→e a w→g h w→pick P a (.bool true) h w (dk b q w)) fun q=>∀O A ba aq s a N L W u M ag ay c ax ar ai ap av X j h az w,d w→aw O w→ae A w→a4 ba w→ab aq w→ao s w→e a w→B N w→an L w→Y W w→Q u w→al M w→v ag w→H ay w→f c w→ak ax w→t ar w→af ai w→ah ap w→Z av w→y X w→i j w→g h w→q az w→ indexAddr P T.a0 ba k w fun a8 w=>Z4 P T.p a8 az w fun _u w=>Q3 P .add T.e (.tmp 71) (.const (.int .i64 1)) k (.int .i64 1) w fun bm w=>n bm w) (Q3 P .add T.e (.tmp 65) (.const (.int .i64 1)) p (.int .i64 1) w fun bz w=>o bz w)) (Q3 P .add T.e (.tmp 59) (.const (.int .i64 1)) R (.int .i64 1) w fun b2 w=>m b2 w)) (K r.1 w))
theorem Kx {a:Value} {w:World} {K:Value→World→Prop} (h:Lv a w K):Q0 P F.aI [a] w K:=Q9 Pa Tryz.func56 rfl (by decide) (by kernel_rfl) h
def Q0c:W1:=[none,none,none,none,none,none,some ([9],[8,9,16,17,18,19,20,21,22,23,24,25,26,27,28]),none,none,none,none,none,none,none,none,some ([1,11],[1,11,41,42,43,44,45,46,47,48,49,50,51,52,53,54,55,56]),none,none,none,none]
def Dz (y u X r:Value) (w:World) (K:Value→World→Prop):Prop:= Q3 P .lss T.e (.tmp 12) (.tmp 13) r X w fun V w=>X1 V (K u w) (lp (α:=Value) (.int .i64 0) w fun f H Y w=>X5 P .len [T.z] T.e [false] [u] w fun B w=>Q3 P .lss T.e (.tmp 16) (.tmp 18) H B w fun N w=>X1 N (indexAddr P T.z u H w fun J w=>Q2 P T.e J w fun E w=>Q3 P .eql T.e (.tmp 25) (.tmp 26) E r w fun A w=>X1 A (K u w) (Q3 P .add T.e (.tmp 20) (.const (.int .i64 1)) H (.int .i64 1) w fun M w=>f M w)) (dr w fun a o=>Q6 a (fun j=> ∀w,o w→indexAddr P T.h y r w (dk a j w)) fun j=>Q6 a (fun k=> ∀d w,o w→j d w→fieldAddr P T.c d 1 w (dk a k w)) fun k=>Q6 a (fun l=> ∀w,o w→indexAddr P T.h y r w (dk a l w)) fun l=>Q6 a (fun e=> ∀h w,o w→l h w→fieldAddr P T.c h 2 w (dk a e w)) fun e=>Q6 a (fun m=> ∀n w,o w→k n w→Q2 P T.a n w (dk a m w)) fun m=>Q6 a (fun q=> ∀i w,o w→m i w→buildSlice P T.b 1 [(0,i)] w (dk a q w)) fun q=>Q6 a (fun p=> ∀g w,o w→e g w→Q2 P T.b g w (dk a p w)) fun p=>∀d n h g i v s w,o w→j d w→k n w→l h w→e g w→m i w→q v w→p s w→ X5 P .append [T.b,T.b] T.b [false,false] [v,s] w fun t w=>lp (α:=Value×Value) (u,(.int .i64 0)) w fun c b Y w=>X5 P .len [T.b] T.e [false] [t] w fun O w=>Q3 P .lss T.e (.tmp 41) (.tmp 43) b.2 O w fun W w=>X1 W (indexAddr P T.b t b.2 w fun C w=>Q2 P T.a C w fun z w=>Q0 P F.d [y,z] w fun L w=>Q0 P F.b1 [y,b.1,X,L] w fun R w=>Q3 P .add T.e (.tmp 45) (.const (.int .i64 1)) b.2 (.int .i64 1) w fun D w=>c (R,D) w) (buildSlice P T.z 1 [(0,r)] w fun U w=>X5 P .append [T.z,T.z] T.z [false,false] [b.1,U] w fun Q w=>K Q w)))
theorem Q0p {b c a d:Value} {w:World} {K:Value→World→Prop} (h:Dz b c a d w K):Q0 P F.b1 [b,c,a,d] w K:=Q9 Q0c Tryz.func57 rfl (by decide) (by kernel_rfl) h
end Go.Proofs.YtfppjenblllfaaaGreatDoor

set_option maxRecDepth 100000
namespace Go.Proofs.YtfppjenblllfaaaGreatDoor
open Go.Emb
def Xi (u A:Value) (w:World) (K:Value→World→Prop):Prop:= Q0 P F.d [u,A] w fun v w=>Q3 P .lss T.e (.tmp 9) (.const (.int .i64 0)) v (.int .i64 0) w fun z w=>X1 z (K (.slice none 0 0) w) (dr w fun a b=>Q6 a (fun o=> ∀w,b w→indexAddr P T.h u v w (dk a o w)) fun o=>Q6 a (fun m=> ∀c w,b w→o c w→fieldAddr P T.c c 1 w (dk a m w)) fun m=>Q6 a (fun n=> ∀w,b w→indexAddr P T.h u v w (dk a n w)) fun n=>Q6 a (fun d=> ∀h w,b w→n h w→fieldAddr P T.c h 6 w (dk a d w)) fun d=>Q6 a (fun p=> ∀w,b w→buildSlice P T.i 0 [] w (dk a p w)) fun p=>Q6 a (fun j=> ∀g w,b w→m g w→Q2 P T.a g w (dk a j w)) fun j=>Q6 a (fun i=> ∀k w,b w→j k w→Q0 P F.a3 [u,k] w (dk a i w)) fun i=>Q6 a (fun q=> ∀e f w,b w→p e w→i f w→X5 P .append [T.i,T.i] T.i [false,false] [e,f] w (dk a q w)) fun q=>Q6 a (fun r=> ∀l w,b w→d l w→Q2 P T.i l w (dk a r w)) fun r=>∀c g h l e k f t s w,b w→o c w→m g w→n h w→d l w→p e w→j k w→i f w→q t w→r s w→ X5 P .append [T.i,T.i] T.i [false,false] [t,s] w fun y w=>K y w)
theorem Wk {a b:Value} {w:World} {K:Value→World→Prop} (h:Xi a b w K):Q0 P F.a3 [a,b] w K:=Q9 (List.replicate 6 none) Tryz.func173 rfl (by decide) (by kernel_rfl) h
def Kr:W1:=[none,none,none,none,some ([8],[6,8,12,13,14,15,16,17,18,19,20,21,22,23,24,25]),none,none,none,none,none,none]
def Lp (l m k:Value) (w:World) (K:Value→World→Prop):Prop:= Q0 P F.a3 [l,m] w fun b w=>lp (α:=Value) (.int .i64 0) w fun a c n w=>X5 P .len [T.i] T.e [false] [b] w fun g w=>Q3 P .lss T.e (.tmp 12) (.tmp 14) c g w fun d w=>X1 d (indexAddr P T.i b c w fun j w=>fieldAddr P T.l j 0 w fun i w=>Q2 P T.a i w fun h w=>Q3 P .eql T.a (.tmp 22) (.tmp 23) h k w fun f w=>X1 f (K c w) (Q3 P .add T.e (.tmp 16) (.const (.int .i64 1)) c (.int .i64 1) w fun e w=>a e w)) (K (.int .i64 (-1)) w)
theorem Ki {b c a:Value} {w:World} {K:Value→World→Prop} (h:Lp b c a w K):Q0 P F.bC [b,c,a] w K:=Q9 Kr Tryz.func114 rfl (by decide) (by kernel_rfl) h
def Ny (a:Value) (w:World) (K:Value→World→Prop):Prop:= X5 P .len [T.a] T.e [false] [a] w fun d w=>Q0 P F.ar [a] w fun e w=>Q3 P .mul T.e (.const (.int .i64 2)) (.tmp 7) (.int .i64 2) e w fun f w=>Q3 P .sub T.e (.tmp 5) (.tmp 8) d f w fun c w=>R5 P T.a a none (some c) none w fun b w=>K b w
theorem Ai {a:Value} {w:World} {K:Value→World→Prop} (h:Ny a w K):Q0 P F.aT [a] w K:=Q9 (List.replicate 2 none) Tryz.func121 rfl (by decide) (by kernel_rfl) h
def Nt (q d:Value) (w:World) (K:Value→World→Prop):Prop:= Q3 P .eql T.a (.tmp 5) (.const (.string ⟨#[110,117,108,108]⟩)) d (.string ⟨#[110,117,108,108]⟩) w fun c w=>Q1 c false w (fun w J=>J d w) fun p w=>Q1 c false w (Q0 P F.l [p]) fun r w=>Q1 c false w (fun w J=>J r w) fun b w=>Q1 b true w (fun w J=>J d w) fun f w=>Q1 b true w (Q0 P F.aT [f]) fun k w=>Q1 b true w (Q0 P F.aj [k]) fun o w=>Q1 b true w (fun w J=>J o w) fun a w=>Q1 a false w (fun w J=>J q w) fun e w=>Q1 a false w (fun w J=>J d w) fun h w=>Q1 a false w (Q0 P F.aT [h]) fun j w=>Q1 a false w (Q0 P F.d [e,j]) fun g w=>Q1 a false w (Q3 P .geq T.e (.tmp 18) (.const (.int .i64 0)) g (.int .i64 0)) fun m w=>Q1 b true w (pick P a (.bool true) m) fun n w=>Q1 c false w (pick P b n (.bool false)) fun l w=>pick P c (.bool true) l w fun i w=>K i w
theorem Aa {a b:Value} {w:World} {K:Value→World→Prop} (h:Nt a b w K):Q0 P F.bL [a,b] w K:=Q9 (List.replicate 2 none) Tryz.func61 rfl (by decide) (by kernel_rfl) h
def Ln (f d:Value) (w:World) (K:Value→World→Prop):Prop:= Q3 P .neq T.a (.tmp 5) (.const (.string ⟨#[110,117,108,108]⟩)) d (.string ⟨#[110,117,108,108]⟩) w fun a w=>Q1 a true w (fun w J=>J f w) fun g w=>Q1 a true w (fun w J=>J d w) fun e w=>Q1 a true w (Q0 P F.bL [g,e]) fun c w=>pick P a c (.bool false) w fun b w=>K b w
theorem Pu {a b:Value} {w:World} {K:Value→World→Prop} (h:Ln a b w K):Q0 P F.bD [a,b] w K:=Q9 (List.replicate 2 none) Tryz.func115 rfl (by decide) (by kernel_rfl) h
def Aj:W1:=[none,none,none,none,some ([3,4],[3,4,5,6,7,8,9,10,11,12,13,14,15,16,17,18,19,20,21,22]),none,none,none,some ([3],[3,12,13,14,15]),none,none]
def Nw (u:Value) (w:World) (K:Value→World→Prop):Prop:= box P T.d u w fun a w=>lp (α:=Value×Value) ((.string ⟨#[40]⟩),(.int .i64 0)) w fun b c v w=>fieldAddr P T.d a 1 w fun r w=>Q2 P T.b r w fun q w=>X5 P .len [T.b] T.e [false] [q] w fun s w=>Q3 P .lss T.e (.tmp 5) (.tmp 8) c.2 s w fun y w=>X1 y (jn (α:=Value) w (fun p w=>Q3 P .gtr T.e (.tmp 12) (.const (.int .i64 0)) c.2 (.int .i64 0) w fun o w=>X1 o (Q3 P .add T.a (.tmp 14) (.const (.string ⟨#[44]⟩)) c.1 (.string ⟨#[44]⟩) w fun d w=>p d w) (p c.1 w)) fun t v w=>fieldAddr P T.d a 1 w fun i w=>Q2 P T.b i w fun g w=>indexAddr P T.b g c.2 w fun n w=>Q2 P T.a n w fun l w=>Q3 P .add T.a (.tmp 16) (.tmp 21) t l w fun h w=>Q3 P .add T.e (.tmp 10) (.const (.int .i64 1)) c.2 (.int .i64 1) w fun f w=>b (h,f) w) (Q3 P .add T.a (.tmp 23) (.const (.string ⟨#[41]⟩)) c.1 (.string ⟨#[41]⟩) w fun k w=>fieldAddr P T.d a 2 w fun j w=>Q2 P T.a j w fun m w=>Q3 P .add T.a (.tmp 24) (.tmp 26) k m w fun e w=>K e w)
theorem Ay {a:Value} {w:World} {K:Value→World→Prop} (h:Nw a w K):Q0 P F.aS [a] w K:=Q9 Aj Tryz.func116 rfl (by decide) (by kernel_rfl) h
def Q0x:W1:=[none,none,none,some ([5],[4,5,6,7,8,9,10,11,12,13,14,15,16,17,18,19,20,21]),none,none,none,none,none,none]
def Ee (n p:Value) (w:World) (K:Value→World→Prop):Prop:= box P T.c n w fun a w=>lp (α:=Value) (.int .i64 0) w fun b c q w=>fieldAddr P T.c a 7 w fun l w=>Q2 P T.g l w fun m w=>X5 P .len [T.g] T.e [false] [m] w fun o w=>Q3 P .lss T.e (.tmp 6) (.tmp 9) c o w fun j w=>X1 j (fieldAddr P T.c a 7 w fun k w=>Q2 P T.g k w fun i w=>indexAddr P T.g i c w fun e w=>fieldAddr P T.d e 0 w fun f w=>Q2 P T.a f w fun d w=>Q3 P .eql T.a (.tmp 18) (.tmp 19) d p w fun h w=>X1 h (K c w) (Q3 P .add T.e (.tmp 11) (.const (.int .i64 1)) c (.int .i64 1) w fun g w=>b g w)) (K (.int .i64 (-1)) w)
theorem Q16 {a b:Value} {w:World} {K:Value→World→Prop} (h:Ee a b w K):Q0 P F.ba [a,b] w K:=Q9 Q0x Tryz.func174 rfl (by decide) (by kernel_rfl) h
def Kf:W1:=[none,none,none,some ([9],[6,8,9,10,11,12,13,14,15,16,17,18,19,20,21,22,23,24,25,26,27,28,29,30,31,32,33,34,35,36,37,38,39,40,41,42,43,44,45,46,47,48,49,50,51,52,53,54]),none,none,none,none,none,none,none,none,none,none,none,none]
def Nk (X a1 a2:Value) (w:World) (K:Value→World→Prop):Prop:= box P T.c a1 w fun d w=>W6 P T.d w fun s w=>lp (α:=Value) (.int .i64 0) w fun k U d_ w=>fieldAddr P T.c d 2 w fun E w=>Q2 P T.b E w fun L w=>X5 P .len [T.b] T.e [false] [L] w fun D w=>Q3 P .lss T.e (.tmp 15) (.tmp 18) U D w fun V w=>X1 V (fieldAddr P T.c d 2 w fun N w=>Q2 P T.b N w fun M w=>indexAddr P T.b M U w fun B w=>Q2 P T.a B w fun aa w=>Q0 P F.d [X,aa] w fun Y w=>indexAddr P T.h X Y w fun H w=>Q2 P T.c H w fun A w=>W6 P T.c w fun a w=>Z4 P T.c a A w fun _u w=>Q2 P T.c a w fun ab w=>Q0 P F.ba [ab,a2] w fun z w=>Q3 P .geq T.e (.tmp 35) (.const (.int .i64 0)) z (.int .i64 0) w fun Q w=>X1 Q (dr w fun b e=>Q6 b (fun l=> ∀w,e w→fieldAddr P T.c a 0 w (dk b l w)) fun l=>Q6 b (fun h=> ∀w,e w→fieldAddr P T.c a 7 w (dk b h w)) fun h=>Q6 b (fun o=> ∀i w,e w→l i w→Q2 P T.a i w (dk b o w)) fun o=>Q6 b (fun g=> ∀j w,e w→h j w→Q2 P T.g j w (dk b g w)) fun g=>Q6 b (fun f=> ∀n w,e w→g n w→indexAddr P T.g n z w (dk b f w)) fun f=>Q6 b (fun p=> ∀m w,e w→f m w→Q2 P T.d m w (dk b p w)) fun p=>∀i j u n m v w,e w→l i w→h j w→o u w→g n w→f m w→p v w→ Z4 P T.d s v w fun _u w=>W3 P T.d s w fun y=>K (.tuple #[u,y,(.bool true)]) w) (Q2 P T.c a w fun J w=>Q0 P F.aM [X,J,a2] w fun r w=>ext P r 0 w fun O w=>ext P r 1 w fun C w=>ext P r 2 w fun Z w=>W6 P T.d w fun c w=>Z4 P T.d c C w fun _u w=>X1 Z (dr w fun b e=>Q6 b (fun q=> ∀w,e w→Q2 P T.d c w (dk b q w)) fun q=>∀t w,e w→q t w→ Z4 P T.d s t w fun _u w=>W3 P T.d s w fun y=>K (.tuple #[O,y,(.bool true)]) w) (Q3 P .add T.e (.tmp 20) (.const (.int .i64 1)) U (.int .i64 1) w fun W w=>k W w))) (O4 P T.d [] w fun R w=>Z4 P T.d s R w fun _u w=>W3 P T.d s w fun y=>K (.tuple #[(.string ⟨#[]⟩),y,(.bool false)]) w)
theorem Im {b c a:Value} {w:World} {K:Value→World→Prop} (h:Nk b c a w K):Q0 P F.aM [b,c,a] w K:=Q9 Kf Tryz.func175 rfl (by decide) (by kernel_rfl) h
def Gt:W1:=[none,none,none,some ([9],[6,8,9,10,18,19,20,21,22,23,24,25,26,27,28,29,30,31,32,33,34,35,36,37,38,39,40,41,42,43,44,45,46,47]),none,none,none,none,none,none,none,none,some ([11],[6,8,11,12,13,14,51,52,53,54,55,56,57,58,59,60,61,62,63,64,65,66,67,68,69,70,71,72,73]),none,none,none,none,none,none,none]
def Wy (c a1 a2:Value) (w:World) (K:Value→World→Prop):Prop:= W6 P T.d w fun y w=>Q0 P F.d [c,a1] w fun R w=>lp (α:=Value) R w fun n A d_ w=>Q3 P .geq T.e (.tmp 18) (.const (.int .i64 0)) A (.int .i64 0) w fun Y w=>X1 Y (indexAddr P T.h c A w fun ac w=>Q2 P T.c ac w fun N w=>Q0 P F.ba [N,a2] w fun H w=>Q3 P .geq T.e (.tmp 33) (.const (.int .i64 0)) H (.int .i64 0) w fun Q w=>X1 Q (dr w fun a b=>Q6 a (fun o=> ∀w,b w→indexAddr P T.h c A w (dk a o w)) fun o=>Q6 a (fun f=> ∀k w,b w→o k w→fieldAddr P T.c k 0 w (dk a f w)) fun f=>Q6 a (fun e=> ∀w,b w→indexAddr P T.h c A w (dk a e w)) fun e=>Q6 a (fun h=> ∀p w,b w→e p w→fieldAddr P T.c p 7 w (dk a h w)) fun h=>Q6 a (fun s=> ∀i w,b w→f i w→Q2 P T.a i w (dk a s w)) fun s=>Q6 a (fun j=> ∀m w,b w→h m w→Q2 P T.g m w (dk a j w)) fun j=>Q6 a (fun l=> ∀q w,b w→j q w→indexAddr P T.g q H w (dk a l w)) fun l=>Q6 a (fun v=> ∀g w,b w→l g w→Q2 P T.d g w (dk a v w)) fun v=>∀k i p m B q g z w,b w→o k w→f i w→e p w→h m w→s B w→j q w→l g w→v z w→ Z4 P T.d y z w fun _u w=>W3 P T.d y w fun C=>K (.tuple #[B,C,(.bool true)]) w) (indexAddr P T.h c A w fun U w=>fieldAddr P T.c U 1 w fun V w=>Q2 P T.a V w fun W w=>Q0 P F.d [c,W] w fun ab w=>n ab w)) (Q0 P F.d [c,a1] w fun L w=>lp (α:=Value) L w fun d t d_ w=>Q3 P .geq T.e (.tmp 51) (.const (.int .i64 0)) t (.int .i64 0) w fun M w=>X1 M (indexAddr P T.h c t w fun ag w=>Q2 P T.c ag w fun J w=>Q0 P F.aM [c,J,a2] w fun u w=>ext P u 0 w fun ah w=>ext P u 1 w fun Z w=>ext P u 2 w fun X w=>W6 P T.d w fun D w=>Z4 P T.d D Z w fun _u w=>X1 X (dr w fun a b=>Q6 a (fun r=> ∀w,b w→Q2 P T.d D w (dk a r w)) fun r=>∀E w,b w→r E w→ Z4 P T.d y E w fun _u w=>W3 P T.d y w fun C=>K (.tuple #[ah,C,(.bool true)]) w) (indexAddr P T.h c t w fun ae w=>fieldAddr P T.c ae 1 w fun O w=>Q2 P T.a O w fun ad w=>Q0 P F.d [c,ad] w fun af w=>d af w)) (O4 P T.d [] w fun aa w=>Z4 P T.d y aa w fun _u w=>W3 P T.d y w fun C=>K (.tuple #[(.string ⟨#[]⟩),C,(.bool false)]) w))
theorem Fm {b c a:Value} {w:World} {K:Value→World→Prop} (h:Wy b c a w K):Q0 P F.bq [b,c,a] w K:=Q9 Gt Tryz.func117 rfl (by decide) (by kernel_rfl) h
def Fa:W1:=[none,none,none,none,some ([6],[4,6,24,25,26,27,28,29,30,31,32,33,34,35,36,37,38,39,40,41]),none,none,none,none,none,none,none,none,some ([7,8],[7,8,43,44,45,46,47,48,49,50,51,52,53,54,55,56,57,58]),none,none,none,none,none,some ([7,9],[7,9,59,60,61,62,63,64,65,66,67,68,69,70,71,72,73,74,75,76,77,78,79,80,81,82,83,84,85,86,87,88,89]),none,none,some ([7],[7,66,67,68,69,70,71,72,73,74,75,76,77,78,79,80,81,82,83,84,85,86,87,88,89]),none,none,none,none,some ([10],[4,10,90,91,92,93,94,95,96,97,98,99,100,101,102]),none,none,none,none,none,none,none,none,none,some ([12,13],[12,13,106,107,108,109,110,111,112,113,114,115,116,117,118,119,120,121,122,123,124,125,126,127,128,129,130]),none,none,some ([12],[12,112,113,114,115,116,117,118,119,120,121,122,123,124,125,126,127,128,129,130]),none,none,none,some ([14],[4,14,15,131,132,133,134,135,136,137,138,139,140,141,142,143,144,145,146,147,148,149,150,151,152,153,154,155,156,157,158,159,160,161,162,163,164,165]),none,none,none,none,some ([15],[4,15,137,138,139,140,141,142,143,144,145,146,147,148,149,150,151,152,153,154,155,156,157,158,159,160,161,162,163,164,165]),none,none,none,none,none,none,none,some ([16],[4,16,17,18,19,166,167,168,169,170,171,172,173,174,175,176,177,178,179,180,181,182,183,184,185,186,187,188,189,190,191,192,193,194,195]),none,none,none,none,none,none,none]
def Ve (a0 a1:Value) (w:World) (K:Value→World→Prop):Prop:= indexAddr P T.h a0 a1 w fun d9 w=>Q2 P T.c d9 w fun c3 w=>W6 P T.c w fun t5 w=>Z4 P T.c t5 c3 w fun _u w=>lp (α:=Value) (.int .i64 0) w fun bb x4 d_ w=>fieldAddr P T.c t5 6 w fun c2 w=>Q2 P T.i c2 w fun dl w=>X5 P .len [T.i] T.e [false] [dl] w fun du w=>Q3 P .lss T.e (.tmp 24) (.tmp 27) x4 du w fun dd w=>X1 dd (dr w fun b c=>Q6 b (fun a9=> ∀w,c w→fieldAddr P T.c t5 1 w (dk b a9 w)) fun a9=>Q6 b (fun a8=> ∀w,c w→fieldAddr P T.c t5 6 w (dk b a8 w)) fun a8=>Q6 b (fun bl=> ∀a7 w,c w→a9 a7 w→Q2 P T.a a7 w (dk b bl w)) fun bl=>Q6 b (fun be=> ∀ba w,c w→a8 ba w→Q2 P T.i ba w (dk b be w)) fun be=>Q6 b (fun a6=> ∀bf w,c w→be bf w→indexAddr P T.i bf x4 w (dk b a6 w)) fun a6=>Q6 b (fun bc=> ∀a5 w,c w→a6 a5 w→fieldAddr P T.l a5 0 w (dk b bc w)) fun bc=>Q6 b (fun bn=> ∀a4 w,c w→bc a4 w→Q2 P T.a a4 w (dk b bn w)) fun bn=>∀a7 ba cb bf a5 a4 ca w,c w→a9 a7 w→a8 ba w→bl cb w→be bf w→a6 a5 w→bc a4 w→bn ca w→ Q0 P F.bC [a0,cb,ca] w fun dm w=>Q3 P .geq T.e (.tmp 40) (.const (.int .i64 0)) dm (.int .i64 0) w fun dq w=>X1 dq (K (.int .i64 64) w) (Q3 P .add T.e (.tmp 29) (.const (.int .i64 1)) x4 (.int .i64 1) w fun cy w=>bb cy w)) (buildSlice P T.b 0 [] w fun d3 w=>lp (α:=Value×Value) (d3,(.int .i64 0)) w fun aw al d_ w=>fieldAddr P T.c t5 6 w fun db w=>Q2 P T.i db w fun cz w=>X5 P .len [T.i] T.e [false] [cz] w fun c1 w=>Q3 P .lss T.e (.tmp 43) (.tmp 46) al.2 c1 w fun d7 w=>X1 d7 (fieldAddr P T.c t5 6 w fun da w=>Q2 P T.i da w fun d8 w=>indexAddr P T.i d8 al.2 w fun ds w=>fieldAddr P T.l ds 1 w fun c6 w=>Q2 P T.a c6 w fun d5 w=>buildSlice P T.b 1 [(0,d5)] w fun dv w=>X5 P .append [T.b,T.b] T.b [false,false] [al.1,dv] w fun ee w=>Q3 P .add T.e (.tmp 48) (.const (.int .i64 1)) al.2 (.int .i64 1) w fun dh w=>aw (ee,dh) w) (lp (α:=Value×Value) (al.1,(.int .i64 0)) w fun ai j d_ w=>fieldAddr P T.c t5 7 w fun ec w=>Q2 P T.g ec w fun df w=>X5 P .len [T.g] T.e [false] [df] w fun ea w=>Q3 P .lss T.e (.tmp 59) (.tmp 62) j.2 ea w fun dy w=>X1 dy (jn (α:=Value) w (fun br w=>fieldAddr P T.c t5 7 w fun dc w=>Q2 P T.g dc w fun dp w=>indexAddr P T.g dp j.2 w fun dg w=>fieldAddr P T.d dg 1 w fun dz w=>Q2 P T.b dz w fun c7 w=>X5 P .append [T.b,T.b] T.b [false,false] [j.1,c7] w fun cg w=>fieldAddr P T.c t5 7 w fun eb w=>Q2 P T.g eb w fun c8 w=>indexAddr P T.g c8 j.2 w fun d2 w=>fieldAddr P T.d d2 2 w fun di w=>Q2 P T.a di w fun eg w=>Q3 P .neq T.a (.tmp 79) (.const (.string ⟨#[]⟩)) eg (.string ⟨#[]⟩) w fun c0 w=>X1 c0 (fieldAddr P T.c t5 7 w fun dw w=>Q2 P T.g dw w fun dt w=>indexAddr P T.g dt j.2 w fun eh w=>fieldAddr P T.d eh 2 w fun dx w=>Q2 P T.a dx w fun c4 w=>buildSlice P T.b 1 [(0,c4)] w fun c9 w=>X5 P .append [T.b,T.b] T.b [false,false] [cg,c9] w fun c5 w=>br c5 w) (br cg w)) fun d0 d_ w=>Q3 P .add T.e (.tmp 64) (.const (.int .i64 1)) j.2 (.int .i64 1) w fun cx w=>ai (d0,cx) w) (lp (α:=Value) (.int .i64 0) w fun az bm d_ w=>X5 P .len [T.b] T.e [false] [j.1] w fun dn w=>Q3 P .lss T.e (.tmp 90) (.tmp 92) bm dn w fun ei w=>X1 ei (indexAddr P T.b j.1 bm w fun d4 w=>Q2 P T.a d4 w fun cv w=>Q0 P F.bD [a0,cv] w fun b0 w=>J4 P .not b0 w fun b9 w=>X1 b9 (K (.int .i64 65) w) (Q3 P .add T.e (.tmp 94) (.const (.int .i64 1)) bm (.int .i64 1) w fun ef w=>az ef w)) (Q0 P F.aI [a0] w fun cs w=>buildSlice P T.g 0 [] w fun b5 w=>lp (α:=Value×Value) (b5,(.int .i64 0)) w fun aj f d_ w=>X5 P .len [T.h] T.e [false] [a0] w fun cd w=>Q3 P .lss T.e (.tmp 106) (.tmp 108) f.2 cd w fun cp w=>X1 cp (jn (α:=Value) w (fun cw w=>Q3 P .eql T.e (.tmp 112) (.tmp 113) f.2 a1 w fun g w=>Q1 g false w (fun w J=>J cs w) fun co w=>Q1 g false w (fun w J=>J a1 w) fun bx w=>Q1 g false w (indexAddr P T.a1 co bx) fun ci w=>Q1 g false w (Q2 P T.a0 ci) fun b3 w=>Q1 g false w (fun w J=>J f.2 w) fun b7 w=>Q1 g false w (indexAddr P T.a0 b3 b7) fun cf w=>Q1 g false w (Q2 P T.p cf) fun ct w=>pick P g (.bool true) ct w fun cn w=>X1 cn (indexAddr P T.h a0 f.2 w fun bv w=>fieldAddr P T.c bv 7 w fun b1 w=>Q2 P T.g b1 w fun bs w=>X5 P .append [T.g,T.g] T.g [false,false] [f.1,bs] w fun bq w=>cw bq w) (cw f.1 w)) fun de d_ w=>Q3 P .add T.e (.tmp 110) (.const (.int .i64 1)) f.2 (.int .i64 1) w fun b4 w=>aj (de,b4) w) (lp (α:=Value) (.int .i64 0) w fun ao aq d_ w=>X5 P .len [T.g] T.e [false] [f.1] w fun cc w=>Q3 P .lss T.e (.tmp 131) (.tmp 133) aq cc w fun bu w=>X1 bu (lp (α:=Value) (.int .i64 0) w fun ax a2 d_ w=>Q3 P .lss T.e (.tmp 137) (.tmp 138) a2 aq w fun ck w=>X1 ck (dr w fun b c=>Q6 b (fun aa=> ∀w,c w→indexAddr P T.g f.1 aq w (dk b aa w)) fun aa=>Q6 b (fun af=> ∀U w,c w→aa U w→fieldAddr P T.d U 0 w (dk b af w)) fun af=>Q6 b (fun r=> ∀w,c w→indexAddr P T.g f.1 a2 w (dk b r w)) fun r=>Q6 b (fun D=> ∀n w,c w→r n w→fieldAddr P T.d n 0 w (dk b D w)) fun D=>Q6 b (fun p=> ∀ae w,c w→af ae w→Q2 P T.a ae w (dk b p w)) fun p=>Q6 b (fun q=> ∀o w,c w→D o w→Q2 P T.a o w (dk b q w)) fun q=>Q6 b (fun d=> ∀M v w,c w→p M w→q v w→Q3 P .eql T.a (.tmp 146) (.tmp 151) M v w (dk b d w)) fun d=>Q6 b (fun W=> ∀a w,c w→d a w→Q1 a true w (fun w J=>J f.1 w) (dk b W w)) fun W=>Q6 b (fun l=> ∀a w,c w→d a w→Q1 a true w (fun w J=>J aq w) (dk b l w)) fun l=>Q6 b (fun ag=> ∀a E H w,c w→d a w→W E w→l H w→Q1 a true w (indexAddr P T.g E H) (dk b ag w)) fun ag=>Q6 b (fun s=> ∀a w,c w→d a w→Q1 a true w (fun w J=>J f.1 w) (dk b s w)) fun s=>Q6 b (fun R=> ∀a w,c w→d a w→Q1 a true w (fun w J=>J a2 w) (dk b R w)) fun R=>Q6 b (fun m=> ∀a V L w,c w→d a w→s V w→R L w→Q1 a true w (indexAddr P T.g V L) (dk b m w)) fun m=>Q6 b (fun y=> ∀a ab w,c w→d a w→ag ab w→Q1 a true w (Q2 P T.d ab) (dk b y w)) fun y=>Q6 b (fun an=> ∀a O w,c w→d a w→y O w→Q1 a true w (Q0 P F.aS [O]) (dk b an w)) fun an=>Q6 b (fun ay=> ∀a X w,c w→d a w→m X w→Q1 a true w (Q2 P T.d X) (dk b ay w)) fun ay=>∀U ae n o M v a E H ab V L X O bi bh w,c w→aa U w→af ae w→r n w→D o w→p M w→q v w→d a w→W E w→l H w→ag ab w→s V w→R L w→m X w→y O w→an bi w→ay bh w→ Q1 a true w (Q0 P F.aS [bh]) fun bw w=>Q1 a true w (Q3 P .neq T.a (.tmp 158) (.tmp 163) bi bw) fun cq w=>pick P a cq (.bool false) w fun cl w=>X1 cl (K (.int .i64 66) w) (Q3 P .add T.e (.tmp 140) (.const (.int .i64 1)) a2 (.int .i64 1) w fun bo w=>ax bo w)) (Q3 P .add T.e (.tmp 135) (.const (.int .i64 1)) aq (.int .i64 1) w fun cm w=>ao cm w)) (lp (α:=Value) (.int .i64 0) w fun ap bj d_ w=>X5 P .len [T.g] T.e [false] [f.1] w fun ch w=>Q3 P .lss T.e (.tmp 166) (.tmp 168) bj ch w fun u w=>Q1 u true w (fieldAddr P T.c t5 4) fun cj w=>Q1 u true w (Q2 P T.p cj) fun bz w=>Q1 u true w (J4 P .not bz) fun cu w=>pick P u cu (.bool false) w fun b2 w=>X1 b2 (dr w fun b c=>Q6 b (fun ac=> ∀w,c w→fieldAddr P T.c t5 0 w (dk b ac w)) fun ac=>Q6 b (fun B=> ∀w,c w→indexAddr P T.g f.1 bj w (dk b B w)) fun B=>Q6 b (fun C=> ∀Q w,c w→B Q w→fieldAddr P T.d Q 0 w (dk b C w)) fun C=>Q6 b (fun Y=> ∀z w,c w→ac z w→Q2 P T.a z w (dk b Y w)) fun Y=>Q6 b (fun A=> ∀t w,c w→C t w→Q2 P T.a t w (dk b A w)) fun A=>Q6 b (fun i=> ∀ad N w,c w→Y ad w→A N w→Q0 P F.bq [a0,ad,N] w (dk b i w)) fun i=>Q6 b (fun ak=> ∀e w,c w→i e w→ext P e 0 w (dk b ak w)) fun ak=>Q6 b (fun Z=> ∀e w,c w→i e w→ext P e 1 w (dk b Z w)) fun Z=>Q6 b (fun ar=> ∀e w,c w→i e w→ext P e 2 w (dk b ar w)) fun ar=>Q6 b (fun bd=> ∀w,c w→W6 P T.d w (dk b bd w)) fun bd=>Q2N b (fun av=> ∀k h w,c w→bd k w→Z h w→Z4 P T.d k h w (dk b (av [k,h]) w)) fun av=>∀z Q t ad N e ce h bg k d1 w,c w→ac z w→B Q w→C t w→Y ad w→A N w→i e w→ak ce w→Z h w→ar bg w→bd k w→av [k,h] d1 w→ J4 P .not bg w fun am w=>Q1 am false w (fieldAddr P T.d k 3) fun bp w=>Q1 am false w (Q2 P T.p bp) fun b8 w=>pick P am (.bool true) b8 w fun cr w=>X1 cr (K (.int .i64 67) w) (Q3 P .add T.e (.tmp 175) (.const (.int .i64 1)) bj (.int .i64 1) w fun b6 w=>ap b6 w)) (K (.int .i64 0) w)))))))
theorem Bk {a b:Value} {w:World} {K:Value→World→Prop} (h:Ve a b w K):Q0 P F.be [a,b] w K:=Q9 Fa Tryz.func58 rfl (by decide) (by kernel_rfl) h
def Q07:W1:=[none,none,none,none,none,some ([5,7],[2,3,4,5,7,8,21,22,23,24,25,26,27,28,29,30,31,32,33,34,35,36,37,38,39,40,41,42]),none,none,none,none,none,none,none,none,none,some ([9],[2,3,4,9,43,44,45,46,47,48,49,50,51,52,53,54,55,56,57,58,59,60]),none,none,none,none,none,none,none,some ([10],[2,3,4,10,11,61,62,63,64,65,66,67,68,69,70,71,72,73,74,75,76]),none,none,none,none,none,none,none,none,none,some ([13],[2,3,4,13,79,80,81,82,83,84,85,86,87,88,89,90,91,92,93,94,95,96]),none,none,none,none,none,none,none,none,some ([14,15],[14,15,98,99,100,101,102,103,104,105,106,107,108,109,110]),none,none,none,none,none,some ([16],[2,3,4,16,17,111,112,113,114,115,116,117,118,119,120,121,122,123,124,125,126,127,128,129,130,131]),none,none,none,none,none,none,none]
def Ef (n:Value) (w:World) (K:Value→World→Prop):Prop:= Q0 P F.bx [] w fun u w=>X5 P .len [T.h] T.e [false] [u] w fun b w=>lp (α:=Value×Value) (u,(.int .i64 0)) w fun l c E w=>X5 P .len [T.h] T.e [false] [n] w fun Z w=>Q3 P .lss T.e (.tmp 21) (.tmp 23) c.2 Z w fun aa w=>X1 aa (indexAddr P T.h n c.2 w fun am w=>Q2 P T.c am w fun V w=>Q0 P F.bz [V] w fun r w=>Q3 P .neq T.s (.tmp 32) (.const (.int .i64 0)) r (.int .i64 0) w fun al w=>X1 al (K (.tuple #[(.slice none 0 0),c.2,r]) w) (indexAddr P T.h n c.2 w fun ah w=>Q2 P T.c ah w fun ay w=>buildSlice P T.h 1 [(0,ay)] w fun a3 w=>X5 P .append [T.h,T.h] T.h [false,false] [c.1,a3] w fun ap w=>Q3 P .add T.e (.tmp 25) (.const (.int .i64 1)) c.2 (.int .i64 1) w fun aj w=>l (ap,aj) w)) (lp (α:=Value) (.int .i64 0) w fun j h E w=>X5 P .len [T.h] T.e [false] [n] w fun W w=>Q3 P .lss T.e (.tmp 43) (.tmp 45) h W w fun X w=>X1 X (indexAddr P T.h n h w fun R w=>fieldAddr P T.c R 0 w fun U w=>Q2 P T.a U w fun O w=>Q0 P F.d [c.1,O] w fun ae w=>Q3 P .add T.e (.tmp 56) (.tmp 57) b h w fun ao w=>Q3 P .neq T.e (.tmp 55) (.tmp 58) ae ao w fun ax w=>X1 ax (K (.tuple #[(.slice none 0 0),h,(.int .i64 60)]) w) (Q3 P .add T.e (.tmp 47) (.const (.int .i64 1)) h (.int .i64 1) w fun az w=>j az w)) (lp (α:=Value) (.int .i64 0) w fun f m E w=>X5 P .len [T.h] T.e [false] [n] w fun ai w=>Q3 P .lss T.e (.tmp 61) (.tmp 63) m ai w fun a2 w=>X1 a2 (indexAddr P T.h n m w fun ab w=>Q2 P T.c ab w fun ak w=>Q0 P F.bp [c.1,ak] w fun C w=>Q3 P .neq T.s (.tmp 73) (.const (.int .i64 0)) C (.int .i64 0) w fun ag w=>X1 ag (K (.tuple #[(.slice none 0 0),m,C]) w) (Q3 P .add T.e (.tmp 65) (.const (.int .i64 1)) m (.int .i64 1) w fun ac w=>f ac w)) (Q0 P F.aI [c.1] w fun af w=>lp (α:=Value) (.int .i64 0) w fun i k E w=>X5 P .len [T.h] T.e [false] [n] w fun an w=>Q3 P .lss T.e (.tmp 79) (.tmp 81) k an w fun Y w=>X1 Y (Q3 P .add T.e (.tmp 86) (.tmp 87) b k w fun aq w=>indexAddr P T.a1 af aq w fun ad w=>Q2 P T.a0 ad w fun Q w=>Q3 P .add T.e (.tmp 91) (.tmp 92) b k w fun a4 w=>indexAddr P T.a0 Q a4 w fun a1 w=>Q2 P T.p a1 w fun ar w=>X1 ar (K (.tuple #[(.slice none 0 0),k,(.int .i64 63)]) w) (Q3 P .add T.e (.tmp 83) (.const (.int .i64 1)) k (.int .i64 1) w fun av w=>i av w)) (buildSlice P T.z 0 [] w fun aw w=>lp (α:=Value×Value) (aw,(.int .i64 0)) w fun e a E w=>X5 P .len [T.h] T.e [false] [n] w fun M w=>Q3 P .lss T.e (.tmp 98) (.tmp 100) a.2 M w fun s w=>X1 s (Q3 P .add T.e (.tmp 107) (.tmp 108) b a.2 w fun B w=>Q0 P F.b1 [c.1,a.1,b,B] w fun H w=>Q3 P .add T.e (.tmp 102) (.const (.int .i64 1)) a.2 (.int .i64 1) w fun y w=>e (H,y) w) (lp (α:=Value) (.int .i64 0) w fun g o E w=>X5 P .len [T.z] T.e [false] [a.1] w fun D w=>Q3 P .lss T.e (.tmp 111) (.tmp 113) o D w fun v w=>X1 v (indexAddr P T.z a.1 o w fun N w=>Q2 P T.e N w fun L w=>Q0 P F.be [c.1,L] w fun p w=>Q3 P .neq T.s (.tmp 123) (.const (.int .i64 0)) p (.int .i64 0) w fun J w=>X1 J (dr w fun Tr Br=>Q6 Tr (fun d=> ∀w,Br w→indexAddr P T.z a.1 o w (dk Tr d w)) fun d=>∀q w,Br w→d q w→ Q2 P T.e q w fun t w=>Q3 P .sub T.e (.tmp 128) (.tmp 129) t b w fun z w=>K (.tuple #[(.slice none 0 0),z,p]) w) (Q3 P .add T.e (.tmp 115) (.const (.int .i64 1)) o (.int .i64 1) w fun A w=>g A w)) (K (.tuple #[c.1,(.int .i64 0),(.int .i64 0)]) w))))))
theorem Q0f {a:Value} {w:World} {K:Value→World→Prop} (h:Ef a w K):Q0 P F.bS [a] w K:=Q9 Q07 Tryz.func27 rfl (by decide) (by kernel_rfl) h
def Wu (w:World) (K:Value→World→Prop):Prop:= Q0 P F.aB [] w fun q w=>Q0 P F.cP [q] w fun d w=>ext P d 0 w fun e w=>ext P d 1 w fun p w=>ext P d 2 w fun m w=>Q0 P F.aB [] w fun f w=>Q0 P F.bS [f] w fun a w=>ext P a 0 w fun h w=>ext P a 1 w fun o w=>ext P a 2 w fun k w=>Q3 P .neq T.s (.tmp 20) (.const (.int .i64 0)) m (.int .i64 0) w fun c w=>Q1 c false w (fun w J=>J k w) fun i w=>Q1 c false w (Q3 P .neq T.s (.tmp 23) (.const (.int .i64 0)) i (.int .i64 0)) fun j w=>pick P c (.bool true) j w fun b w=>Q1 b false w (fun w J=>J e w) fun g w=>Q1 b false w (Q3 P .eql T.r (.tmp 27) (.const (.pointer none)) g (.pointer none)) fun n w=>pick P b (.bool true) n w fun l w=>X1 l (K (.tuple #[(.pointer none),(.slice none 0 0)]) w) (K (.tuple #[e,h]) w)
theorem Fo {w:World} {K:Value→World→Prop} (h:Wu w K):Q0 P F.aD [] w K:=Q9 (List.replicate 7 none) Tryz.func10 rfl (by decide) (by kernel_rfl) h
def Ti (u:Value) (w:World) (K:Value→World→Prop):Prop:= box P T.f u w fun a w=>W6 P T.f w fun r w=>dr w fun b c=>Q6 b (fun i=> ∀w,c w→fieldAddr P T.f a 1 w (dk b i w)) fun i=>Q6 b (fun j=> ∀w,c w→fieldAddr P T.f a 2 w (dk b j w)) fun j=>Q6 b (fun d=> ∀k w,c w→i k w→Q2 P T.b k w (dk b d w)) fun d=>Q6 b (fun o=> ∀h w,c w→d h w→Q0 P F.b [h] w (dk b o w)) fun o=>Q6 b (fun g=> ∀f w,c w→j f w→Q2 P T.b f w (dk b g w)) fun g=>Q6 b (fun m=> ∀w,c w→fieldAddr P T.f a 1 w (dk b m w)) fun m=>Q6 b (fun n=> ∀e w,c w→g e w→Q0 P F.b [e] w (dk b n w)) fun n=>∀k f h s e t q w,c w→i k w→j f w→d h w→o s w→g e w→m t w→n q w→ Z4 P T.b t s w fun _u w=>fieldAddr P T.f a 2 w fun p w=>Z4 P T.b p q w fun _u w=>Q2 P T.f a w fun l w=>Z4 P T.f r l w fun _u w=>W3 P T.f r w fun v=>K v w
theorem Q5q {a:Value} {w:World} {K:Value→World→Prop} (h:Ti a w K):Q0 P F.c7 [a] w K:=Q9 (List.replicate 3 none) Tryz.func28 rfl (by decide) (by kernel_rfl) h
def Ug (a f:Value) (w:World) (K:Value→World→Prop):Prop:= Q0 P F.a9 [a,f] w fun h w=>J4 P .not h w fun g w=>X1 g (K (.tuple #[a,(.bool false)]) w) (X5 P .len [T.a] T.e [false] [a] w fun d w=>X5 P .len [T.a] T.e [false] [f] w fun c w=>Q3 P .sub T.e (.tmp 13) (.tmp 15) d c w fun e w=>R5 P T.a a none (some e) none w fun b w=>K (.tuple #[b,(.bool true)]) w)
theorem Cn {a b:Value} {w:World} {K:Value→World→Prop} (h:Ug a b w K):Q0 P F.cf [a,b] w K:=Q9 (List.replicate 5 none) Tryz.func206 rfl (by decide) (by kernel_rfl) h
def Ob (d e:Value) (w:World) (K:Value→World→Prop):Prop:= Q0 P F.cf [d,e] w fun b w=>ext P b 0 w fun c w=>ext P b 1 w fun a w=>K (.tuple #[c,a]) w
theorem Q03 {a b:Value} {w:World} {K:Value→World→Prop} (h:Ob a b w K):Q0 P F.bO [a,b] w K:=Q9 (List.replicate 2 none) Tryz.func176 rfl (by decide) (by kernel_rfl) h
def Q27 (g:Value) (w:World) (K:Value→World→Prop):Prop:= Q0 P F.bO [g,(.string ⟨#[91,93]⟩)] w fun f w=>ext P f 0 w fun i w=>ext P f 1 w fun h w=>J4 P .not h w fun a w=>Q1 a false w (fun w J=>J g w) fun d w=>Q1 a false w (Q0 P F.z [d]) fun c w=>Q1 a false w (J4 P .not c) fun b w=>pick P a (.bool true) b w fun e w=>X1 e (K (.string ⟨#[]⟩) w) (K i w)
theorem Q7F {a:Value} {w:World} {K:Value→World→Prop} (h:Q27 a w K):Q0 P F.c4 [a] w K:=Q9 (List.replicate 6 none) Tryz.func118 rfl (by decide) (by kernel_rfl) h
def Ll (e f:Value) (w:World) (K:Value→World→Prop):Prop:= box P T.c e w fun a w=>fieldAddr P T.c a 0 w fun g w=>Q2 P T.a g w fun b w=>Q2 P T.a f w fun d w=>Q3 P .eql T.a (.tmp 5) (.tmp 6) b d w fun c w=>K c w
theorem Kl {a b:Value} {w:World} {K:Value→World→Prop} (h:Ll a b w K):Q0 P F.bE [a,b] w K:=Q9 (List.replicate 2 none) Tryz.func119 rfl (by decide) (by kernel_rfl) h
def Dx (o d z:Value) (w:World) (K:Value→World→Prop):Prop:= box P T.a z w fun a w=>Q0 P F.r [o,d] w fun t w=>J4 P .not t w fun b w=>Q1 b false w (fun w J=>J o w) fun u w=>Q1 b false w (Q2 P T.a a) fun r w=>Q1 b false w (Q0 P F.r [u,r]) fun f w=>Q1 b false w (J4 P .not f) fun h w=>pick P b (.bool true) h w fun i w=>X1 i (K (.bool false) w) (Q2 P T.a a w fun p w=>Q3 P .eql T.a (.tmp 19) (.tmp 20) d p w fun m w=>X1 m (K (.bool true) w) (Q0 P F.ae [d] w fun c w=>Q1 c false w (Q2 P T.a a) fun n w=>Q1 c false w (Q0 P F.ae [n]) fun g w=>pick P c (.bool true) g w fun k w=>X1 k (K (.bool false) w) (Q3 P .eql T.a (.tmp 30) (.const (.string ⟨#[110,117,108,108]⟩)) d (.string ⟨#[110,117,108,108]⟩) w fun e w=>X1 e (K (.bool true) w) (Q0 P F.c4 [d] w fun v w=>Q3 P .neq T.a (.tmp 34) (.const (.string ⟨#[]⟩)) v (.string ⟨#[]⟩) w fun q w=>X1 q (Q2 P T.a a w fun j w=>Q3 P .eql T.a (.tmp 36) (.const (.string ⟨#[79,98,106,101,99,116]⟩)) j (.string ⟨#[79,98,106,101,99,116]⟩) w fun l w=>K l w) (N7 P (.func F.bE) [] [a] w fun s w=>Q0 P F.y [o,d,s] w fun y w=>K y w)))))
theorem Q12 {b c a:Value} {w:World} {K:Value→World→Prop} (h:Dx b c a w K):Q0 P F.af [b,c,a] w K:=Q9 (List.replicate 13 none) Tryz.func59 rfl (by decide) (by kernel_rfl) h
def Q02:W1:=[none,none,none,none,none,none,none,none,none,none,some ([7],[6,7,40,41,42,43,44,45,46,47,48,49,50,51]),none,none,none,none,none,none]
def Oq (e h g:Value) (w:World) (K:Value→World→Prop):Prop:= Q0 P F.af [e,h,g] w fun p w=>X1 p (K g w) (Q0 P F.af [e,g,h] w fun k w=>X1 k (K h w) (Q0 P F.r [e,h] w fun o w=>J4 P .not o w fun b w=>Q1 b false w (fun w J=>J e w) fun s w=>Q1 b false w (fun w J=>J g w) fun i w=>Q1 b false w (Q0 P F.r [s,i]) fun y w=>Q1 b false w (J4 P .not y) fun u w=>pick P b (.bool true) u w fun d w=>Q1 d false w (fun w J=>J h w) fun z w=>Q1 d false w (Q0 P F.ae [z]) fun t w=>pick P d (.bool true) t w fun f w=>Q1 f false w (fun w J=>J g w) fun q w=>Q1 f false w (Q0 P F.ae [q]) fun r w=>pick P f (.bool true) r w fun n w=>X1 n (K (.string ⟨#[]⟩) w) (lp (α:=Value) h w fun a c A w=>Q0 P F.n [e,c] w fun v w=>X1 v (Q0 P F.af [e,g,c] w fun j w=>X1 j (K c w) (Q0 P F.h [e,c] w fun l w=>Ww P T.c l 1 w fun m w=>a m w)) (K (.string ⟨#[79,98,106,101,99,116]⟩) w))))
theorem Az {b c a:Value} {w:World} {K:Value→World→Prop} (h:Oq b c a w K):Q0 P F.aN [b,c,a] w K:=Q9 Q02 Tryz.func29 rfl (by decide) (by kernel_rfl) h
def Q66:W1:=[none,none,none,none,none,none,none,none,none,none,none,some ([49],[7,9,10,11,49,50,51,52,53,54,55,56,57,58,59,60,61,62,63,64,65,66,67,68,69,70,71]),none,none,none,none,none,none,none,none,none,none,some ([75],[12,13,14,75,76,77,78,79,80,81,82,83,84,85,86,87,88,89,90,91,92,93,94,95,96,97,98,99,100,101,102,103,104]),none,none,none,none,none,some ([14],[14,80,81,82,83,84,85,86,87,88,89,90,91,92,93,94,95,96,97]),none,none]
def Q0S (a0 a1 a2:Value) (w:World) (K:Value→World→Prop):Prop:= box P T.f a1 w fun j w=>box P T.f a2 w fun i w=>W6 P T.f w fun f w=>fieldAddr P T.f j 0 w fun av w=>Q2 P T.p av w fun H w=>J4 P .not H w fun z w=>X1 z (Q2 P T.f i w fun X w=>Q0 P F.c7 [X] w fun ad w=>Z4 P T.f f ad w fun _u w=>W3 P T.f f w fun h=>K (.tuple #[h,(.int .i64 0)]) w) (fieldAddr P T.f i 0 w fun aw w=>Q2 P T.p aw w fun L w=>J4 P .not L w fun M w=>X1 M (Q2 P T.f j w fun N w=>Q0 P F.c7 [N] w fun ba w=>Z4 P T.f f ba w fun _u w=>W3 P T.f f w fun h=>K (.tuple #[h,(.int .i64 0)]) w) (fieldAddr P T.f j 1 w fun ao w=>Q2 P T.b ao w fun bc w=>X5 P .len [T.b] T.e [false] [bc] w fun B w=>fieldAddr P T.f i 1 w fun ap w=>Q2 P T.b ap w fun bk w=>X5 P .len [T.b] T.e [false] [bk] w fun ac w=>Q3 P .neq T.e (.tmp 30) (.tmp 33) B ac w fun a w=>Q1 a false w (fieldAddr P T.f j 2) fun Q w=>Q1 a false w (Q2 P T.b Q) fun a5 w=>Q1 a false w (X5 P .len [T.b] T.e [false] [a5]) fun ay w=>Q1 a false w (fieldAddr P T.f i 2) fun Z w=>Q1 a false w (Q2 P T.b Z) fun bf w=>Q1 a false w (X5 P .len [T.b] T.e [false] [bf]) fun bi w=>Q1 a false w (Q3 P .neq T.e (.tmp 38) (.tmp 41) ay bi) fun af w=>pick P a (.bool true) af w fun Y w=>X1 Y (O4 P T.f [] w fun am w=>Z4 P T.f f am w fun _u w=>W3 P T.f f w fun h=>K (.tuple #[h,(.int .i64 75)]) w) (O4 P T.f [(0,(.bool true))] w fun C w=>W6 P T.f w fun k w=>Z4 P T.f k C w fun _u w=>fieldAddr P T.f j 1 w fun E w=>Q2 P T.b E w fun p w=>X5 P .len [T.b] T.e [false] [p] w fun al w=>lp (α:=Value) (.int .i64 0) w fun e g d_ w=>Q3 P .lss T.e (.tmp 49) (.tmp 48) g al w fun aq w=>X1 aq (indexAddr P T.b p g w fun ar w=>Q2 P T.a ar w fun A w=>fieldAddr P T.f i 1 w fun aj w=>Q2 P T.b aj w fun D w=>indexAddr P T.b D g w fun ak w=>Q2 P T.a ak w fun a9 w=>Q0 P F.aN [a0,A,a9] w fun r w=>Q3 P .eql T.a (.tmp 62) (.const (.string ⟨#[]⟩)) r (.string ⟨#[]⟩) w fun aa w=>X1 aa (O4 P T.f [] w fun an w=>Z4 P T.f f an w fun _u w=>W3 P T.f f w fun h=>K (.tuple #[h,(.int .i64 75)]) w) (fieldAddr P T.f k 1 w fun y w=>Q2 P T.b y w fun a4 w=>buildSlice P T.b 1 [(0,r)] w fun bh w=>X5 P .append [T.b,T.b] T.b [false,false] [a4,bh] w fun a7 w=>fieldAddr P T.f k 1 w fun a3 w=>Z4 P T.b a3 a7 w fun _u w=>Q3 P .add T.e (.tmp 49) (.const (.int .i64 1)) g (.int .i64 1) w fun ab w=>e ab w)) (fieldAddr P T.f j 2 w fun V w=>Q2 P T.b V w fun n w=>X5 P .len [T.b] T.e [false] [n] w fun a8 w=>lp (α:=Value) (.int .i64 0) w fun c d d_ w=>Q3 P .lss T.e (.tmp 75) (.tmp 74) d a8 w fun O w=>X1 O (indexAddr P T.b n d w fun a6 w=>Q2 P T.a a6 w fun t w=>jn (α:=Value) w (fun q w=>Q3 P .neq T.a (.tmp 80) (.const (.string ⟨#[]⟩)) t (.string ⟨#[]⟩) w fun b w=>Q1 b true w (fieldAddr P T.f i 2) fun v w=>Q1 b true w (Q2 P T.b v) fun ai w=>Q1 b true w (fun w J=>J d w) fun ax w=>Q1 b true w (indexAddr P T.b ai ax) fun W w=>Q1 b true w (Q2 P T.a W) fun R w=>Q1 b true w (Q3 P .neq T.a (.tmp 87) (.const (.string ⟨#[]⟩)) R (.string ⟨#[]⟩)) fun ae w=>pick P b ae (.bool false) w fun U w=>X1 U (fieldAddr P T.f i 2 w fun bg w=>Q2 P T.b bg w fun bj w=>indexAddr P T.b bj d w fun bd w=>Q2 P T.a bd w fun az w=>Q0 P F.aN [a0,t,az] w fun be w=>q be w) (q (.string ⟨#[]⟩) w)) fun ag d_ w=>fieldAddr P T.f k 2 w fun bb w=>Q2 P T.b bb w fun ah w=>buildSlice P T.b 1 [(0,ag)] w fun o w=>X5 P .append [T.b,T.b] T.b [false,false] [ah,o] w fun l w=>fieldAddr P T.f k 2 w fun m w=>Z4 P T.b m l w fun _u w=>Q3 P .add T.e (.tmp 75) (.const (.int .i64 1)) d (.int .i64 1) w fun s w=>c s w) (Q2 P T.f k w fun u w=>Z4 P T.f f u w fun _u w=>W3 P T.f f w fun h=>K (.tuple #[h,(.int .i64 0)]) w)))))
theorem Q6n {b c a:Value} {w:World} {K:Value→World→Prop} (h:Q0S b c a w K):Q0 P F.cE [b,c,a] w K:=Q9 Q66 Tryz.func13 rfl (by decide) (by kernel_rfl) h
def An:W1:=[none,none,none,none,none,none,some ([5],[4,5,11,12,13,14,15,16,17,18,19,20,21,22,23,24,25]),none,none,none,none,none,none]
def Nx (o s:Value) (w:World) (K:Value→World→Prop):Prop:= X5 P .len [T.b] T.e [false] [o] w fun t w=>X5 P .len [T.b] T.e [false] [s] w fun u w=>Q3 P .neq T.e (.tmp 7) (.tmp 9) t u w fun q w=>X1 q (K (.bool false) w) (lp (α:=Value) (.int .i64 0) w fun b l v w=>X5 P .len [T.b] T.e [false] [o] w fun r w=>Q3 P .lss T.e (.tmp 11) (.tmp 13) l r w fun p w=>X1 p (dr w fun f k=>Q6 f (fun c=> ∀w,k w→indexAddr P T.b o l w (dk f c w)) fun c=>Q6 f (fun a=> ∀w,k w→indexAddr P T.b s l w (dk f a w)) fun a=>Q6 f (fun g=> ∀e w,k w→c e w→Q2 P T.a e w (dk f g w)) fun g=>Q6 f (fun h=> ∀d w,k w→a d w→Q2 P T.a d w (dk f h w)) fun h=>∀e d j i w,k w→c e w→a d w→g j w→h i w→ Q3 P .neq T.a (.tmp 20) (.tmp 24) j i w fun n w=>X1 n (K (.bool false) w) (Q3 P .add T.e (.tmp 15) (.const (.int .i64 1)) l (.int .i64 1) w fun m w=>b m w)) (K (.bool true) w))
theorem Aq {a b:Value} {w:World} {K:Value→World→Prop} (h:Nx a b w K):Q0 P F.aO [a,b] w K:=Q9 An Tryz.func31 rfl (by decide) (by kernel_rfl) h
def Nu (t u:Value) (w:World) (K:Value→World→Prop):Prop:= box P T.f t w fun b w=>box P T.f u w fun a w=>fieldAddr P T.f b 0 w fun s w=>Q2 P T.p s w fun q w=>fieldAddr P T.f a 0 w fun p w=>Q2 P T.p p w fun r w=>Q3 P .eql T.p (.tmp 6) (.tmp 8) q r w fun d w=>Q1 d true w (fieldAddr P T.f b 1) fun f w=>Q1 d true w (Q2 P T.b f) fun j w=>Q1 d true w (fieldAddr P T.f a 1) fun o w=>Q1 d true w (Q2 P T.b o) fun n w=>Q1 d true w (Q0 P F.aO [j,n]) fun e w=>pick P d e (.bool false) w fun c w=>Q1 c true w (fieldAddr P T.f b 2) fun g w=>Q1 c true w (Q2 P T.b g) fun l w=>Q1 c true w (fieldAddr P T.f a 2) fun m w=>Q1 c true w (Q2 P T.b m) fun k w=>Q1 c true w (Q0 P F.aO [l,k]) fun h w=>pick P c h (.bool false) w fun i w=>K i w
theorem Ah {a b:Value} {w:World} {K:Value→World→Prop} (h:Nu a b w K):Q0 P F.aa [a,b] w K:=Q9 (List.replicate 2 none) Tryz.func15 rfl (by decide) (by kernel_rfl) h
def Ms:W1:=[none,none,none,none,none,none,some ([13],[4,5,13,14,15,16,17,18,19,20,21,22,23,24,25]),none,none,none,none,none,none,none]
def Qe (p s:Value) (w:World) (K:Value→World→Prop):Prop:= X5 P .len [T.b] T.e [false] [p] w fun t w=>X5 P .len [T.b] T.e [false] [s] w fun u w=>Q3 P .neq T.e (.tmp 7) (.tmp 9) t u w fun r w=>X1 r (K (.bool false) w) (X5 P .len [T.b] T.e [false] [p] w fun o w=>lp (α:=Value) (.int .i64 0) w fun d l v w=>Q3 P .lss T.e (.tmp 13) (.tmp 12) l o w fun q w=>X1 q (dr w fun f k=>Q6 f (fun c=> ∀w,k w→indexAddr P T.b p l w (dk f c w)) fun c=>Q6 f (fun e=> ∀w,k w→indexAddr P T.b s l w (dk f e w)) fun e=>Q6 f (fun h=> ∀a w,k w→c a w→Q2 P T.a a w (dk f h w)) fun h=>Q6 f (fun g=> ∀b w,k w→e b w→Q2 P T.a b w (dk f g w)) fun g=>∀a b j i w,k w→c a w→e b w→h j w→g i w→ Q3 P .neq T.a (.tmp 19) (.tmp 23) j i w fun n w=>X1 n (K (.bool false) w) (Q3 P .add T.e (.tmp 13) (.const (.int .i64 1)) l (.int .i64 1) w fun m w=>d m w)) (K (.bool true) w))
theorem Mf {a b:Value} {w:World} {K:Value→World→Prop} (h:Qe a b w K):Q0 P F.a6 [a,b] w K:=Q9 Ms Tryz.func32 rfl (by decide) (by kernel_rfl) h
def Q2j (t u:Value) (w:World) (K:Value→World→Prop):Prop:= box P T.f t w fun b w=>box P T.f u w fun a w=>fieldAddr P T.f b 0 w fun s w=>Q2 P T.p s w fun q w=>fieldAddr P T.f a 0 w fun p w=>Q2 P T.p p w fun r w=>Q3 P .eql T.p (.tmp 6) (.tmp 8) q r w fun d w=>Q1 d true w (fieldAddr P T.f b 1) fun f w=>Q1 d true w (Q2 P T.b f) fun j w=>Q1 d true w (fieldAddr P T.f a 1) fun o w=>Q1 d true w (Q2 P T.b o) fun n w=>Q1 d true w (Q0 P F.a6 [j,n]) fun e w=>pick P d e (.bool false) w fun c w=>Q1 c true w (fieldAddr P T.f b 2) fun g w=>Q1 c true w (Q2 P T.b g) fun l w=>Q1 c true w (fieldAddr P T.f a 2) fun m w=>Q1 c true w (Q2 P T.b m) fun k w=>Q1 c true w (Q0 P F.a6 [l,k]) fun h w=>pick P c h (.bool false) w fun i w=>K i w
theorem Q7q {a b:Value} {w:World} {K:Value→World→Prop} (h:Q2j a b w K):Q0 P F.cL [a,b] w K:=Q9 (List.replicate 2 none) Tryz.func16 rfl (by decide) (by kernel_rfl) h
def Hf (e m:Value) (w:World) (K:Value→World→Prop):Prop:= nilCheck P e w fun j w=>fieldAddr P T.m j 4 w fun l w=>Q2 P T.s l w fun k w=>Q3 P .eql T.s (.tmp 7) (.const (.int .i64 0)) k (.int .i64 0) w fun n w=>X1 n (nilCheck P e w fun d w=>fieldAddr P T.m d 3 w fun b w=>fieldAddr P T.f b 1 w fun g w=>Q2 P T.b g w fun c w=>X5 P .append [T.b,T.b] T.b [false,false] [c,m] w fun h w=>nilCheck P e w fun a w=>fieldAddr P T.m a 3 w fun f w=>fieldAddr P T.f f 1 w fun i w=>Z4 P T.b i h w fun _u w=>K (.tuple #[]) w) (K (.tuple #[]) w)
theorem Q1R {a b:Value} {w:World} {K:Value→World→Prop} (h:Hf a b w K):Q0 P F.g [a,b] w K:=Q9 (List.replicate 1 none) Tryz.func123 rfl (by decide) (by kernel_rfl) h
def Tb (b c:Value) (w:World) (K:Value→World→Prop):Prop:= Q2 P T.a c w fun d w=>buildSlice P T.b 1 [(0,d)] w fun a w=>Q0 P F.g [b,a] w fun e w=>K (.tuple #[]) w
theorem Q5i {a b:Value} {w:World} {K:Value→World→Prop} (h:Tb a b w K):Q0 P F.cz [a,b] w K:=Q9 [] Tryz.func122 rfl (by decide) (by kernel_rfl) h
def Q2d (c:Value) (w:World) (K:Value→World→Prop):Prop:= box P T.a c w fun a w=>N7 P (.func F.cz) [] [a] w fun b w=>K b w
theorem Q7i {a:Value} {w:World} {K:Value→World→Prop} (h:Q2d a w K):Q0 P F.bc [a] w K:=Q9 (List.replicate 2 none) Tryz.func64 rfl (by decide) (by kernel_rfl) h
def Ar:W1:=[none,some ([],[7,8,9,10,11,12,13,14,15,16,17,18,19]),none,none]
def Oh (k q p:Value) (w:World) (K:Value→World→Prop):Prop:= jn (α:=Unit) w (fun o w=>J4 P .not q w fun a w=>Q1 a true w (fun w J=>J k w) fun m w=>Q1 a true w (nilCheck P m) fun c w=>Q1 a true w (fieldAddr P T.m c 4) fun h w=>Q1 a true w (Q2 P T.s h) fun n w=>Q1 a true w (Q3 P .eql T.s (.tmp 13) (.const (.int .i64 0)) n (.int .i64 0)) fun l w=>pick P a l (.bool false) w fun b w=>X1 b (nilCheck P k w fun d w=>fieldAddr P T.m d 4 w fun j w=>Z4 P T.s j p w fun _u w=>o () w) (o () w)) fun r s w=>nilCheck P k w fun i w=>fieldAddr P T.m i 4 w fun e w=>Q2 P T.s e w fun f w=>Q3 P .eql T.s (.tmp 23) (.const (.int .i64 0)) f (.int .i64 0) w fun g w=>K g w
theorem Tm {b c a:Value} {w:World} {K:Value→World→Prop} (h:Oh b c a w K):Q0 P F.c [b,c,a] w K:=Q9 Ar Tryz.func37 rfl (by decide) (by kernel_rfl) h
def Ou (C:Value) (w:World) (K:Value→World→Prop):Prop:= dr w fun b c=>Q6 b (fun N=> ∀w,c w→nilCheck P C w (dk b N w)) fun N=>Q6 b (fun O=> ∀Q w,c w→N Q w→fieldAddr P T.m Q 2 w (dk b O w)) fun O=>Q6 b (fun L=> ∀E w,c w→O E w→fieldAddr P T.k E 1 w (dk b L w)) fun L=>Q6 b (fun M=> ∀D w,c w→L D w→Q2 P T.ac D w (dk b M w)) fun M=>Q6 b (fun d=> ∀H w,c w→M H w→Q3 P .geq T.ac (.tmp 8) (.const (.int .i64 0)) H (.int .i64 0) w (dk b d w)) fun d=>Q6 b (fun s=> ∀a w,c w→d a w→Q1 a true w (fun w J=>J C w) (dk b s w)) fun s=>Q6 b (fun t=> ∀a e w,c w→d a w→s e w→Q1 a true w (nilCheck P e) (dk b t w)) fun t=>Q6 b (fun m=> ∀a l w,c w→d a w→t l w→Q1 a true w (fieldAddr P T.m l 2) (dk b m w)) fun m=>Q6 b (fun p=> ∀a v w,c w→d a w→m v w→Q1 a true w (fieldAddr P T.k v 1) (dk b p w)) fun p=>Q6 b (fun n=> ∀a w,c w→d a w→Q1 a true w (fun w J=>J C w) (dk b n w)) fun n=>Q6 b (fun i=> ∀a g w,c w→d a w→n g w→Q1 a true w (nilCheck P g) (dk b i w)) fun i=>Q6 b (fun h=> ∀a k w,c w→d a w→i k w→Q1 a true w (fieldAddr P T.m k 3) (dk b h w)) fun h=>Q6 b (fun j=> ∀a f w,c w→d a w→h f w→Q1 a true w (fieldAddr P T.f f 2) (dk b j w)) fun j=>Q6 b (fun z=> ∀a u w,c w→d a w→p u w→Q1 a true w (Q2 P T.ac u) (dk b z w)) fun z=>Q6 b (fun q=> ∀a o w,c w→d a w→j o w→Q1 a true w (Q2 P T.b o) (dk b q w)) fun q=>Q6 b (fun y=> ∀a r w,c w→d a w→q r w→Q1 a true w (X5 P .len [T.b] T.e [false] [r]) (dk b y w)) fun y=>∀Q E D H a e l v u g k f o A r B w,c w→N Q w→O E w→L D w→M H w→d a w→s e w→t l w→m v w→p u w→n g w→i k w→h f w→j o w→z A w→q r w→y B w→ Q1 a true w (Q3 P .lss T.ac (.tmp 15) (.tmp 21) A B) fun V w=>pick P a V (.bool false) w fun X w=>Q0 P F.c [C,X,(.int .i64 74)] w fun Y w=>J4 P .not Y w fun W w=>X1 W (K (.int .i64 (-1)) w) (nilCheck P C w fun R w=>fieldAddr P T.m R 2 w fun aa w=>fieldAddr P T.k aa 1 w fun Z w=>Q2 P T.ac Z w fun U w=>K U w)
theorem Ao {a:Value} {w:World} {K:Value→World→Prop} (h:Ou a w K):Q0 P F.aU [a] w K:=Q9 (List.replicate 5 none) Tryz.func124 rfl (by decide) (by kernel_rfl) h
end Go.Proofs.YtfppjenblllfaaaGreatDoor

set_option maxRecDepth 100000
namespace Go.Proofs.YtfppjenblllfaaaGreatDoor
open Go.Emb
def Ej (b:Value) (w:World) (K:Value→World→Prop):Prop:= Q0 P F.aU [b] w fun n w=>Q3 P .geq T.e (.tmp 5) (.const (.int .i64 0)) n (.int .i64 0) w fun a w=>Q1 a true w (fun w J=>J b w) fun v w=>Q1 a true w (fun w J=>J b w) fun y w=>Q1 a true w (nilCheck P y) fun r w=>Q1 a true w (fieldAddr P T.m r 3) fun e w=>Q1 a true w (fieldAddr P T.f e 2) fun m w=>Q1 a true w (Q2 P T.b m) fun s w=>Q1 a true w (fun w J=>J n w) fun q w=>Q1 a true w (indexAddr P T.b s q) fun c w=>Q1 a true w (Q2 P T.a c) fun g w=>Q1 a true w (Q3 P .neq T.a (.tmp 16) (.const (.string ⟨#[]⟩)) g (.string ⟨#[]⟩)) fun i w=>Q1 a true w (Q0 P F.c [v,i,(.int .i64 74)]) fun f w=>pick P a f (.bool false) w fun o w=>X1 o (nilCheck P b w fun h w=>fieldAddr P T.m h 3 w fun j w=>fieldAddr P T.f j 2 w fun k w=>Q2 P T.b k w fun l w=>indexAddr P T.b l n w fun d w=>Q2 P T.a d w fun t w=>buildSlice P T.b 1 [(0,t)] w fun p w=>Q0 P F.g [b,p] w fun u w=>K (.tuple #[]) w) (K (.tuple #[]) w)
theorem Q1b {a:Value} {w:World} {K:Value→World→Prop} (h:Ej a w K):Q0 P F.b2 [a] w K:=Q9 (List.replicate 2 none) Tryz.func65 rfl (by decide) (by kernel_rfl) h
def Ei (b c:Value) (w:World) (K:Value→World→Prop):Prop:= nilCheck P b w fun J w=>fieldAddr P T.m J 3 w fun B w=>fieldAddr P T.f B 1 w fun g w=>Q2 P T.b g w fun r w=>X5 P .len [T.b] T.e [false] [r] w fun C w=>Q3 P .geq T.e (.tmp 13) (.tmp 14) C c w fun f w=>Q0 P F.c [b,f,(.int .i64 72)] w fun h w=>J4 P .not h w fun n w=>X1 n (Dh P T.b c c w fun t w=>K t w) (nilCheck P b w fun s w=>fieldAddr P T.m s 3 w fun k w=>fieldAddr P T.f k 1 w fun o w=>Q2 P T.b o w fun p w=>X5 P .len [T.b] T.e [false] [p] w fun q w=>Q3 P .sub T.e (.tmp 25) (.tmp 26) q c w fun a w=>nilCheck P b w fun v w=>fieldAddr P T.m v 3 w fun j w=>fieldAddr P T.f j 1 w fun d w=>Q2 P T.b d w fun H w=>R5 P T.b H (some a) none none w fun D w=>Q0 P F.b [D] w fun y w=>nilCheck P b w fun m w=>fieldAddr P T.m m 3 w fun u w=>fieldAddr P T.f u 1 w fun z w=>Q2 P T.b z w fun E w=>R5 P T.b E none (some a) (some a) w fun A w=>nilCheck P b w fun i w=>fieldAddr P T.m i 3 w fun l w=>fieldAddr P T.f l 1 w fun e w=>Z4 P T.b e A w fun _u w=>K y w)
theorem Q0i {a b:Value} {w:World} {K:Value→World→Prop} (h:Ei a b w K):Q0 P F.i [a,b] w K:=Q9 (List.replicate 8 none) Tryz.func70 rfl (by decide) (by kernel_rfl) h
def Ot (a:Value) (w:World) (K:Value→World→Prop):Prop:= Q0 P F.aU [a] w fun l w=>Q0 P F.i [a,(.int .i64 1)] w fun m w=>indexAddr P T.b m (.int .i64 0) w fun n w=>Q2 P T.a n w fun k w=>nilCheck P a w fun e w=>fieldAddr P T.m e 4 w fun c w=>Q2 P T.s c w fun g w=>Q3 P .eql T.s (.tmp 13) (.const (.int .i64 0)) g (.int .i64 0) w fun d w=>X1 d (nilCheck P a w fun h w=>fieldAddr P T.m h 3 w fun b w=>fieldAddr P T.f b 2 w fun f w=>Q2 P T.b f w fun j w=>indexAddr P T.b j l w fun i w=>Z4 P T.a i k w fun _u w=>K (.tuple #[]) w) (K (.tuple #[]) w)
theorem Tz {a:Value} {w:World} {K:Value→World→Prop} (h:Ot a w K):Q0 P F.aP [a] w K:=Q9 (List.replicate 3 none) Tryz.func66 rfl (by decide) (by kernel_rfl) h
def Hj (c:Value) (w:World) (K:Value→World→Prop):Prop:= Q0 P F.i [c,(.int .i64 1)] w fun f w=>indexAddr P T.b f (.int .i64 0) w fun d w=>Q2 P T.a d w fun b w=>buildSlice P T.b 2 [(0,b),(1,b)] w fun a w=>Q0 P F.g [c,a] w fun e w=>K (.tuple #[]) w
theorem Q1J {a:Value} {w:World} {K:Value→World→Prop} (h:Hj a w K):Q0 P F.bf [a] w K:=Q9 (List.replicate 1 none) Tryz.func67 rfl (by decide) (by kernel_rfl) h
def Eh (k:Value) (w:World) (K:Value→World→Prop):Prop:= Q0 P F.i [k,(.int .i64 2)] w fun l w=>dr w fun c e=>Q6 c (fun g=> ∀w,e w→indexAddr P T.b l (.int .i64 1) w (dk c g w)) fun g=>Q6 c (fun a=> ∀w,e w→indexAddr P T.b l (.int .i64 0) w (dk c a w)) fun a=>Q6 c (fun j=> ∀h w,e w→g h w→Q2 P T.a h w (dk c j w)) fun j=>Q6 c (fun d=> ∀b w,e w→a b w→Q2 P T.a b w (dk c d w)) fun d=>∀h b m f w,e w→g h w→a b w→j m w→d f w→ buildSlice P T.b 2 [(0,m),(1,f)] w fun i w=>Q0 P F.g [k,i] w fun n w=>K (.tuple #[]) w
theorem Q06 {a:Value} {w:World} {K:Value→World→Prop} (h:Eh a w K):Q0 P F.b3 [a] w K:=Q9 (List.replicate 1 none) Tryz.func68 rfl (by decide) (by kernel_rfl) h
def Gn (a:Value) (w:World) (K:Value→World→Prop):Prop:= Q0 P F.i [a,(.int .i64 1)] w fun b w=>K (.tuple #[]) w
theorem Q4o {a:Value} {w:World} {K:Value→World→Prop} (h:Gn a w K):Q0 P F.bU [a] w K:=Q9 [] Tryz.func69 rfl (by decide) (by kernel_rfl) h
def Od (c g e:Value) (w:World) (K:Value→World→Prop):Prop:= nilCheck P c w fun h w=>fieldAddr P T.m h 0 w fun d w=>Q2 P T.r d w fun a w=>Q0 P F.af [a,g,e] w fun b w=>Q0 P F.c [c,b,(.int .i64 73)] w fun f w=>K (.tuple #[]) w
theorem Ab {b c a:Value} {w:World} {K:Value→World→Prop} (h:Od b c a w K):Q0 P F.a1 [b,c,a] w K:=Q9 [] Tryz.func132 rfl (by decide) (by kernel_rfl) h
def Q1U:W1:=[none,none,none,some ([7],[7,15,16,17,18,19,20,21,22,23,24,25,26,27,28]),none,none,none,none]
def He (r y v:Value) (w:World) (K:Value→World→Prop):Prop:= X5 P .len [T.b] T.e [false] [v] w fun u w=>Q0 P F.i [r,u] w fun j w=>X5 P .len [T.b] T.e [false] [j] w fun t w=>Q3 P .sub T.e (.tmp 13) (.const (.int .i64 1)) t (.int .i64 1) w fun s w=>lp (α:=Value) s w fun d m B w=>Q3 P .geq T.e (.tmp 15) (.const (.int .i64 0)) m (.int .i64 0) w fun o w=>X1 o (dr w fun f l=>Q6 f (fun e=> ∀w,l w→indexAddr P T.b j m w (dk f e w)) fun e=>Q6 f (fun b=> ∀w,l w→indexAddr P T.b v m w (dk f b w)) fun b=>Q6 f (fun g=> ∀a w,l w→e a w→Q2 P T.a a w (dk f g w)) fun g=>Q6 f (fun h=> ∀c w,l w→b c w→Q2 P T.a c w (dk f h w)) fun h=>∀a c k i w,l w→e a w→b c w→g k w→h i w→ Q0 P F.a1 [r,k,i] w fun A w=>Q3 P .sub T.e (.tmp 17) (.const (.int .i64 1)) m (.int .i64 1) w fun n w=>d n w) (Q3 P .neq T.a (.tmp 29) (.const (.string ⟨#[]⟩)) y (.string ⟨#[]⟩) w fun p w=>X1 p (buildSlice P T.b 1 [(0,y)] w fun q w=>Q0 P F.g [r,q] w fun z w=>K (.tuple #[]) w) (K (.tuple #[]) w))
theorem Q1P {b c a:Value} {w:World} {K:Value→World→Prop} (h:He b c a w K):Q0 P F.m [b,c,a] w K:=Q9 Q1U Tryz.func126 rfl (by decide) (by kernel_rfl) h
def Ga (d e a:Value) (w:World) (K:Value→World→Prop):Prop:= Q2 P T.a e w fun b w=>Q2 P T.b a w fun c w=>Q0 P F.m [d,b,c] w fun f w=>K (.tuple #[]) w
theorem Q4m {b c a:Value} {w:World} {K:Value→World→Prop} (h:Ga b c a w K):Q0 P F.cv [b,c,a] w K:=Q9 [] Tryz.func125 rfl (by decide) (by kernel_rfl) h
def Q14 (d e:Value) (w:World) (K:Value→World→Prop):Prop:= box P T.a d w fun b w=>box P T.b e w fun a w=>N7 P (.func F.cv) [] [b,a] w fun c w=>K c w
theorem Q5T {a b:Value} {w:World} {K:Value→World→Prop} (h:Q14 a b w K):Q0 P F.a7 [a,b] w K:=Q9 (List.replicate 2 none) Tryz.func71 rfl (by decide) (by kernel_rfl) h
def Wm (b:Value) (w:World) (K:Value→World→Prop):Prop:= buildSlice P T.b 2 [(0,(.string ⟨#[105,110,116]⟩)),(1,(.string ⟨#[105,110,116]⟩))] w fun a w=>Q0 P F.m [b,(.string ⟨#[98,111,111,108]⟩),a] w fun c w=>K (.tuple #[]) w
theorem Fw {a:Value} {w:World} {K:Value→World→Prop} (h:Wm a w K):Q0 P F.aE [a] w K:=Q9 [] Tryz.func72 rfl (by decide) (by kernel_rfl) h
def Ew (d e:Value) (w:World) (K:Value→World→Prop):Prop:= Q0 P F.c4 [e] w fun b w=>Q3 P .neq T.a (.tmp 9) (.const (.string ⟨#[]⟩)) b (.string ⟨#[]⟩) w fun a w=>Q0 P F.c [d,a,(.int .i64 73)] w fun c w=>K b w
theorem Q0y {a b:Value} {w:World} {K:Value→World→Prop} (h:Ew a b w K):Q0 P F.b9 [a,b] w K:=Q9 (List.replicate 4 none) Tryz.func127 rfl (by decide) (by kernel_rfl) h
def Ec (a:Value) (w:World) (K:Value→World→Prop):Prop:= Q0 P F.i [a,(.int .i64 1)] w fun f w=>indexAddr P T.b f (.int .i64 0) w fun c w=>Q2 P T.a c w fun d w=>Q0 P F.b9 [a,d] w fun g w=>buildSlice P T.b 1 [(0,(.string ⟨#[105,110,116]⟩))] w fun b w=>Q0 P F.g [a,b] w fun e w=>K (.tuple #[]) w
theorem Q0O {a:Value} {w:World} {K:Value→World→Prop} (h:Ec a w K):Q0 P F.b4 [a] w K:=Q9 (List.replicate 1 none) Tryz.func73 rfl (by decide) (by kernel_rfl) h
def Gv (a:Value) (w:World) (K:Value→World→Prop):Prop:= K (.tuple #[]) w
theorem Q4k {a:Value} {w:World} {K:Value→World→Prop} (h:Gv a w K):Q0 P F.bV [a] w K:=Q9 [] Tryz.func74 rfl (by decide) (by kernel_rfl) h
def Uz (g h:Value) (w:World) (K:Value→World→Prop):Prop:= Q0 P F.n [g,h] w fun a w=>Q1 a true w (fun w J=>J g w) fun i w=>Q1 a true w (fun w J=>J h w) fun e w=>Q1 a true w (Q0 P F.h [i,e]) fun d w=>Q1 a true w (Ww P T.c d 4) fun b w=>Q1 a true w (J4 P .not b) fun f w=>pick P a f (.bool false) w fun c w=>K c w
theorem Bn {a b:Value} {w:World} {K:Value→World→Prop} (h:Uz a b w K):Q0 P F.bj [a,b] w K:=Q9 (List.replicate 2 none) Tryz.func128 rfl (by decide) (by kernel_rfl) h
def Me (g:Value) (w:World) (K:Value→World→Prop):Prop:= dr w fun a d=>Q6 a (fun o=> ∀w,d w→nilCheck P g w (dk a o w)) fun o=>Q6 a (fun k=> ∀l w,d w→o l w→fieldAddr P T.m l 0 w (dk a k w)) fun k=>Q6 a (fun j=> ∀w,d w→nilCheck P g w (dk a j w)) fun j=>Q6 a (fun h=> ∀i w,d w→j i w→fieldAddr P T.m i 2 w (dk a h w)) fun h=>Q6 a (fun b=> ∀n w,d w→h n w→fieldAddr P T.k n 2 w (dk a b w)) fun b=>Q6 a (fun u=> ∀m w,d w→k m w→Q2 P T.r m w (dk a u w)) fun u=>Q6 a (fun e=> ∀c w,d w→b c w→Q2 P T.a c w (dk a e w)) fun e=>∀l m i n c z f w,d w→o l w→k m w→j i w→h n w→b c w→u z w→e f w→ Q0 P F.bj [z,f] w fun s w=>Q0 P F.c [g,s,(.int .i64 76)] w fun y w=>X1 y (nilCheck P g w fun q w=>fieldAddr P T.m q 2 w fun r w=>fieldAddr P T.k r 2 w fun p w=>Q2 P T.a p w fun t w=>buildSlice P T.b 1 [(0,t)] w fun v w=>Q0 P F.g [g,v] w fun A w=>K (.tuple #[]) w) (K (.tuple #[]) w)
theorem Ke {a:Value} {w:World} {K:Value→World→Prop} (h:Me a w K):Q0 P F.aJ [a] w K:=Q9 (List.replicate 1 none) Tryz.func75 rfl (by decide) (by kernel_rfl) h
def Om (u:Value) (w:World) (K:Value→World→Prop):Prop:= nilCheck P u w fun N w=>fieldAddr P T.m N 2 w fun y w=>fieldAddr P T.k y 2 w fun C w=>Q2 P T.a C w fun O w=>Q0 P F.bk [O] w fun r w=>ext P r 0 w fun o w=>ext P r 1 w fun z w=>ext P r 2 w fun B w=>nilCheck P u w fun D w=>fieldAddr P T.m D 0 w fun M w=>Q2 P T.r M w fun E w=>Q0 P F.aK [E,o,z] w fun s w=>Q3 P .eql T.s (.tmp 26) (.const (.int .i64 0)) B (.int .i64 0) w fun p w=>Q1 p true w (fun w J=>J s w) fun L w=>Q1 p true w (Q3 P .geq T.e (.tmp 29) (.const (.int .i64 0)) L (.int .i64 0)) fun A w=>pick P p A (.bool false) w fun v w=>Q0 P F.c [u,v,(.int .i64 76)] w fun Q w=>J4 P .not Q w fun H w=>X1 H (K (.tuple #[(.string ⟨#[]⟩),(.string ⟨#[]⟩)]) w) (dr w fun a n=>Q6 a (fun j=> ∀w,n w→nilCheck P u w (dk a j w)) fun j=>Q6 a (fun k=> ∀g w,n w→j g w→fieldAddr P T.m g 0 w (dk a k w)) fun k=>Q6 a (fun c=> ∀h w,n w→k h w→Q2 P T.r h w (dk a c w)) fun c=>Q6 a (fun d=> ∀f w,n w→c f w→Q0 P F.ag [f,o] w (dk a d w)) fun d=>Q6 a (fun b=> ∀m w,n w→d m w→indexAddr P T.i m s w (dk a b w)) fun b=>Q6 a (fun e=> ∀l w,n w→b l w→fieldAddr P T.l l 1 w (dk a e w)) fun e=>Q6 a (fun q=> ∀i w,n w→e i w→Q2 P T.a i w (dk a q w)) fun q=>∀g h f m l i t w,n w→j g w→k h w→c f w→d m w→b l w→e i w→q t w→ K (.tuple #[o,t]) w)
theorem Au {a:Value} {w:World} {K:Value→World→Prop} (h:Om a w K):Q0 P F.aV [a] w K:=Q9 (List.replicate 7 none) Tryz.func129 rfl (by decide) (by kernel_rfl) h
def Hh (c:Value) (w:World) (K:Value→World→Prop):Prop:= Q0 P F.aV [c] w fun b w=>ext P b 0 w fun d w=>ext P b 1 w fun f w=>buildSlice P T.b 1 [(0,d)] w fun a w=>Q0 P F.m [c,f,a] w fun e w=>K (.tuple #[]) w
theorem Q1W {a:Value} {w:World} {K:Value→World→Prop} (h:Hh a w K):Q0 P F.bg [a] w K:=Q9 (List.replicate 1 none) Tryz.func76 rfl (by decide) (by kernel_rfl) h
def Eu (c:Value) (w:World) (K:Value→World→Prop):Prop:= Q0 P F.aV [c] w fun b w=>ext P b 0 w fun d w=>ext P b 1 w fun f w=>buildSlice P T.b 2 [(0,d),(1,f)] w fun a w=>Q0 P F.m [c,(.string ⟨#[]⟩),a] w fun e w=>K (.tuple #[]) w
theorem Q0Z {a:Value} {w:World} {K:Value→World→Prop} (h:Eu a w K):Q0 P F.b5 [a] w K:=Q9 (List.replicate 1 none) Tryz.func77 rfl (by decide) (by kernel_rfl) h
def Er (s:Value) (w:World) (K:Value→World→Prop):Prop:= nilCheck P s w fun D w=>fieldAddr P T.m D 2 w fun v w=>fieldAddr P T.k v 2 w fun A w=>Q2 P T.a A w fun E w=>Q0 P F.bk [E] w fun o w=>ext P o 0 w fun p w=>ext P o 1 w fun y w=>ext P o 2 w fun J w=>nilCheck P s w fun C w=>fieldAddr P T.m C 0 w fun B w=>Q2 P T.r B w fun z w=>Q0 P F.aF [z,p,y] w fun k w=>ext P k 0 w fun L w=>ext P k 1 w fun u w=>ext P k 2 w fun H w=>W6 P T.d w fun a w=>Z4 P T.d a u w fun _u w=>Q0 P F.c [s,H,(.int .i64 76)] w fun t w=>X1 t (dr w fun b n=>Q6 b (fun j=> ∀w,n w→fieldAddr P T.d a 2 w (dk b j w)) fun j=>Q6 b (fun i=> ∀w,n w→fieldAddr P T.d a 1 w (dk b i w)) fun i=>Q6 b (fun m=> ∀h w,n w→j h w→Q2 P T.a h w (dk b m w)) fun m=>Q6 b (fun g=> ∀w,n w→buildSlice P T.b 1 [(0,p)] w (dk b g w)) fun g=>Q6 b (fun c=> ∀f w,n w→i f w→Q2 P T.b f w (dk b c w)) fun c=>Q6 b (fun l=> ∀e d w,n w→g e w→c d w→X5 P .append [T.b,T.b] T.b [false,false] [e,d] w (dk b l w)) fun l=>∀h f r e d q w,n w→j h w→i f w→m r w→g e w→c d w→l q w→ Q0 P F.m [s,r,q] w fun M w=>K (.tuple #[]) w) (K (.tuple #[]) w)
theorem Q19 {a:Value} {w:World} {K:Value→World→Prop} (h:Er a w K):Q0 P F.b6 [a] w K:=Q9 (List.replicate 3 none) Tryz.func78 rfl (by decide) (by kernel_rfl) h
def Oa (v:Value) (w:World) (K:Value→World→Prop):Prop:= dr w fun b c=>Q6 b (fun E=> ∀w,c w→nilCheck P v w (dk b E w)) fun E=>Q6 b (fun H=> ∀L w,c w→E L w→fieldAddr P T.m L 2 w (dk b H w)) fun H=>Q6 b (fun C=> ∀A w,c w→H A w→fieldAddr P T.k A 2 w (dk b C w)) fun C=>Q6 b (fun D=> ∀z w,c w→C z w→Q2 P T.a z w (dk b D w)) fun D=>Q6 b (fun d=> ∀B w,c w→D B w→Q3 P .neq T.a (.tmp 8) (.const (.string ⟨#[110,117,108,108]⟩)) B (.string ⟨#[110,117,108,108]⟩) w (dk b d w)) fun d=>Q6 b (fun p=> ∀a w,c w→d a w→Q1 a true w (fun w J=>J v w) (dk b p w)) fun p=>Q6 b (fun q=> ∀a f w,c w→d a w→p f w→Q1 a true w (nilCheck P f) (dk b q w)) fun q=>Q6 b (fun m=> ∀a l w,c w→d a w→q l w→Q1 a true w (fieldAddr P T.m l 0) (dk b m w)) fun m=>Q6 b (fun o=> ∀a w,c w→d a w→Q1 a true w (fun w J=>J v w) (dk b o w)) fun o=>Q6 b (fun n=> ∀a e w,c w→d a w→o e w→Q1 a true w (nilCheck P e) (dk b n w)) fun n=>Q6 b (fun j=> ∀a h w,c w→d a w→n h w→Q1 a true w (fieldAddr P T.m h 2) (dk b j w)) fun j=>Q6 b (fun i=> ∀a k w,c w→d a w→j k w→Q1 a true w (fieldAddr P T.k k 2) (dk b i w)) fun i=>Q6 b (fun t=> ∀a r w,c w→d a w→m r w→Q1 a true w (Q2 P T.r r) (dk b t w)) fun t=>Q6 b (fun s=> ∀a g w,c w→d a w→i g w→Q1 a true w (Q2 P T.a g) (dk b s w)) fun s=>∀L A z B a f l r e h k g y u w,c w→E L w→H A w→C z w→D B w→d a w→p f w→q l w→m r w→o e w→n h w→j k w→i g w→t y w→s u w→ Q1 a true w (Q0 P F.r [y,u]) fun U w=>pick P a U (.bool false) w fun Q w=>Q0 P F.c [v,Q,(.int .i64 76)] w fun V w=>nilCheck P v w fun O w=>fieldAddr P T.m O 2 w fun N w=>fieldAddr P T.k N 2 w fun R w=>Q2 P T.a R w fun M w=>K M w
theorem Am {a:Value} {w:World} {K:Value→World→Prop} (h:Oa a w K):Q0 P F.aq [a] w K:=Q9 (List.replicate 3 none) Tryz.func131 rfl (by decide) (by kernel_rfl) h
def Nq (b:Value) (w:World) (K:Value→World→Prop):Prop:= Q0 P F.aq [b] w fun d w=>Q3 P .add T.a (.tmp 6) (.const (.string ⟨#[91,93]⟩)) d (.string ⟨#[91,93]⟩) w fun e w=>Q0 P F.z [e] w fun g w=>Q0 P F.c [b,g,(.int .i64 76)] w fun h w=>Q3 P .add T.a (.tmp 11) (.const (.string ⟨#[91,93]⟩)) d (.string ⟨#[91,93]⟩) w fun a w=>buildSlice P T.b 1 [(0,(.string ⟨#[105,110,116]⟩))] w fun c w=>Q0 P F.m [b,a,c] w fun f w=>K (.tuple #[]) w
theorem Aw {a:Value} {w:World} {K:Value→World→Prop} (h:Nq a w K):Q0 P F.aQ [a] w K:=Q9 (List.replicate 2 none) Tryz.func79 rfl (by decide) (by kernel_rfl) h
def Sz (a:Value) (w:World) (K:Value→World→Prop):Prop:= Q0 P F.i [a,(.int .i64 2)] w fun f w=>indexAddr P T.b f (.int .i64 1) w fun h w=>Q2 P T.a h w fun i w=>Q0 P F.a1 [a,i,(.string ⟨#[105,110,116]⟩)] w fun j w=>indexAddr P T.b f (.int .i64 0) w fun d w=>Q2 P T.a d w fun c w=>Q0 P F.b9 [a,c] w fun b w=>buildSlice P T.b 1 [(0,b)] w fun e w=>Q0 P F.g [a,e] w fun g w=>K (.tuple #[]) w
theorem Q2D {a:Value} {w:World} {K:Value→World→Prop} (h:Sz a w K):Q0 P F.br [a] w K:=Q9 (List.replicate 2 none) Tryz.func80 rfl (by decide) (by kernel_rfl) h
def Q1I:W1:=[none,none,some ([3],[3,6,7,8,9,10,11,12,13,14]),none,none,none]
def Hk (a:Value) (w:World) (K:Value→World→Prop):Prop:= Q0 P F.i [a,(.int .i64 3)] w fun g w=>jn (α:=Value) w (fun l w=>nilCheck P a w fun n w=>fieldAddr P T.m n 4 w fun p w=>Q2 P T.s p w fun s w=>Q3 P .eql T.s (.tmp 9) (.const (.int .i64 0)) s (.int .i64 0) w fun i w=>X1 i (indexAddr P T.b g (.int .i64 0) w fun e w=>Q2 P T.a e w fun j w=>Q0 P F.c4 [j] w fun h w=>l h w) (l (.string ⟨#[]⟩) w)) fun m t w=>Q3 P .neq T.a (.tmp 16) (.const (.string ⟨#[]⟩)) m (.string ⟨#[]⟩) w fun d w=>Q0 P F.c [a,d,(.int .i64 73)] w fun o w=>indexAddr P T.b g (.int .i64 2) w fun f w=>Q2 P T.a f w fun c w=>Q0 P F.a1 [a,c,m] w fun q w=>indexAddr P T.b g (.int .i64 1) w fun b w=>Q2 P T.a b w fun k w=>Q0 P F.a1 [a,k,(.string ⟨#[105,110,116]⟩)] w fun r w=>K (.tuple #[]) w
theorem Q1S {a:Value} {w:World} {K:Value→World→Prop} (h:Hk a w K):Q0 P F.bh [a] w K:=Q9 Q1I Tryz.func81 rfl (by decide) (by kernel_rfl) h
def Mx (f g:Value) (w:World) (K:Value→World→Prop):Prop:= nilCheck P f w fun i w=>fieldAddr P T.m i 0 w fun h w=>Q2 P T.r h w fun k w=>Q0 P F.r [k,g] w fun a w=>Q1 a true w (fun w J=>J g w) fun c w=>Q1 a true w (Q0 P F.ae [c]) fun e w=>Q1 a true w (J4 P .not e) fun d w=>pick P a d (.bool false) w fun b w=>Q0 P F.c [f,b,(.int .i64 73)] w fun j w=>K (.tuple #[]) w
theorem Kq {a b:Value} {w:World} {K:Value→World→Prop} (h:Mx a b w K):Q0 P F.al [a,b] w K:=Q9 [] Tryz.func134 rfl (by decide) (by kernel_rfl) h
def Hi (b:Value) (w:World) (K:Value→World→Prop):Prop:= Q0 P F.i [b,(.int .i64 1)] w fun c w=>indexAddr P T.b c (.int .i64 0) w fun d w=>Q2 P T.a d w fun a w=>Q0 P F.al [b,a] w fun e w=>K a w
theorem Q1V {a:Value} {w:World} {K:Value→World→Prop} (h:Hi a w K):Q0 P F.bl [a] w K:=Q9 (List.replicate 4 none) Tryz.func133 rfl (by decide) (by kernel_rfl) h
def Si (a:Value) (w:World) (K:Value→World→Prop):Prop:= Q0 P F.aq [a] w fun d w=>Q0 P F.bl [a] w fun c w=>buildSlice P T.b 1 [(0,(.string ⟨#[98,111,111,108]⟩))] w fun b w=>Q0 P F.g [a,b] w fun e w=>K (.tuple #[]) w
theorem Q2M {a:Value} {w:World} {K:Value→World→Prop} (h:Si a w K):Q0 P F.bs [a] w K:=Q9 (List.replicate 2 none) Tryz.func82 rfl (by decide) (by kernel_rfl) h
def Dt (a:Value) (w:World) (K:Value→World→Prop):Prop:= Q0 P F.aq [a] w fun d w=>Q0 P F.bl [a] w fun e w=>buildSlice P T.b 1 [(0,d)] w fun b w=>Q0 P F.g [a,b] w fun c w=>K (.tuple #[]) w
theorem Q0g {a:Value} {w:World} {K:Value→World→Prop} (h:Dt a w K):Q0 P F.b7 [a] w K:=Q9 (List.replicate 2 none) Tryz.func83 rfl (by decide) (by kernel_rfl) h
def Dy (d:Value) (w:World) (K:Value→World→Prop):Prop:= nilCheck P d w fun i w=>fieldAddr P T.m i 1 w fun l w=>fieldAddr P T.d l 2 w fun h w=>Q2 P T.a h w fun j w=>Q3 P .neq T.a (.tmp 6) (.const (.string ⟨#[]⟩)) j (.string ⟨#[]⟩) w fun k w=>X1 k (nilCheck P d w fun e w=>fieldAddr P T.m e 1 w fun c w=>fieldAddr P T.d c 2 w fun a w=>Q2 P T.a a w fun f w=>buildSlice P T.b 1 [(0,f)] w fun b w=>Q0 P F.m [d,(.string ⟨#[]⟩),b] w fun g w=>K (.tuple #[]) w) (K (.tuple #[]) w)
theorem Q11 {a:Value} {w:World} {K:Value→World→Prop} (h:Dy a w K):Q0 P F.b8 [a] w K:=Q9 (List.replicate 1 none) Tryz.func84 rfl (by decide) (by kernel_rfl) h
def Of (a:Value) (w:World) (K:Value→World→Prop):Prop:= Q0 P F.i [a,(.int .i64 2)] w fun e w=>indexAddr P T.b e (.int .i64 1) w fun g w=>Q2 P T.a g w fun i w=>Q0 P F.al [a,i] w fun j w=>indexAddr P T.b e (.int .i64 0) w fun b w=>Q2 P T.a b w fun c w=>Q0 P F.al [a,c] w fun h w=>buildSlice P T.b 1 [(0,(.string ⟨#[98,111,111,108]⟩))] w fun d w=>Q0 P F.g [a,d] w fun f w=>K (.tuple #[]) w
theorem Tp {a:Value} {w:World} {K:Value→World→Prop} (h:Of a w K):Q0 P F.aR [a] w K:=Q9 (List.replicate 3 none) Tryz.func85 rfl (by decide) (by kernel_rfl) h
def Lb (b:Value) (w:World) (K:Value→World→Prop):Prop:= buildSlice P T.b 2 [(0,(.string ⟨#[105,110,116]⟩)),(1,(.string ⟨#[105,110,116]⟩))] w fun a w=>Q0 P F.m [b,(.string ⟨#[105,110,116]⟩),a] w fun c w=>K (.tuple #[]) w
theorem Ip {a:Value} {w:World} {K:Value→World→Prop} (h:Lb a w K):Q0 P F.bA [a] w K:=Q9 [] Tryz.func86 rfl (by decide) (by kernel_rfl) h
def Q6t:W1:=[none,none,none,none,some ([26],[3,26,27,28,29,30,31]),none,none,none,none,none]
def Q0H (w:World) (K:Value→World→Prop):Prop:= Cw P T.j none w fun a w=>Q0 P F.bc [(.string ⟨#[105,110,116]⟩)] w fun A w=>mapUpdate P T.j a (.string ⟨#[105,110,116]⟩) A w fun _u w=>Q0 P F.bc [(.string ⟨#[98,111,111,108]⟩)] w fun y w=>mapUpdate P T.j a (.string ⟨#[116,114,117,101]⟩) y w fun _u w=>Q0 P F.bc [(.string ⟨#[98,111,111,108]⟩)] w fun v w=>mapUpdate P T.j a (.string ⟨#[102,97,108,115,101]⟩) v w fun _u w=>Q0 P F.bc [(.string ⟨#[116,101,120,116]⟩)] w fun z w=>mapUpdate P T.j a (.string ⟨#[119,111,114,100]⟩) z w fun _u w=>Q0 P F.bc [(.string ⟨#[110,117,108,108]⟩)] w fun B w=>mapUpdate P T.j a (.string ⟨#[110,117,108,108]⟩) B w fun _u w=>mapUpdate P T.j a (.string ⟨#[108,111,97,100]⟩) (.func (.func F.b2) #[] #[]) w fun _u w=>mapUpdate P T.j a (.string ⟨#[115,116,111,114,101]⟩) (.func (.func F.aP) #[] #[]) w fun _u w=>mapUpdate P T.j a (.string ⟨#[100,117,112]⟩) (.func (.func F.bf) #[] #[]) w fun _u w=>mapUpdate P T.j a (.string ⟨#[115,119,97,112]⟩) (.func (.func F.b3) #[] #[]) w fun _u w=>mapUpdate P T.j a (.string ⟨#[112,111,112]⟩) (.func (.func F.bU) #[] #[]) w fun _u w=>buildSlice P T.b 1 [(0,(.string ⟨#[105,110,116]⟩))] w fun s w=>Q0 P F.a7 [(.string ⟨#[105,110,116]⟩),s] w fun f w=>mapUpdate P T.j a (.string ⟨#[110,101,103]⟩) f w fun _u w=>buildSlice P T.b 1 [(0,(.string ⟨#[98,111,111,108]⟩))] w fun m w=>Q0 P F.a7 [(.string ⟨#[98,111,111,108]⟩),m] w fun t w=>mapUpdate P T.j a (.string ⟨#[110,111,116]⟩) t w fun _u w=>buildSlice P T.b 2 [(0,(.string ⟨#[98,111,111,108]⟩)),(1,(.string ⟨#[98,111,111,108]⟩))] w fun r w=>Q0 P F.a7 [(.string ⟨#[98,111,111,108]⟩),r] w fun d w=>mapUpdate P T.j a (.string ⟨#[98,111,116,104]⟩) d w fun _u w=>buildSlice P T.b 2 [(0,(.string ⟨#[116,101,120,116]⟩)),(1,(.string ⟨#[116,101,120,116]⟩))] w fun h w=>Q0 P F.a7 [(.string ⟨#[116,101,120,116]⟩),h] w fun j w=>mapUpdate P T.j a (.string ⟨#[106,111,105,110]⟩) j w fun _u w=>mapUpdate P T.j a (.string ⟨#[108,101,115,115]⟩) (.func (.func F.aE) #[] #[]) w fun _u w=>mapUpdate P T.j a (.string ⟨#[115,97,109,101]⟩) (.func (.func F.aE) #[] #[]) w fun _u w=>mapUpdate P T.j a (.string ⟨#[115,105,122,101]⟩) (.func (.func F.b4) #[] #[]) w fun _u w=>mapUpdate P T.j a (.string ⟨#[106,117,109,112]⟩) (.func (.func F.bV) #[] #[]) w fun _u w=>buildSlice P T.b 1 [(0,(.string ⟨#[98,111,111,108]⟩))] w fun g w=>Q0 P F.a7 [(.string ⟨#[]⟩),g] w fun o w=>mapUpdate P T.j a (.string ⟨#[98,114,97,110,99,104]⟩) o w fun _u w=>mapUpdate P T.j a (.string ⟨#[110,101,119]⟩) (.func (.func F.aJ) #[] #[]) w fun _u w=>mapUpdate P T.j a (.string ⟨#[103,101,116]⟩) (.func (.func F.bg) #[] #[]) w fun _u w=>mapUpdate P T.j a (.string ⟨#[112,117,116]⟩) (.func (.func F.b5) #[] #[]) w fun _u w=>mapUpdate P T.j a (.string ⟨#[99,97,108,108]⟩) (.func (.func F.b6) #[] #[]) w fun _u w=>mapUpdate P T.j a (.string ⟨#[97,114,114,97,121]⟩) (.func (.func F.aQ) #[] #[]) w fun _u w=>mapUpdate P T.j a (.string ⟨#[97,116]⟩) (.func (.func F.br) #[] #[]) w fun _u w=>mapUpdate P T.j a (.string ⟨#[115,101,116]⟩) (.func (.func F.bh) #[] #[]) w fun _u w=>mapUpdate P T.j a (.string ⟨#[105,115]⟩) (.func (.func F.bs) #[] #[]) w fun _u w=>mapUpdate P T.j a (.string ⟨#[99,97,115,116]⟩) (.func (.func F.b7) #[] #[]) w fun _u w=>mapUpdate P T.j a (.string ⟨#[114,101,116,117,114,110]⟩) (.func (.func F.b8) #[] #[]) w fun _u w=>buildSlice P T.b 1 [(0,(.string ⟨#[70,97,117,108,116]⟩))] w fun q w=>Q0 P F.a7 [(.string ⟨#[]⟩),q] w fun n w=>mapUpdate P T.j a (.string ⟨#[116,104,114,111,119]⟩) n w fun _u w=>buildSlice P T.b 1 [(0,(.string ⟨#[105,110,116]⟩))] w fun i w=>Q0 P F.a7 [(.string ⟨#[]⟩),i] w fun k w=>mapUpdate P T.j a (.string ⟨#[111,117,116]⟩) k w fun _u w=>mapUpdate P T.j a (.string ⟨#[101,113,117,97,108]⟩) (.func (.func F.aR) #[] #[]) w fun _u w=>O4 P T.ai [(0,(.string ⟨#[97,100,100]⟩)),(1,(.string ⟨#[115,117,98]⟩)),(2,(.string ⟨#[109,117,108]⟩)),(3,(.string ⟨#[100,105,118]⟩)),(4,(.string ⟨#[114,101,109]⟩)),(5,(.string ⟨#[97,110,100]⟩)),(6,(.string ⟨#[111,114]⟩)),(7,(.string ⟨#[120,111,114]⟩)),(8,(.string ⟨#[115,104,108]⟩)),(9,(.string ⟨#[115,104,114]⟩))] w fun l w=>lp (α:=Value) (.int .i64 0) w fun b p C w=>Q3 P .lss T.e (.tmp 26) (.const (.int .i64 10)) p (.int .i64 10) w fun e w=>X1 e (H2 P T.ai l p w fun u w=>mapUpdate P T.j a u (.func (.func F.bA) #[] #[]) w fun _u w=>Q3 P .add T.e (.tmp 26) (.const (.int .i64 1)) p (.int .i64 1) w fun c w=>b c w) (K a w)
theorem Q7c {w:World} {K:Value→World→Prop} (h:Q0H w K):Q0 P F.cF [] w K:=Q9 Q6t Tryz.func36 rfl (by decide) (by kernel_rfl) h
def Q4O (a0 a1 a2 a3:Value) (w:World) (K:Value→World→Prop):Prop:= box P T.d a1 w fun W w=>box P T.k a2 w fun j w=>box P T.f a3 w fun i w=>W6 P T.f w fun X w=>drR w fun a c=>K5 a (fun z=> ∀b,Ap b→ ∀w,c w→fieldAddr P T.f i 1 w (dk (a b) z w)) fun z=>K5 a (fun t=> ∀b,Ap b→ ∀w,c w→fieldAddr P T.f i 2 w (dk (a b) t w)) fun t=>K5 a (fun N=> ∀b,Ap b→ ∀w,c w→Q2 P T.d W w (dk (a b) N w)) fun N=>K5 a (fun Q=> ∀b,Ap b→ ∀w,c w→Q2 P T.k j w (dk (a b) Q w)) fun Q=>K5 a (fun r=> ∀o b,Ap b→ ∀w,c w→z o w→Q2 P T.b o w (dk (a b) r w)) fun r=>Ce a 6 (fun p=> ∀v b,Ap b→ ∀w,c w→r v w→Q0 P F.b [v] w (Pw (a b) p w)) fun p=>K5 a (fun E=> ∀A b,Ap b→ ∀w,c w→t A w→Q2 P T.b A w (dk (a b) E w)) fun E=>Ce a 8 (fun C=> ∀H b,Ap b→ ∀w,c w→E H w→Q0 P F.b [H] w (Pw (a b) C w)) fun C=>Pi a (fun O=> ∀e h b,Ap b→ ∀w,c w→p (b 6) e w→C (b 8) h w→O4 P T.f [(0,(.bool true)),(1,e),(2,h)] w (dk (a b) (O [e,h]) w)) fun O=>∀o A ae Z v e H h aa b,Ap b→ ∀w,c w→z o w→t A w→N ae w→Q Z w→r v w→p (b 6) e w→E H w→C (b 8) h w→O [e,h] aa w→ O4 P T.m [(0,a0),(1,ae),(2,Z),(3,aa)] w fun ai w=>box P T.m ai w fun g w=>dr w fun a c=>Q6 a (fun s=> ∀w,c w→fieldAddr P T.k j 0 w (dk a s w)) fun s=>Q6 a (fun u=> ∀w,c w→Q0 P F.cF [] w (dk a u w)) fun u=>Q6 a (fun n=> ∀m w,c w→s m w→Q2 P T.a m w (dk a n w)) fun n=>Q6 a (fun k=> ∀B J w,c w→u B w→n J w→lookup P T.j B J true w (dk a k w)) fun k=>Q6 a (fun U=> ∀d w,c w→k d w→ext P d 0 w (dk a U w)) fun U=>Q6 a (fun R=> ∀d w,c w→k d w→ext P d 1 w (dk a R w)) fun R=>∀m B J d ab Y w,c w→s m w→u B w→n J w→k d w→U ab w→R Y w→ J4 P .not Y w fun am w=>X1 am (O4 P T.f [] w fun ax w=>Z4 P T.f X ax w fun _u w=>W3 P T.f X w fun r0=>K (.tuple #[r0,(.int .i64 76)]) w) (Z5 P ab [g] w fun a4 w=>nilCheck P g w fun ar w=>fieldAddr P T.m ar 3 w fun ah w=>fieldAddr P T.f ah 1 w fun ao w=>Q2 P T.b ao w fun ak w=>X5 P .len [T.b] T.e [false] [ak] w fun aw w=>Q3 P .leq T.e (.tmp 44) (.const (.int .i64 24)) aw (.int .i64 24) w fun ag w=>Q0 P F.c [g,ag,(.int .i64 72)] w fun az w=>nilCheck P g w fun av w=>fieldAddr P T.m av 4 w fun aj w=>Q2 P T.s aj w fun af w=>Q3 P .neq T.s (.tmp 50) (.const (.int .i64 0)) af (.int .i64 0) w fun ap w=>X1 ap (dr w fun a c=>Q6 a (fun D=> ∀w,c w→nilCheck P g w (dk a D w)) fun D=>Q6 a (fun L=> ∀l w,c w→D l w→fieldAddr P T.m l 4 w (dk a L w)) fun L=>Q6 a (fun q=> ∀w,c w→O4 P T.f [] w (dk a q w)) fun q=>Q6 a (fun M=> ∀y w,c w→L y w→Q2 P T.s y w (dk a M w)) fun M=>Q2N a (fun V=> ∀f w,c w→q f w→Z4 P T.f X f w (dk a (V [f]) w)) fun V=>∀l y f ac u5 w,c w→D l w→L y w→q f w→M ac w→V [f] u5 w→ W3 P T.f X w fun r0=>K (.tuple #[r0,ac]) w) (nilCheck P g w fun an w=>fieldAddr P T.m an 3 w fun aq w=>Q2 P T.f aq w fun al w=>Z4 P T.f X al w fun _u w=>W3 P T.f X w fun r0=>K (.tuple #[r0,(.int .i64 0)]) w))
theorem X0s {b c a d:Value} {w:World} {K:Value→World→Prop} (h:Q4O b c a d w K):Q0 P F.ce [b,c,a,d] w K:=Q9 (List.replicate 12 none) Tryz.func19 rfl (by decide) (by kernel_rfl) h
def Nl (w:World) (K:Value→World→Prop):Prop:= Q0 P F.aD [] w fun t8 w=>ext P t8 0 w fun Q w=>ext P t8 1 w fun W w=>Q3 P .eql T.r (.tmp 11) (.const (.pointer none)) Q (.pointer none) w fun e w=>Q1 e false w (fun w J=>J W w) fun U w=>Q1 e false w (X5 P .len [T.h] T.e [false] [U]) fun l w=>Q1 e false w (Q3 P .eql T.e (.tmp 15) (.const (.int .i64 0)) l (.int .i64 0)) fun n w=>pick P e (.bool true) n w fun u w=>X1 u (K (.bool false) w) (O4 P T.d [] w fun L w=>O4 P T.k [(0,(.string ⟨#[97,100,100]⟩))] w fun C w=>buildSlice P T.b 2 [(0,(.string ⟨#[105,110,116]⟩)),(1,(.string ⟨#[105,110,116]⟩))] w fun p w=>O4 P T.f [(0,(.bool true)),(1,p)] w fun v w=>Q0 P F.ce [Q,L,C,v] w fun h w=>ext P h 0 w fun y w=>ext P h 1 w fun D w=>W6 P T.f w fun a w=>Z4 P T.f a y w fun _u w=>buildSlice P T.b 1 [(0,(.string ⟨#[110,117,108,108]⟩))] w fun E w=>O4 P T.f [(0,(.bool true)),(1,E)] w fun o w=>buildSlice P T.b 1 [(0,(.string ⟨#[116,101,120,116,91,93]⟩))] w fun j w=>O4 P T.f [(0,(.bool true)),(1,j)] w fun Z w=>Q0 P F.cE [Q,o,Z] w fun i w=>ext P i 0 w fun X w=>ext P i 1 w fun R w=>W6 P T.f w fun c w=>Z4 P T.f c X w fun _u w=>Q2 P T.f a w fun z w=>buildSlice P T.b 1 [(0,(.string ⟨#[105,110,116]⟩))] w fun B w=>O4 P T.f [(0,(.bool true)),(1,B)] w fun t w=>Q0 P F.aa [z,t] w fun g w=>Q1 g true w (fun w J=>J D w) fun Y w=>Q1 g true w (Q3 P .eql T.s (.tmp 41) (.const (.int .i64 0)) Y (.int .i64 0)) fun M w=>pick P g M (.bool false) w fun b w=>Q1 b true w (Q2 P T.f c) fun q w=>Q1 b true w (buildSlice P T.b 1 [(0,(.string ⟨#[116,101,120,116,91,93]⟩))]) fun s w=>Q1 b true w (O4 P T.f [(0,(.bool true)),(1,s)]) fun k w=>Q1 b true w (Q0 P F.aa [q,k]) fun V w=>pick P b V (.bool false) w fun f w=>Q1 f true w (fun w J=>J R w) fun N w=>Q1 f true w (Q3 P .eql T.s (.tmp 51) (.const (.int .i64 0)) N (.int .i64 0)) fun m w=>pick P f m (.bool false) w fun d w=>Q1 d true w (Q2 P T.f a) fun A w=>Q1 d true w (Q2 P T.f a) fun O w=>Q1 d true w (Q0 P F.cL [A,O]) fun r w=>pick P d r (.bool false) w fun H w=>K H w)
theorem Iq {w:World} {K:Value→World→Prop} (h:Nl w K):Q0 P F.ai [] w K:=Q9 (List.replicate 8 none) Tryz.func11 rfl (by decide) (by kernel_rfl) h
def Q0Q:W1:=[none,none,none,none,none,none,some ([3],[2,3,15,16,17,18,19,20,21,22,23,24,25,26,27,28]),none,none,none,none,none,none,none,some ([4],[2,4,29,30,31,32,33,34,35,36,37,38,39,40,41,42]),none,none,none,none,none,none]
def En (R:Value) (w:World) (K:Value→World→Prop):Prop:= box P T.f R w fun a w=>fieldAddr P T.f a 1 w fun Q w=>Q2 P T.b Q w fun O w=>X5 P .len [T.b] T.e [false] [O] w fun N w=>Q3 P .gtr T.e (.tmp 7) (.const (.int .i64 40)) N (.int .i64 40) w fun e w=>Q1 e false w (fieldAddr P T.f a 2) fun H w=>Q1 e false w (Q2 P T.b H) fun h w=>Q1 e false w (X5 P .len [T.b] T.e [false] [h]) fun q w=>Q1 e false w (Q3 P .gtr T.e (.tmp 12) (.const (.int .i64 40)) q (.int .i64 40)) fun J w=>pick P e (.bool true) J w fun D w=>X1 D (K (.bool false) w) (lp (α:=Value) (.int .i64 0) w fun c o U w=>fieldAddr P T.f a 1 w fun j w=>Q2 P T.b j w fun m w=>X5 P .len [T.b] T.e [false] [m] w fun i w=>Q3 P .lss T.e (.tmp 15) (.tmp 18) o i w fun u w=>X1 u (fieldAddr P T.f a 1 w fun l w=>Q2 P T.b l w fun n w=>indexAddr P T.b n o w fun p w=>Q2 P T.a p w fun z w=>X5 P .len [T.a] T.e [false] [z] w fun g w=>Q3 P .gtr T.e (.tmp 27) (.const (.int .i64 100)) g (.int .i64 100) w fun s w=>X1 s (K (.bool false) w) (Q3 P .add T.e (.tmp 20) (.const (.int .i64 1)) o (.int .i64 1) w fun v w=>c v w)) (lp (α:=Value) (.int .i64 0) w fun b d U w=>fieldAddr P T.f a 2 w fun k w=>Q2 P T.b k w fun f w=>X5 P .len [T.b] T.e [false] [f] w fun M w=>Q3 P .lss T.e (.tmp 29) (.tmp 32) d M w fun A w=>X1 A (fieldAddr P T.f a 2 w fun r w=>Q2 P T.b r w fun t w=>indexAddr P T.b t d w fun y w=>Q2 P T.a y w fun E w=>X5 P .len [T.a] T.e [false] [E] w fun L w=>Q3 P .gtr T.e (.tmp 41) (.const (.int .i64 100)) L (.int .i64 100) w fun B w=>X1 B (K (.bool false) w) (Q3 P .add T.e (.tmp 34) (.const (.int .i64 1)) d (.int .i64 1) w fun C w=>b C w)) (K (.bool true) w)))
theorem Q13 {a:Value} {w:World} {K:Value→World→Prop} (h:En a w K):Q0 P F.bR [a] w K:=Q9 Q0Q Tryz.func12 rfl (by decide) (by kernel_rfl) h
end Go.Proofs.YtfppjenblllfaaaGreatDoor

set_option maxRecDepth 100000
namespace Go.Proofs.YtfppjenblllfaaaGreatDoor
open Go.Emb
def Sj:W1:=[none,none,none,none,none,none,none,some ([11],[8,11,53,54,55,56,57,58,59,60,61,62,63,64]),none,none,none,none,none,none,none,none,none,none,none,none,none,none,none,none,none,none,none]
def Js (a0 a1 a2 a3:Value) (w:World) (K:Value→World→Prop):Prop:= box P T.d a0 w fun t4 w=>box P T.k a1 w fun t5 w=>box P T.f a2 w fun t6 w=>Q0 P F.aD [] w fun ao w=>ext P ao 0 w fun ba w=>ext P ao 1 w fun cs w=>Q0 P F.ai [] w fun ci w=>J4 P .not ci w fun H w=>Q1 H false w (Q2 P T.f t6) fun bi w=>Q1 H false w (Q0 P F.bR [bi]) fun bx w=>Q1 H false w (J4 P .not bx) fun b2 w=>pick P H (.bool true) b2 w fun O w=>Q1 O false w (fun w J=>J a3 w) fun bh w=>Q1 O false w (X5 P .len [T.b] T.e [false] [bh]) fun ce w=>Q1 O false w (Q3 P .gtr T.e (.tmp 31) (.const (.int .i64 10)) ce (.int .i64 10)) fun b1 w=>pick P O (.bool true) b1 w fun A w=>Q1 A false w (fieldAddr P T.k t5 0) fun cp w=>Q1 A false w (Q2 P T.a cp) fun b4 w=>Q1 A false w (Q0 P F.aH [b4]) fun bw w=>Q1 A false w (Q3 P .lss T.e (.tmp 37) (.const (.int .i64 0)) bw (.int .i64 0)) fun bu w=>pick P A (.bool true) bu w fun z w=>Q1 z false w (fieldAddr P T.k t5 2) fun b0 w=>Q1 z false w (Q2 P T.a b0) fun b9 w=>Q1 z false w (X5 P .len [T.a] T.e [false] [b9]) fun b6 w=>Q1 z false w (Q3 P .gtr T.e (.tmp 43) (.const (.int .i64 200)) b6 (.int .i64 200)) fun bq w=>pick P z (.bool true) bq w fun v w=>Q1 v false w (fieldAddr P T.d t4 2) fun cf w=>Q1 v false w (Q2 P T.a cf) fun cc w=>Q1 v false w (X5 P .len [T.a] T.e [false] [cc]) fun bv w=>Q1 v false w (Q3 P .gtr T.e (.tmp 49) (.const (.int .i64 100)) bv (.int .i64 100)) fun cg w=>pick P v (.bool true) cg w fun bp w=>X1 bp (Q0 P F.ai [] w fun ch w=>K ch w) (lp (α:=Value) (.int .i64 0) w fun C x7 d_ w=>X5 P .len [T.b] T.e [false] [a3] w fun bl w=>Q3 P .lss T.e (.tmp 53) (.tmp 55) x7 bl w fun cb w=>X1 cb (indexAddr P T.b a3 x7 w fun bs w=>Q2 P T.a bs w fun ck w=>X5 P .len [T.a] T.e [false] [ck] w fun b7 w=>Q3 P .gtr T.e (.tmp 63) (.const (.int .i64 100)) b7 (.int .i64 100) w fun cd w=>X1 cd (K (.bool true) w) (Q3 P .add T.e (.tmp 57) (.const (.int .i64 1)) x7 (.int .i64 1) w fun cn w=>C cn w)) (Q2 P T.d t4 w fun br w=>Q2 P T.k t5 w fun bz w=>Q2 P T.f t6 w fun cl w=>Q0 P F.ce [ba,br,bz,cl] w fun aw w=>ext P aw 0 w fun b8 w=>ext P aw 1 w fun bm w=>W6 P T.f w fun y w=>Z4 P T.f y b8 w fun _u w=>drR w fun b d=>K5 b (fun W=> ∀a,Ap a→ ∀w,d w→fieldAddr P T.f t6 1 w (dk (b a) W w)) fun W=>K5 b (fun X=> ∀a,Ap a→ ∀w,d w→fieldAddr P T.f t6 2 w (dk (b a) X w)) fun X=>K5 b (fun E=> ∀a,Ap a→ ∀w,d w→buildSlice P T.b 0 [] w (dk (b a) E w)) fun E=>Ce b 4 (fun aa=> ∀V a,Ap a→ ∀w,d w→E V w→X5 P .append [T.b,T.b] T.b [false,false] [V,a3] w (Pw (b a) aa w)) fun aa=>K5 b (fun Y=> ∀L a,Ap a→ ∀w,d w→W L w→Q2 P T.b L w (dk (b a) Y w)) fun Y=>Ce b 6 (fun R=> ∀M U a,Ap a→ ∀w,d w→aa (a 4) M w→Y U w→X5 P .append [T.b,T.b] T.b [false,false] [M,U] w (Pw (b a) R w)) fun R=>K5 b (fun N=> ∀a,Ap a→ ∀w,d w→buildSlice P T.b 0 [] w (dk (b a) N w)) fun N=>K5 b (fun Q=> ∀D a,Ap a→ ∀w,d w→X D w→Q2 P T.b D w (dk (b a) Q w)) fun Q=>Ce b 9 (fun ac=> ∀ab Z a,Ap a→ ∀w,d w→N ab w→Q Z w→X5 P .append [T.b,T.b] T.b [false,false] [ab,Z] w (Pw (b a) ac w)) fun ac=>Pi b (fun ai=> ∀t u a,Ap a→ ∀w,d w→R (a 6) t w→ac (a 9) u w→O4 P T.f [(0,(.bool true)),(1,t),(2,u)] w (dk (b a) (ai [t,u]) w)) fun ai=>K5 b (fun ah=> ∀a,Ap a→ ∀w,d w→W6 P T.f w (dk (b a) ah w)) fun ah=>∀L D V M U t ab Z u a6 ag a,Ap a→ ∀w,d w→W L w→X D w→E V w→aa (a 4) M w→Y U w→R (a 6) t w→N ab w→Q Z w→ac (a 9) u w→ai [t,u] a6 w→ah ag w→ Z4 P T.f ag a6 w fun _u w=>Q2 P T.d t4 w fun b5 w=>Q2 P T.k t5 w fun bj w=>Q2 P T.f ag w fun bo w=>Q0 P F.ce [ba,b5,bj,bo] w fun am w=>ext P am 0 w fun b3 w=>ext P am 1 w fun bd w=>W6 P T.f w fun av w=>Z4 P T.f av b3 w fun _u w=>Q3 P .neq T.s (.tmp 92) (.const (.int .i64 0)) bm (.int .i64 0) w fun cr w=>X1 cr (K (.bool true) w) (fieldAddr P T.f y 1 w fun cq w=>Q2 P T.b cq w fun co w=>X5 P .len [T.b] T.e [false] [co] w fun cj w=>X5 P .len [T.b] T.e [false] [a3] w fun cm w=>Q3 P .add T.e (.tmp 96) (.tmp 98) cj cm w fun ca w=>Q3 P .gtr T.e (.tmp 99) (.const (.int .i64 24)) ca (.int .i64 24) w fun bg w=>X1 bg (Q3 P .eql T.s (.tmp 101) (.const (.int .i64 72)) bd (.int .i64 72) w fun a7 w=>K a7 w) (drR w fun b d=>K5 b (fun s=> ∀a,Ap a→ ∀w,d w→fieldAddr P T.f y 1 w (dk (b a) s w)) fun s=>K5 b (fun p=> ∀a,Ap a→ ∀w,d w→fieldAddr P T.f y 2 w (dk (b a) p w)) fun p=>K5 b (fun i=> ∀a,Ap a→ ∀w,d w→buildSlice P T.b 0 [] w (dk (b a) i w)) fun i=>Ce b 4 (fun m=> ∀o a,Ap a→ ∀w,d w→i o w→X5 P .append [T.b,T.b] T.b [false,false] [o,a3] w (Pw (b a) m w)) fun m=>K5 b (fun j=> ∀r a,Ap a→ ∀w,d w→s r w→Q2 P T.b r w (dk (b a) j w)) fun j=>Ce b 6 (fun n=> ∀l k a,Ap a→ ∀w,d w→m (a 4) l w→j k w→X5 P .append [T.b,T.b] T.b [false,false] [l,k] w (Pw (b a) n w)) fun n=>K5 b (fun h=> ∀q a,Ap a→ ∀w,d w→p q w→Q2 P T.b q w (dk (b a) h w)) fun h=>Pi b (fun B=> ∀e f a,Ap a→ ∀w,d w→n (a 6) e w→h f w→O4 P T.f [(0,(.bool true)),(1,e),(2,f)] w (dk (b a) (B [e,f]) w)) fun B=>K5 b (fun ae=> ∀a,Ap a→ ∀w,d w→W6 P T.f w (dk (b a) ae w)) fun ae=>∀r q o l k e f ad af a,Ap a→ ∀w,d w→s r w→p q w→i o w→m (a 4) l w→j k w→n (a 6) e w→h f w→B [e,f] ad w→ae af w→ Z4 P T.f af ad w fun _u w=>Q3 P .neq T.s (.tmp 112) (.const (.int .i64 0)) bd (.int .i64 0) w fun g w=>Q1 g false w (Q2 P T.f av) fun a4 w=>Q1 g false w (Q2 P T.f af) fun be w=>Q1 g false w (Q0 P F.aa [a4,be]) fun aq w=>Q1 g false w (J4 P .not aq) fun bc w=>pick P g (.bool true) bc w fun ax w=>X1 ax (K (.bool false) w) (fieldAddr P T.k t5 0 w fun a5 w=>Q2 P T.a a5 w fun bb w=>Q3 P .eql T.a (.tmp 121) (.const (.string ⟨#[115,116,111,114,101]⟩)) bb (.string ⟨#[115,116,111,114,101]⟩) w fun c w=>Q1 c false w (fieldAddr P T.f y 2) fun bf w=>Q1 c false w (Q2 P T.b bf) fun a9 w=>Q1 c false w (O4 P T.f [(2,a9)]) fun ay w=>Q1 c false w (fieldAddr P T.f t6 2) fun ap w=>Q1 c false w (Q2 P T.b ap) fun ar w=>Q1 c false w (O4 P T.f [(2,ar)]) fun an w=>Q1 c false w (Q0 P F.aa [ay,an]) fun al w=>pick P c (.bool true) al w fun az w=>K az w)))))
theorem Sk {b c a d:Value} {w:World} {K:Value→World→Prop} (h:Js b c a d w K):Q0 P F.c6 [b,c,a,d] w K:=Q9 Sj Tryz.func6 rfl (by decide) (by kernel_rfl) h
end Go.Proofs.YtfppjenblllfaaaGreatDoor


namespace Go.Emb
open Go.RowKit (Below)
variable {P : Program} {w w' : World} {K : Value → World → Prop}
theorem Y2 {s:Sem Value} {v:Value} (h:s.run P w= .ok v w'):op P (sv s) w K=K v w':=by
 rw[Qj];unfold P7 sv;simp[h]
theorem Wg {s:Sem Unit} (h:s.run P w= .ok () w'):op P (su s) w K=K undef w':=by
 rw[Qj];unfold P7 su;simp[h]
abbrev S (l:List UInt8):Value:= .string ⟨l.toArray⟩
abbrev I (n:Int):Value:= .int .i64 n
theorem Eg {b:Bool} {x y:Value}:pick P (.bool b) x y w K=K (if b then x else y) w:=by
 unfold pick;rw[Qj];unfold P7;cases b<;>simp[asBool]
theorem G8 {x y:Value}:pick P (.bool true) x y w K=K x w:=by rw[Eg];rfl
theorem B3 {x y:Value}:pick P (.bool false) x y w K=K y w:=by rw[Eg];rfl
theorem X1Y {a b:Bool} {u:Value}:pick P (.bool a) (if a=true then .bool b else u) (.bool false) w K=K (.bool (a&&b)) w:=by
 rw[Eg];cases a<;>rfl
theorem X3A {a b:Bool} {u:Value}:pick P (.bool a) (.bool true) (if a=false then .bool b else u) w K=K (.bool (a||b)) w:=by
 rw[Eg];cases a<;>rfl
theorem L4 {c:World→(Value→World→Prop)→Prop}:Q1 (.bool true) true w c K=c w K:=by rw[Et];simp[Lu]
theorem N6 {c:World→(Value→World→Prop)→Prop}:Q1 (.bool false) false w c K=c w K:=by rw[Et];simp[Lu]
theorem G6 {c:World→(Value→World→Prop)→Prop}:Q1 (.bool true) false w c K=K undef w:=by rw[Et];simp[Lu]
theorem E8 {c:World→(Value→World→Prop)→Prop}:Q1 (.bool false) true w c K=K undef w:=by rw[Et];simp[Lu]
theorem E3 {b:Bool} {c:World→(Value→World→Prop)→Prop}:Q1 undef b w c K=K undef w:=by rw[Et];rfl
theorem X16 {a b:Bool} {v:Value}:Q1 (.bool a) b w (fun w J=>J v w) K=K (if a=b then v else undef) w:=by
 rw[Et];unfold Lu;by_cases h:a=b<;>simp[h]
theorem Q6e {b:Bool} {t e:Prop}:X1 (.bool b) t e=if b=true then t else e:=by rw[Q63];cases b<;>rfl
theorem Di {t e:Prop}:X1 (.bool true) t e=t:=by rw[Q6e];simp
theorem Wr {t e:Prop}:X1 (.bool false) t e=e:=by rw[Q6e];simp
section ints
variable {k : IntKind} {t : TypeId} {ox oy : Operand} {a b : Int}
theorem Gc:Q3 P .add t ox oy (.int k a) (.int k b) w K=K (.int k (k.wrap (a+b))) w:=Y2 (by simp[eqGuard,Go.binOp,Op.intArith])
theorem Q1x:Q3 P .sub t ox oy (.int k a) (.int k b) w K=K (.int k (k.wrap (a-b))) w:=Y2 (by simp[eqGuard,Go.binOp,Op.intArith])
theorem Q83:Q3 P .mul t ox oy (.int k a) (.int k b) w K=K (.int k (k.wrap (a*b))) w:=Y2 (by simp[eqGuard,Go.binOp,Op.intArith])
theorem Q3X:Q3 P .lss t ox oy (.int k a) (.int k b) w K=K (.bool (decide (a<b))) w:=Y2 (by simp[eqGuard,Go.binOp,Op.intCmp])
theorem Q3Z:Q3 P .leq t ox oy (.int k a) (.int k b) w K=K (.bool (decide (a≤b))) w:=Y2 (by simp[eqGuard,Go.binOp,Op.intCmp])
theorem Q47:Q3 P .gtr t ox oy (.int k a) (.int k b) w K=K (.bool (decide (b<a))) w:=Y2 (by simp[eqGuard,Go.binOp,Op.intCmp])
theorem Q1C:Q3 P .geq t ox oy (.int k a) (.int k b) w K=K (.bool (decide (b≤a))) w:=Y2 (by simp[eqGuard,Go.binOp,Op.intCmp])
theorem Q1q:Q3 P .eql t ox oy (.int k a) (.int k b) w K=K (.bool (decide (a=b))) w:=Y2 (by
 simp[eqGuard,Go.binOp,Op.intCmp];rfl)
theorem Q46:Q3 P .neq t ox oy (.int k a) (.int k b) w K=K (.bool (!decide (a=b))) w:=Y2 (by
 simp[eqGuard,Go.binOp,Op.intCmp];rfl)
end ints
theorem Q41 {b:Bool}:J4 P .not (.bool b) w K=K (.bool (!b)) w:=Y2 (by simp[Op.unary])
section bools
variable {t : TypeId} {ox oy : Operand} {a b : Bool}
theorem Q2F (d:Nat) (h:P.underlying t=some .bool):(Op.equalIn (d+1) t (.bool a) (.bool b)).run P w= .ok (a==b) w:=by
 simp[Op.equalIn,run_underlying h]
theorem Fy (h:P.underlying t=some .bool):(Op.equal t (.bool a) (.bool b)).run P w= .ok (a==b) w:=Q2F 9999 h
theorem Q6F (h:P.underlying t=some .bool):Q3 P .eql t ox oy (.bool a) (.bool b) w K=K (.bool (a==b)) w:=Y2 (by
 simp[eqGuard,Go.binOp,Fy h])
theorem Q6m (h:P.underlying t=some .bool):Q3 P .neq t ox oy (.bool a) (.bool b) w K=K (.bool (!(a==b))) w:=Y2 (by
 simp[eqGuard,Go.binOp,Fy h])
end bools
theorem Zs {vs:List Value} {i:Nat} {v:Value} (h:vs[i]? =some v):ext P (.tuple vs.toArray) i w K=K v w:=Y2 (by
 simp[Instr.extract,h])
theorem X4r {a b:Value}:ext P (.tuple #[a,b]) 0 w K=K a w:=Zs (vs:=[a,b]) rfl
theorem X3I {a b:Value}:ext P (.tuple #[a,b]) 1 w K=K b w:=Zs (vs:=[a,b]) rfl
theorem X27 {a b c:Value}:ext P (.tuple #[a,b,c]) 0 w K=K a w:=Zs (vs:=[a,b,c]) rfl
theorem X2B {a b c:Value}:ext P (.tuple #[a,b,c]) 1 w K=K b w:=Zs (vs:=[a,b,c]) rfl
theorem X2f {a b c:Value}:ext P (.tuple #[a,b,c]) 2 w K=K c w:=Zs (vs:=[a,b,c]) rfl
theorem G1 {n:Int} (e: -9223372036854775808≤n) (d:n≤9223372036854775807):IntKind.i64.wrap n=n:=by
 have c:n % 18446744073709551616=n∨n % 18446744073709551616=n+18446744073709551616:=by omega
 show (if (true&&decide (n % 18446744073709551616≥9223372036854775808))=true then n % 18446744073709551616-18446744073709551616 else n % 18446744073709551616)=n
 simp only[Bool.true_and,decide_eq_true_eq]
 split<;>omega
theorem w32 {n:Int} (d: -2147483648≤n) (c:n≤2147483647):IntKind.i32.wrap n=n:=by
 show (if (true&&decide (n % 4294967296≥2147483648))=true then n % 4294967296-4294967296 else n % 4294967296)=n
 simp only[Bool.true_and,decide_eq_true_eq]
 split<;>omega
section strs
variable {t : TypeId} {ox oy : Operand} {a b : List UInt8}
theorem Q45 (a b:List UInt8):(a==b)=decide (a=b):=by rw[Bool.eq_iff_iff];simp
theorem Bv:Q3 P .eql t ox oy (S a) (S b) w K=K (.bool (decide (a=b))) w:=Y2 (by
 simp[eqGuard,Go.binOp,Op.stringOp,Q45])
theorem Bm:Q3 P .neq t ox oy (S a) (S b) w K=K (.bool (!decide (a=b))) w:=Y2 (by
 simp[eqGuard,Go.binOp,Op.stringOp,Q45])
theorem F7 (l:List UInt8):(ByteArray.mk l.toArray).size=l.length:=by simp[ByteArray.size]
theorem X0g (a b:List UInt8):ByteArray.mk a.toArray++ByteArray.mk b.toArray=ByteArray.mk (a++b).toArray:=by
 apply ByteArray.ext;simp
theorem X59:IntKind.i64.max=9223372036854775807:=by decide
theorem Q7S (h:a.length+b.length≤9223372036854775807):Q3 P .add t ox oy (S a) (S b) w K=K (S (a++b)) w:=Y2 (by
 have c: ¬(((a.length+b.length:Nat):Int)>IntKind.i64.max):=by rw[X59];omega
 simp only[eqGuard,Go.binOp,Op.stringOp,F7,X0g]
 simp only[if_neg c]
 simp)
theorem E7 {cs:List Bool} {r:TypeId} (c:P.underlying t=some .string):X5 P .len [t] r cs [S a] w K=K (I a.length) w:=by
 have h:(Builtin.len_ #[t] r #[S a]).run P w= .ok (I a.length) w:=by
  simp[Builtin.len_,run_underlying c,F7,goInt]
 exact Y2 h
theorem Xl {i:Int} (c:P.underlying t=some .string) (d:0≤i) (h:i.toNat<a.length):H2 P t (S a) (I i) w K=K (.int .u8 (a[i.toNat]'h).toNat) w:=Y2 (by
 simp only[Instr.index,asIntOf,Sem.run_bind,Sem.run_pure,Result.andThen_ok,run_underlying c,d,if_true]
 have:(ByteArray.mk a.toArray)[i.toNat]? =some (a[i.toNat]'h):=by
  rw[getElem?_pos _ _ (by rw[F7];exact h)]
  rfl
 rw[this];simp)
theorem Q3G (l:List UInt8) (i j:Nat):(ByteArray.mk l.toArray).extract i j=ByteArray.mk ((l.take j).drop i).toArray:=by
 apply ByteArray.ext
 apply Array.ext'
 simp[List.drop_take]
theorem Li {i:Int} (c:P.underlying t=some .string) (d:0≤i) (h:i≤a.length):R5 P t (S a) (some (I i)) none none w K=K (S (a.drop i.toNat)) w:=Y2 (by
 simp[Instr.sliceAt,Instr.slice,Instr.sliceBounds,Instr.sliceBound,asIntOf,run_underlying c,d,h,F7,Q3G])
theorem T8 {i:Int} (c:P.underlying t=some .string) (d:0≤i) (h:i≤a.length):R5 P t (S a) none (some (I i)) none w K=K (S (a.take i.toNat)) w:=Y2 (by
 simp[Instr.sliceAt,Instr.slice,Instr.sliceBounds,Instr.sliceBound,asIntOf,run_underlying c,d,h,F7,Q3G])
end strs
theorem Q2L {s d:TypeId} {k j:IntKind} {n:Int} {ds:TypeDesc} (e:P.underlying s=some ds) (c:P.underlying d=some (.int k)):conv P s d (.int j n) w K=K (.int k (k.wrap n)) w:=Y2 (by
 simp[Go.convert,run_underlying e,run_underlying c,Conv.intToInt])
def Q1a (w:World) (r:Nat) (o:Obj):World:={w with heap:=w.heap.setIfInBounds r o}
theorem Q57 {B r:Nat} {a w:World} {o:Obj} (h:Below B a w) (d:B≤r):Below B a (Q1a w r o):=
 h.trans ⟨rfl,rfl,rfl,by simp[Q1a],fun k c=>by simp only[Q1a];rw[Array.getElem?_setIfInBounds_ne (by omega)]⟩
theorem Q8g {w:World} {r:Nat} {o:Obj} (h:r<w.heap.size):(Q1a w r o).heap[r]? =some o:=by
 simp only[Q1a];rw[Array.getElem?_setIfInBounds_self_of_lt h]
theorem X2V {t:TypeId} {a:List UInt8} (c:P.underlying t=some .string):rng P t (S a) w K=K (.pointer (some ⟨w.heap.size,0,none⟩)) (w.alloc (.stringIter ⟨a.toArray⟩ 0)):=Y2 (by
 simp[Instr.range,run_underlying c])
theorem X2G {t:TypeId} {r pos:Nat} {s:ByteArray} (h:w.heap[r]? =some (.stringIter s pos)) (c:pos<s.size):
 J6 P (.pointer (some ⟨r,0,none⟩)) true t w K=K (.tuple #[.bool true,I pos, .int .i32 (Utf8.decode s pos).1]) (Q1a w r (.stringIter s (pos+(Utf8.decode s pos).2))):=Y2 (by
 have d: ∀(k:Obj→Sem Value),(getObj r>>=k).run P w=(k (.stringIter s pos)).run P w:=by
  intro k;rw[Sem.run_bind];simp[getObj,Sem.run,h]
 have e: ∀o,(setObj r o).run P w= .ok () (Q1a w r o):=by intro o;simp[setObj,Sem.run,h,Q1a]
 unfold Instr.next
 simp only[d,c,if_true]
 simp[e,goInt])
theorem Q7W {t:TypeId} {r pos:Nat} {s:ByteArray} (h:w.heap[r]? =some (.stringIter s pos)) (c: ¬pos<s.size):
 J6 P (.pointer (some ⟨r,0,none⟩)) true t w K=K (.tuple #[.bool false]) w:=Y2 (by
 have d: ∀(k:Obj→Sem Value),(getObj r>>=k).run P w=(k (.stringIter s pos)).run P w:=by
  intro k;rw[Sem.run_bind];simp[getObj,Sem.run,h]
 unfold Instr.next
 simp only[d,c,if_false]
 simp)
theorem X2i {a:Value}:ext P (.tuple #[a]) 0 w K=K a w:=Zs (vs:=[a]) rfl
theorem Q9k {s:ByteArray} {i:Nat} (h:(s.get! i).toNat<128):Utf8.decode s i=((s.get! i).toNat,1):=by
 unfold Utf8.decode
 simp only[Nat.add_zero]
 rw[if_pos h]
theorem Q7Q {s:ByteArray} {i:Nat} (h: ¬(s.get! i).toNat<128):128≤(Utf8.decode s i).1:=by
 unfold Utf8.decode
 simp only[Nat.add_zero]
 rw[if_neg h]
 repeat' split
 all_goals (simp only[Utf8.runeError] at*;try omega)
 all_goals (simp only[Bool.and_eq_true,decide_eq_true_eq,ge_iff_le] at*;omega)
theorem Q6L {s:ByteArray} {i:Nat}:1≤(Utf8.decode s i).2:=by
 unfold Utf8.decode
 simp only
 repeat' split
 all_goals simp
def Ih (p:Int→Bool) (s:ByteArray):Nat→Nat→Bool
 | 0,_=>true
 | n+1,i=>if i<s.size then p (Utf8.decode s i).1&&Ih p s n (i+(Utf8.decode s i).2) else true
theorem Q4i {a:List UInt8} {i:Nat} (h:i<a.length):(ByteArray.mk a.toArray).get! i=a[i]:=by
 show (ByteArray.mk a.toArray).data[i]! =a[i]
 simp[h]
theorem Q9s (p:Int→Bool) (e: ∀c:Int,128≤c→p c=false) (a:List UInt8): ∀(n i:Nat),a.length-i≤n→Ih p ⟨a.toArray⟩ n i=(a.drop i).all (fun b=>p b.toNat):=by
 intro n
 induction n with
 | zero=>intro i h;rw[List.drop_eq_nil_of_le (by omega)];rfl
 | succ n g=>
  intro i h
  simp only[Ih,F7]
  split
  ·rename_i d
   rw[List.drop_eq_getElem_cons d,List.all_cons]
   by_cases f:a[i].toNat<128
   ·rw[Q9k (by rw[Q4i d];exact f),Q4i d]
    simp only
    rw[g (i+1) (by omega)]
   ·have j:=Q7Q (s:=⟨a.toArray⟩) (i:=i) (by rw[Q4i d];exact f)
    rw[e _ (by omega),e _ (by omega)];rfl
  ·rename_i d;rw[List.drop_eq_nil_of_le (by omega)];rfl
theorem W2 {α:Type} {A:(α→World→Prop)→World→Prop} {B:α→(Nat→Value)→World→Prop} (h:A (fun x w=> ∀d,B x d w) w):jn w A B:=Zj _ h (fun _ d _ c=>c d)
theorem X2 {d:World→World→Prop} {A c:(Value→World→Prop)→Prop} (V:Value) (h:A (fun v _=>v=V)) (e:c (fun v _=>v=V)):Q6 d A c:=
 L3 _ (fun _ _ _ h _=>h) h e
theorem Da {w w0:World} {A:(World→World→Prop)→(World→Prop)→Prop} (d:Below w0.heap.size w0 w)
 (h:A (fun w w'=>Below w.heap.size w w') (fun w'=>Below w0.heap.size w0 w')):dr w A:=
 Q1G _ _ d.drew (fun _ _ c e=>c.trans (e.mono c.size)) h
theorem Q32 {w w':World} {v V:Value} (c:Below w.heap.size w w') (h:v=V):dk (fun w w'=>Below w.heap.size w w') (fun v _=>v=V) w v w':=⟨c,h⟩
theorem X6 {w:World} {v V:Value} (h:v=V):dk (fun w w'=>Below w.heap.size w w') (fun v _=>v=V) w v w:=⟨Below.refl _ _,h⟩
theorem Q7K {n:Nat} {fn:Func} {e:Array Value→Sem Value} {xs:List Value} {v:Value} (l:P.funcs[n]? =some fn) (g:(fn.name== "runtime.NumGoroutine")=false) (i:fn.body.isNone=true)
 (j:(Extern.findNext fn).isNone=true) (o:Extern.find fn=some e) (m:(e xs.toArray).run P w= .ok v w) (h:K v w):Q0 P n xs w K:=by
 have f:Extern.findNext fn=none:=by simpa using j
 have d: ¬fn.name= "runtime.NumGoroutine":=by simpa using g
 have c:fn.body=none:=by simpa using i
 unfold Q0
 rw[Qj]
 unfold P7 callFunc
 simp[l,d,c,f,o,m,h]
theorem Q3y {α:Type} (p:α→Bool) (c:Nat→Bool): ∀(l:List α),(∀i (h:i<l.length),c i=p l[i])→(List.range l.length).find? c=l.findIdx? p
 | [],_=>rfl
 | x::l,h=>by
  rw[List.length_cons,List.range_succ_eq_map,List.find?_cons,List.findIdx?_cons]
  have d:c 0=p x:=h 0 (by simp)
  rw[d]
  cases p x
  ·simp only[Bool.false_eq_true,if_false]
   rw[List.find?_map]
   have:=Q3y p (c ∘ Nat.succ) l (fun i e=>h (i+1) (by simpa using e))
   rw[this]
  ·rfl
def Mr:=And.intro @G8 <| And.intro @B3 <| And.intro @E3 <| And.intro @Gc <| And.intro @Q1x <| And.intro @Q83 <| And.intro @Q3X <| And.intro @Q3Z <| And.intro @Q47 <| And.intro @Q1C <| And.intro @Q1q <| And.intro @Q46 <| And.intro @Q41 <| And.intro @Bv <| And.intro @Bm <| And.intro @X4r <| And.intro @X3I <| And.intro @X27 <| And.intro @X2B <| And.intro @X2f <| And.intro @X2i <| And.intro @X1Y <| And.intro @X3A <| And.intro @L4 <| And.intro @N6 <| And.intro @G6 <| And.intro @E8 <| And.intro @X16 <| And.intro @Di <| @Wr
def Mp:=And.intro @G8 <| And.intro @B3 <| And.intro @E3 <| And.intro @Gc <| And.intro @Q1x <| And.intro @Q83 <| And.intro @Q3X <| And.intro @Q3Z <| And.intro @Q47 <| And.intro @Q1C <| And.intro @Q1q <| And.intro @Q46 <| And.intro @Q41 <| And.intro @Bv <| And.intro @Bm <| And.intro @X4r <| And.intro @X3I <| And.intro @X27 <| And.intro @X2B <| And.intro @X2f <| And.intro @X2i <| And.intro @L4 <| And.intro @N6 <| And.intro @G6 <| And.intro @E8 <| And.intro @Di <| @Wr
def Mb:=And.intro @Bool.true_eq_false <| And.intro @Bool.false_eq_true <| And.intro @Bool.not_true <| And.intro @Bool.not_false <| And.intro @Bool.and_true <| And.intro @Bool.true_and <| And.intro @Bool.and_false <| And.intro @Bool.false_and <| And.intro @Bool.or_true <| And.intro @Bool.true_or <| And.intro @Bool.or_false <| @Bool.false_or
end Go.Emb

namespace Go.Kd
abbrev Q8:=List UInt8
def Qx (c:Int):Bool:=decide (65≤c)&&decide (c≤90)
def P6 (c:Int):Bool:=decide (97≤c)&&decide (c≤122)
def B1 (c:Int):Bool:=decide (48≤c)&&decide (c≤57)
def H3 (c:Int):Bool:=Qx c||P6 c||B1 c
def name (s:Q8):Bool:=match s with
 | []=>false
 | c::_=>decide (s.length≤32)&& !B1 c.toNat&&s.all (fun b=>H3 b.toNat)
def W9 (s:Q8):Bool:=match s with
 | []=>false
 | c::_=>name s&&Qx c.toNat
def M8 (s:Q8):Bool:=match s with
 | []=>false
 | c::_=>name s&&P6 c.toNat
def plain (s:Q8):Bool:=decide (s=[105,110,116])||decide (s=[98,111,111,108])||decide (s=[116,101,120,116])
def L6 (s:Q8):Bool:=decide (2≤s.length)&&decide (s.drop (s.length-2)=[91,93])
def cutA (s:Q8):Q8:=s.take (s.length-2)
def Yi:Nat→Q8→Q8×Nat
 | 0,s=>(s,0)
 | n+1,s=>if L6 s then ((Yi n (cutA s)).1,(Yi n (cutA s)).2+1) else (s,0)
def base (s:Q8):Q8×Nat:=Yi s.length s
def right (s:Q8):Bool:=decide ((base s).2≤3)&&(plain (base s).1||W9 (base s).1)
def elem (s:Q8):Q8:=if L6 s&&right s then cutA s else []
def Q2O (s:Q8):Nat:=if right s then (base s).2 else 0
def G2 (s:Q8):Q8×Q8×Bool:=match s with
 | []=>([],[],false)
 | c::r=>if c=46 then ([],r,true) else ((c::(G2 r).1),(G2 r).2.1,(G2 r).2.2)
def T1 (s:Q8):Bool:=(G2 s).2.2&&W9 (G2 s).1&&M8 (G2 s).2.1
def Q1z (c:UInt8) (s:Q8):Int:=match s.findIdx? (fun b=>decide (b=c)) with
 | some i=>i
 | none=> -1
def Q3l (s:Q8) (o:Option Nat):Q8×Q8×Bool:=match o with
 | some i=>(s.take i,s.drop (i+1),true)
 | none=>(s,[],false)
theorem Gz (s:Q8):G2 s=Q3l s (s.findIdx? (fun b=>decide (b=46))):=by
 induction s with
 | nil=>rfl
 | cons c r a=>
  rw[List.findIdx?_cons]
  simp only[G2]
  by_cases h:c=46
  ·simp[h,Q3l]
  ·simp only[h,if_false,decide_false,Bool.false_eq_true]
   rw[a]
   cases r.findIdx? (fun b=>decide (b=46)) with
   | none=>simp[Q3l]
   | some i=>simp[Q3l]
end Go.Kd

namespace Go.Proofs.YtfppjenblllfaaaGreatDoor
open Go.Emb Go.RowKit Go.Kd
variable {w : World} {K : Value → World → Prop}
theorem X8:P.underlying T.a=some .string:=by kernel_rfl
theorem Q3K:P.underlying T.e=some (.int .i64):=by kernel_rfl
theorem Fi:P.underlying T.p=some .bool:=by kernel_rfl
theorem Q42:P.underlying T.w=some (.int .u8):=by kernel_rfl
theorem Q8G:P.underlying T.ag=some (.int .i32):=by kernel_rfl
theorem Q8u (c:Int) (h:K (.bool (Qx c)) w):Q0 P F.ci [.int .i32 c] w K:=Q6C (by
 unfold Q0U
 (try simp only[↓Mr,Mr,Mb,reduceIte])
 cases a:decide (65≤c)<;>simp only[a,↓Mr,Mr,Mb,reduceIte]<;>simpa [Qx,a] using h)
theorem Q80 (c:Int) (h:K (.bool (P6 c)) w):Q0 P F.ck [.int .i32 c] w K:=Q6x (by
 unfold Q1f
 (try simp only[↓Mr,Mr,Mb,reduceIte])
 cases a:decide (97≤c)<;>simp only[a,↓Mr,Mr,Mb,reduceIte]<;>simpa [P6,a] using h)
theorem X3B (c:Int) (h:K (.bool (H3 c)) w):Q0 P F.cc [.int .i32 c] w K:=Q5n (by
 unfold Tf
 refine Q8u c ?_
 cases a:Qx c
 ·(try simp only[↓Mr,Mr,Mb,reduceIte])
  refine Q80 c ?_
  cases b:P6 c
  ·(try simp only[↓Mr,Mr,Mb,reduceIte])
   cases d:decide (48≤c)
   ·(try simp only[↓Mr,Mr,Mb,reduceIte])
    simpa [H3,B1,a,b,d] using h
   ·(try simp only[↓Mr,Mr,Mb,reduceIte])
    simpa [H3,B1,a,b,d] using h
  ·(try simp only[↓Mr,Mr,Mb,reduceIte])
   simpa [H3,a,b] using h
 ·(try simp only[↓Mr,Mr,Mb,reduceIte])
  simpa [H3,a] using h)
theorem X53 (a:List UInt8) (f:Value) (p:Int→Bool) (l: ∀(c:Int) (w:World) (K:Value→World→Prop),K (.bool (p c)) w→Z5 P f [.int .i32 c] w K)
 (h: ∀w',Below w.heap.size w w'→K (.bool (Ih p ⟨a.toArray⟩ a.length 0)) w'):Q0 P F.cC [S a,f] w K:=Q9m (by
 unfold Q3h
 rw[X2V X8]
 refine Uc (fun _ w'=> ∃pos n:Nat,a.length-pos≤n∧Ih p ⟨a.toArray⟩ a.length 0=Ih p ⟨a.toArray⟩ n pos∧Below w.heap.size w w'∧w'.heap[w.heap.size]? =some (.stringIter ⟨a.toArray⟩ pos))
  (fun _ w'=>match w'.heap[w.heap.size]? with | some (.stringIter _ pos)=>a.length-pos | _=>0) ⟨0,a.length,by omega,rfl,(Below.refl _ _).alloc (Nat.le_refl _) _,heap_alloc_new w _⟩ ?_
 rintro _ _ w1 ⟨pos,n,q,b,j,g⟩
 by_cases e:pos<a.length
 ·rw[X2G g (by rw[F7];exact e)]
  (try simp only[↓Mr,Mr,Mb,reduceIte])
  refine l _ _ _ ?_
  obtain ⟨n,rfl⟩: ∃m,n=m+1:=⟨n-1,by omega⟩
  simp only[Ih,F7,e,if_true] at b
  have r:=Q6L (s:=⟨a.toArray⟩) (i:=pos)
  have d:w.heap.size<w1.heap.size:=(Array.getElem?_eq_some_iff.1 g).1
  cases k:p (Utf8.decode ⟨a.toArray⟩ pos).1
  ·(try simp only[↓Mr,Mr,Mb,reduceIte])
   rw[k] at b
   have:=h _ (Q57 (o:= .stringIter ⟨a.toArray⟩ (pos+(Utf8.decode ⟨a.toArray⟩ pos).2)) j (Nat.le_refl _))
   rw[b] at this
   exact this
  ·(try simp only[↓Mr,Mr,Mb,reduceIte])
   rw[k] at b
   refine ⟨⟨_,n,?_,b,Q57 j (Nat.le_refl _),Q8g d⟩,?_⟩
   ·omega
   ·simp only[Q8g d,g];omega
 ·rw[Q7W g (by rw[F7];exact e)]
  (try simp only[↓Mr,Mr,Mb,reduceIte])
  have:Ih p ⟨a.toArray⟩ n pos=true:=by
   cases n with
   | zero=>rfl
   | succ n=>simp only[Ih,F7,e,if_false]
  rw[←this,←b]
  exact h _ j)
theorem Q9r (c:Int) (h:128≤c):H3 c=false:=by
 simp[H3,Qx,P6,B1];omega
theorem Q6Y (a:List UInt8) (n:a.length≤140737488355328) (h: ∀w',Below w.heap.size w w'→K (.bool (name a)) w'):Q0 P F.c5 [S a] w K:=Q7E (by
 unfold Q2b
 have e: ∀c r,a=c::r→(decide (a.length≤32)&& !B1 c.toNat)=true→Q0 P F.cC [S a,(.func (.func F.cc) #[] #[])] w K:=by
  intro c r l b
  refine X53 a _ H3 (fun c w K h=>X9 (first:=[]) (caps:=[]) (X3B c h)) fun w' m=>?_
  rw[Q9s _ Q9r a _ _ (by omega)]
  have:=h w' m
  rw[l] at this b⊢
  simp only[name] at this
  rw[b,Bool.true_and] at this
  simpa using this
 cases a with
 | nil=>
  simp only[↓Mr,Mr,Mb,reduceIte,decide_true]
  exact h w (Below.refl _ _)
 | cons c r=>
  have f:decide (c::r=[])=false:=by simp
  simp only[↓Mr,Mr,Mb,reduceIte,f,E7 X8]
  by_cases i:(c::r).length≤32
  ·have d:r.length≤31:=by simpa using i
   have b:decide ((32:Int)<((c::r).length:Int))=false:=by simp only[decide_eq_false_iff_not];omega
   simp only[↓Mr,Mr,Mb,reduceIte,b]
   rw[Xl X8 (by omega) (by simp)]
   (try simp only[↓Mr,Mr,Mb,reduceIte])
   have j:(c::r)[(0:Int).toNat]'(by simp)=c:=rfl
   simp only[j]
   cases g:decide ((48:Int)≤(c.toNat:Int))
   ·(try simp only[↓Mr,Mr,Mb,reduceIte])
    exact e c r rfl (by simp[B1,d,g])
   ·(try simp only[↓Mr,Mr,Mb,reduceIte])
    rw[Xl X8 (by omega) (by simp)]
    simp only[↓Mr,Mr,Mb,reduceIte,j]
    cases k:decide ((c.toNat:Int)≤57)
    ·(try simp only[↓Mr,Mr,Mb,reduceIte])
     exact e c r rfl (by simp only[B1,g,k];simp[d])
    ·(try simp only[↓Mr,Mr,Mb,reduceIte])
     have:name (c::r)=false:=by simp only[name,B1,g,k];simp
     rw[←this];exact h w (Below.refl _ _)
  ·have b:decide ((32:Int)<((c::r).length:Int))=true:=by simp only[decide_eq_true_eq];omega
   simp only[↓Mr,Mr,Mb,reduceIte,b]
   have:name (c::r)=false:=by simp only[name];rw[decide_eq_false i];rfl
   rw[←this];exact h w (Below.refl _ _))
theorem Re (a:List UInt8) (f:a.length≤140737488355328) (h: ∀w',Below w.heap.size w w'→K (.bool (W9 a)) w'):Q0 P F.ak [S a] w K:=Q5N (by
 unfold Q0N
 refine Q6Y a f fun w1 b=>?_
 cases a with
 | nil=>
  simp only[name,↓Mr,Mr,Mb,reduceIte]
  exact h w1 b
 | cons c r=>
  cases d:name (c::r)
  ·(try simp only[↓Mr,Mr,Mb,reduceIte])
   have:=h w1 b
   simp only[W9,d] at this
   simpa using this
  ·(try simp only[↓Mr,Mr,Mb,reduceIte])
   rw[Xl X8 (by omega) (by simp)]
   have e:(c::r)[(0:Int).toNat]'(by simp)=c:=rfl
   simp only[e]
   rw[Q2L Q42 Q8G,w32 (by omega) (by have:=c.toNat_lt;omega)]
   refine Q8u _ ?_
   (try simp only[↓Mr,Mr,Mb,reduceIte])
   have:=h w1 b
   simp only[W9,d] at this
   simpa using this)
theorem Jx (a:List UInt8) (h:K (.bool (plain a)) w):Q0 P F.ae [S a] w K:=Q6V (by
 unfold Q10
 (try simp only[↓Mr,Mr,Mb,reduceIte])
 cases b:decide (a=[105,110,116])<;>(try simp only[↓Mr,Mr,Mb,reduceIte])
 ·cases c:decide (a=[98,111,111,108])<;>(try simp only[↓Mr,Mr,Mb,reduceIte])<;>simpa [plain,b,c] using h
 ·simpa [plain,b] using h)
def Jg (a b:List UInt8):Bool:=decide (b.length≤a.length)&&decide (a.drop (a.length-b.length)=b)
theorem Dd (a b:List UInt8) (f:a.length≤140737488355328) (e:b.length≤140737488355328) (h:K (.bool (Jg a b)) w):Q0 P F.a9 [S a,S b] w K:=Ck (by
 unfold Uj
 rw[E7 X8,E7 X8]
 (try simp only[↓Mr,Mr,Mb,reduceIte])
 by_cases d:b.length≤a.length
 ·have c:decide ((b.length:Int)≤a.length)=true:=by simp only[decide_eq_true_eq];omega
  simp only[↓Mr,Mr,Mb,reduceIte,c,E7 X8]
  rw[G1 (by omega) (by omega),Li X8 (by omega) (by omega)]
  (try simp only[↓Mr,Mr,Mb,reduceIte])
  rw[show ((a.length:Int)-b.length).toNat=a.length-b.length from by omega]
  simpa [Jg,d] using h
 ·have c:decide ((b.length:Int)≤a.length)=false:=by simp only[decide_eq_false_iff_not];omega
  simp only[↓Mr,Mr,Mb,reduceIte,c]
  simpa [Jg,d] using h)
theorem Q7x (a b:List UInt8) (d:a.length≤140737488355328) (c:b.length≤140737488355328) (h:K (.bool (Jg a b)) w):Q0 P F.bN [S a,S b] w K:=Tk (by
 unfold Oi
 exact Dd a b d c h)
def Oz (a b:List UInt8):List UInt8:=if Jg a b then a.take (a.length-b.length) else a
theorem Q4y {a b:List UInt8} (h:Jg a b=true):b.length≤a.length:=by
 simp only[Jg,Bool.and_eq_true,decide_eq_true_eq] at h;exact h.1
theorem Q5W (a b:List UInt8) (e:a.length≤140737488355328) (d:b.length≤140737488355328) (h:K (S (Oz a b)) w):Q0 P F.bF [S a,S b] w K:=Kz (by
 unfold Ma
 refine Rn ?_
 unfold Jf
 refine Dd a b e d ?_
 cases c:Jg a b
 ·(try simp only[↓Mr,Mr,Mb,reduceIte])
  simpa [Oz,c] using h
 ·have f:=Q4y c
  simp only[↓Mr,Mr,Mb,reduceIte,E7 X8]
  rw[G1 (by omega) (by omega),T8 X8 (by omega) (by omega)]
  rw[show ((a.length:Int)-b.length).toNat=a.length-b.length from by omega]
  simpa [Oz,c] using h)
theorem Q7j (a b:List UInt8) (e:a.length≤140737488355328) (d:b.length≤140737488355328) (h:K (.tuple #[S (Oz a b), .bool (Jg a b)]) w):Q0 P F.bO [S a,S b] w K:=Q03 (by
 unfold Ob
 refine Cn ?_
 unfold Ug
 refine Dd a b e d ?_
 cases c:Jg a b
 ·(try simp only[↓Mr,Mr,Mb,reduceIte])
  simpa [Oz,c] using h
 ·have f:=Q4y c
  simp only[↓Mr,Mr,Mb,reduceIte,E7 X8]
  rw[G1 (by omega) (by omega),T8 X8 (by omega) (by omega)]
  rw[show ((a.length:Int)-b.length).toNat=a.length-b.length from by omega]
  (try simp only[↓Mr,Mr,Mb,reduceIte])
  simpa [Oz,c] using h)
theorem Q34 (a:List UInt8):Jg a [91,93]=L6 a:=rfl
theorem Q2l (a:List UInt8):Oz a [91,93]=if L6 a then Kd.cutA a else a:=rfl
theorem Ql {a:List UInt8} (h:L6 a=true):(Kd.cutA a).length+2=a.length:=by
 simp only[L6,Bool.and_eq_true,decide_eq_true_eq] at h
 simp only[Kd.cutA,List.length_take];omega
theorem Q3d: ∀(n m:Nat) (a:List UInt8),a.length≤n→a.length≤m→Yi n a=Yi m a
 | 0,0,a,_,_=>rfl
 | 0,m+1,a,h,_=>by
  have:a=[]:=List.eq_nil_of_length_eq_zero (by omega)
  subst this;rfl
 | n+1,0,a,_,h=>by
  have:a=[]:=List.eq_nil_of_length_eq_zero (by omega)
  subst this;rfl
 | n+1,m+1,a,b,c=>by
  simp only[Yi]
  split
  ·rename_i h
   have:=Ql h
   rw[Q3d n m (Kd.cutA a) (by omega) (by omega)]
  ·rfl
theorem Ju (a:List UInt8):base a=if L6 a then ((base (Kd.cutA a)).1,(base (Kd.cutA a)).2+1) else (a,0):=by
 unfold base
 cases b:a.length with
 | zero=>
  have:a=[]:=List.eq_nil_of_length_eq_zero b
  subst this;rfl
 | succ n=>
  simp only[Yi]
  split
  ·rename_i h
   have:=Ql h
   rw[Q3d n (Kd.cutA a).length (Kd.cutA a) (by omega) (Nat.le_refl _)]
  ·rfl
theorem Q1r (a:List UInt8):(base a).1.length+2*(base a).2=a.length:=by
 have key: ∀n (a:List UInt8),(Yi n a).1.length+2*(Yi n a).2=a.length:=by
  intro n
  induction n with
  | zero=>intro a;simp[Yi]
  | succ n b=>
   intro a
   simp only[Yi]
   split
   ·rename_i h
    have:=Ql h
    have:=b (Kd.cutA a)
    simp only;omega
   ·simp
 exact key _ a
theorem X0Y (a:List UInt8) (f:a.length≤140737488355328) (h:K (.tuple #[S (base a).1,I (base a).2]) w):Q0 P F.cu [S a] w K:=Q7f (by
 unfold Q20
 refine Uc (fun x w'=>w'=w∧ ∃(b:List UInt8) (n:Nat),x=(S b,I n)∧b.length+2*n=a.length∧base a=((base b).1,(base b).2+n)) (fun x _=>match x.1 with | .string s=>s.size | _=>0)
  ⟨rfl,a,0,rfl,by omega,rfl⟩ ?_
 rintro _ _ _ ⟨rfl,b,n,rfl,e,d⟩
 refine Q7x b _ (by omega) (by simp) ?_
 rw[Q34]
 cases c:L6 b
 ·(try simp only[↓Mr,Mr,Mb,reduceIte])
  rw[Ju b,c] at d
  simp only[Bool.false_eq_true,if_false,Nat.zero_add] at d
  rw[d] at h;exact h
 ·(try simp only[↓Mr,Mr,Mb,reduceIte])
  refine Q5W b _ (by omega) (by simp) ?_
  rw[Q2l,c]
  simp only[↓Mr,Mr,Mb,reduceIte,if_true]
  have g:=Ql c
  rw[G1 (by omega) (by omega)]
  refine ⟨⟨by first | rfl | trivial,Kd.cutA b,n+1,by simp,by omega,?_⟩,?_⟩
  ·rw[d,Ju b,c];simp;omega
  ·simp only[F7];omega)
theorem Yv (a:List UInt8) (g:a.length≤140737488355328) (h: ∀w',Below w.heap.size w w'→K (.bool (right a)) w'):Q0 P F.z [S a] w K:=Q6G (by
 unfold Q05
 have f:=Q1r a
 refine X0Y a g ?_
 (try simp only[↓Mr,Mr,Mb,reduceIte])
 by_cases c:(base a).2≤3
 ·have b:decide (((base a).2:Int)≤3)=true:=by simp only[decide_eq_true_eq];omega
  simp only[↓Mr,Mr,Mb,reduceIte,b]
  refine Jx _ ?_
  cases d:plain (base a).1
  ·(try simp only[↓Mr,Mr,Mb,reduceIte])
   refine Re _ (by omega) fun w1 e=>?_
   (try simp only[↓Mr,Mr,Mb,reduceIte])
   have:=h w1 e
   simp only[right,c,d] at this
   simpa using this
  ·(try simp only[↓Mr,Mr,Mb,reduceIte])
   have:=h w (Below.refl _ _)
   simp only[right,c,d] at this
   simpa using this
 ·have b:decide (((base a).2:Int)≤3)=false:=by simp only[decide_eq_false_iff_not];omega
  simp only[↓Mr,Mr,Mb,reduceIte,b]
  have:=h w (Below.refl _ _)
  simp only[right,c] at this
  simpa using this)
theorem Q5O (a:List UInt8) (d:a.length≤140737488355328) (h: ∀w',Below w.heap.size w w'→K (S (elem a)) w'):Q0 P F.c4 [S a] w K:=Q7F (by
 unfold Q27
 refine Q7j a _ d (by simp) ?_
 rw[Q34,Q2l]
 (try simp only[↓Mr,Mr,Mb,reduceIte])
 cases b:L6 a
 ·(try simp only[↓Mr,Mr,Mb,reduceIte])
  have:=h w (Below.refl _ _)
  simp only[elem,b] at this
  exact this
 ·(try simp only[↓Mr,Mr,Mb,reduceIte])
  refine Yv a d fun w1 e=>?_
  have:=h w1 e
  cases c:right a
  ·(try simp only[↓Mr,Mr,Mb,reduceIte])
   simp only[elem,b,c] at this
   exact this
  ·simp only[↓Mr,Mr,Mb,reduceIte,if_true]
   simp only[elem,b,c] at this
   exact this)
theorem X4v (a:List UInt8) (b:a.length≤140737488355328) (h: ∀w',Below w.heap.size w w'→K (I (Q2O a)) w'):Q0 P F.cO [S a] w K:=Q7y (by
 unfold Q2i
 refine X0Y a b ?_
 (try simp only[↓Mr,Mr,Mb,reduceIte])
 refine Yv a b fun w1 c=>?_
 have:=h w1 c
 cases d:right a<;>(try simp only[↓Mr,Mr,Mb,reduceIte])<;>simpa [Q2O,d] using this)
end Go.Proofs.YtfppjenblllfaaaGreatDoor

namespace Go.Proofs.YtfppjenblllfaaaGreatDoor
open Go.Emb Go.RowKit Go.Kd
variable {w : World} {K : Value → World → Prop}
theorem Q1M (a:List UInt8) (c:UInt8) (h:K (I (Q1z c a)) w):Q0 P F.c3 [S a, .int .u8 c.toNat] w K:=by
 refine Q7K (e:=Extern.BytealgIndexByte.indexByte) Tryz.func235 (by decide) rfl (by kernel_rfl) (by kernel_rfl) ?_ h
 have g:((List.range (ByteArray.mk a.toArray).size).find? fun i=>(ByteArray.mk a.toArray)[i]! ==c)=a.findIdx? (fun b=>decide (b=c)):=by
  rw[F7]
  refine Q3y _ _ a fun i d=>?_
  have:(ByteArray.mk a.toArray)[i]! =a[i]:=by
   rw[getElem!_pos _ _ (by rw[F7];exact d)];rfl
  rw[this,Bool.eq_iff_iff];simp
 have f:((c.toNat:Int).toNat.toUInt8)=c:=by simp
 have:=run_indexByte_string (P:=P) ⟨a.toArray⟩ c.toNat w
 rw[f] at this
 refine this.trans ?_
 unfold firstIdx Q1z
 rw[g]
 cases a.findIdx? (fun b=>decide (b=c))<;>rfl
theorem X13 (a:List UInt8) (c:UInt8) (h:K (I (Q1z c a)) w):Q0 P F.bP [S a,S [c]] w K:=Tl (by
 unfold Ol
 simp only[E7 X8]
 have g:decide ((([c]:List UInt8).length:Int)=0)=false:=rfl
 have i:decide ((([c]:List UInt8).length:Int)=1)=true:=rfl
 simp only[Q1q,g,i]
 simp only[↓Mr,Mr,Mb,reduceIte]
 have e:H2 P T.a (S [c]) (I 0) w fun d w=>Q0 P F.az [S a,d] w fun b w=>K b w:=by
  rw[Xl X8 (by omega) (by simp)]
  refine Cg ?_
  unfold Ui
  exact Q1M a c h
 cases f:decide ([c]=a)
 ·(try simp only[↓Mr,Mr,Mb,reduceIte])
  exact e
 ·(try simp only[↓Mr,Mr,Mb,reduceIte])
  have j:[c]=a:=by simpa using f
  have:Q1z c a=0:=by rw[←j];simp[Q1z,List.findIdx?_cons]
  rw[this] at h;exact h)
theorem X1A {c:UInt8} {a:List UInt8} {i:Nat} (h:a.findIdx? (fun b=>decide (b=c))=some i):i<a.length:=by
 have:=List.findIdx?_eq_some_iff_getElem.1 h
 exact this.1
theorem X4R (a:List UInt8) (f:a.length≤140737488355328) (h: ∀w',Below w.heap.size w w'→K (.tuple #[S (G2 a).1,S (G2 a).2.1, .bool (G2 a).2.2]) w'):Q0 P F.cA [S a,S [46]] w K:=Q5g (by
 unfold Th
 refine Q1O ?_
 unfold Hg
 refine X13 a 46 ?_
 rw[Gz] at h
 unfold Q1z
 cases c:a.findIdx? (fun b=>decide (b=46)) with
 | none=>
  simp only[↓Mr,Mr,Mb,reduceIte,show decide ((0:Int)≤ -1)=false from rfl]
  have:=h w (Below.refl _ _)
  rw[c] at this;exact this
 | some i=>
  have g:=X1A c
  have e:decide ((0:Int)≤(i:Int))=true:=by simp
  simp only[Q1C,e]
  simp only[↓Mr,Mr,Mb,reduceIte]
  refine Da (Below.refl _ w) ?_
  refine X2 (S (a.take i)) (fun w1 _=>?_) ?_
  ·rw[T8 X8 (by omega) (by omega)];exact X6 (by simp)
  refine X2 (I 1) (fun w1 _=>?_) ?_
  ·rw[E7 X8];exact X6 rfl
  refine X2 (I (i+1)) ?_ ?_
  ·rintro _ w1 _ rfl
   rw[Gc,G1 (by omega) (by omega)];exact X6 rfl
  refine X2 (S (a.drop (i+1))) ?_ ?_
  ·rintro _ w1 _ rfl
   rw[Li X8 (by omega) (by omega)];exact X6 (by simp)
  rintro _ _ _ _ w1 d rfl rfl rfl rfl
  (try simp only[↓Mr,Mr,Mb,reduceIte])
  have:=h w1 d
  rw[c] at this;exact this)
theorem Q8j (a:List UInt8) (A:a.length≤140737488355328) (h: ∀w',Below w.heap.size w w'→K (if T1 a then .tuple #[S (G2 a).1,S (G2 a).2.1,I 0] else .tuple #[S [],S [],I 30]) w'):Q0 P F.bk [S a] w K:=Q5H (by
 unfold Q0M
 refine X4R a A fun w1 e=>?_
 have o:(G2 a).1.length≤a.length∧(G2 a).2.1.length≤a.length:=by
  rw[Gz]
  cases a.findIdx? (fun b=>decide (b=46))<;>simp[Q3l]
  omega
 generalize t:(G2 a).1=p at h o
 generalize v:(G2 a).2.1=q at h o
 have k:T1 a=((G2 a).2.2&&W9 p&&M8 q):=by rw[T1,t,v]
 cases n:(G2 a).2.2
 ·simp only[↓Mr,Mr,Mb,reduceIte]
  have:=h w1 e
  rw[k,n] at this;simpa using this
 ·simp only[↓Mr,Mr,Mb,reduceIte]
  refine Re p (by omega) fun z m=>?_
  have d:=e.trans (m.mono e.size)
  cases s:W9 p
  ·(try simp only[↓Mr,Mr,Mb,reduceIte])
   have:=h z d
   rw[k,n,s] at this;simpa using this
  ·(try simp only[↓Mr,Mr,Mb,reduceIte])
   refine Q6Y q (by omega) fun u j=>?_
   have f:=d.trans (j.mono d.size)
   have:=h u f
   rw[k,n,s] at this
   cases l:name q
   ·(try simp only[↓Mr,Mr,Mb,reduceIte])
    have i:M8 q=false:=by cases q with | nil=>rfl | cons c r=>simp[M8,l]
    rw[i] at this;simpa using this
   ·(try simp only[↓Mr,Mr,Mb,reduceIte])
    cases q with
    | nil=>simp[name] at l
    | cons c r=>
     rw[Xl X8 (by omega) (by simp)]
     have g:(c::r)[(0:Int).toNat]'(by simp)=c:=rfl
     (try simp only[↓Mr,Mr,Mb,reduceIte])
     rw[g,Q2L Q42 Q8G,w32 (by omega) (by have:=c.toNat_lt;omega)]
     refine Q80 _ ?_
     have i:M8 (c::r)=P6 c.toNat:=by simp[M8,l]
     rw[i] at this
     cases y:P6 c.toNat<;>(try simp only[↓Mr,Mr,Mb,reduceIte])<;>rw[y] at this<;>simpa using this)
theorem Q0v (a:List UInt8) (h:K (.bool (plain a)) w):Q0 P F.aj [S a] w K:=Iw (by
 unfold Lk
 refine W2 ?_
 (try simp only[↓Mr,Mr,Mb,reduceIte])
 cases b:decide (a=[105,110,116])
 ·cases c:decide (a=[98,111,111,108])
  ·cases d:decide (a=[116,101,120,116])<;>(try simp only[↓Mr,Mr,Mb,reduceIte])<;>intro _<;>(try simp only[↓Mr,Mr,Mb,reduceIte])<;>simpa [plain,b,c,d] using h
  ·(try simp only[↓Mr,Mr,Mb,reduceIte])
   intro _
   (try simp only[↓Mr,Mr,Mb,reduceIte])
   simpa [plain,b,c] using h
 ·(try simp only[↓Mr,Mr,Mb,reduceIte])
  intro _
  (try simp only[↓Mr,Mr,Mb,reduceIte])
  simpa [plain,b] using h)
def X2p (a:List UInt8) (w:World) (x:Value) (w':World):Prop:=
 w=w'∧ ∃i:Nat,x=I i∧i≤a.length∧(0<i→(a.head?.map fun c=>B1 c.toNat)=some false)∧(a.take i).all (fun b=>H3 b.toNat)=true
def Q5A (a:List UInt8) (x:Value):Nat:=match x with | .int _ i=>a.length-i.toNat | _=>0
theorem Q6B (a:List UInt8) (Q:a.length≤140737488355328) (h:K (.bool (name a)) w):Q0 P F.aZ [S a] w K:=Af (by
 unfold Oj
 refine Uc (X2p a w) (fun x _=>Q5A a x) ⟨rfl,0,rfl,by omega,by omega,by simp⟩ ?_
 rintro _ _ _ ⟨rfl,i,rfl,O,M,j⟩
 rw[E7 X8]
 (try simp only[↓Mr,Mr,Mb,reduceIte])
 by_cases l:i<a.length
 ·have D:decide ((i:Int)<a.length)=true:=by simp only[decide_eq_true_eq];omega
  simp only[D,↓Mr,Mr,Mb,reduceIte]
  have d: ∀A:Value→World→Prop,H2 P T.a (S a) (I i) w A=A (.int .u8 (a[i]'l).toNat) w:=fun A=>by
   rw[Xl X8 (by omega) (by simpa using l)];simp
  generalize q:a[i]=c at d
  have e:H3 c.toNat=false∨(i=0∧B1 c.toNat=true)→name a=false:=by
   intro t
   cases a with
   | nil=>rfl
   | cons L r=>
    simp only[name]
    rcases t with t | ⟨rfl,t⟩
    ·have:(L::r).all (fun b=>H3 b.toNat)=false:=by
      rw[List.all_eq_false]
      exact ⟨c,by rw[←q];exact List.getElem_mem _,by simp[t]⟩
     rw[this];simp
    ·simp only[List.getElem_cons_zero] at q
     rw[q,t];simp
  have f:H3 c.toNat=true→(i=0→B1 c.toNat=false)→X2p a w (I (IntKind.i64.wrap ((i:Int)+1))) w∧Q5A a (I (IntKind.i64.wrap ((i:Int)+1)))<Q5A a (I i):=by
   intro E B
   rw[G1 (by omega) (by omega)]
   refine ⟨⟨rfl,i+1,by simp,by omega,fun _=>?_,?_⟩,by simp only[Q5A];omega⟩
   ·by_cases p:0<i
    ·exact M p
    ·obtain rfl:i=0:=by omega
     cases a with
     | nil=>simp at l
     | cons L r=>simp only[List.getElem_cons_zero] at q;subst q;simp[B rfl]
   ·rw[List.take_add_one,List.getElem?_eq_getElem l,q]
    simp[j,E]
  have z:=c.toNat_lt
  have v:decide ((i:Int)=0)=decide (i=0):=by rw[Bool.eq_iff_iff];simp
  by_cases n:97≤(c.toNat:Int)
  ·by_cases C:(c.toNat:Int)≤122
   ·simp only[d,decide_eq_true n,decide_eq_true C,↓Mr,Mr,Mb,reduceIte]
    exact f (by simp[H3,P6,n,C]) (fun _=>by simp[B1];omega)
   ·have o:(65:Int)≤c.toNat:=by omega
    have s: ¬(c.toNat:Int)≤90:=by omega
    have g: ¬(c.toNat:Int)<48:=by omega
    have k:(57:Int)<c.toNat:=by omega
    simp only[d,decide_eq_true n,decide_eq_false C,decide_eq_true o,decide_eq_false s,decide_eq_false g,decide_eq_true k,v,↓Mr,Mr,Mb,reduceIte]
    have m:=e (.inl (by simp[H3,Qx,P6,B1];omega))
    rw[m] at h
    cases decide (i=0)<;>(try simp only[d,decide_eq_false g,decide_eq_true k,↓Mr,Mr,Mb,reduceIte])<;>exact h
  ·by_cases o:(65:Int)≤c.toNat
   ·by_cases s:(c.toNat:Int)≤90
    ·simp only[d,decide_eq_false n,decide_eq_true o,decide_eq_true s,↓Mr,Mr,Mb,reduceIte]
     exact f (by simp[H3,Qx,o,s]) (fun _=>by simp[B1];omega)
    ·have g: ¬(c.toNat:Int)<48:=by omega
     have k:(57:Int)<c.toNat:=by omega
     simp only[d,decide_eq_false n,decide_eq_true o,decide_eq_false s,decide_eq_false g,decide_eq_true k,v,↓Mr,Mr,Mb,reduceIte]
     have m:=e (.inl (by simp[H3,Qx,P6,B1];omega))
     rw[m] at h
     cases decide (i=0)<;>(try simp only[d,decide_eq_false g,decide_eq_true k,↓Mr,Mr,Mb,reduceIte])<;>exact h
   ·by_cases g:(c.toNat:Int)<48
    ·simp only[d,decide_eq_false n,decide_eq_false o,decide_eq_true g,v,↓Mr,Mr,Mb,reduceIte]
     have m:=e (.inl (by simp[H3,Qx,P6,B1];omega))
     rw[m] at h
     cases decide (i=0)<;>(try simp only[d,decide_eq_true g,↓Mr,Mr,Mb,reduceIte])<;>exact h
    ·by_cases k:(57:Int)<c.toNat
     ·simp only[d,decide_eq_false n,decide_eq_false o,decide_eq_false g,decide_eq_true k,v,↓Mr,Mr,Mb,reduceIte]
      have m:=e (.inl (by simp[H3,Qx,P6,B1];omega))
      rw[m] at h
      cases decide (i=0)<;>(try simp only[d,decide_eq_false g,decide_eq_true k,↓Mr,Mr,Mb,reduceIte])<;>exact h
     ·have y:B1 c.toNat=true:=by simp[B1];omega
      simp only[d,decide_eq_false n,decide_eq_false o,decide_eq_false g,decide_eq_false k,v,↓Mr,Mr,Mb,reduceIte]
      by_cases p:i=0
      ·have m:=e (.inr ⟨p,y⟩)
       rw[m] at h
       simp only[decide_eq_true p,d,decide_eq_false g,decide_eq_false k,↓Mr,Mr,Mb,reduceIte]
       exact h
      ·simp only[decide_eq_false p,d,decide_eq_false g,decide_eq_false k,↓Mr,Mr,Mb,reduceIte]
       exact f (by simp[H3,y]) (fun h=>absurd h p)
 ·have D:decide ((i:Int)<a.length)=false:=by simp only[decide_eq_false_iff_not];omega
  obtain rfl:i=a.length:=by omega
  simp only[D,↓Mr,Mr,Mb,reduceIte]
  rw[E7 X8]
  cases a with
  | nil=>
   have J:decide ((1:Int)≤(([]:List UInt8).length:Int))=false:=rfl
   simp only[J,↓Mr,Mr,Mb,reduceIte];exact h
  | cons c r=>
   have J:decide ((1:Int)≤((c::r).length:Int))=true:=by simp only[decide_eq_true_eq,List.length_cons];omega
   have u:=M (by simp)
   simp only[List.head?_cons,Option.map_some,Option.some.injEq] at u
   simp only[List.take_length] at j
   have H:name (c::r)=decide ((c::r).length≤32):=by simp only[name,u,j];simp
   have N:decide (((c::r).length:Int)≤32)=decide ((c::r).length≤32):=by rw[Bool.eq_iff_iff];simp only[decide_eq_true_eq];omega
   simp only[J,E7 X8,N,↓Mr,Mr,Mb,reduceIte]
   rw[←H];exact h)
theorem Ij {c:UInt8} {r:List UInt8} (h:name (c::r)=true):H3 c.toNat=true∧B1 c.toNat=false:=by
 simp only[name,Bool.and_eq_true,List.all_cons,Bool.not_eq_true'] at h
 exact ⟨h.2.1,h.1.2⟩
theorem Xw (a:List UInt8) (e:a.length≤140737488355328) (h:K (.bool (W9 a)) w):Q0 P F.f [S a] w K:=Ps (by
 unfold Nj
 refine Q6B a e ?_
 cases a with
 | nil=>simp only[name,↓Mr,Mr,Mb,reduceIte];exact h
 | cons c r=>
  cases d:name (c::r)
  ·(try simp only[↓Mr,Mr,Mb,reduceIte])
   simpa [W9,d] using h
  ·(try simp only[↓Mr,Mr,Mb,reduceIte])
   rw[Xl X8 (by omega) (by simp)]
   have b:(c::r)[(0:Int).toNat]'(by simp)=c:=rfl
   (try simp only[↓Mr,Mr,Mb,reduceIte])
   rw[b]
   obtain ⟨f,g⟩:=Ij d
   have:decide ((c.toNat:Int)≤90)=Qx c.toNat:=by
    simp only[H3,Qx,P6,B1,Bool.or_eq_true,Bool.and_eq_true,Bool.and_eq_false_iff,decide_eq_true_eq,decide_eq_false_iff_not] at f g⊢
    rw[Bool.eq_iff_iff];simp only[Bool.and_eq_true,decide_eq_true_eq];omega
   rw[this]
   simpa [W9,d] using h)
theorem Pr (a:List UInt8) (e:a.length≤140737488355328) (h:K (.bool (M8 a)) w):Q0 P F.w [S a] w K:=Ft (by
 unfold Wb
 refine Q6B a e ?_
 cases a with
 | nil=>simp only[name,↓Mr,Mr,Mb,reduceIte];exact h
 | cons c r=>
  cases d:name (c::r)
  ·(try simp only[↓Mr,Mr,Mb,reduceIte])
   simpa [M8,d] using h
  ·(try simp only[↓Mr,Mr,Mb,reduceIte])
   rw[Xl X8 (by omega) (by simp)]
   have b:(c::r)[(0:Int).toNat]'(by simp)=c:=rfl
   (try simp only[↓Mr,Mr,Mb,reduceIte])
   rw[b]
   obtain ⟨f,g⟩:=Ij d
   have:decide ((97:Int)≤c.toNat)=P6 c.toNat:=by
    simp only[H3,Qx,P6,B1,Bool.or_eq_true,Bool.and_eq_true,Bool.and_eq_false_iff,decide_eq_true_eq,decide_eq_false_iff_not] at f g⊢
    rw[Bool.eq_iff_iff];simp only[Bool.and_eq_true,decide_eq_true_eq];omega
   rw[this]
   simpa [M8,d] using h)
def X4J (a:List UInt8) (w:World) (x:Value×Value) (w':World):Prop:=
 w=w'∧ ∃(b:List UInt8) (n:Nat),x=(S b,I n)∧b.length+2*n=a.length∧(base a).2=(base b).2+n
def X29 (x:Value×Value):Nat:=match x.1 with | .string s=>s.size | _=>0
theorem Q2A (a:List UInt8) (k:a.length≤140737488355328) (h:K (I (base a).2) w):Q0 P F.ar [S a] w K:=Tu (by
 unfold Ns
 refine Uc (X4J a w) (fun x _=>X29 x) ⟨rfl,a,0,rfl,by omega,rfl⟩ ?_
 rintro _ _ _ ⟨rfl,b,n,rfl,j,c⟩
 rw[E7 X8]
 (try simp only[↓Mr,Mr,Mb,reduceIte])
 by_cases f:2≤b.length
 ·have e:decide ((2:Int)≤b.length)=true:=by simp only[decide_eq_true_eq];omega
  simp only[e,E7 X8,↓Mr,Mr,Mb,reduceIte]
  rw[G1 (by omega) (by omega),Li X8 (by omega) (by omega)]
  rw[show ((b.length:Int)-2).toNat=b.length-2 from by omega]
  have g:decide (b.drop (b.length-2)=[91,93])=L6 b:=by simp[L6,f]
  simp only[g,↓Mr,Mr,Mb,reduceIte]
  cases d:L6 b
  ·(try simp only[↓Mr,Mr,Mb,reduceIte])
   rw[Ju b,d] at c
   simp only[Bool.false_eq_true,if_false,Nat.zero_add] at c
   rw[c] at h;exact h
  ·(try simp only[E7 X8,↓Mr,Mr,Mb,reduceIte])
   rw[T8 X8 (by omega) (by omega)]
   rw[show ((b.length:Int)-2).toNat=b.length-2 from by omega]
   have i:=Ql d
   refine ⟨⟨rfl,Kd.cutA b,n+1,?_,by omega,?_⟩,?_⟩
   ·simp only[Kd.cutA,Prod.mk.injEq,true_and]
    first | rfl | (rw[G1 (by omega) (by omega)];rfl)
   ·rw[c,Ju b,d];simp;omega
   ·simp only[X29,F7,List.length_take];omega
 ·have e:decide ((2:Int)≤b.length)=false:=by simp only[decide_eq_false_iff_not];omega
  simp only[e,↓Mr,Mr,Mb,reduceIte]
  have d:L6 b=false:=by simp[L6,f]
  rw[Ju b,d] at c
  simp only[Bool.false_eq_true,if_false,Nat.zero_add] at c
  rw[c] at h;exact h)
theorem Q4S (a:List UInt8):a.take (a.length-2*(base a).2)=(base a).1:=by
 have key: ∀n (a:List UInt8),a.take (a.length-2*(Yi n a).2)=(Yi n a).1:=by
  intro n
  induction n with
  | zero=>intro a;simp[Yi]
  | succ n b=>
   intro a
   simp only[Yi]
   split
   ·rename_i h
    have c:=Ql h
    simp only
    rw[←b (Kd.cutA a)]
    rw[Kd.cutA,List.take_take,List.length_take]
    congr 1
    omega
   ·simp
 exact key _ a
theorem We (a:List UInt8) (f:a.length≤140737488355328) (h:K (.bool (right a)) w):Q0 P F.l [S a] w K:=Kg (by
 unfold Mw
 have e:=Q1r a
 refine Q2A a f ?_
 rw[E7 X8]
 (try simp only[↓Mr,Mr,Mb,reduceIte])
 rw[G1 (n:=2*((base a).2:Int)) (by omega) (by omega),G1 (by omega) (by omega),T8 X8 (by omega) (by omega)]
 rw[show ((a.length:Int)-2*((base a).2:Int)).toNat=a.length-2*(base a).2 from by omega,Q4S]
 (try simp only[↓Mr,Mr,Mb,reduceIte])
 by_cases c:(base a).2≤3
 ·have b:decide (((base a).2:Int)≤3)=true:=by simp only[decide_eq_true_eq];omega
  simp only[b,↓Mr,Mr,Mb,reduceIte]
  refine Q0v _ ?_
  cases d:plain (base a).1
  ·(try simp only[↓Mr,Mr,Mb,reduceIte])
   refine Xw _ (by omega) ?_
   (try simp only[↓Mr,Mr,Mb,reduceIte])
   simpa [right,c,d] using h
  ·(try simp only[↓Mr,Mr,Mb,reduceIte])
   simpa [right,c,d] using h
 ·have b:decide (((base a).2:Int)≤3)=false:=by simp only[decide_eq_false_iff_not];omega
  simp only[b,↓Mr,Mr,Mb,reduceIte]
  simpa [right,c] using h)
def X3F (a:List UInt8) (w:World) (x:Value) (w':World):Prop:=
 w=w'∧ ∃n:Nat,x=I n∧n≤a.length∧(∀i,(h:i<n)→(b:i<a.length)→a[i]≠46)
def X0R (a:List UInt8) (x:Value):Nat:=match x with | .int _ n=>(a.length-n).toNat | _=>0
theorem Q4t (a:List UInt8) (M:a.length≤140737488355328) (h: ∀w',Below w.heap.size w w'→K (if (G2 a).2.2 then .tuple #[S (G2 a).1,S (G2 a).2.1, .bool (T1 a)] else .tuple #[S [],S [], .bool false]) w'):Q0 P F.bI [S a] w K:=Ic (by
 unfold My
 refine Uc (X3F a w) (fun x _=>X0R a x) ⟨rfl,0,rfl,by omega,by omega⟩ ?_
 rintro _ _ _ ⟨rfl,n,rfl,L,u⟩
 rw[E7 X8]
 (try simp only[↓Mr,Mr,Mb,reduceIte])
 by_cases J:n<a.length
 ·have s:decide ((n:Int)<a.length)=true:=by simp only[decide_eq_true_eq];omega
  simp only[s,↓Mr,Mr,Mb,reduceIte]
  rw[Xl X8 (by omega) (by omega)]
  (try simp only[↓Mr,Mr,Mb,reduceIte])
  simp only[Int.toNat_natCast]
  have C:decide (((a[n]).toNat:Int)=46)=decide (a[n]=46):=by
   rw[Bool.eq_iff_iff];simp only[decide_eq_true_eq]
   constructor
   ·intro e;exact UInt8.toNat_inj.1 (by have:(46:UInt8).toNat=46:=rfl;omega)
   ·intro e;rw[e];rfl
  rw[C]
  by_cases m:a[n]=46
  ·simp only[m,decide_true,↓Mr,Mr,Mb,reduceIte]
   have l:G2 a=(a.take n,a.drop (n+1),true):=by
    have:a.findIdx? (fun b=>decide (b=46))=some n:=by
     rw[List.findIdx?_eq_some_iff_getElem]
     exact ⟨J,by simpa using m,fun j D=>by simpa using u j D (by omega)⟩
    rw[Gz,this];rfl
   have r:T1 a=(W9 (a.take n)&&M8 (a.drop (n+1))):=by simp[T1,l]
   rw[l,r] at h
   have q:((n:Int)+1).toNat=n+1:=by omega
   have o:(a.take n).length≤140737488355328:=by simp only[List.length_take];omega
   have p:(a.drop (n+1)).length≤140737488355328:=by simp only[List.length_drop];omega
   have z: ∀{w:World} {K:Value→World→Prop},K (S (a.take n)) w→R5 P T.a (S a) none (some (I n)) none w K:=by
    intro w K h
    rw[T8 X8 (by omega) (by omega),show ((n:Int)).toNat=n from by omega];exact h
   have B: ∀{w:World} {K:Value→World→Prop},K (S (a.drop (n+1))) w→R5 P T.a (S a) (some (I (n+1))) none none w K:=by
    intro w K h
    rw[Li X8 (by omega) (by omega),q];exact h
   refine Da (Below.refl _ _) ?_
   refine X2 (S (a.take n)) (fun w c=>z (X6 rfl)) ?_
   refine X2 (I (n+1)) (fun w c=>X6 (by rw[G1 (by omega) (by omega)])) ?_
   refine X2 (S (a.drop (n+1))) (fun t w c e=>by rw[e];exact B (X6 rfl)) ?_
   refine X2 (S (a.take n)) (fun w c=>z (X6 rfl)) ?_
   refine X2 (.bool (W9 (a.take n))) (fun t w c e=>by rw[e];exact Xw _ o (X6 rfl)) ?_
   cases g:W9 (a.take n)
   ·refine X2 undef (fun t w c e=>by rw[e,E8];exact X6 rfl) ?_
    refine X2 undef (fun t w c e=>by rw[e,E8];exact X6 rfl) ?_
    refine X2 undef (fun t f w c e d=>by rw[e,E8];exact X6 rfl) ?_
    refine X2 undef (fun t f y w c e d k=>by rw[e,E8];exact X6 rfl) ?_
    refine X2 undef (fun t f w c e d=>by rw[e,E8];exact X6 rfl) ?_
    refine X2 (.bool false) (fun t f w c e d=>by rw[e,B3];exact X6 rfl) ?_
    rintro _ _ _ _ _ _ _ _ _ _ _ w1 c rfl rfl rfl rfl rfl rfl rfl rfl rfl rfl rfl
    rw[g] at h
    exact h w1 (by simpa using c)
   ·refine X2 (S a) (fun t w c e=>by rw[e,L4];exact X6 rfl) ?_
    refine X2 (I n) (fun t w c e=>by rw[e,L4];exact X6 rfl) ?_
    refine X2 (I (n+1)) (fun t f w c e d=>by rw[e,d,L4];simp only[↓Mr,Mr,Mb,reduceIte];exact X6 (by rw[G1 (by omega) (by omega)])) ?_
    refine X2 (S (a.drop (n+1))) (fun t f y w c e d k=>by rw[e,d,k,L4];exact B (X6 rfl)) ?_
    refine X2 (.bool (M8 (a.drop (n+1)))) (fun t f w c e d=>by rw[e,d,L4];exact Pr _ p (X6 rfl)) ?_
    refine X2 (.bool (M8 (a.drop (n+1)))) (fun t f w c e d=>by rw[e,d,G8];exact X6 rfl) ?_
    rintro _ _ _ _ _ _ _ _ _ _ _ w1 c rfl rfl rfl rfl rfl rfl rfl rfl rfl rfl rfl
    rw[g] at h
    exact h w1 (by simpa using c)
  ·simp only[m,decide_false,↓Mr,Mr,Mb,reduceIte]
   rw[G1 (by omega) (by omega)]
   refine ⟨⟨rfl,n+1,rfl,by omega,fun i A H=>?_⟩,?_⟩
   ·by_cases v:i=n
    ·subst v;exact m
    ·exact u i (by omega) H
   ·simp only[X0R];omega
 ·have s:decide ((n:Int)<a.length)=false:=by simp only[decide_eq_false_iff_not];omega
  simp only[s,↓Mr,Mr,Mb,reduceIte]
  have l:(G2 a).2.2=false∧(G2 a).1=a∧(G2 a).2.1=[]:=by
   have:a.findIdx? (fun b=>decide (b=46))=none:=by
    rw[List.findIdx?_eq_none_iff]
    intro x E
    obtain ⟨i,A,rfl⟩:=List.getElem_of_mem E
    simpa using u i (by omega) A
   rw[Gz,this];exact ⟨rfl,rfl,rfl⟩
  rw[l.1] at h
  exact h w (Below.refl _ _))
end Go.Proofs.YtfppjenblllfaaaGreatDoor

namespace Go.Emb
open Go.RowKit
class TZ (P : Program) (t : TypeId) (sz b : outParam Nat) (z : outParam Value) : Prop where
  h : (P.info? t).map (fun i => (i.size, i.bytes, i.zero)) = some (sz, b, some z)
def X0x:Option TypeDesc→Bool
 | some (.struct _)=>true
 | some (.array _ _)=>true
 | none=>true
 | _=>false
class TG (P : Program) (t : TypeId) (g : outParam Bool) : Prop where
  h : (X0x (P.underlying t), (P.underlying t).isSome) = (g, true)
class TS (P : Program) (t : TypeId) (e : outParam TypeId) : Prop where
  h : P.underlying t = some (.slice e)
class TA (P : Program) (t : TypeId) (n : outParam Nat) (e : outParam TypeId) : Prop where
  h : P.underlying t = some (.array n e)
class TM (P : Program) (t : TypeId) (k e : outParam TypeId) : Prop where
  h : P.underlying t = some (.map k e)
def Q3R (d:Option TypeDesc) (k:Nat):Option (Nat×TypeId):=match d with
 | some (.struct a)=>(a[k]?).map fun f=>(f.offset,f.type)
 | _=>none
class TF (P : Program) (t : TypeId) (k : Nat) (off : outParam Nat) (ft : outParam TypeId) : Prop where
  h : Q3R (P.underlying t) k = some (off, ft)
variable {P : Program} {w w0 w1 w' w'' : World} {K : Value → World → Prop}
theorem TZ.info {t:TypeId} {sz b:Nat} {z:Value} (h:TZ P t sz b z): ∃i,P.info? t=some i∧i.size=sz∧i.bytes=b∧i.zero=some z:=by
 obtain ⟨i,a,e⟩:=Option.map_eq_some_iff.1 h.h
 simp only[Prod.mk.injEq] at e
 exact ⟨i,a,e.1,e.2.1,e.2.2⟩
theorem W5 {t:TypeId} {sz b:Nat} {z:Value} (h:TZ P t sz b z) (w:World):(sizeOf t).run P w= .ok sz w:=by
 obtain ⟨i,a,rfl,_⟩:=h.info
 simp[sizeOf,typeInfo,a]
theorem Qm {t:TypeId} {sz b:Nat} {z:Value} (h:TZ P t sz b z) (w:World):(zeroValue t).run P w= .ok z w:=by
 obtain ⟨i,c,_,_,a⟩:=h.info
 simp[zeroValue,typeInfo,c,a]
theorem Jd {t:TypeId} {g:Bool} (h:TG P t g) (w:World):(isAgg t).run P w= .ok g w:=by
 have hh:=h.h
 simp only[Prod.mk.injEq] at hh
 obtain ⟨c,b⟩:=hh
 cases a:P.underlying t with
 | none=>rw[a] at b;cases b
 | some d=>
  rw[a] at c
  have:=run_underlying (P:=P) (w:=w) a
  simp only[isAgg,Sem.run_bind,this,Result.andThen_ok]
  cases d<;>simp_all [X0x]
theorem Yt (a:Addr) (i j:Nat):(a.add i).add j=a.add (i+j):=by
 unfold Addr.add
 by_cases c:i=0
 ·simp[c]
 ·by_cases b:j=0
  ·simp[b]
  ·simp[c,b,Nat.add_assoc]
theorem add_zero (a:Addr):a.add 0=a:=by simp[Addr.add]
theorem R9 (a:Addr) (i:Nat):(a.add i).block=a.block:=by unfold Addr.add;split<;>rfl
theorem Xj (a:Addr) (i:Nat):(a.add i).off=a.off+i:=by unfold Addr.add;split<;>simp_all
theorem I9 {a:Addr} (h:a.spot=none) (i:Nat):(a.add i).spot=none:=by unfold Addr.add;split<;>simp_all
abbrev Q4:=Nat→Option Obj
def X4 (w:World) (σ:Q4):Prop:= ∀b o,σ b=some o→w.heap[b]? =some o
structure Stp (w : World) (σ : Q4) (w' : World) (σ' : Q4) : Prop where
  bel : Below w.heap.size w w'
  sat : X4 w' σ'
  le : ∀ b o, σ b = some o → σ' b = some o
  old : ∀ b, b < w.heap.size → σ' b = σ b
theorem X4.lt {σ:Q4} (h:X4 w σ) {b:Nat} {o:Obj} (a:σ b=some o):b<w.heap.size:=(Array.getElem?_eq_some_iff.1 (h b o a)).1
theorem X4.below {σ:Q4} (h:X4 w σ) (a:Below w.heap.size w w'):X4 w' σ:=fun b o e=>(a.block b (h.lt e)).trans (h b o e)
theorem Stp.refl {σ:Q4} (h:X4 w σ):Stp w σ w σ:=⟨Below.refl _ _,h,fun _ _ e=>e,fun _ _=>rfl⟩
theorem Stp.trans {σ0 σ1 c:Q4} (h:Stp w σ0 w' σ1) (k:Stp w' σ1 w'' c):Stp w σ0 w'' c:=
 ⟨h.bel.trans (k.bel.mono h.bel.size),k.sat,fun b o e=>k.le b o (h.le b o e),fun b a=>(k.old b (Nat.lt_of_lt_of_le a h.bel.size)).trans (h.old b a)⟩
theorem Stp.of_below {σ:Q4} (h:X4 w σ) (a:Below w.heap.size w w'):Stp w σ w' σ:=⟨a,h.below a,fun _ _ e=>e,fun _ _=>rfl⟩
def Q4.put (σ:Q4) (b:Nat) (o:Obj):Q4:=fun k=>if k=b then some o else σ k
theorem X4.none {σ:Q4} (h:X4 w σ) {b:Nat} (a:w.heap.size≤b):σ b=none:=by
 cases e:σ b with
 | none=>rfl
 | some o=>have:=h.lt e;omega
theorem Stp.alloc {σ:Q4} (h:X4 w σ) (o:Obj):Stp w σ (w.alloc o) (σ.put w.heap.size o):=by
 refine ⟨(Below.refl _ _).alloc (Nat.le_refl _) o,?_,?_,?_⟩
 ·intro b p e
  by_cases a:b=w.heap.size
  ·subst a
   simp only[Q4.put,if_true] at e
   cases e
   exact heap_alloc_new w o
  ·simp only[Q4.put,if_neg a] at e
   rw[Below.heap_alloc w o b (h.lt e)];exact h b p e
 ·intro b p e
  have:=h.lt e
  simp only[Q4.put];rw[if_neg (by omega)];exact e
 ·intro b a
  simp only[Q4.put];rw[if_neg (by omega)]
theorem Stp.own {σ:Q4} (h:X4 w σ) (o:Obj):Stp w σ (w.alloc o) σ:=Stp.of_below h ((Below.refl _ _).alloc (Nat.le_refl _) o)
def Z2 (σ:Q4) (a:Addr) (cs:List Value):Prop:=a.spot=none∧ ∃L6 e b,σ a.block=some (.cells L6 e b)∧ ∀i v,cs[i]? =some v→L6[a.off+i]? =some v
theorem Z2.up {σ σ':Q4} {a:Addr} {cs:List Value} (h:Z2 σ a cs) (c:Stp w σ w' σ'):Z2 σ' a cs:=by
 obtain ⟨f,L6,e,d,g,b⟩:=h
 exact ⟨f,L6,e,d,c.le _ _ g,b⟩
theorem Z2.cell {σ:Q4} {a:Addr} {cs:List Value} (h:Z2 σ a cs) (d:X4 w σ) {i:Nat} {v:Value} (b:cs[i]? =some v):w.cell? (a.add i)=some v:=by
 obtain ⟨f,L6,e,j,g,c⟩:=h
 have:=d _ _ g
 unfold World.cell?
 rw[R9,this,Xj,I9 f]
 exact c i v b
def Z7 (σ:Q4) (w:World) (b:Nat) (cs:List Value):Prop:=σ b=none∧ ∃e,w.heap[b]? =some (.cells cs.toArray e (0,0))
theorem Z7.lt {σ:Q4} {b:Nat} {cs:List Value} (h:Z7 σ w b cs):b<w.heap.size:=by
 obtain ⟨_,e,h⟩:=h
 exact (Array.getElem?_eq_some_iff.1 h).1
theorem Z7.up {σ σ':Q4} {b:Nat} {cs:List Value} (h:Z7 σ w b cs) (a:Stp w σ w' σ'):Z7 σ' w' b cs:=by
 have c:=h.lt
 obtain ⟨d,e,f⟩:=h
 exact ⟨(a.old b c).trans d,e,(a.bel.block b c).trans f⟩
theorem Z7.cell {σ:Q4} {b:Nat} {cs:List Value} (h:Z7 σ w b cs) {i:Nat} {v:Value} (a:cs[i]? =some v):w.cell? ((⟨b,0,none⟩:Addr).add i)=some v:=by
 obtain ⟨_,e,c⟩:=h
 unfold World.cell?
 rw[R9,Xj,I9 rfl]
 simp only[c]
 simpa using a
theorem Z7.keep {σ σ0:Q4} {b:Nat} {cs:List Value} (h:Z7 σ w b cs) (d:Stp w0 σ0 w σ) (m:w0.heap.size≤b): ∃σ',Stp w0 σ0 w σ'∧Z2 σ' ⟨b,0,none⟩ cs∧(∀k o,σ k=some o→σ' k=some o)∧(∀k,k≠b→σ' k=σ k):=by
 obtain ⟨g,e,l⟩:=h
 refine ⟨σ.put b (.cells cs.toArray e (0,0)),⟨d.bel,?_,?_,?_⟩,⟨rfl,cs.toArray,e,(0,0),by simp[Q4.put],?_⟩,?_,?_⟩
 ·intro k o c
  by_cases a:k=b
  ·subst a;simp only[Q4.put,if_true] at c;cases c;exact l
  ·simp only[Q4.put,if_neg a] at c;exact d.sat k o c
 ·intro k o c
  by_cases a:k=b
  ·subst a;have:=d.le _ _ c;rw[g] at this;cases this
  ·simp only[Q4.put,if_neg a];exact d.le _ _ c
 ·intro k f
  simp only[Q4.put];rw[if_neg (by omega)];exact d.old k f
 ·intro i v j;simpa using j
 ·intro k o c
  by_cases a:k=b
  ·subst a;rw[g] at c;cases c
  ·simp only[Q4.put,if_neg a];exact c
 ·intro k a;simp only[Q4.put,if_neg a]
theorem Q8c (t:TypeId) (v:Value) (w:World):(Instr.box t v).run P w= .ok (.pointer (some ⟨w.heap.size,0,none⟩)) (w.alloc (.cells v.cells t)):=by
 simp[Instr.box,newVar,newRow]
theorem Q3v {σ:Q4} (a:X4 w σ) (cs:Array Value) (t:TypeId):Z7 σ (w.alloc (.cells cs t)) w.heap.size cs.toList:=
 ⟨a.none (Nat.le_refl _),t,by simpa using heap_alloc_new w (.cells cs t)⟩
theorem Q9w {σ:Q4} (cs:Array Value) (t:TypeId):Z2 (σ.put w.heap.size (.cells cs t)) ⟨w.heap.size,0,none⟩ cs.toList:=
 ⟨rfl,cs,t,(0,0),by simp[Q4.put],fun i v h=>by simpa using h⟩
theorem O3 {σ:Q4} {t:TypeId} {v:Value} (b:X4 w σ) (h: ∀a w' σ',Stp w σ w' σ'→Z2 σ' a v.cells.toList→K (.pointer (some a)) w'):box P t v w K:=by
 unfold box;rw[Y2 (Q8c t v w)]
 exact h _ _ _ (Stp.alloc b _) (Q9w _ t)
theorem X1M {σ:Q4} {t:TypeId} {v:Value} (a:X4 w σ) (h: ∀b w',w.heap.size≤b→Stp w σ w' σ→Z7 σ w' b v.cells.toList→K (.pointer (some ⟨b,0,none⟩)) w'):box P t v w K:=by
 unfold box;rw[Y2 (Q8c t v w)]
 exact h _ _ (Nat.le_refl _) (Stp.own a _) (Q3v a _ t)
theorem Sg {σ:Q4} {t:TypeId} {sz by_:Nat} {z:Value} [tz:TZ P t sz by_ z] (a:X4 w σ) (h: ∀b w',w.heap.size≤b→Stp w σ w' σ→Z7 σ w' b z.cells.toList→K (.pointer (some ⟨b,0,none⟩)) w'):W6 P t w K:=by
 unfold W6
 have:(Instr.alloc t true (.tuple #[])).run P w= .ok (.pointer (some ⟨w.heap.size,0,none⟩)) (w.alloc (.cells z.cells t)):=by
  simp[Instr.alloc,Qm tz,newVar,newRow]
 rw[Y2 this]
 exact h _ _ (Nat.le_refl _) (Stp.own a _) (Q3v a _ t)
theorem T2 {t:TypeId} [tg:TG P t false] {a:Addr} {v:Value} (b:w.cell? a=some v) (h:K v w):Q2 P t (.pointer (some a)) w K:=by
 unfold Q2
 rw[Y2 (v:=v) (w':=w) (by simp[Instr.loadAt,Instr.sureAddr,loadVar,Jd tg,b])]
 exact h
theorem Sd {t:TypeId} {sz by_:Nat} {z:Value} [tg:TG P t true] [tz:TZ P t sz by_ z] {a:Addr} {cs:List Value} (b:cs.length=sz) (c: ∀j v,cs[j]? =some v→w.cell? (a.add j)=some v) (h:K (.agg cs.toArray) w):Q2 P t (.pointer (some a)) w K:=by
 unfold Q2
 have:=run_loadCells_list (P:=P) w a cs c
 rw[b] at this
 rw[Y2 (v:= .agg cs.toArray) (w':=w) (by simp[Instr.loadAt,Instr.sureAddr,loadVar,Jd tg,W5 tz,this])]
 exact h
theorem ld {σ:Q4} {t:TypeId} [TG P t false] {a:Addr} {cs:List Value} {i:Nat} {v:Value} (d:X4 w σ) (c:Z2 σ a cs) (b:cs[i]? =some v) (h:K v w):Q2 P t (.pointer (some (a.add i))) w K:=
 T2 (c.cell d b) h
theorem Y0 {σ:Q4} {t:TypeId} [TG P t false] {a:Addr} {cs:List Value} {v:Value} (d:X4 w σ) (c:Z2 σ a cs) (b:cs[0]? =some v) (h:K v w):Q2 P t (.pointer (some a)) w K:=by
 have:=ld (P:=P) (t:=t) d c b h
 rwa [add_zero] at this
theorem Z1 {σ:Q4} {t:TypeId} {sz by_:Nat} {z:Value} [TG P t true] [TZ P t sz by_ z] {a:Addr} {cs:List Value} (f:X4 w σ) (c:Z2 σ a cs) (d:cs.length=sz) (h:K (.agg cs.toArray) w):Q2 P t (.pointer (some a)) w K:=
 Sd d (fun _ _ b=>c.cell f b) h
theorem B6 {σ:Q4} {t:TypeId} [TG P t false] {b:Nat} {cs:List Value} {i:Nat} {v:Value} (c:Z7 σ w b cs) (a:cs[i]? =some v) (h:K v w):Q2 P t (.pointer (some ((⟨b,0,none⟩:Addr).add i))) w K:=
 T2 (c.cell a) h
theorem X1N {σ:Q4} {t:TypeId} [TG P t false] {b:Nat} {cs:List Value} {v:Value} (c:Z7 σ w b cs) (a:cs[0]? =some v) (h:K v w):Q2 P t (.pointer (some ⟨b,0,none⟩)) w K:=by
 have:=B6 (P:=P) (t:=t) c a h
 rwa [add_zero] at this
theorem Q8Q {σ:Q4} {t:TypeId} {sz by_:Nat} {z:Value} [TG P t true] [TZ P t sz by_ z] {b:Nat} {cs:List Value} (c:Z7 σ w b cs) (d:cs.length=sz) (h:K (.agg cs.toArray) w):Q2 P t (.pointer (some ⟨b,0,none⟩)) w K:=
 Sd d (fun _ _ a=>c.cell a) h
theorem W7 {t:TypeId} {sz by_:Nat} {z:Value} [tg:TG P t true] [tz:TZ P t sz by_ z] {σ:Q4} {b:Nat} {cs:List Value} {K:Value→Prop} (c:Z7 σ w b cs) (d:cs.length=sz) (h:K (.agg cs.toArray)):W3 P t (.pointer (some ⟨b,0,none⟩)) w K:=by
 rw[Q3i]
 refine ⟨_,?_,h⟩
 have:=run_loadCells_list (P:=P) w ⟨b,0,none⟩ cs (fun _ _ a=>c.cell a)
 rw[d] at this
 simp[asAddr,loadVar,Jd tg,W5 tz,this]
structure Upd (w : World) (b : Nat) (w' : World) : Prop where
  os : w'.os = w.os
  tape : w'.tape = w.tape
  output : w'.output = w.output
  size : w'.heap.size = w.heap.size
  block : ∀ k, k ≠ b → w'.heap[k]? = w.heap[k]?
theorem Upd.stp {σ0 σ:Q4} {b:Nat} (c:Upd w b w') (a:Stp w0 σ0 w σ) (h:w0.heap.size≤b) (g:σ b=none):Stp w0 σ0 w' σ:=by
 refine ⟨⟨c.os.trans a.bel.os,c.tape.trans a.bel.tape,c.output.trans a.bel.output,by rw[c.size];exact a.bel.size,fun k f=>(c.block k (by omega)).trans (a.bel.block k f)⟩,?_,a.le,a.old⟩
 intro k o d
 rw[c.block k (by intro e;subst e;rw[g] at d;cases d)]
 exact a.sat k o d
theorem Z7.upd {σ:Q4} {b k:Nat} {cs:List Value} (h:Z7 σ w k cs) (c:Upd w b w') (a:k≠b):Z7 σ w' k cs:=by
 obtain ⟨d,e,f⟩:=h
 exact ⟨d,e,(c.block k a).trans f⟩
theorem Xz {b:Nat} {cs:Array Value} {a:Array Value} {e:TypeId} (h:w.heap[b]? =some (.cells a e (0,0))):Upd w b (w.setRow b cs)∧(w.setRow b cs).heap[b]? =some (.cells cs e (0,0)):=by
 have d:=(Array.getElem?_eq_some_iff.1 h).1
 refine ⟨⟨rfl,rfl,rfl,by simp[World.setRow],fun k c=>?_⟩,?_⟩
 ·simp only[World.setRow,Array.getElem?_modify]
  rw[if_neg (by omega)]
 ·simp only[World.setRow,Array.getElem?_modify,if_true,h]
  rfl
theorem sta {t:TypeId} {sz by_:Nat} {z:Value} [tz:TZ P t sz by_ z] {σ:Q4} {b:Nat} {cs ds:List Value} (g:Z7 σ w b cs) (j:cs.length=sz) (c:ds.length=sz) (m:ds.toArray.all (·.oneCell')=true)
 (h: ∀w',Upd w b w'→Z7 σ w' b ds→K undef w'):Z4 P t (.pointer (some ⟨b,0,none⟩)) (.agg ds.toArray) w K:=by
 obtain ⟨l,e,d⟩:=g
 unfold Z4
 obtain ⟨i,k,a,_⟩:=tz.info
 have:=run_storeVar_row (P:=P) w b e t cs.toArray ds.toArray d (by simp[k,a,c]) (by simp[j,c]) m
 rw[Wg (w':=w.setRow b ds.toArray) (by simpa [Instr.storeAt,Instr.sureAddr] using this)]
 obtain ⟨f,hh⟩:=Xz (cs:=ds.toArray) d
 exact h _ f ⟨l,e,hh⟩
theorem Q8D {cs:List Value} {i:Nat} {v:Value} (a:i<cs.length):(cs.take i++[v]++cs.drop (i+1))=cs.set i v:=by
 rw[List.set_eq_take_append_cons_drop,if_pos a];simp
theorem Nz {t:TypeId} {by_:Nat} {z:Value} [tz:TZ P t 1 by_ z] {σ:Q4} {b i:Nat} {cs:List Value} {v:Value} (g:Z7 σ w b cs) (k:i<cs.length) (j:v.cells= #[v]) (m:v.oneCell'=true)
 (h: ∀w',Upd w b w'→Z7 σ w' b (cs.set i v)→K undef w'):Z4 P t (.pointer (some ((⟨b,0,none⟩:Addr).add i))) v w K:=by
 obtain ⟨l,e,c⟩:=g
 unfold Z4
 have a:(⟨b,0,none⟩:Addr).add i=⟨b,i,none⟩:=by unfold Addr.add;split<;>simp_all
 have:=run_storeCells_at P b i e [v] 0 cs.toArray w c (by simp;omega) (by simpa using m)
 simp only[Nat.add_zero] at this
 obtain ⟨f,hh⟩:=Xz (cs:=(cs.set i v).toArray) c
 have d:(List.take i cs.toArray.toList++[v]++List.drop (i+[v].length) cs.toArray.toList).toArray=(cs.set i v).toArray:=by
  rw[←Q8D k];simp
 rw[d] at this
 rw[Wg (w':=w.setRow b (cs.set i v).toArray) (by simp[Instr.storeAt,Instr.sureAddr,a,storeVar,W5 tz,j,this])]
 exact h _ f ⟨l,e,hh⟩
theorem st0 {t:TypeId} {by_:Nat} {z:Value} [tz:TZ P t 1 by_ z] {σ:Q4} {b:Nat} {cs:List Value} {v:Value} (a:Z7 σ w b cs) (d:0<cs.length) (c:v.cells= #[v]) (f:v.oneCell'=true)
 (h: ∀w',Upd w b w'→Z7 σ w' b (cs.set 0 v)→K undef w'):Z4 P t (.pointer (some ⟨b,0,none⟩)) v w K:=by
 have:=Nz (P:=P) (t:=t) a d c f h
 rwa [add_zero] at this
class NZ (n : Nat) : Prop where
  h : (n == 0) = false
instance (n:Nat):NZ (n+1):=⟨rfl⟩
theorem fa {t:TypeId} {k b:Nat} {c:TypeId} {sz by_:Nat} {z:Value} [tf:TF P t k b c] [tz:TZ P c sz by_ z] [nz:NZ sz] {a:Addr}:fieldAddr P t (.pointer (some a)) k w K=K (.pointer (some (a.add b))) w:=by
 unfold fieldAddr
 have hh:=tf.h
 unfold Q3R at hh
 split at hh
 ·rename_i n g
  obtain ⟨f,i,d⟩:=Option.map_eq_some_iff.1 hh
  simp only[Prod.mk.injEq] at d
  obtain ⟨l,m⟩:=d
  subst m l
  have j: ¬sz=0:=by simpa using nz.h
  exact Y2 (by simp[Instr.fieldAt,run_underlying g,i,Instr.sureAddr,fieldPlace,W5 tz,j])
 ·cases hh
theorem Rz {t e:TypeId} {sz by_:Nat} {z:Value} [ts:TS P t e] [tz:TZ P e sz by_ z] {a:Addr} {n b:Nat} {k:IntKind} {i:Int} (c:0≤i) (d:i<n):indexAddr P t (.slice (some a) n b) (.int k i) w K=K (.pointer (some (a.add (i.toNat*sz)))) w:=by
 unfold indexAddr
 exact Y2 (by simp[Instr.indexAt,run_underlying ts.h,asIntOf,W5 tz,c,d])
theorem X11 {t e:TypeId} {n sz by_:Nat} {z:Value} [ta:TA P t n e] [tz:TZ P e sz by_ z] {a:Addr} {k:IntKind} {i:Int} (b:0≤i) (c:i<n):indexAddr P t (.pointer (some a)) (.int k i) w K=K (.pointer (some (a.add (i.toNat*sz)))) w:=by
 unfold indexAddr
 exact Y2 (by simp[Instr.indexAt,run_underlying ta.h,asIntOf,Instr.sureAddr,W5 tz,b,c])
theorem H7 {a:Addr}:nilCheck P (.pointer (some a)) w K=K (.pointer (some a)) w:=by
 unfold nilCheck
 rw[Qj];unfold P7
 simp[execOp]
class Rep {α : Type} (R : Q4 → α → List Value → Prop) : Prop where
  up : ∀ {σ σ' : Q4} {x : α} {cs : List Value}, (∀ b o, σ b = some o → σ' b = some o) → R σ x cs → R σ' x cs
  one : ∀ {σ : Q4} {x : α} {cs : List Value}, R σ x cs → ∀ u ∈ cs, u.oneCell' = true
def Sl {α:Type} (sz:Nat) (R:Q4→α→List Value→Prop) (σ:Q4) (v:Value) (xs:List α):Prop:=
 ∃a c,v= .slice a xs.length c∧xs.length≤c∧c≤maxLen∧(a=none→c=0)∧
  ∀b,a=some b→(0<xs.length→b.spot=none)∧ ∀i x,xs[i]? =some x→ ∃cs,Z2 σ (b.add (i*sz)) cs∧cs.length=sz∧R σ x cs
theorem Z2.le {σ σ':Q4} {a:Addr} {cs:List Value} (h:Z2 σ a cs) (d: ∀b o,σ b=some o→σ' b=some o):Z2 σ' a cs:=by
 obtain ⟨g,L6,e,f,i,c⟩:=h
 exact ⟨g,L6,e,f,d _ _ i,c⟩
section
variable {α : Type} {R : Q4 → α → List Value → Prop} {sz : Nat} {σ σ' : Q4} {v : Value} {xs : List α}
theorem Sl.le [hr:Rep R] (h:Sl sz R σ v xs) (g: ∀b o,σ b=some o→σ' b=some o):Sl sz R σ' v xs:=by
 obtain ⟨a,c,n,r,q,j,d⟩:=h
 refine ⟨a,c,n,r,q,j,fun b f=>⟨(d b f).1,fun i x m=>?_⟩⟩
 obtain ⟨cs,p,k,l⟩:=(d b f).2 i x m
 exact ⟨cs,p.le g,k,hr.up g l⟩
theorem Sl.up [Rep R] (h:Sl sz R σ v xs) (a:Stp w σ w' σ'):Sl sz R σ' v xs:=h.le a.le
theorem Sl.max (h:Sl sz R σ v xs):xs.length≤9223372036854775807:=by
 obtain ⟨a,c,f,g,b,d⟩:=h
 simp only[maxLen] at b;omega
theorem Sl.nil:Sl sz R σ (.slice none 0 0) ([]:List α):=⟨none,0,rfl,by simp,by simp,fun _=>rfl,fun b a=>by cases a⟩
theorem Q7X {c e t:TypeId} {cs:List Bool} [ts:TS P c e] {a:Option Addr} {n b:Nat}:X5 P .len [c] t cs [.slice a n b] w K=K (I n) w:=by
 have h:(Builtin.len_ #[c] t #[.slice a n b]).run P w= .ok (I n) w:=by
  simp[Builtin.len_,run_underlying ts.h,goInt]
 exact Y2 h
theorem X4b {b e t:TypeId} {cs:List Bool} [ts:TS P b e] (h:Sl sz R σ v xs):X5 P .len [b] t cs [v] w K=K (I xs.length) w:=by
 obtain ⟨a,c,rfl,_⟩:=h
 exact Q7X
theorem X4X {t e:TypeId} {by_:Nat} {z:Value} [TS P t e] [TZ P e sz by_ z] (h:Sl sz R σ v xs) {k:IntKind} {i:Int} (d:0≤i) (l:i.toNat<xs.length)
 (n: ∀a cs,Z2 σ a cs→cs.length=sz→R σ xs[i.toNat] cs→K (.pointer (some a)) w):indexAddr P t v (.int k i) w K:=by
 obtain ⟨a,o,rfl,q,p,c,f⟩:=h
 cases a with
 | none=>have:=c rfl;omega
 | some b=>
  rw[Rz d (by omega)]
  obtain ⟨cs,m,g,j⟩:=(f b rfl).2 i.toNat xs[i.toNat] (by simp[l])
  exact n _ cs m g j
end
theorem Stp.turn {σ0 σ:Q4} {row:Option Nat} (b:w.grownBy w' row) (a:Stp w0 σ0 w σ) (f: ∀k,row=some k→w0.heap.size≤k∧σ k=none):Stp w0 σ0 w' σ:=by
 refine ⟨⟨b.os.trans a.bel.os,b.tape.trans a.bel.tape,b.output.trans a.bel.output,Nat.le_trans a.bel.size b.size,fun k d=>?_⟩,?_,a.le,a.old⟩
 ·refine (b.block k (Nat.lt_of_lt_of_le d a.bel.size) ?_).trans (a.bel.block k d)
  intro e;have:=(f k e.symm).1;omega
 ·intro k o c
  refine (b.block k (a.sat.lt c) ?_).trans (a.sat k o c)
  intro e;rw[(f k e.symm).2] at c;cases c
def J1 {α:Type} (B:Nat) (e:TypeId) (sz:Nat) (R:Q4→α→List Value→Prop) (σ:Q4) (w:World) (v:Value) (xs:List α):Prop:=
 ∃cells,w.ownsRow B e sz v xs.length cells∧(∀k,v.ownBlock=some k→σ k=none)∧ ∀i x,xs[i]? =some x→R σ x ((cells.drop (i*sz)).take sz)
section
variable {α : Type} {R : Q4 → α → List Value → Prop} {B sz : Nat} {e : TypeId} {σ σ' : Q4} {v u : Value} {xs ys : List α}
theorem J1.nil:J1 B e sz R σ w (.slice none 0 0) ([]:List α):=⟨[],World.ownsRow_nil w B e sz,by intro k a;simp[Value.ownBlock] at a,by intro i x h;simp at h⟩
theorem J1.mem (h:J1 B e sz R σ w v xs): ∀k,v.ownBlock=some k→B≤k∧k<w.heap.size∧σ k=none:=by
 obtain ⟨cells,d,f,_⟩:=h
 intro k c
 obtain ⟨a,b⟩:=d.lt k c
 exact ⟨a,b,f k c⟩
theorem J1.up [hr:Rep R] (h:J1 B e sz R σ w v xs) (a:Stp w σ w' σ'):J1 B e sz R σ' w' v xs:=by
 obtain ⟨cells,c,j,d⟩:=h
 refine ⟨cells,c.kept ⟨a.bel.os,a.bel.tape,a.bel.output,a.bel.size,fun k f _=>a.bel.block k f⟩ (by cases b:v.ownBlock<;>simp) (row:=none),?_,fun i x g=>hr.up a.le (d i x g)⟩
 intro k b
 rw[a.old k (c.lt k b).2];exact j k b
theorem Sl.cells (h:Sl sz R σ v xs) (D:X4 w σ) [hr:Rep R]: ∃(a:Option Addr) (d:Nat) (c:List Value),v= .slice a xs.length d∧(a=none→d=0)∧c.length=xs.length*sz∧(∀b,a=some b→ ∀j u,c[j]? =some u→w.cell? (b.add j)=some u)∧(∀u∈c,u.oneCell'=true)∧
 ∀i x,xs[i]? =some x→R σ x ((c.drop (i*sz)).take sz):=by
 obtain ⟨a,d,rfl,Q,O,m,s⟩:=h
 cases a with
 | none=>
  have L:=m rfl
  have f:xs=[]:=List.eq_nil_of_length_eq_zero (by omega)
  subst f
  exact ⟨none,d,[],rfl,m,by simp,fun b E=>(by cases E),by simp,by simp⟩
 | some b=>
  obtain ⟨J,q⟩:=s b rfl
  clear s
  have key: ∀(ys:List α) (k:Nat),(∀i x,ys[i]? =some x→ ∃cs,Z2 σ (b.add ((k+i)*sz)) cs∧cs.length=sz∧R σ x cs)→
   ∃c:List Value,c.length=ys.length*sz∧(∀j u,c[j]? =some u→w.cell? (b.add (k*sz+j))=some u)∧(∀u∈c,u.oneCell'=true)∧ ∀i x,ys[i]? =some x→R σ x ((c.drop (i*sz)).take sz):=by
   intro ys
   induction ys with
   | nil=>intro k _;exact ⟨[],by simp,by simp,by simp,by simp⟩
   | cons y r C=>
    intro k A
    obtain ⟨cs,H,t,z⟩:=A 0 y rfl
    obtain ⟨c,g,n,p,l⟩:=C (k+1) (fun i x f=>by
     have:=A (i+1) x (by simpa using f)
     rwa [show k+1+i=k+(i+1) by omega])
    refine ⟨cs++c,by simp[g,t,Nat.add_mul,Nat.add_comm],?_,?_,?_⟩
    ·intro j u hu
     by_cases N:j<sz
     ·rw[List.getElem?_append_left (by omega)] at hu
      have:=H.cell D hu
      rwa [Yt,Nat.add_zero] at this
     ·rw[List.getElem?_append_right (by omega)] at hu
      have:=n _ _ hu
      rwa [t,show (k+1)*sz+(j-sz)=k*sz+j by rw[Nat.add_mul];omega] at this
    ·intro u hu
     rcases List.mem_append.1 hu with hu | hu
     ·exact hr.one z u hu
     ·exact p u hu
    ·intro i x f
     cases i with
     | zero=>
      simp at f;subst f
      simp only[Nat.zero_mul,List.drop_zero]
      rw[List.take_append_of_le_length (by omega),List.take_of_length_le (by omega)];exact z
     | succ i=>
      have:=l i x (by simpa using f)
      rw[show (i+1)*sz=cs.length+i*sz by rw[Nat.add_mul];omega,List.drop_append]
      simpa [List.drop_eq_nil_of_le] using this
  obtain ⟨c,g,n,p,l⟩:=key xs 0 (fun i x f=>by rw[Nat.zero_add];exact q i x f)
  refine ⟨some b,d,c,rfl,m,g,?_,p,l⟩
  intro M o j u hu
  cases o
  have:=n j u hu
  rwa [Nat.zero_mul,Nat.zero_add] at this
end
section
variable {α : Type} {R : Q4 → α → List Value → Prop} {sz : Nat} {e : TypeId} {σ σ0 : Q4} {v u : Value} {xs ys : List α}
theorem Vx (cells a:List Value) (n i:Nat) (c:cells.length=n*sz) (b:i<n):((cells++a).drop (i*sz)).take sz=(cells.drop (i*sz)).take sz:=by
 have h:i*sz+sz≤n*sz:=by rw[←Nat.succ_mul];exact Nat.mul_le_mul_right _ b
 rw[List.drop_append_of_le_length (by omega),List.take_append_of_le_length (by simp only[List.length_drop];omega)]
theorem app {t ty:TypeId} {by_:Nat} {z:Value} {cs:List Bool} [ts:TS P t e] [tz:TZ P e sz by_ z] [hr:Rep R] (A:Stp w0 σ0 w σ) (ha:J1 w0.heap.size e sz R σ w v xs) (N:Sl sz R σ u ys) (C:(z.cells.size==sz&&decide (0<sz))=true)
 (hb:(xs.length+ys.length)*by_≤140737488355328) (hm:xs.length+ys.length≤9223372036854775807)
 (h: ∀f w',w.grownBy w' v.ownBlock→Stp w0 σ0 w' σ→J1 w0.heap.size e sz R σ w' f (xs++ys)→(f.ownBlock=v.ownBlock∨ ∀k,f.ownBlock=some k→w.heap.size≤k)→K f w'):X5 P .append [t,t] ty cs [v,u] w K:=by
 obtain ⟨cells,r,V,h3⟩:=ha
 obtain ⟨a,l,c,rfl,M,O,n3,W,Y⟩:=N.cells A.sat
 obtain ⟨i,E,D,L,p⟩:=tz.info
 have o: ∀f w',(Builtin.append_ #[t,t] ty #[v, .slice a ys.length l]).run P w= .ok f w'→w'.ownsRow w0.heap.size e sz f (xs.length+ys.length) (cells++c)→w.grownBy w' v.ownBlock→(f.ownBlock=v.ownBlock∨f.ownBlock=some w.heap.size)→X5 P .append [t,t] ty cs [v, .slice a ys.length l] w K:=by
  intro f w' s d m hat
  have q:(builtin .append #[t,t] ty cs.toArray #[v, .slice a ys.length l]).run P w= .ok (.value f) w':=by
   simp[builtin,s]
  unfold X5
  rw[Qj];unfold P7
  rw[q]
  refine h f w' m (Stp.turn m A fun k n=>⟨(r.lt k n).1,V k n⟩) ⟨cells++c,by rw[List.length_append];exact d,?_,?_⟩ ?_
  ·intro k n
   rcases hat with hat | hat
   ·exact V k (hat▸n)
   ·rw[hat] at n;cases n;exact A.sat.none (Nat.le_refl _)
  ·intro j x y
   by_cases Q:j<xs.length
   ·rw[List.getElem?_append_left Q] at y
    rw[Vx cells c xs.length j r.1 Q]
    exact h3 j x y
   ·rw[List.getElem?_append_right (by omega)] at y
    have:=Y _ _ y
    rw[show j*sz=cells.length+(j-xs.length)*sz by rw[r.1,←Nat.add_mul];congr 1;omega,List.drop_append]
    simpa [List.drop_eq_nil_of_le] using this
  ·rcases hat with hat | hat
   ·exact .inl hat
   ·right;intro k n;rw[hat] at n;cases n;exact Nat.le_refl _
 simp only[Bool.and_eq_true,beq_iff_eq,decide_eq_true_eq] at C
 cases a with
 | some b=>
  obtain ⟨f,w',g1,g2,g3,_,X⟩:=run_append_own_at (P:=P) w w0.heap.size t ty e i z sz by_ ts.h E p D L C.1 C.2 v xs.length cells r b ys.length l c O (n3 b rfl) W (by simp only[maxLen];omega) hb A.bel.size
  exact o f w' g1 g2 g3 X
 | none=>
  have hy:ys=[]:=List.eq_nil_of_length_eq_zero (by obtain ⟨a',U,e',q1,_,q3,_⟩:=N;injection e' with _ e2 e3;have:=M rfl;subst e3;omega)
  have H:=M rfl
  subst hy H
  have Z:c=[]:=List.eq_nil_of_length_eq_zero (by simpa using O)
  subst Z
  have d:=r
  rcases r.2 with ⟨rfl,h0⟩ | ⟨g,l,aa,rfl,ah,hg,J,_⟩
  ·refine o (.slice none 0 0) w ?_ (by simpa using d) (World.grownBy.refl w _) (.inl rfl)
   simp[Builtin.append_,run_underlying ts.h,sizeOf,typeInfo,E,Builtin.lenOf,Builtin.firstCells]
  ·refine o _ w ?_ (by simpa using d) (World.grownBy.refl w _) (.inl rfl)
   simp[Builtin.append_,run_underlying ts.h,sizeOf,typeInfo,E,Builtin.lenOf,Builtin.firstCells,J,storeCells]
end
section
variable {α : Type} {R : Q4 → α → List Value → Prop} {sz : Nat} {e : TypeId} {σ σ0 : Q4} {v u : Value} {xs ys : List α}
theorem Q4.put_le {w:World} (d:X4 w σ) {b:Nat} (h:σ b=none) (o:Obj): ∀k p,σ k=some p→(σ.put b o) k=some p:=by
 intro k p c
 by_cases a:k=b
 ·subst a;rw[h] at c;cases c
 ·simp only[Q4.put,if_neg a];exact c
theorem Stp.put {b:Nat} {o:Obj} (c:Stp w0 σ0 w σ) (g:σ b=none) (h:w0.heap.size≤b) (f:w.heap[b]? =some o):Stp w0 σ0 w (σ.put b o):=by
 refine ⟨c.bel,?_,fun k p a=>Q4.put_le c.sat g o k p (c.le k p a),?_⟩
 ·intro k p a
  by_cases d:k=b
  ·subst d;simp only[Q4.put,if_true] at a;cases a;exact f
  ·simp only[Q4.put,if_neg d] at a;exact c.sat k p a
 ·intro k a
  simp only[Q4.put];rw[if_neg (by omega)];exact c.old k a
theorem J1.keep [hr:Rep R] (h:J1 w0.heap.size e sz R σ w v xs) (q:Stp w0 σ0 w σ): ∃σ',Stp w0 σ0 w σ'∧Sl sz R σ' v xs∧(∀k o,σ k=some o→σ' k=some o)∧(∀k,some k≠v.ownBlock→σ' k=σ k):=by
 obtain ⟨cells,t,J,D⟩:=h
 rcases t.2 with ⟨rfl,z⟩ | ⟨g,n,d,rfl,C,E,l,f,y,p⟩
 ·have:xs=[]:=List.eq_nil_of_length_eq_zero z
  subst this
  exact ⟨σ,q,Sl.nil,fun _ _ h=>h,fun _ _=>rfl⟩
 ·have s:=J g rfl
  have a:=Q4.put_le q.sat s (.cells d e (0,0))
  refine ⟨σ.put g (.cells d e (0,0)),q.put s C E,⟨_,n,rfl,l,f,by simp,?_⟩,a,?_⟩
  ·intro b m
   cases m
   refine ⟨fun _=>rfl,fun i x r=>⟨(cells.drop (i*sz)).take sz,⟨I9 rfl _,d,e,(0,0),by rw[R9];simp[Q4.put],?_⟩,?_,hr.up a (D i x r)⟩⟩
   ·intro j u c
    rw[Xj]
    rw[List.getElem?_take] at c
    split at c
    ·rw[List.getElem?_drop,←p,List.getElem?_take] at c
     split at c
     ·simpa using c
     ·cases c
    ·cases c
   ·have A:i<xs.length:=(List.getElem?_eq_some_iff.1 r).1
    have h:i*sz+sz≤xs.length*sz:=by rw[←Nat.succ_mul];exact Nat.mul_le_mul_right _ A
    rw[List.length_take,List.length_drop,t.1];omega
  ·intro k H
   have:k≠g:=by intro e;subst e;exact H rfl
   simp only[Q4.put,if_neg this]
theorem Sl.piece {a:Option Addr} {n d:Nat} (h:Sl sz R σ (.slice a n d) xs) (l m:Nat) (L:l+m≤xs.length):Sl sz R σ (.slice (if d=l then a else a.map (·.add (l*sz))) m (d-l)) ((xs.drop l).take m):=by
 obtain ⟨M,q,D,O,N,t,o⟩:=h
 injection D with J r E
 subst J r E
 have c:((xs.drop l).take m).length=m:=by simp;omega
 refine ⟨_,d-l,by rw[c],by rw[c];omega,by omega,?_,?_⟩
 ·intro k
  split at k
  ·omega
  ·cases a with
   | none=>have:=t rfl;omega
   | some b=>simp at k
 ·intro b g
  split at g
  ·rename_i s
   obtain ⟨j,p⟩:=o b g
   have y:m=0:=by omega
   subst y
   exact ⟨fun h=>by simp at h,by simp⟩
  ·cases a with
   | none=>simp at g
   | some z=>
    simp only[Option.map_some,Option.some.injEq] at g
    obtain ⟨j,p⟩:=o z rfl
    subst g
    refine ⟨fun h=>I9 (j (by rw[c] at h;omega)) _,fun i x f=>?_⟩
    rw[List.getElem?_take] at f
    split at f
    ·rw[List.getElem?_drop] at f
     obtain ⟨cs,H,A,C⟩:=p _ _ f
     refine ⟨cs,?_,A,C⟩
     rw[Yt,←Nat.add_mul];exact H
    ·cases f
theorem Gf {t:TypeId} {by_:Nat} {z:Value} [ts:TS P t e] [tz:TZ P e sz by_ z] (h:Sl sz R σ v xs) (d c:Option Value) (l m:Nat) (i:d=none∧l=0∨d=some (I l)) (f:c=none∧m=xs.length∨c=some (I m)) (g:l≤m) (r:m≤xs.length)
 (o: ∀j,Sl sz R σ j ((xs.drop l).take (m-l))→K j w):R5 P t v d c none w K:=by
 have k:=h
 obtain ⟨a,b,rfl,C,A,q,y⟩:=h
 have hh: ∀w:World,(Instr.sliceBounds true xs.length b d c none).run P w= .ok (l,m,b) w:=by
  intro w
  have p:(m:Int)≤b:=by omega
  have s:(l:Int)≤m:=by omega
  have n:m≤b:=by omega
  rcases i with ⟨rfl,rfl⟩ | rfl<;>rcases f with ⟨rfl,rfl⟩ | rfl<;>
   simp[Instr.sliceBounds,Instr.sliceBound,asIntOf,n,g]<;>intros<;>omega
 unfold R5
 have:(Instr.sliceAt t (.slice a xs.length b) d c none).run P w= .ok (.slice (if b=l then a else a.map (·.add (l*sz))) (m-l) (b-l)) w:=by
  simp[Instr.sliceAt,run_underlying ts.h,Instr.slice,hh,W5 tz]
 rw[Y2 this]
 exact o _ (k.piece l (m-l) (by omega))
def en:Nat→List Value→List (Nat×Value)
 | _,[]=>[]
 | i,v::r=>(i,v)::en (i+1) r
theorem X02 (off:Nat): ∀(vs:List Value) (k:Nat) (cs:Array Value),off+k+vs.length≤cs.size→
 ((vs.zipIdx k).foldl (fun cs (p:Value×Nat)=>cs.setIfInBounds (off+p.2) p.1) cs).toList=cs.toList.take (off+k)++vs++cs.toList.drop (off+k+vs.length):=by
 intro vs
 induction vs with
 | nil=>intro k cs _;simp
 | cons v r ih=>
  intro k cs h
  simp only[List.length_cons] at h
  rw[List.zipIdx_cons,List.foldl_cons,ih (k+1) _ (by simp;omega)]
  simp only[Array.toList_setIfInBounds,List.length_cons]
  apply List.ext_getElem?
  intro i
  simp only[List.getElem?_append,List.length_take,List.length_set,Array.length_toList,List.getElem?_take,List.getElem?_drop,List.length_append,List.getElem?_set,List.length_cons]
  rcases Nat.lt_trichotomy i (off+k) with hi | hi | hi
  ·simp[show i<off+(k+1) by omega,hi,show i<min (off+(k+1)) cs.size by omega,show i<min (off+(k+1)) cs.size+r.length by omega,show i<min (off+k) cs.size by omega,show i<min (off+k) cs.size+(r.length+1) by omega,show off+k≠i by omega]
  ·subst hi
   simp[show off+k<off+(k+1) by omega,show off+k<min (off+(k+1)) cs.size by omega,show off+k<min (off+(k+1)) cs.size+r.length by omega,show¬off+k<min (off+k) cs.size by omega,show off+k<min (off+k) cs.size+(r.length+1) by omega,show off+k<cs.size by omega,show off+k-min (off+k) cs.size=0 by omega]
  ·by_cases h2:i<off+(k+1)+r.length
   ·simp[show¬i<min (off+(k+1)) cs.size by omega,show i<min (off+(k+1)) cs.size+r.length by omega,show¬i<min (off+k) cs.size by omega,show i<min (off+k) cs.size+(r.length+1) by omega,show i-min (off+k) cs.size=(i-min (off+(k+1)) cs.size)+1 by omega]
   ·simp only[show¬i<min (off+(k+1)) cs.size+r.length by omega,show¬i<min (off+k) cs.size+(r.length+1) by omega,if_false]
    rw[show off+(k+1)+r.length+(i-(min (off+(k+1)) cs.size+r.length))=i by omega,show off+k+(r.length+1)+(i-(min (off+k) cs.size+(r.length+1)))=i by omega,if_neg (by omega)]
theorem Q8C (sz:Nat): ∀(vs:List Value) (i:Nat) (cs:Array Value),(i+vs.length)*sz≤cs.size→(∀v∈vs,v.cells.size=sz)→
 ∃cs',Instr.fill (fun i=>some (i*sz,sz)) cs (en i vs)=some cs'∧cs'.toList=cs.toList.take (i*sz)++vs.flatMap (·.cells.toList)++cs.toList.drop ((i+vs.length)*sz):=by
 intro vs
 induction vs with
 | nil=>intro i cs _ _;exact ⟨cs,rfl,by simp⟩
 | cons v r ih=>
  intro i cs h hv
  have hv0:=hv v (by simp)
  simp only[List.length_cons] at h
  have h1:i*sz+sz≤cs.size:=by
   have:(i+1)*sz≤(i+(r.length+1))*sz:=Nat.mul_le_mul_right _ (by omega)
   rw[Nat.succ_mul] at this;omega
  have hset:=X02 (i*sz) v.cells.toList 0 cs (by simp;omega)
  simp only[Nat.add_zero] at hset
  have e1:v.cells.zipIdx.foldl (fun cs (p:Value×Nat)=>cs.setIfInBounds (i*sz+p.2) p.1) cs=(v.cells.toList.zipIdx 0).foldl (fun cs (p:Value×Nat)=>cs.setIfInBounds (i*sz+p.2) p.1) cs:=by
   rw[←Array.foldl_toList,Array.toList_zipIdx]
  have hsz':((v.cells.toList.zipIdx 0).foldl (fun cs (p:Value×Nat)=>cs.setIfInBounds (i*sz+p.2) p.1) cs).size=cs.size:=by
   rw[←Array.length_toList,hset]
   simp;omega
  obtain ⟨cs',q1,q2⟩:=ih (i+1) _ (by rw[hsz'];rw[show i+1+r.length=i+(r.length+1) by omega];exact h) (fun u hu=>hv u (by simp[hu]))
  refine ⟨cs',?_,?_⟩
  ·simp only[en,Instr.fill]
   rw[if_neg (by simp[hv0];omega)]
   rw[e1];exact q1
  ·rw[q2,hset]
   simp only[List.flatMap_cons,List.length_cons,Array.length_toList,hv0]
   have e2:(i+1)*sz=i*sz+sz:=by rw[Nat.succ_mul]
   have e3:(i+(r.length+1))*sz=i*sz+sz+r.length*sz:=by rw[Nat.add_mul,Nat.succ_mul];omega
   have e4:(i+1+r.length)*sz=i*sz+sz+r.length*sz:=by rw[Nat.add_mul,Nat.succ_mul]
   rw[e2,e3,e4]
   have t1:(cs.toList.take (i*sz)).length=i*sz:=by simp;omega
   have t2:(cs.toList.take (i*sz)++v.cells.toList).length=i*sz+sz:=by rw[List.length_append,t1];simp[hv0]
   have k1: ∀C:List Value,(cs.toList.take (i*sz)++v.cells.toList++C).take (i*sz+sz)=cs.toList.take (i*sz)++v.cells.toList:=by
    intro C
    rw[List.take_append_of_le_length (by omega),List.take_of_length_le (by omega)]
   have k2: ∀(C:List Value) (n:Nat),(cs.toList.take (i*sz)++v.cells.toList++C).drop (i*sz+sz+n)=C.drop n:=by
    intro C n
    rw[List.drop_append,t2,List.drop_eq_nil_of_le (by omega),List.nil_append]
    congr 1;omega
   rw[k1,k2,List.drop_drop]
   simp only[List.append_assoc]
theorem Uu {t:TypeId} {by_:Nat} {z:Value} [ts:TS P t e] [tz:TZ P e sz by_ z] (vs:List Value) (hv: ∀v∈vs,v.cells.size=sz) (hsm:vs.length*sz≤16777216) (w:World):
 ∃cells:Array Value,(Instr.buildSlice t vs.length (en 0 vs).toArray).run P w= .ok (.slice (some ⟨w.heap.size,0,none⟩) vs.length vs.length) (w.alloc (.cells cells e))∧cells.toList=vs.flatMap (·.cells.toList):=by
 have h2: ¬vs.length*sz>2 ^ 24:=by omega
 by_cases h:vs.length*sz=0
 ·obtain ⟨cells,hf,hl⟩:=Q8C sz vs 0 ((Array.range (vs.length*sz)).map ((#[]:Array Value)[· % (#[]:Array Value).size]!)) (by simp) hv
  refine ⟨cells,?_,by rw[hl];simp⟩
  simp only[Instr.buildSlice,Sem.run_bind,run_underlying ts.h,Result.andThen_ok,W5 tz,if_neg h2,if_pos h,Sem.run_pure,hf]
  simp[newRow]
 ·obtain ⟨cells,hf,hl⟩:=Q8C sz vs 0 ((Array.range (vs.length*sz)).map (z.cells[· % z.cells.size]!)) (by simp) hv
  refine ⟨cells,?_,by rw[hl];simp⟩
  simp only[Instr.buildSlice,Sem.run_bind,run_underlying ts.h,Result.andThen_ok,W5 tz,if_neg h2,if_neg h,Sem.run_pure,Qm tz,hf]
  simp[newRow]
theorem Q3e {vs:List Value} (d: ∀v∈vs,v.cells.size=sz) (i:Nat) (v:Value) (h:vs[i]? =some v):((vs.flatMap (·.cells.toList)).drop (i*sz)).take sz=v.cells.toList:=by
 induction vs generalizing i with
 | nil=>simp at h
 | cons a r f=>
  have b:=d a (by simp)
  cases i with
  | zero=>
   simp at h;subst h
   rw[List.flatMap_cons,Nat.zero_mul,List.drop_zero,List.take_append_of_le_length (by simp[b]),List.take_of_length_le (by simp[b])]
  | succ i=>
   rw[List.flatMap_cons,Nat.succ_mul,List.drop_append,List.drop_eq_nil_of_le (by simp[b]),List.nil_append]
   rw[show i*sz+sz-a.cells.toList.length=i*sz by simp[b]]
   exact f (fun v c=>d v (by simp[c])) i (by simpa using h)
theorem Dg {vs:List Value} (b: ∀v∈vs,v.cells.size=sz):(vs.flatMap (·.cells.toList)).length=vs.length*sz:=by
 induction vs with
 | nil=>simp
 | cons a r c=>
  rw[List.flatMap_cons,List.length_append,c (fun v h=>b v (by simp[h]))]
  simp[b a (by simp),Nat.succ_mul,Nat.add_comm]
def Pm (R:Q4→α→List Value→Prop) (σ:Q4):List Value→List α→Prop
 | [],[]=>True
 | v::vs,x::xs=>R σ x v.cells.toList∧Pm R σ vs xs
 | _,_=>False
theorem Pm.len {vs:List Value} (h:Pm R σ vs xs):vs.length=xs.length:=by
 induction vs generalizing xs with
 | nil=>cases xs with
  | nil=>rfl
  | cons=>exact h.elim
 | cons v r a=>cases xs with
  | nil=>exact h.elim
  | cons x y=>simp[a h.2]
theorem Pm.get {vs:List Value} (h:Pm R σ vs xs) {i:Nat} {x:α} (a:xs[i]? =some x): ∃v,vs[i]? =some v∧R σ x v.cells.toList:=by
 induction vs generalizing xs i with
 | nil=>cases xs with
  | nil=>simp at a
  | cons=>exact h.elim
 | cons v r b=>cases xs with
  | nil=>exact h.elim
  | cons y ys=>
   cases i with
   | zero=>simp at a;subst a;exact ⟨v,rfl,h.1⟩
   | succ i=>obtain ⟨u,c,d⟩:=b h.2 (i:=i) (by simpa using a);exact ⟨u,by simpa using c,d⟩
theorem Xc {t:TypeId} {by_:Nat} {z:Value} {n:Nat} {a:List (Nat×Value)} [ts:TS P t e] [tz:TZ P e sz by_ z] (j:Stp w0 σ0 w σ) (vs:List Value) (xs:List α) (q:n=vs.length) (o:a=en 0 vs) (c: ∀v∈vs,v.cells.size=sz) (b:(decide (0<sz)&&decide (vs.length*sz≤16777216))=true) (m:Pm R σ vs xs)
 (h: ∀v w',Stp w σ w' σ→J1 w0.heap.size e sz R σ w' v xs→(∀k,v.ownBlock=some k→w.heap.size≤k)→K v w'):buildSlice P t n a w K:=by
 subst q o
 simp only[Bool.and_eq_true,decide_eq_true_eq] at b
 obtain ⟨g,b⟩:=b
 obtain ⟨cells,y,f⟩:=Uu (P:=P) (t:=t) vs c b w
 unfold buildSlice
 rw[Y2 y]
 have d:=m.len
 refine h _ _ (Stp.own j.sat _) ⟨cells.toList,⟨by rw[f,Dg c,d], .inr ⟨_,_,cells,by rw[d],j.bel.size,heap_alloc_new w _,by omega,?_,?_,?_⟩⟩,?_,?_⟩ ?_
 ·simp only[maxLen]
  have:vs.length*1≤vs.length*sz:=Nat.mul_le_mul_left _ g
  omega
 ·rw[←Array.length_toList,f,Dg c,d]
 ·rw[List.take_of_length_le (by rw[f,Dg c,d];exact Nat.le_refl _)]
 ·intro k l;cases l;exact j.sat.none (Nat.le_refl _)
 ·intro i x s
  obtain ⟨v,p,r⟩:=m.get s
  rw[f,Q3e c i v p];exact r
 ·intro k l;cases l;exact Nat.le_refl _
theorem O7 [Rep R] {t:TypeId} {by_:Nat} {z:Value} {n:Nat} {a:List (Nat×Value)} [ts:TS P t e] [tz:TZ P e sz by_ z] (j:X4 w σ) (vs:List Value) (xs:List α) (d:n=vs.length) (c:a=en 0 vs) (g: ∀v∈vs,v.cells.size=sz) (b:(decide (0<sz)&&decide (vs.length*sz≤16777216))=true) (i:Pm R σ vs xs)
 (h: ∀v w' σ',Stp w σ w' σ'→Sl sz R σ' v xs→K v w'):buildSlice P t n a w K:=by
 refine Xc (Stp.refl j) vs xs d c g b i fun v w' l m _=>?_
 obtain ⟨σ',k,f,_⟩:=m.keep l
 exact h v w' σ' k f
theorem X2P {t:TypeId} {k a:Nat} {b:TypeId} [tf:TF P t k a b] [tg:TG P b false] {cs:Array Value} {v:Value} (d:cs[a]? =some v):Ww P t (.agg cs) k w K=K v w:=by
 unfold Ww
 have hh:=tf.h
 unfold Q3R at hh
 split at hh
 ·rename_i m g
  obtain ⟨f,i,c⟩:=Option.map_eq_some_iff.1 hh
  simp only[Prod.mk.injEq] at c
  obtain ⟨j,l⟩:=c
  subst l j
  exact Y2 (by simp[Instr.field,run_underlying g,i,asAgg,part,Jd tg,d])
 ·cases hh
theorem Xh {f:Fn} {first caps:List Value}:N7 P f first caps w K=K (.func f first.toArray caps.toArray) w:=Y2 (by simp[Instr.makeFunc])
theorem W0 {t:TypeId} {a:List (Nat×Value)} {cells:Array Value} (h:P.built t a=some cells) (b:K (.agg cells) w):O4 P t a w K:=by
 unfold O4
 rw[Y2 (run_build w t a.toArray cells h)];exact b
end
def O6 (o:Option Obj) (m:List (List UInt8×Value)):Prop:=
 ∃es a,o=some (.map es a)∧es.toList.map (fun e=>(e.key,e.val))=m.map (fun p=>(S p.1,p.2))∧(es.toList.map (·.born)).Pairwise (· < ·)∧ ∀e∈es.toList,e.born<a
def M9 (m:List (List UInt8×Value)) (k:List UInt8):Option Value:=match m with
 | []=>none
 | p::r=>if p.1=k then some p.2 else M9 r k
def Yj (m:List (List UInt8×Value)) (k:List UInt8) (v:Value):List (List UInt8×Value):=match m with
 | []=>[(k,v)]
 | p::r=>if p.1=k then (k,v)::r else p::Yj r k v
theorem Cu (a b:List UInt8):((⟨a.toArray⟩:ByteArray)==⟨b.toArray⟩)=decide (a=b):=by
 rw[←Q45]
 show (a.toArray==b.toArray)=_
 simp
theorem Bh (k:List UInt8): ∀(es:List MapEntry) (m:List (List UInt8×Value)) (i:Nat),es.map (fun e=>(e.key,e.val))=m.map (fun p=>(S p.1,p.2))→
 ∃r,Instr.findNow .string (S k) es i=some r∧r.map (·.2)=M9 m k∧(∀j v,r=some (j,v)→i≤j∧(∃e,es[j-i]? =some e∧e.key=S k)∧ ∀u,(es.modify (j-i) fun e=>{e with key:=S k,val:=u}).map (fun e=>(e.key,e.val))=(Yj m k u).map (fun p=>(S p.1,p.2)))∧
  (r=none→ ∀u,Yj m k u=m++[(k,u)]):=by
 intro es
 induction es with
 | nil=>
  intro m i h
  cases m with
  | nil=>exact ⟨none,rfl,rfl,(by simp),fun _ u=>rfl⟩
  | cons=>simp at h
 | cons e r s=>
  intro m i h
  cases m with
  | nil=>simp at h
  | cons p q=>
   simp only[List.map_cons,List.cons.injEq,Prod.mk.injEq] at h
   obtain ⟨⟨d,g⟩,f⟩:=h
   simp only[Instr.findNow,d,Instr.sameNow,Cu]
   by_cases a:p.1=k
   ·have c:decide (k=p.1)=true:=by simp[a]
    simp only[c]
    refine ⟨_,rfl,by simp[M9,a,g],?_,by simp⟩
    intro j v b
    cases b
    refine ⟨Nat.le_refl _,⟨e,by simp,by rw[d,a]⟩,fun u=>?_⟩
    simp[Yj,a,f]
   ·have c:decide (k=p.1)=false:=by simp;exact fun e=>a e.symm
    simp only[c]
    obtain ⟨l,o,z,C,n⟩:=s q (i+1) f
    refine ⟨l,o,by simp[M9,a,z],?_,?_⟩
    ·intro j v b
     obtain ⟨D,t,A⟩:=C j v b
     refine ⟨by omega,by rw[show j-i=(j-(i+1))+1 by omega];simpa using t,fun u=>?_⟩
     have:=A u
     rw[show j-i=(j-(i+1))+1 by omega]
     simp[Yj,a,d,g,this]
    ·intro y u
     simp[Yj,a,n y u]
theorem F8 {t:TypeId} (a:P.underlying t=some .string) (b:Bool) (k:List UInt8) (w:World):(Instr.checkKey b 10000 t (S k)).run P w= .ok () w:=by
 unfold Instr.checkKey
 simp[run_underlying a]
theorem Q2B {t d g:TypeId} {sz by_:Nat} {z:Value} [tm:TM P t d g] [tz:TZ P g sz by_ z] (c:P.underlying d=some .string) {r:Nat} {m:List (List UInt8×Value)} (j:O6 (w.heap[r]?) m) (k:List UInt8):
 lookup P t (.map (some r)) (S k) true w K=K (match M9 m k with | some v=> .tuple #[v, .bool true] | none=> .tuple #[z, .bool false]) w:=by
 obtain ⟨es,a,l,o,y,A⟩:=j
 obtain ⟨i,f,b,s,q⟩:=Bh k es.toList m 0 o
 unfold lookup
 refine Y2 ?_
 simp only[Instr.lookup,Sem.run_bind,run_underlying tm.h,Result.andThen_ok,Instr.findKey,run_underlying c,f,F8 c]
 have n:(getObj r).run P w= .ok (.map es a) w:=by simp[getObj,Sem.run,l]
 simp only[n,Result.andThen_ok,Sem.run_bind,Sem.run_pure,F8 c,run_underlying c,f]
 cases i with
 | none=>simp at b;rw[←b];simp[Qm tz]
 | some p=>simp at b;rw[←b];simp
theorem Q50 {t c d:TypeId} {sz by_:Nat} {z:Value} [tm:TM P t c d] [tz:TZ P d sz by_ z] (f:P.underlying c=some .string) {r:Nat} {m:List (List UInt8×Value)} (j:O6 (w.heap[r]?) m) (k:List UInt8):
 lookup P t (.map (some r)) (S k) false w K=K ((M9 m k).getD z) w:=by
 obtain ⟨es,a,l,o,y,A⟩:=j
 obtain ⟨g,i,b,s,q⟩:=Bh k es.toList m 0 o
 unfold lookup
 refine Y2 ?_
 have n:(getObj r).run P w= .ok (.map es a) w:=by simp[getObj,Sem.run,l]
 simp only[Instr.lookup,Sem.run_bind,run_underlying tm.h,Result.andThen_ok,Instr.findKey,run_underlying f,i,F8 f,n,Sem.run_pure]
 cases g with
 | none=>simp at b;rw[←b];simp[Qm tz]
 | some p=>simp at b;rw[←b];simp
def H4 (σ:Q4) (w:World) (r:Nat) (m:List (List UInt8×Value)):Prop:=σ r=none∧O6 (w.heap[r]?) m
def P9 (σ:Q4) (r:Nat) (m:List (List UInt8×Value)):Prop:=O6 (σ r) m
theorem P9.is {σ:Q4} {r:Nat} {m:List (List UInt8×Value)} (h:P9 σ r m) (b:X4 w σ):O6 (w.heap[r]?) m:=by
 obtain ⟨es,a,c,d⟩:=h
 exact ⟨es,a,b _ _ c,d⟩
theorem P9.le {σ σ':Q4} {r:Nat} {m:List (List UInt8×Value)} (h:P9 σ r m) (c: ∀b o,σ b=some o→σ' b=some o):P9 σ' r m:=by
 obtain ⟨es,a,d,f⟩:=h
 exact ⟨es,a,c _ _ d,f⟩
theorem P9.up {σ σ':Q4} {r:Nat} {m:List (List UInt8×Value)} (h:P9 σ r m) (a:Stp w σ w' σ'):P9 σ' r m:=h.le a.le
theorem H4.lt {σ:Q4} {r:Nat} {m:List (List UInt8×Value)} (h:H4 σ w r m):r<w.heap.size:=by
 obtain ⟨_,es,a,b,_⟩:=h
 exact (Array.getElem?_eq_some_iff.1 b).1
theorem H4.up {σ σ':Q4} {r:Nat} {m:List (List UInt8×Value)} (h:H4 σ w r m) (a:Stp w σ w' σ'):H4 σ' w' r m:=by
 have b:=h.lt
 exact ⟨(a.old r b).trans h.1,(a.bel.block r b).symm▸h.2⟩
theorem Q0a {t:TypeId} {σ:Q4} (a:X4 w σ) (h: ∀r w',w.heap.size≤r→Stp w σ w' σ→H4 σ w' r []→K (.map (some r)) w'):Cw P t none w K:=by
 unfold Cw
 rw[Y2 (v:= .map (some w.heap.size)) (w':=w.alloc (.map #[] 0)) (by simp[Instr.makeMap])]
 exact h _ _ (Nat.le_refl _) (Stp.own a _) ⟨a.none (Nat.le_refl _), #[],0,heap_alloc_new w _,rfl,by simp,by simp⟩
theorem H4.keep {σ σ0:Q4} {r:Nat} {m:List (List UInt8×Value)} (h:H4 σ w r m) (c:Stp w0 σ0 w σ) (d:w0.heap.size≤r): ∃σ',Stp w0 σ0 w σ'∧P9 σ' r m∧(∀k o,σ k=some o→σ' k=some o)∧(∀k,k≠r→σ' k=σ k):=by
 obtain ⟨b,es,a,g,i⟩:=h
 exact ⟨σ.put r (.map es a),c.put b d g,⟨es,a,by simp[Q4.put],i⟩,Q4.put_le c.sat b _,fun k f=>by simp only[Q4.put,if_neg f]⟩
theorem Hv {t H et:TypeId} [tm:TM P t H et] (A:P.underlying H=some .string) {σ:Q4} {r:Nat} {m:List (List UInt8×Value)} (Z:H4 σ w r m) (k:List UInt8) (v:Value)
 (h: ∀w',Upd w r w'→H4 σ w' r (Yj m k v)→K undef w'):mapUpdate P t (.map (some r)) (S k) v w K:=by
 obtain ⟨L,es,d,D,V,O,E⟩:=Z
 obtain ⟨W,J,q2,q3,X⟩:=Bh k es.toList m 0 V
 have Q:(getObj r).run P w= .ok (.map es d) w:=by simp[getObj,Sem.run,D]
 have hl:=(Array.getElem?_eq_some_iff.1 D).1
 have l: ∀o,o=Obj.map es d∨True→(∀c e f,o≠ .cells c e f)→(setObj r o).run P w= .ok () {w with heap:=w.heap.setIfInBounds r o}:=by
  intro o _ _
  simp[setObj,Sem.run,D]
 have z: ∀o,Upd w r {w with heap:=w.heap.setIfInBounds r o}:=fun o=>⟨rfl,rfl,rfl,by simp,fun k A=>by simp only[Array.getElem?_setIfInBounds];rw[if_neg (by omega)]⟩
 have s: ∀o,({w with heap:=w.heap.setIfInBounds r o}:World).heap[r]? =some o:=fun o=>by simp[Array.getElem?_setIfInBounds,hl]
 unfold mapUpdate
 cases W with
 | none=>
  rw[Wg (w':={w with heap:=w.heap.setIfInBounds r (.map (es.push {key:=S k,val:=v,born:=d}) (d+1))}) (by
   simp only[Instr.mapUpdate,Sem.run_bind,run_underlying tm.h,Result.andThen_ok,Instr.findKey,run_underlying A,J,F8 A,Q,Sem.run_pure]
   exact l _ (.inr trivial) (by intros;simp))]
  refine h _ (z _) ⟨L,_,_,s _,?_,?_,?_⟩
  ·rw[X rfl];simp[V]
  ·simp only[Array.toList_push,List.map_append,List.map_cons,List.map_nil]
   rw[List.pairwise_append]
   refine ⟨O,by simp,?_⟩
   intro a ha b N
   simp at N;subst N
   obtain ⟨e,q,rfl⟩:=List.mem_map.1 ha
   exact E e q
  ·intro e q
   simp at q
   rcases q with q | rfl
   ·have:=E e (by simpa using q);omega
   ·simp
 | some p=>
  obtain ⟨j,u⟩:=p
  obtain ⟨z1,z2,M⟩:=q3 j u rfl
  obtain ⟨e,U,Y⟩:=z2
  simp only[Nat.sub_zero] at U M
  have g:((es.modify j fun e=>{e with key:=S k,val:=v}).toList.map (·.born))=es.toList.map (·.born):=by
   apply List.ext_getElem?
   intro i
   simp only[Array.toList_modify,List.getElem?_map,List.getElem?_modify]
   by_cases C:j=i<;>cases es.toList[i]? <;>simp[C]
  have n:(Instr.keyThatStays (S k) (S k)).run P w= .ok (S k) w:=by
   simp[Instr.keyThatStays,Instr.sameBits,Cu]
  rw[Wg (w':={w with heap:=w.heap.setIfInBounds r (.map (es.modify j fun e=>{e with key:=S k,val:=v}) d)}) (by
   simp only[Instr.mapUpdate,Sem.run_bind,run_underlying tm.h,Result.andThen_ok,Instr.findKey,run_underlying A,J,F8 A,Q,Sem.run_pure]
   rw[show ((es[j]?).map (·.key)).getD (S k)=S k by rw[←Array.getElem?_toList,U];simp[Y]]
   simp only[n,Result.andThen_ok]
   exact l _ (.inr trivial) (by intros;simp))]
  refine h _ (z _) ⟨L,_,_,s _,?_,?_,?_⟩
  ·simp only[Array.toList_modify];exact M v
  ·rw[g];exact O
  ·intro x hx
   have:x.born∈es.toList.map (·.born):=by rw[←g];exact List.mem_map.2 ⟨x,hx,rfl⟩
   obtain ⟨y,hy,e⟩:=List.mem_map.1 this
   rw[←e];exact E y hy
end Go.Emb

namespace Go.Emb
open Go.RowKit
variable {P : Program} {w w0 w1 w' w'' : World} {K : Value → World → Prop}
theorem Z6 {c b:Bool} {a:World→(Value→World→Prop)→Prop} (d:c=b→a w K) (e:c=(!b)→K undef w):Q1 (.bool c) b w a K:=by
 cases c<;>cases b
 ·rw[N6];exact d rfl
 ·rw[E8];exact e rfl
 ·rw[G6];exact e rfl
 ·rw[L4];exact d rfl
theorem Q5 {c:Bool} {t e:Prop} (a:c=true→t) (b:c=false→e):X1 (.bool c) t e:=by
 cases c
 ·rw[Wr];exact b rfl
 ·rw[Di];exact a rfl
theorem X0 {α:Type} {R:Q4→α→List Value→Prop} {sz:Nat} {σ:Q4} {v:Value} {xs:List α} {a e t:TypeId} {cs:List Bool} [ts:TS P a e] (h:Sl sz R σ v xs) (b:K (I xs.length) w):X5 P .len [a] t cs [v] w K:=by
 rw[X4b h];exact b
structure Kpt (D : Nat → Prop) (w w' : World) : Prop where
  os : w'.os = w.os
  tape : w'.tape = w.tape
  output : w'.output = w.output
  size : w.heap.size ≤ w'.heap.size
  block : ∀ k, k < w.heap.size → ¬ D k → w'.heap[k]? = w.heap[k]?
theorem Kpt.refl {D:Nat→Prop}:Kpt D w w:=⟨rfl,rfl,rfl,Nat.le_refl _,fun _ _ _=>rfl⟩
theorem Kpt.trans {D:Nat→Prop} (h:Kpt D w w') (k:Kpt D w' w''):Kpt D w w'':=
 ⟨k.os.trans h.os,k.tape.trans h.tape,k.output.trans h.output,Nat.le_trans h.size k.size,fun i b a=>(k.block i (Nat.lt_of_lt_of_le b h.size) a).trans (h.block i b a)⟩
theorem Kpt.of_below {D:Nat→Prop} (h:Below w.heap.size w w'):Kpt D w w':=⟨h.os,h.tape,h.output,h.size,fun k a _=>h.block k a⟩
theorem Kpt.of_grown {D:Nat→Prop} {row:Option Nat} (h:w.grownBy w' row) (c: ∀k,row=some k→D k):Kpt D w w':=⟨h.os,h.tape,h.output,h.size,fun k b a=>h.block k b (fun e=>a (c k e.symm))⟩
theorem Kpt.of_upd {D:Nat→Prop} {b:Nat} (h:Upd w b w') (a:D b):Kpt D w w':=⟨h.os,h.tape,h.output,by rw[h.size];exact Nat.le_refl _,fun k d c=>h.block k (fun e=>c (e▸a))⟩
theorem Kpt.mono {D b:Nat→Prop} (h:Kpt D w w') (c: ∀k,k<w.heap.size→D k→b k):Kpt b w w':=⟨h.os,h.tape,h.output,h.size,fun k a d=>h.block k a (fun e=>d (c k a e))⟩
theorem Kpt.below {D:Nat→Prop} (h:Kpt D w w') (a: ∀k,¬D k):Below w.heap.size w w':=⟨h.os,h.tape,h.output,h.size,fun k b=>h.block k b (a k)⟩
theorem Stp.kp {σ0 σ:Q4} {D:Nat→Prop} (a:Stp w0 σ0 w σ) (b:Kpt D w w') (f: ∀k,D k→w0.heap.size≤k∧σ k=none):Stp w0 σ0 w' σ:=by
 refine ⟨⟨b.os.trans a.bel.os,b.tape.trans a.bel.tape,b.output.trans a.bel.output,Nat.le_trans a.bel.size b.size,fun k c=>?_⟩,?_,a.le,a.old⟩
 ·refine (b.block k (Nat.lt_of_lt_of_le c a.bel.size) ?_).trans (a.bel.block k c)
  intro e;have:=(f k e).1;omega
 ·intro k o d
  refine (b.block k (a.sat.lt d) ?_).trans (a.sat k o d)
  intro e;rw[(f k e).2] at d;cases d
theorem Z7.kp {σ:Q4} {D:Nat→Prop} {k:Nat} {cs:List Value} (h:Z7 σ w k cs) (b:Kpt D w w') (a: ¬D k):Z7 σ w' k cs:=by
 have c:=h.lt
 obtain ⟨d,e,f⟩:=h
 exact ⟨d,e,(b.block k c a).trans f⟩
theorem H4.kp {σ:Q4} {D:Nat→Prop} {r:Nat} {m:List (List UInt8×Value)} (h:H4 σ w r m) (b:Kpt D w w') (a: ¬D r):H4 σ w' r m:=
 ⟨h.1,(b.block r h.lt a).symm▸h.2⟩
theorem J1.kp {α:Type} {R:Q4→α→List Value→Prop} {B sz:Nat} {e:TypeId} {σ:Q4} {v:Value} {xs:List α} {D:Nat→Prop} (h:J1 B e sz R σ w v xs) (n:Kpt D w w') (d: ∀k,v.ownBlock=some k→ ¬D k):J1 B e sz R σ w' v xs:=by
 obtain ⟨cells,f,o,m⟩:=h
 refine ⟨cells,⟨f.1,?_⟩,o,m⟩
 rcases f.2 with j | ⟨g,c,b,rfl,l,i,a⟩
 ·exact .inl j
 ·refine .inr ⟨g,c,b,rfl,l,?_,a⟩
  rw[n.block g (Array.getElem?_eq_some_iff.1 i).1 (d g rfl)];exact i
theorem bt {w w1 a:World} (b:Below w.heap.size w w1) (c:Below w1.heap.size w1 a):Below w.heap.size w a:=b.trans (c.mono b.size)
abbrev Y9:Nat:=140737488351232
def X7 (_:Q4) (s:List UInt8) (cs:List Value):Prop:=cs=[S s]∧s.length≤Y9
instance:Rep X7:=⟨fun _ h=>h,fun h u hu=>by rw[h.1] at hu;simp at hu;subst hu;rfl⟩
def Vv (_:Q4) (n:Int) (cs:List Value):Prop:=cs=[I n]∧ -9223372036854775808≤n∧n≤9223372036854775807
instance:Rep Vv:=⟨fun _ h=>h,fun h u hu=>by rw[h.1] at hu;simp at hu;subst hu;rfl⟩
def Q94 (_:Q4) (b:Bool) (cs:List Value):Prop:=cs=[.bool b]
instance:Rep Q94:=⟨fun _ h=>h,fun h u hu=>by rw[h] at hu;simp at hu;subst hu;rfl⟩
def UpI (N:Nat) (a:Nat→World→Prop) (x:Value) (w:World):Prop:= ∃n:Nat,x=I n∧n≤N∧a n w
def UpM (N:Nat) (x:Value):Nat:=match x with | .int _ n=>N-n.toNat | _=>0
theorem U3 {A:(Value→World→Prop)→Value→(Nat→Value)→World→Prop} (N:Nat) (a:Nat→World→Prop) (c:a 0 w)
 (b: ∀n w d,n≤N→a n w→A (fun y w'=>UpI N a y w'∧UpM N y<UpM N (I n)) (I n) d w):lp (α:=Value) (.int .i64 0) w A:=by
 refine Uc (UpI N a) (fun x _=>UpM N x) ⟨0,rfl,Nat.zero_le _,c⟩ ?_
 rintro _ d w' ⟨n,rfl,f,e⟩
 exact b n w' d f e
theorem Y5 {N n:Nat} {a:Nat→World→Prop} (d:N≤9223372036854775807) (c:n<N) (b:a (n+1) w):UpI N a (.int .i64 (IntKind.i64.wrap (n+1))) w∧UpM N (.int .i64 (IntKind.i64.wrap (n+1)))<UpM N (I n):=by
 rw[G1 (by omega) (by omega)]
 exact ⟨⟨n+1,rfl,c,b⟩,by simp only[UpM];omega⟩
def Fe {α:Type} (N:Nat) (a:Nat→α→World→Prop) (x:α×Value) (w:World):Prop:= ∃n:Nat,x.2=I n∧n≤N∧a n x.1 w
def Lc {α:Type} (N:Nat) (x:α×Value):Nat:=UpM N x.2
theorem E2 {α:Type} {A:(α×Value→World→Prop)→α×Value→(Nat→Value)→World→Prop} {a:α} (N:Nat) (b:Nat→α→World→Prop) (g:b 0 a w)
 (c: ∀n a w d,n≤N→b n a w→A (fun y w'=>Fe N b y w'∧Lc N y<Lc N (a,I n)) (a,I n) d w):lp (α:=α×Value) (a, .int .i64 0) w A:=by
 refine Uc (Fe N b) (fun x _=>Lc N x) ⟨0,rfl,Nat.zero_le _,g⟩ ?_
 rintro ⟨a,x⟩ d w' ⟨n,e,h,f⟩
 simp only at e f
 subst e
 exact c n a w' d h f
theorem J0 {α:Type} {a c:α} {N n:Nat} {b:Nat→α→World→Prop} (f:N≤9223372036854775807) (e:n<N) (d:b (n+1) c w):Fe N b (c, .int .i64 (IntKind.i64.wrap (n+1))) w∧Lc N (c, .int .i64 (IntKind.i64.wrap (n+1)))<Lc N (a,I n):=by
 rw[G1 (by omega) (by omega)]
 exact ⟨⟨n+1,rfl,e,d⟩,by simp only[Lc,UpM];omega⟩
theorem M7 {α:Type} {R:Q4→α→List Value→Prop} {sz:Nat} {σ:Q4} {v:Value} {xs:List α} {t e:TypeId} {by_:Nat} {z:Value} [TS P t e] [TZ P e sz by_ z] (h:Sl sz R σ v xs) {n:Nat} (b:n<xs.length)
 (f: ∀a cs,Z2 σ a cs→cs.length=sz→R σ xs[n] cs→K (.pointer (some a)) w):indexAddr P t v (I n) w K:=
 X4X h (by omega) (by simpa using b) (fun a cs c g d=>f a cs c g (by simpa using d))
theorem Y6 {t:TypeId} {sz by_:Nat} {z:Value} {A:Value→Value→World→Prop} [tz:TZ P t sz by_ z] {σ:Q4} {cs:List Value} (m:X4 w σ) (g:z.cells.size=sz) (j:cs.length=sz) (n: ∀u∈cs,u.oneCell'=true)
 (h: ∀a w' d,Stp w σ w' d→Z2 d a cs→A (.pointer (some a)) undef w'):W6 P t w (fun p w=>Z4 P t p (.agg cs.toArray) w (fun u w=>A p u w)):=by
 refine Sg m fun b w1 f q e=>?_
 refine sta e (by simpa using g) j (by rw[List.all_toArray];exact List.all_eq_true.2 n) fun r i c=>?_
 have l:Stp w σ r σ:=i.stp q f e.1
 obtain ⟨d,o,k,_⟩:=c.keep l f
 exact h _ _ _ o k
theorem U8 {t:TypeId} {by_:Nat} {z:Value} {A:Value→Value→World→Prop} [tz:TZ P t 1 by_ z] {σ:Q4} {v:Value} (o:X4 w σ) (i:z.cells.size=1) (l:v.cells= #[v]) (q:v.oneCell'=true)
 (h: ∀a w' d,Stp w σ w' d→Z2 d a [v]→A (.pointer (some a)) undef w'):W6 P t w (fun p w=>Z4 P t p v w (fun u w=>A p u w)):=by
 refine Sg o fun b w1 g s f=>?_
 have k:z.cells.toList.length=1:=by simpa using i
 refine st0 f (by omega) l q fun y j c=>?_
 have n:Stp w σ y σ:=j.stp s g f.1
 have e:z.cells.toList.set 0 v=[v]:=by
  match hzl:z.cells.toList,k with
  | [x],_=>rfl
 rw[e] at c
 obtain ⟨d,r,m,_⟩:=c.keep n g
 exact h _ _ _ r m
theorem N5 {α:Type} {xs:List α} {p:α→Bool} {n:Nat} (h:n<xs.length):(xs.take (n+1)).any p=((xs.take n).any p||p xs[n]):=by
 rw[List.take_add_one,List.getElem?_eq_getElem h,List.any_append];simp
theorem B7 {α:Type} {xs:List α} {p:α→Bool} {n:Nat} (h:n<xs.length) (a:p xs[n]=true):xs.any p=true:=List.any_eq_true.2 ⟨_,List.getElem_mem h,a⟩
theorem E4 {α:Type} {xs:List α} {p:α→Bool} {n:Nat} (h: ¬n<xs.length):(xs.take n).any p=xs.any p:=by rw[List.take_of_length_le (by omega)]
end Go.Emb

namespace Go.Hm
open Go.Kd
structure Fld where
  name : Q8
  kind : Q8
  tr : Bool
deriving DecidableEq
structure Ins where
  op : Q8
  n : Int
  s : Q8
deriving DecidableEq
structure Cat where
  frm : Int
  to : Int
  at_ : Int
  cls : Q8
deriving DecidableEq
structure Met where
  name : Q8
  params : List Q8
  result : Q8
  abs : Bool
  locals : Int
  code : List Ins
  catches : List Cat
deriving DecidableEq
structure Cla where
  name : Q8
  super : Q8
  like : List Q8
  iface : Bool
  abs : Bool
  fin : Bool
  fields : List Fld
  methods : List Hm.Met
deriving DecidableEq
def Fld.zero:Fld:=⟨[],[],false⟩
def Met.zero:Hm.Met:=⟨[],[],[],false,0,[],[]⟩
def Cla.zero:Cla:=⟨[],[],[],false,false,false,[],[]⟩
end Go.Hm

namespace Go.Emb
open Go.RowKit Go.Hm
abbrev Q0k (n:Int):Prop:= -9223372036854775808≤n∧n≤9223372036854775807
def H0 (_:Q4) (f:Fld) (cs:List Value):Prop:=cs=[S f.name,S f.kind, .bool f.tr]∧f.name.length≤Y9∧f.kind.length≤Y9
def G9 (_:Q4) (i:Ins) (cs:List Value):Prop:=cs=[S i.op,I i.n,S i.s]∧i.op.length≤Y9∧Q0k i.n∧i.s.length≤Y9
def Yo (_:Q4) (c:Cat) (cs:List Value):Prop:=cs=[I c.frm,I c.to,I c.at_,S c.cls]∧Q0k c.frm∧Q0k c.to∧Q0k c.at_∧c.cls.length≤Y9
def M3 (σ:Q4) (m:Hm.Met) (cs:List Value):Prop:= ∃pv b a,cs=[S m.name,pv,S m.result, .bool m.abs,I m.locals,b,a]∧Sl 1 X7 σ pv m.params∧Sl 3 G9 σ b m.code∧Sl 4 Yo σ a m.catches∧m.name.length≤Y9∧m.result.length≤Y9∧Q0k m.locals
def V4 (σ:Q4) (c:Cla) (cs:List Value):Prop:= ∃b a mv,cs=[S c.name,S c.super,b, .bool c.iface, .bool c.abs, .bool c.fin,a,mv]∧Sl 1 X7 σ b c.like∧Sl 3 H0 σ a c.fields∧Sl 7 M3 σ mv c.methods∧c.name.length≤Y9∧c.super.length≤Y9
theorem K4 {α:Type} {sz:Nat} {R:Q4→α→List Value→Prop} {σ:Q4} {v:Value} {xs:List α} (h:Sl sz R σ v xs):v.oneCell'=true:=by
 obtain ⟨a,b,rfl,_⟩:=h;rfl
instance:Rep H0:=⟨fun _ h=>h,fun h u hu=>by rw[h.1] at hu;simp at hu;rcases hu with rfl | rfl | rfl<;>rfl⟩
instance:Rep G9:=⟨fun _ h=>h,fun h u hu=>by rw[h.1] at hu;simp at hu;rcases hu with rfl | rfl | rfl<;>rfl⟩
instance:Rep Yo:=⟨fun _ h=>h,fun h u hu=>by rw[h.1] at hu;simp at hu;rcases hu with rfl | rfl | rfl | rfl<;>rfl⟩
instance:Rep M3:=⟨fun hk ⟨pv,cv,hv,h1,h2,h3,h4,h5⟩=>⟨pv,cv,hv,h1,h2.le hk,h3.le hk,h4.le hk,h5⟩,fun ⟨pv,cv,hv,h1,h2,h3,h4,h5⟩ u hu=>by
 rw[h1] at hu;simp at hu;rcases hu with rfl | rfl | rfl | rfl | rfl | rfl | rfl
 ·rfl
 ·exact K4 h2
 ·rfl
 ·rfl
 ·rfl
 ·exact K4 h3
 ·exact K4 h4⟩
instance:Rep V4:=⟨fun hk ⟨pv,cv,hv,h1,h2,h3,h4,h5⟩=>⟨pv,cv,hv,h1,h2.le hk,h3.le hk,h4.le hk,h5⟩,fun ⟨pv,cv,hv,h1,h2,h3,h4,h5⟩ u hu=>by
 rw[h1] at hu;simp at hu;rcases hu with rfl | rfl | rfl | rfl | rfl | rfl | rfl | rfl
 ·rfl
 ·rfl
 ·exact K4 h2
 ·rfl
 ·rfl
 ·rfl
 ·exact K4 h3
 ·exact K4 h4⟩
end Go.Emb
