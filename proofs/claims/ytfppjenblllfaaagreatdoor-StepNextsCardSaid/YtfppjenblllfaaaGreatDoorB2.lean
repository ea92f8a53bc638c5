/- Parts of a proof about the given program: its functions as texts of their own, what each computes, plain laws of that. The conditions of each stand in its statement. -/
import Derived.Test.YtfppjenblllfaaaGreatDoorB1
import Derived.Below
import Derived.Maps.AppendAt
set_option linter.unnecessarySimpa false
set_option linter.defProp false
set_option linter.unusedSectionVars false
set_option linter.unusedVariables false
set_option linter.unusedSimpArgs false
set_option maxRecDepth 100000
namespace Go.Proofs.YtfppjenblllfaaaGreatDoor
open Go.Emb
def Nd (d c:Value) (w:World) (K:Value→World→Prop):Prop:= Q3 P .eql T.b (.tmp 7) (.const (.string ⟨#[]⟩)) d (.string ⟨#[]⟩) w fun s w=>Q0 s false w (fun w J=>J c w) fun f w=>Q0 s false w (Q3 P .eql T.b (.tmp 10) (.const (.string ⟨#[]⟩)) f (.string ⟨#[]⟩)) fun t w=>pick P s (.bool true) t w fun g w=>X1 g (K d w) (X5 P .len [T.b] T.e [false] [c] w fun h w=>Q3 P .eql T.e (.tmp 15) (.const (.int .i64 1)) h (.int .i64 1) w fun b w=>Q0 b true w (fun w J=>J c w) fun n w=>Q0 b true w (E1 P T.b n (.int .i64 0)) fun l w=>Q0 b true w (Q3 P .lss T.y (.tmp 19) (.const (.int .u8 128)) l (.int .u8 128)) fun o w=>pick P b o (.bool false) w fun i w=>X1 i (E1 P T.b c (.int .i64 0) w fun q w=>Q1 P F.cQ [d,q] w fun j w=>K j w) (Q1 P F.bQ [c] w fun e w=>ext P e 0 w fun p w=>ext P e 1 w fun m w=>W7 P T.a4 w fun a w=>Z4 P T.a4 a p w fun _u w=>X1 m (Q1 P F.ae [d,a] w fun r w=>K r w) (Q1 P F.cL [d,c] w fun k w=>K k w)))
theorem Ke {a b:Value} {w:World} {K:Value→World→Prop} (h:Nd a b w K):Q1 P F.bl [a,b] w K:=Q9 (List.replicate 12 none) Tryz.func38 rfl (by decide) (by kernel_rfl) h
def Me (m f:Value) (w:World) (K:Value→World→Prop):Prop:= Q3 P .eql T.b (.tmp 6) (.const (.string ⟨#[110,117,108,108]⟩)) f (.string ⟨#[110,117,108,108]⟩) w fun l w=>X1 l (K (.bool true) w) (Q1 P F.bl [f,(.string ⟨#[91,93]⟩)] w fun k w=>Q1 P F.a1 [f] w fun a w=>Q0 a true w (fun w J=>J k w) fun i w=>Q0 a true w (Q1 P F.ab [i]) fun d w=>Q0 a true w (fun w J=>J d w) fun b w=>Q0 b false w (fun w J=>J m w) fun e w=>Q0 b false w (fun w J=>J k w) fun j w=>Q0 b false w (Q1 P F.k [e,j]) fun c w=>Q0 a true w (pick P b (.bool true) c) fun h w=>pick P a h (.bool false) w fun g w=>K g w)
theorem Is {a b:Value} {w:World} {K:Value→World→Prop} (h:Me a b w K):Q1 P F.v [a,b] w K:=Q9 (List.replicate 6 none) Tryz.func20 rfl (by decide) (by kernel_rfl) h
def Zg (c g:Value) (w:World) (K:Value→World→Prop):Prop:= Q3 P .neq T.b (.tmp 4) (.const (.string ⟨#[110,117,108,108]⟩)) c (.string ⟨#[110,117,108,108]⟩) w fun a w=>Q0 a true w (Q2 P T.r g) fun d w=>Q0 a true w (fun w J=>J c w) fun e w=>Q0 a true w (Q1 P F.v [d,e]) fun f w=>pick P a f (.bool false) w fun b w=>K b w
theorem Ek {a b:Value} {w:World} {K:Value→World→Prop} (h:Zg a b w K):Q1 P F.af [a,b] w K:=Q9 (List.replicate 2 none) Tryz.func105 rfl (by decide) (by kernel_rfl) h
def Zq (d e:Value) (w:World) (K:Value→World→Prop):Prop:= Q2 P T.z e w fun c w=>Y9 P c [d] w fun a w=>J5 P .not a w fun b w=>K b w
theorem Em {a b:Value} {w:World} {K:Value→World→Prop} (h:Zq a b w K):Q1 P F.ag [a,b] w K:=Q9 (List.replicate 2 none) Tryz.func106 rfl (by decide) (by kernel_rfl) h
def Aa (s:Value) (w:World) (K:Value→World→Prop):Prop:= box P T.c s w fun b w=>dr w fun a c=>Q7 a (fun e=> ∀w,c w→fieldAddr P T.c b 1 w (dk a e w)) fun e=>Q7 a (fun i=> ∀w,c w→fieldAddr P T.c b 2 w (dk a i w)) fun i=>Q7 a (fun d=> ∀g w,c w→e g w→Q2 P T.d g w (dk a d w)) fun d=>Q7 a (fun f=> ∀k w,c w→d k w→Q1 P F.cM [k,(.string ⟨#[44]⟩)] w (dk a f w)) fun f=>Q7 a (fun h=> ∀m w,c w→f m w→Q3 P .add T.b (.const (.string ⟨#[40]⟩)) (.tmp 5) (.string ⟨#[40]⟩) m w (dk a h w)) fun h=>Q7 a (fun o=> ∀j w,c w→h j w→Q3 P .add T.b (.tmp 6) (.const (.string ⟨#[41]⟩)) j (.string ⟨#[41]⟩) w (dk a o w)) fun o=>Q7 a (fun p=> ∀l w,c w→i l w→Q2 P T.b l w (dk a p w)) fun p=>∀g l k m j q r w,c w→e g w→i l w→d k w→f m w→h j w→o q w→p r w→ Q3 P .add T.b (.tmp 7) (.tmp 9) q r w fun n w=>K n w
theorem Q48 {a:Value} {w:World} {K:Value→World→Prop} (h:Aa a w K):Q1 P F.bR [a] w K:=Q9 (List.replicate 2 none) Tryz.func110 rfl (by decide) (by kernel_rfl) h
def Xs (Y X a2 a3:Value) (w:World) (K:Value→World→Prop):Prop:= box P T.c Y w fun b w=>Q2 P T.q X w fun Z w=>fieldAddr P T.c b 0 w fun L w=>Q2 P T.b L w fun V w=>lookup P T.q Z V true w fun C w=>ext P C 0 w fun W w=>ext P C 1 w fun f w=>dr w fun a d=>Q7 a (fun l=> ∀w,d w→fieldAddr P T.c b 0 w (dk a l w)) fun l=>Q7 a (fun p=> ∀w,d w→fieldAddr P T.c b 0 w (dk a p w)) fun p=>Q7 a (fun n=> ∀w,d w→fieldAddr P T.a a2 0 w (dk a n w)) fun n=>Q7 a (fun e=> ∀w,d w→Q2 P T.q X w (dk a e w)) fun e=>Q7 a (fun s=> ∀o w,d w→l o w→Q2 P T.b o w (dk a s w)) fun s=>Q7 a (fun A=> ∀w,d w→Q2 P T.q a3 w (dk a A w)) fun A=>Q7 a (fun z=> ∀m w,d w→p m w→Q2 P T.b m w (dk a z w)) fun z=>Q7 a (fun v=> ∀w,d w→Q2 P T.c b w (dk a v w)) fun v=>Q7 a (fun q=> ∀j w,d w→v j w→Q1 P F.bR [j] w (dk a q w)) fun q=>Q7 a (fun B=> ∀t w,d w→n t w→Q2 P T.b t w (dk a B w)) fun B=>Q7 a (fun u=> ∀c h w,d w→e c w→s h w→mapEntry P T.q c h w (dk a u w)) fun u=>Q7 a (fun i=> ∀k w,d w→u k w→ext P k 1 w (dk a i w)) fun i=>Q7 a (fun g=> ∀c r y w,d w→e c w→i r w→q y w→entryStore P T.q c r y w (dk a g w)) fun g=>∀o m t c h D E j y H k r N w,d w→l o w→p m w→n t w→e c w→s h w→A D w→z E w→v j w→q y w→B H w→u k w→i r w→g N w→ mapUpdate P T.q D E H w fun _u w=>Q0 f true w (fun w J=>J W w) fun R w=>Q0 f true w (Q2 P T.c b) fun O w=>Q0 f true w (Q1 P F.bR [O]) fun M w=>Q0 f true w (Q3 P .neq T.b (.tmp 29) (.tmp 31) R M) fun Q w=>pick P f Q (.bool false) w fun U w=>K U w
theorem Ow {b d a c:Value} {w:World} {K:Value→World→Prop} (h:Xs b d a c w K):Q1 P F.aA [b,d,a,c] w K:=Q9 (List.replicate 4 none) Tryz.func109 rfl (by decide) (by kernel_rfl) h
def Zj (e h d:Value) (w:World) (K:Value→World→Prop):Prop:= box P T.a e w fun a w=>fieldAddr P T.a a 7 w fun g w=>Q2 P T.f g w fun b w=>M4 P (.func F.aA) [] [h,a,d] w fun c w=>Q1 P F.a [b,c] w fun f w=>K f w
theorem Ey {b c a:Value} {w:World} {K:Value→World→Prop} (h:Zj b c a w K):Q1 P F.aL [b,c,a] w K:=Q9 (List.replicate 2 none) Tryz.func107 rfl (by decide) (by kernel_rfl) h
def Af (e g:Value) (w:World) (K:Value→World→Prop):Prop:= box P T.c e w fun a w=>fieldAddr P T.c a 0 w fun d w=>Q2 P T.b d w fun f w=>Q2 P T.b g w fun b w=>Q3 P .eql T.b (.tmp 5) (.tmp 6) f b w fun c w=>K c w
theorem Q4A {a b:Value} {w:World} {K:Value→World→Prop} (h:Af a b w K):Q1 P F.cR [a,b] w K:=Q9 (List.replicate 2 none) Tryz.func203 rfl (by decide) (by kernel_rfl) h
def Q1E (n q:Value) (w:World) (K:Value→World→Prop):Prop:= box P T.a n w fun b w=>box P T.b q w fun a w=>W7 P T.c w fun d w=>fieldAddr P T.a b 7 w fun m w=>Q2 P T.f m w fun p w=>M4 P (.func F.cR) [] [a] w fun o w=>Q1 P F.g [p,o] w fun c w=>Q3 P .lss T.e (.tmp 11) (.const (.int .i64 0)) c (.int .i64 0) w fun e w=>X1 e (O7 P T.c [] w fun l w=>Z4 P T.c d l w fun _u w=>V7 P T.c d w fun i=>K (.tuple #[i,(.bool false)]) w) (fieldAddr P T.a b 7 w fun h w=>Q2 P T.f h w fun f w=>indexAddr P T.f f c w fun g w=>Q2 P T.c g w fun k w=>Q1 P F.bJ [k] w fun j w=>Z4 P T.c d j w fun _u w=>V7 P T.c d w fun i=>K (.tuple #[i,(.bool true)]) w)
theorem Q6P {a b:Value} {w:World} {K:Value→World→Prop} (h:Q1E a b w K):Q1 P F.cm [a,b] w K:=Q9 (List.replicate 6 none) Tryz.func168 rfl (by decide) (by kernel_rfl) h
def Kp:V1:=[none,none,none,some ([19],[6,8,10,11,12,13,14,15,19,20,21,22,23,24,25,26,27,28,29,30,31,32,33,34,35,36,37,38,39,40,41,42,43,44,45,46,47]),none,none,none,none,none,none,none,none,none,none,none,none]
def Mz (q M L:Value) (w:World) (K:Value→World→Prop):Prop:= box P T.a M w fun e w=>W7 P T.c w fun i w=>fieldAddr P T.a e 2 w fun B w=>Q2 P T.d B w fun k w=>X5 P .len [T.d] T.e [false] [k] w fun z w=>lp (α:=Value) (.int .i64 0) w fun c v N w=>Q3 P .lss T.e (.tmp 19) (.tmp 18) v z w fun D w=>X1 D (indexAddr P T.d k v w fun s w=>Q2 P T.b s w fun h w=>Q1 P F.h [q,h] w fun C w=>Q1 P F.cm [C,L] w fun n w=>ext P n 0 w fun J w=>ext P n 1 w fun y w=>W7 P T.c w fun a w=>Z4 P T.c a J w fun _u w=>X1 y (dr w fun m j=>Q7 m (fun f=> ∀w,j w→Q2 P T.c a w (dk m f w)) fun f=>∀p w,j w→f p w→ Z4 P T.c i p w fun _u w=>V7 P T.c i w fun l=>K (.tuple #[h,l,(.bool true)]) w) (Q1 P F.h [q,h] w fun A w=>Q1 P F.aJ [q,A,L] w fun d w=>ext P d 0 w fun E w=>ext P d 1 w fun t w=>ext P d 2 w fun r w=>W7 P T.c w fun b w=>Z4 P T.c b t w fun _u w=>X1 r (dr w fun m j=>Q7 m (fun g=> ∀w,j w→Q2 P T.c b w (dk m g w)) fun g=>∀o w,j w→g o w→ Z4 P T.c i o w fun _u w=>V7 P T.c i w fun l=>K (.tuple #[E,l,(.bool true)]) w) (Q3 P .add T.e (.tmp 19) (.const (.int .i64 1)) v (.int .i64 1) w fun u w=>c u w))) (O7 P T.c [] w fun H w=>Z4 P T.c i H w fun _u w=>V7 P T.c i w fun l=>K (.tuple #[(.string ⟨#[]⟩),l,(.bool false)]) w)
theorem Ki {b c a:Value} {w:World} {K:Value→World→Prop} (h:Mz b c a w K):Q1 P F.aJ [b,c,a] w K:=Q9 Kp Tryz.func169 rfl (by decide) (by kernel_rfl) h
def Cq:V1:=[none,none,none,none,none,some ([26],[6,8,11,12,13,26,27,28,29,30,31,32,33,34,35,36,37,38,39,40]),none,none,none,none,none,none,none,none,none,some ([43],[6,8,15,16,17,18,43,44,45,46,47,48,49,50,51,52,53,54,55,56,57,58]),none,none,none,none,none,none,none,none]
def Vq (Y a1 Z:Value) (w:World) (K:Value→World→Prop):Prop:= W7 P T.c w fun q w=>Q1 P F.aI [Y,a1] w fun f w=>Q1 P F.o [f] w fun aa w=>X5 P .len [T.g] T.e [false] [f] w fun H w=>lp (α:=Value) (.int .i64 0) w fun g z d_ w=>Q3 P .lss T.e (.tmp 26) (.tmp 25) z H w fun Q w=>X1 Q (indexAddr P T.g f z w fun N w=>Q2 P T.a N w fun U w=>W7 P T.a w fun a w=>Z4 P T.a a U w fun _u w=>Q2 P T.a a w fun B w=>Q1 P F.cm [B,Z] w fun v w=>ext P v 0 w fun M w=>ext P v 1 w fun C w=>W7 P T.c w fun c w=>Z4 P T.c c M w fun _u w=>X1 C (dr w fun i k=>Q7 i (fun h=> ∀w,k w→fieldAddr P T.a a 0 w (dk i h w)) fun h=>Q7 i (fun o=> ∀j w,k w→h j w→Q2 P T.b j w (dk i o w)) fun o=>Q7 i (fun n=> ∀w,k w→Q2 P T.c c w (dk i n w)) fun n=>∀j t r w,k w→h j w→o t w→n r w→ Z4 P T.c q r w fun _u w=>V7 P T.c q w fun s=>K (.tuple #[t,s,(.bool true)]) w) (Q3 P .add T.e (.tmp 26) (.const (.int .i64 1)) z (.int .i64 1) w fun A w=>g A w)) (X5 P .len [T.g] T.e [false] [f] w fun J w=>lp (α:=Value) (.int .i64 0) w fun e p d_ w=>Q3 P .lss T.e (.tmp 43) (.tmp 42) p J w fun X w=>X1 X (indexAddr P T.g f p w fun O w=>Q2 P T.a O w fun R w=>W7 P T.a w fun b w=>Z4 P T.a b R w fun _u w=>Q2 P T.a b w fun E w=>Q1 P F.aJ [Y,E,Z] w fun m w=>ext P m 0 w fun D w=>ext P m 1 w fun W w=>ext P m 2 w fun L w=>W7 P T.c w fun d w=>Z4 P T.c d W w fun _u w=>X1 L (dr w fun i k=>Q7 i (fun l=> ∀w,k w→Q2 P T.c d w (dk i l w)) fun l=>∀u w,k w→l u w→ Z4 P T.c q u w fun _u w=>V7 P T.c q w fun s=>K (.tuple #[D,s,(.bool true)]) w) (Q3 P .add T.e (.tmp 43) (.const (.int .i64 1)) p (.int .i64 1) w fun V w=>e V w)) (O7 P T.c [] w fun y w=>Z4 P T.c q y w fun _u w=>V7 P T.c q w fun s=>K (.tuple #[(.string ⟨#[]⟩),s,(.bool false)]) w))
theorem Ca {b c a:Value} {w:World} {K:Value→World→Prop} (h:Vq b c a w K):Q1 P F.aY [b,c,a] w K:=Q9 Cq Tryz.func111 rfl (by decide) (by kernel_rfl) h
def Sj:V1:=[none,none,none,some ([21],[4,6,21,22,23,24,25,26,27,28,29,30,31,32]),none,none,none,none,none,none,none,none,none,some ([37],[4,9,37,38,39,40,41,42,43,44,45,46]),none,none,none,none,none,none,none,none,some ([50],[4,11,50,51,52,53,54,55,56,57,58,59,60,61,62,63,64,65,66,67,68,69,70]),none,none,none,none,none,none,none,none,none,none,none,none,none,none,none,some ([],[4,14,15,16,17,82,83,84,85,86,87,88,89,90,91,92,93,94,95,96,97,98,99,100]),none,none,none,none,none,none,none]
def Ue (a0 a1:Value) (w:World) (K:Value→World→Prop):Prop:= box P T.r a0 w fun v w=>box P T.a a1 w fun k w=>fieldAddr P T.a k 6 w fun W w=>Q2 P T.i W w fun p w=>X5 P .len [T.i] T.e [false] [p] w fun bh w=>lp (α:=Value) (.int .i64 0) w fun f O d_ w=>Q3 P .lss T.e (.tmp 21) (.tmp 20) O bh w fun ar w=>X1 ar (indexAddr P T.i p O w fun ae w=>Q2 P T.m ae w fun bk w=>W7 P T.m w fun t6 w=>Z4 P T.m t6 bk w fun _u w=>Q2 P T.r v w fun a5 w=>fieldAddr P T.a k 1 w fun bf w=>Q2 P T.b bf w fun bc w=>fieldAddr P T.m t6 0 w fun ac w=>Q2 P T.b ac w fun ak w=>Q1 P F.b9 [a5,bc,ak] w fun Q w=>Q3 P .geq T.e (.tmp 30) (.const (.int .i64 0)) Q (.int .i64 0) w fun aq w=>X1 aq (K (.int .i64 64) w) (Q3 P .add T.e (.tmp 21) (.const (.int .i64 1)) O (.int .i64 1) w fun bi w=>f bi w)) (M4 P (.func F.af) [] [v] w fun al w=>W7 P T.z w fun u w=>Z4 P T.z u al w fun _u w=>fieldAddr P T.a k 6 w fun a9 w=>Q2 P T.i a9 w fun o w=>X5 P .len [T.i] T.e [false] [o] w fun ap w=>lp (α:=Value) (.int .i64 0) w fun b j d_ w=>Q3 P .lss T.e (.tmp 37) (.tmp 36) j ap w fun aa w=>X1 aa (indexAddr P T.i o j w fun ax w=>Q2 P T.m ax w fun B w=>W7 P T.m w fun t9 w=>Z4 P T.m t9 B w fun _u w=>Q2 P T.z u w fun bg w=>fieldAddr P T.m t9 1 w fun a4 w=>Q2 P T.b a4 w fun D w=>Y9 P bg [D] w fun an w=>J5 P .not an w fun a8 w=>X1 a8 (K (.int .i64 65) w) (Q3 P .add T.e (.tmp 37) (.const (.int .i64 1)) j (.int .i64 1) w fun ad w=>b ad w)) (fieldAddr P T.a k 7 w fun L w=>Q2 P T.f L w fun t w=>X5 P .len [T.f] T.e [false] [t] w fun a3 w=>lp (α:=Value) (.int .i64 0) w fun a h d_ w=>Q3 P .lss T.e (.tmp 50) (.tmp 49) h a3 w fun N w=>X1 N (indexAddr P T.f t h w fun a2 w=>Q2 P T.c a2 w fun am w=>W7 P T.c w fun e w=>Z4 P T.c e am w fun _u w=>Q2 P T.z u w fun a7 w=>fieldAddr P T.c e 2 w fun aw w=>Q2 P T.b aw w fun Y w=>Y9 P a7 [Y] w fun bj w=>J5 P .not bj w fun g w=>Q0 g true w (fieldAddr P T.c e 2) fun y w=>Q0 g true w (Q2 P T.b y) fun ah w=>Q0 g true w (Q3 P .neq T.b (.tmp 61) (.const (.string ⟨#[]⟩)) ah (.string ⟨#[]⟩)) fun M w=>pick P g M (.bool false) w fun d w=>Q0 d false w (fieldAddr P T.c e 1) fun z w=>Q0 d false w (Q2 P T.d z) fun ag w=>Q0 d false w (M4 P (.func F.ag) [] [u]) fun az w=>Q0 d false w (Q1 P F.d [ag,az]) fun av w=>pick P d (.bool true) av w fun ai w=>X1 ai (K (.int .i64 65) w) (Q3 P .add T.e (.tmp 50) (.const (.int .i64 1)) h (.int .i64 1) w fun X w=>a X w)) (Ru P T.q none w fun a6 w=>Ru P T.q none w fun af w=>W7 P T.q w fun r w=>W7 P T.q w fun i w=>Z4 P T.q r a6 w fun _u w=>Z4 P T.q i af w fun _u w=>Q2 P T.r v w fun ba w=>fieldAddr P T.a k 0 w fun R w=>Q2 P T.b R w fun ay w=>M4 P (.func F.aL) [] [r,i] w fun ao w=>Q1 P F.t [ba,ay,ao] w fun bd w=>X1 bd (K (.int .i64 66) w) (fieldAddr P T.a k 4 w fun ab w=>Q2 P T.n ab w fun E w=>X1 E (K (.int .i64 0) w) (Q2 P T.q i w fun U w=>rng P T.q U w fun q w=>lp (α:=Unit) () w fun c bs d_ w=>J1 P q false T.x w fun bb w=>ext P bb 0 w fun H w=>X1 H (Q6H P q w fun C w=>ext P C 0 w fun V w=>Q2 P T.r v w fun aj w=>fieldAddr P T.a k 0 w fun bm w=>Q2 P T.b bm w fun Z w=>Q1 P F.aY [aj,Z,V] w fun m w=>ext P m 0 w fun bq w=>ext P m 1 w fun be w=>ext P m 2 w fun A w=>W7 P T.c w fun s w=>Z4 P T.c s be w fun _u w=>J5 P .not A w fun l w=>Q0 l false w (fieldAddr P T.c s 3) fun J w=>Q0 l false w (Q2 P T.n J) fun bn w=>pick P l (.bool true) bn w fun n w=>X1 n (K (.int .i64 67) w) (c () w)) (K (.int .i64 0) w))))))
theorem Si {a b:Value} {w:World} {K:Value→World→Prop} (h:Ue a b w K):Q1 P F.aQ [a,b] w K:=Q9 Sj Tryz.func51 rfl (by decide) (by kernel_rfl) h
def Q7h:V1:=[none,none,none,none,none,some ([30],[2,3,4,7,8,9,30,31,32,33,34,35,36,37,38,39,40,41,42,43,44,45,46,47,48,49,50,51,52]),none,none,none,none,none,none,none,none,none,none,some ([58],[2,3,4,10,11,58,59,60,61,62,63,64,65,66,67,68,69,70,71,72,73,74,75,76,77]),none,none,none,none,none,none,none,none,none,some ([85],[2,3,4,12,13,14,85,86,87,88,89,90,91,92,93,94,95,96,97]),none,none,none,none,none,none,none,none,none,none,none,none,none,some ([114],[2,3,4,17,18,114,115,116,117,118,119,120,121,122,123,124,125,126,127,128,129,130,131,132,133]),none,none,none,none,none,none,none,none]
def Q24 (a0:Value) (w:World) (K:Value→World→Prop):Prop:= Q1 P F.cr [] w fun a1 w=>Ru P T.w none w fun bq w=>O7 P T.v [(0,a1),(1,bq)] w fun az w=>box P T.v az w fun a w=>nilCheck P a w fun bu w=>fieldAddr P T.v bu 0 w fun bk w=>Q2 P T.g bk w fun bp w=>X5 P .len [T.g] T.e [false] [bp] w fun g w=>X5 P .len [T.g] T.e [false] [a0] w fun ba w=>lp (α:=Value) (.int .i64 0) w fun i x5 d_ w=>Q3 P .lss T.e (.tmp 30) (.tmp 29) x5 ba w fun be w=>X1 be (indexAddr P T.g a0 x5 w fun bb w=>Q2 P T.a bb w fun bn w=>W7 P T.a w fun t8 w=>Z4 P T.a t8 bn w fun _u w=>Q2 P T.a t8 w fun ax w=>Q1 P F.cb [ax] w fun aa w=>Q3 P .neq T.s (.tmp 37) (.const (.int .i64 0)) aa (.int .i64 0) w fun a6 w=>X1 a6 (K (.tuple #[(.pointer none),x5,aa]) w) (dr w fun b c=>Q7 b (fun v=> ∀w,c w→nilCheck P a w (dk b v w)) fun v=>Q7 b (fun k=> ∀j w,c w→v j w→fieldAddr P T.v j 0 w (dk b k w)) fun k=>Q7 b (fun H=> ∀r w,c w→k r w→Q2 P T.g r w (dk b H w)) fun H=>Q7 b (fun q=> ∀w,c w→Q2 P T.a t8 w (dk b q w)) fun q=>Q7 b (fun z=> ∀o w,c w→q o w→Q1 P F.cc [o] w (dk b z w)) fun z=>Q7 b (fun E=> ∀l w,c w→z l w→buildSlice P T.g 1 [(0,l)] w (dk b E w)) fun E=>∀j r aj o l an w,c w→v j w→k r w→H aj w→q o w→z l w→E an w→ X5 P .append [T.g,T.g] T.g [false,false] [aj,an] w fun bj w=>nilCheck P a w fun bh w=>fieldAddr P T.v bh 0 w fun a3 w=>Z4 P T.g a3 bj w fun _u w=>Q3 P .add T.e (.tmp 30) (.const (.int .i64 1)) x5 (.int .i64 1) w fun bi w=>i bi w)) (nilCheck P a w fun bm w=>fieldAddr P T.v bm 0 w fun bg w=>Q2 P T.g bg w fun U w=>X5 P .len [T.g] T.e [false] [U] w fun bs w=>lp (α:=Value) (.int .i64 0) w fun e h d_ w=>Q3 P .lss T.e (.tmp 58) (.tmp 57) h bs w fun bf w=>X1 bf (indexAddr P T.g U h w fun a8 w=>Q2 P T.a a8 w fun a2 w=>W7 P T.a w fun M w=>Z4 P T.a M a2 w fun _u w=>fieldAddr P T.a M 0 w fun bd w=>Q2 P T.b bd w fun ar w=>Q1 P F.k [a,ar] w fun a7 w=>X1 a7 (Q3 P .sub T.e (.tmp 67) (.tmp 68) h g w fun a9 w=>K (.tuple #[(.pointer none),a9,(.int .i64 60)]) w) (dr w fun b c=>Q7 b (fun s=> ∀w,c w→nilCheck P a w (dk b s w)) fun s=>Q7 b (fun u=> ∀t w,c w→s t w→fieldAddr P T.v t 1 w (dk b u w)) fun u=>Q7 b (fun y=> ∀w,c w→fieldAddr P T.a M 0 w (dk b y w)) fun y=>Q7 b (fun L=> ∀p w,c w→u p w→Q2 P T.w p w (dk b L w)) fun L=>Q7 b (fun J=> ∀n w,c w→y n w→Q2 P T.b n w (dk b J w)) fun J=>∀t p n ak ae w,c w→s t w→u p w→y n w→L ak w→J ae w→ mapUpdate P T.w ak ae h w fun _u w=>Q3 P .add T.e (.tmp 58) (.const (.int .i64 1)) h (.int .i64 1) w fun bo w=>e bo w)) (nilCheck P a w fun ay w=>fieldAddr P T.v ay 0 w fun a4 w=>Q2 P T.g a4 w fun bc w=>E9 P T.g bc (some g) none none w fun R w=>X5 P .len [T.g] T.e [false] [R] w fun aw w=>lp (α:=Value) (.int .i64 0) w fun d m d_ w=>Q3 P .lss T.e (.tmp 85) (.tmp 84) m aw w fun bl w=>X1 bl (indexAddr P T.g R m w fun bz w=>Q2 P T.a bz w fun a5 w=>W7 P T.a w fun ap w=>Z4 P T.a ap a5 w fun _u w=>Q2 P T.a ap w fun bw w=>Q1 P F.aW [a,bw] w fun W w=>Q3 P .neq T.s (.tmp 93) (.const (.int .i64 0)) W (.int .i64 0) w fun av w=>X1 av (K (.tuple #[(.pointer none),m,W]) w) (Q3 P .add T.e (.tmp 85) (.const (.int .i64 1)) m (.int .i64 1) w fun br w=>d br w)) (nilCheck P a w fun b0 w=>fieldAddr P T.v b0 0 w fun Q w=>Q2 P T.g Q w fun ag w=>E9 P T.g ag (some g) none none w fun af w=>M4 P (.func F.b4) [a] [] w fun ab w=>Q1 P F.n [af,ab] w fun D w=>Q3 P .geq T.e (.tmp 107) (.const (.int .i64 0)) D (.int .i64 0) w fun am w=>X1 am (K (.tuple #[(.pointer none),D,(.int .i64 63)]) w) (Q1 P F.b5 [a,g] w fun B w=>X5 P .len [T.t] T.e [false] [B] w fun O w=>lp (α:=Value) (.int .i64 0) w fun f N d_ w=>Q3 P .lss T.e (.tmp 114) (.tmp 113) N O w fun ai w=>X1 ai (indexAddr P T.t B N w fun X w=>Q2 P T.e X w fun A w=>nilCheck P a w fun ad w=>fieldAddr P T.v ad 0 w fun V w=>Q2 P T.g V w fun ao w=>indexAddr P T.g ao A w fun Y w=>Q2 P T.a Y w fun ah w=>Q1 P F.aQ [a,ah] w fun C w=>Q3 P .neq T.s (.tmp 127) (.const (.int .i64 0)) C (.int .i64 0) w fun ac w=>X1 ac (Q3 P .sub T.e (.tmp 129) (.tmp 130) A g w fun al w=>K (.tuple #[(.pointer none),al,C]) w) (Q3 P .add T.e (.tmp 114) (.const (.int .i64 1)) N (.int .i64 1) w fun Z w=>f Z w)) (K (.tuple #[a,(.int .i64 0),(.int .i64 0)]) w)))))
theorem Q7o {a:Value} {w:World} {K:Value→World→Prop} (h:Q24 a w K):Q1 P F.cI [a] w K:=Q9 Q7h Tryz.func25 rfl (by decide) (by kernel_rfl) h
def Jx (w:World) (K:Value→World→Prop):Prop:= O7 P T.l [(0,(.string ⟨#[105,110,116]⟩)),(1,(.int .i64 1))] w fun r w=>O7 P T.l [(0,(.string ⟨#[114,101,116,117,114,110]⟩))] w fun o w=>buildSlice P T.k 2 [(0,r),(1,o)] w fun q w=>O7 P T.m [(0,(.string ⟨#[120]⟩)),(1,(.string ⟨#[105,110,116]⟩))] w fun t w=>O7 P T.m [(0,(.string ⟨#[110,101,120,116]⟩)),(1,(.string ⟨#[65]⟩))] w fun p w=>buildSlice P T.i 2 [(0,t),(1,p)] w fun n w=>buildSlice P T.d 2 [(0,(.string ⟨#[105,110,116]⟩)),(1,(.string ⟨#[65]⟩))] w fun s w=>O7 P T.c [(0,(.string ⟨#[102]⟩)),(1,s),(2,(.string ⟨#[105,110,116]⟩)),(4,(.int .i64 3)),(5,q)] w fun a w=>O7 P T.l [(0,(.string ⟨#[114,101,116,117,114,110]⟩))] w fun k w=>buildSlice P T.k 1 [(0,k)] w fun b w=>O7 P T.c [(0,(.string ⟨#[103]⟩)),(4,(.int .i64 1)),(5,b)] w fun l w=>buildSlice P T.f 2 [(0,a),(1,l)] w fun e w=>O7 P T.a [(0,(.string ⟨#[65]⟩)),(1,(.string ⟨#[79,98,106,101,99,116]⟩)),(6,n),(7,e)] w fun c w=>buildSlice P T.d 1 [(0,(.string ⟨#[73]⟩))] w fun i w=>O7 P T.m [(0,(.string ⟨#[108]⟩)),(1,(.string ⟨#[65,91,93]⟩))] w fun d w=>buildSlice P T.i 1 [(0,d)] w fun h w=>O7 P T.a [(0,(.string ⟨#[66]⟩)),(1,(.string ⟨#[65]⟩)),(2,i),(6,h)] w fun g w=>O7 P T.a [(0,(.string ⟨#[73]⟩)),(1,(.string ⟨#[79,98,106,101,99,116]⟩)),(3,(.bool true)),(4,(.bool true))] w fun j w=>O7 P T.a [(0,(.string ⟨#[68]⟩)),(1,(.string ⟨#[79,98,106,101,99,116]⟩)),(4,(.bool true))] w fun f w=>buildSlice P T.g 4 [(0,c),(1,g),(2,j),(3,f)] w fun m w=>K m w
theorem St {w:World} {K:Value→World→Prop} (h:Jx w K):Q1 P F.au [] w K:=Q9 (List.replicate 3 none) Tryz.func26 rfl (by decide) (by kernel_rfl) h
def Fy:V1:=[none,none,none,none,none,some ([1,3],[1,3,10,11,12,13,14,15,16,17,18,19,20,21,22,23]),none,none,none,none]
def Lg (w:World) (K:Value→World→Prop):Prop:= O7 P T.a [(0,(.string ⟨#[79,98,106,101,99,116]⟩))] w fun n w=>O7 P T.m [(0,(.string ⟨#[119,104,97,116]⟩)),(1,(.string ⟨#[116,101,120,116]⟩))] w fun p w=>buildSlice P T.i 1 [(0,p)] w fun m w=>O7 P T.a [(0,(.string ⟨#[70,97,117,108,116]⟩)),(1,(.string ⟨#[79,98,106,101,99,116]⟩)),(6,m)] w fun l w=>buildSlice P T.g 2 [(0,n),(1,l)] w fun o w=>buildSlice P T.d 6 [(0,(.string ⟨#[78,117,108,108,70,97,117,108,116]⟩)),(1,(.string ⟨#[73,110,100,101,120,70,97,117,108,116]⟩)),(2,(.string ⟨#[67,97,115,116,70,97,117,108,116]⟩)),(3,(.string ⟨#[90,101,114,111,70,97,117,108,116]⟩)),(4,(.string ⟨#[82,111,111,109,70,97,117,108,116]⟩)),(5,(.string ⟨#[67,97,108,108,70,97,117,108,116]⟩))] w fun k w=>lp (α:=Value×Value) (o,(.int .i64 0)) w fun a b q w=>X5 P .len [T.d] T.e [false] [k] w fun c w=>Q3 P .lss T.e (.tmp 10) (.tmp 12) b.2 c w fun i w=>X1 i (indexAddr P T.d k b.2 w fun f w=>Q2 P T.b f w fun g w=>O7 P T.a [(0,g),(1,(.string ⟨#[70,97,117,108,116]⟩)),(5,(.bool true))] w fun e w=>buildSlice P T.g 1 [(0,e)] w fun j w=>X5 P .append [T.g,T.g] T.g [false,false] [b.1,j] w fun h w=>Q3 P .add T.e (.tmp 14) (.const (.int .i64 1)) b.2 (.int .i64 1) w fun d w=>a (h,d) w) (K b.1 w)
theorem Fj {w:World} {K:Value→World→Prop} (h:Lg w K):Q1 P F.b6 [] w K:=Q9 Fy Tryz.func52 rfl (by decide) (by kernel_rfl) h
def Kx:V1:=[none,none,none,some ([3],[2,3,4,5,6,7,8,9,10,11,12,13,14,15,16,17,18,19,20,21,22,23,24,25,26,27,28,29,30,31,32,33,34,35,36,37]),none,none,none,none,none,none,none]
def Mt (Z:Value) (w:World) (K:Value→World→Prop):Prop:= box P T.a Z w fun b w=>lp (α:=Value) (.int .i64 0) w fun g y d_ w=>fieldAddr P T.a b 7 w fun t6 w=>Q2 P T.f t6 w fun Y w=>X5 P .len [T.f] T.e [false] [Y] w fun t8 w=>Q3 P .lss T.e (.tmp 5) (.tmp 8) y t8 w fun t9 w=>X1 t9 (fieldAddr P T.a b 7 w fun k w=>Q2 P T.f k w fun V w=>indexAddr P T.f V y w fun l w=>Q2 P T.c l w fun E w=>W7 P T.c w fun a w=>Z4 P T.c a E w fun _u w=>fieldAddr P T.c a 1 w fun n w=>Q2 P T.d n w fun A w=>X5 P .len [T.d] T.e [false] [A] w fun u w=>Q3 P .gtr T.e (.tmp 19) (.const (.int .i64 32)) u (.int .i64 32) w fun e w=>Q0 e false w (fieldAddr P T.c a 6) fun i w=>Q0 e false w (Q2 P T.o i) fun M w=>Q0 e false w (X5 P .len [T.o] T.e [false] [M]) fun O w=>Q0 e false w (Q3 P .gtr T.e (.tmp 24) (.const (.int .i64 32)) O (.int .i64 32)) fun t w=>pick P e (.bool true) t w fun d w=>Q0 d false w (fieldAddr P T.c a 5) fun D w=>Q0 d false w (Q2 P T.k D) fun N w=>Q0 d false w (X5 P .len [T.k] T.e [false] [N]) fun z w=>Q0 d false w (Q3 P .gtr T.e (.tmp 30) (.const (.int .i64 200)) z (.int .i64 200)) fun X w=>pick P d (.bool true) X w fun h w=>Q0 h false w (fieldAddr P T.c a 4) fun B w=>Q0 h false w (Q2 P T.e B) fun p w=>Q0 h false w (Q3 P .gtr T.e (.tmp 35) (.const (.int .i64 64)) p (.int .i64 64)) fun W w=>pick P h (.bool true) W w fun J w=>X1 J (K (.bool true) w) (Q3 P .add T.e (.tmp 10) (.const (.int .i64 1)) y (.int .i64 1) w fun U w=>g U w)) (fieldAddr P T.a b 2 w fun C w=>Q2 P T.d C w fun m w=>X5 P .len [T.d] T.e [false] [m] w fun j w=>Q3 P .gtr T.e (.tmp 40) (.const (.int .i64 32)) j (.int .i64 32) w fun f w=>Q0 f false w (fieldAddr P T.a b 6) fun q w=>Q0 f false w (Q2 P T.i q) fun R w=>Q0 f false w (X5 P .len [T.i] T.e [false] [R]) fun H w=>Q0 f false w (Q3 P .gtr T.e (.tmp 45) (.const (.int .i64 32)) H (.int .i64 32)) fun L w=>pick P f (.bool true) L w fun c w=>Q0 c false w (fieldAddr P T.a b 7) fun s w=>Q0 c false w (Q2 P T.f s) fun o w=>Q0 c false w (X5 P .len [T.f] T.e [false] [o]) fun v w=>Q0 c false w (Q3 P .gtr T.e (.tmp 51) (.const (.int .i64 32)) v (.int .i64 32)) fun r w=>pick P c (.bool true) r w fun Q w=>K Q w)
theorem Kv {a:Value} {w:World} {K:Value→World→Prop} (h:Mt a w K):Q1 P F.bn [a] w K:=Q9 Kx Tryz.func112 rfl (by decide) (by kernel_rfl) h
def Gf:V1:=[none,none,none,some ([4],[4,5,6,7]),none,none,none,none]
def Ll (b:Value) (w:World) (K:Value→World→Prop):Prop:= jn (α:=Value) w (fun a w=>Q3 P .eql T.b (.tmp 3) (.const (.string ⟨#[105,110,116]⟩)) b (.string ⟨#[105,110,116]⟩) w fun d w=>X1 d (a d w) (Q3 P .eql T.b (.tmp 3) (.const (.string ⟨#[98,111,111,108]⟩)) b (.string ⟨#[98,111,111,108]⟩) w fun c w=>X1 c (a c w) (Q3 P .eql T.b (.tmp 3) (.const (.string ⟨#[116,101,120,116]⟩)) b (.string ⟨#[116,101,120,116]⟩) w fun e w=>a e w))) fun f g w=>X1 f (K (.bool true) w) (K (.bool false) w)
theorem Bs {a:Value} {w:World} {K:Value→World→Prop} (h:Ll a w K):Q1 P F.ac [a] w K:=Q9 Gf Tryz.func62 rfl (by decide) (by kernel_rfl) h
def Kw:V1:=[none,none,none,some ([3],[2,3,4,5,6,7,8,9,10,11,12,13,14,15,16,17,18,19,20,21,22,23,24,25,26,27,28,29,30,31,32,33,34,35,36,37,38,39,40,41,42,43,44,45,46,47,48,49,50]),none,none,none,none,none,none,none]
def Mn (h:Value) (w:World) (K:Value→World→Prop):Prop:= lp (α:=Value) (.int .i64 0) w fun g i d_ w=>X5 P .len [T.b] T.e [false] [h] w fun t7 w=>Q3 P .lss T.e (.tmp 5) (.tmp 7) i t7 w fun t8 w=>X1 t8 (E1 P T.b h i w fun Z w=>Q3 P .geq T.y (.tmp 13) (.const (.int .u8 97)) Z (.int .u8 97) w fun c w=>Q0 c true w (fun w J=>J h w) fun E w=>Q0 c true w (fun w J=>J i w) fun p w=>Q0 c true w (E1 P T.b E p) fun C w=>Q0 c true w (Q3 P .leq T.y (.tmp 18) (.const (.int .u8 122)) C (.int .u8 122)) fun y w=>pick P c y (.bool false) w fun b w=>Q0 b false w (fun w J=>J h w) fun l w=>Q0 b false w (fun w J=>J i w) fun R w=>Q0 b false w (E1 P T.b l R) fun Y w=>Q0 b false w (Q3 P .geq T.y (.tmp 24) (.const (.int .u8 65)) Y (.int .u8 65)) fun u w=>Q0 b false w (fun w J=>J u w) fun e w=>Q0 e true w (fun w J=>J h w) fun L w=>Q0 e true w (fun w J=>J i w) fun D w=>Q0 e true w (E1 P T.b L D) fun W w=>Q0 e true w (Q3 P .leq T.y (.tmp 29) (.const (.int .u8 90)) W (.int .u8 90)) fun A w=>Q0 b false w (pick P e A (.bool false)) fun ab w=>pick P b (.bool true) ab w fun O w=>J5 P .not O w fun a w=>Q0 a true w (fun w J=>J i w) fun aa w=>Q0 a true w (Q3 P .eql T.e (.tmp 36) (.const (.int .i64 0)) aa (.int .i64 0)) fun M w=>Q0 a true w (fun w J=>J M w) fun d w=>Q0 d false w (fun w J=>J h w) fun o w=>Q0 d false w (fun w J=>J i w) fun m w=>Q0 d false w (E1 P T.b o m) fun Q w=>Q0 d false w (Q3 P .lss T.y (.tmp 41) (.const (.int .u8 48)) Q (.int .u8 48)) fun v w=>Q0 a true w (pick P d (.bool true) v) fun r w=>Q0 a true w (fun w J=>J r w) fun f w=>Q0 f false w (fun w J=>J h w) fun H w=>Q0 f false w (fun w J=>J i w) fun N w=>Q0 f false w (E1 P T.b H N) fun z w=>Q0 f false w (Q3 P .gtr T.y (.tmp 47) (.const (.int .u8 57)) z (.int .u8 57)) fun U w=>Q0 a true w (pick P f (.bool true) U) fun t w=>pick P a t (.bool false) w fun q w=>X1 q (K (.bool false) w) (Q3 P .add T.e (.tmp 9) (.const (.int .i64 1)) i (.int .i64 1) w fun k w=>g k w)) (X5 P .len [T.b] T.e [false] [h] w fun s w=>Q3 P .geq T.e (.tmp 52) (.const (.int .i64 1)) s (.int .i64 1) w fun j w=>Q0 j true w (fun w J=>J h w) fun n w=>Q0 j true w (X5 P .len [T.b] T.e [false] [n]) fun B w=>Q0 j true w (Q3 P .leq T.e (.tmp 56) (.const (.int .i64 32)) B (.int .i64 32)) fun V w=>pick P j V (.bool false) w fun X w=>K X w)
theorem Kl {a:Value} {w:World} {K:Value→World→Prop} (h:Mn a w K):Q1 P F.aK [a] w K:=Q9 Kw Tryz.func204 rfl (by decide) (by kernel_rfl) h
def Wn (b:Value) (w:World) (K:Value→World→Prop):Prop:= Q1 P F.aK [b] w fun a w=>Q0 a true w (fun w J=>J b w) fun c w=>Q0 a true w (E1 P T.b c (.int .i64 0)) fun d w=>Q0 a true w (Q3 P .leq T.y (.tmp 7) (.const (.int .u8 90)) d (.int .u8 90)) fun e w=>pick P a e (.bool false) w fun f w=>K f w
theorem Bm {a:Value} {w:World} {K:Value→World→Prop} (h:Wn a w K):Q1 P F.e [a] w K:=Q9 (List.replicate 2 none) Tryz.func170 rfl (by decide) (by kernel_rfl) h
def Ka:V1:=[none,none,none,some ([0,3],[0,3,4,5,6,7,8,9,10,11,12,13,14,15,16,17,18,19,20,21]),none,none,none,none]
def Mf (m:Value) (w:World) (K:Value→World→Prop):Prop:= lp (α:=Value×Value) (m,(.int .i64 0)) w fun a b q w=>X5 P .len [T.b] T.e [false] [b.1] w fun p w=>Q3 P .geq T.e (.tmp 5) (.const (.int .i64 2)) p (.int .i64 2) w fun c w=>Q0 c true w (fun w J=>J b.1 w) fun o w=>Q0 c true w (fun w J=>J b.1 w) fun n w=>Q0 c true w (X5 P .len [T.b] T.e [false] [n]) fun d w=>Q0 c true w (Q3 P .sub T.e (.tmp 10) (.const (.int .i64 2)) d (.int .i64 2)) fun k w=>Q0 c true w (E9 P T.b o (some k) none none) fun e w=>Q0 c true w (Q3 P .eql T.b (.tmp 12) (.const (.string ⟨#[91,93]⟩)) e (.string ⟨#[91,93]⟩)) fun l w=>pick P c l (.bool false) w fun f w=>X1 f (Q3 P .add T.e (.tmp 15) (.const (.int .i64 1)) b.2 (.int .i64 1) w fun i w=>X5 P .len [T.b] T.e [false] [b.1] w fun h w=>Q3 P .sub T.e (.tmp 19) (.const (.int .i64 2)) h (.int .i64 2) w fun j w=>E9 P T.b b.1 none (some j) none w fun g w=>a (g,i) w) (K b.2 w)
theorem Kg {a:Value} {w:World} {K:Value→World→Prop} (h:Mf a w K):Q1 P F.ak [a] w K:=Q9 Ka Tryz.func177 rfl (by decide) (by kernel_rfl) h
def Wb (e:Value) (w:World) (K:Value→World→Prop):Prop:= Q1 P F.ak [e] w fun m w=>X5 P .len [T.b] T.e [false] [e] w fun n w=>Q3 P .mul T.e (.const (.int .i64 2)) (.tmp 10) (.int .i64 2) m w fun i w=>Q3 P .sub T.e (.tmp 9) (.tmp 11) n i w fun g w=>E9 P T.b e none (some g) none w fun c w=>Q3 P .leq T.e (.tmp 14) (.const (.int .i64 3)) m (.int .i64 3) w fun a w=>Q0 a true w (fun w J=>J c w) fun j w=>Q0 a true w (Q1 P F.ac [j]) fun d w=>Q0 a true w (fun w J=>J d w) fun b w=>Q0 b false w (fun w J=>J c w) fun h w=>Q0 b false w (Q1 P F.e [h]) fun f w=>Q0 a true w (pick P b (.bool true) f) fun l w=>pick P a l (.bool false) w fun k w=>K k w
theorem Gx {a:Value} {w:World} {K:Value→World→Prop} (h:Wb a w K):Q1 P F.i [a] w K:=Q9 (List.replicate 4 none) Tryz.func120 rfl (by decide) (by kernel_rfl) h
def Vs (b:Value) (w:World) (K:Value→World→Prop):Prop:= Q1 P F.aK [b] w fun a w=>Q0 a true w (fun w J=>J b w) fun c w=>Q0 a true w (E1 P T.b c (.int .i64 0)) fun d w=>Q0 a true w (Q3 P .geq T.y (.tmp 7) (.const (.int .u8 97)) d (.int .u8 97)) fun e w=>pick P a e (.bool false) w fun f w=>K f w
theorem Cv {a:Value} {w:World} {K:Value→World→Prop} (h:Vs a w K):Q1 P F.r [a] w K:=Q9 (List.replicate 2 none) Tryz.func171 rfl (by decide) (by kernel_rfl) h
end Go.Proofs.YtfppjenblllfaaaGreatDoor

set_option maxRecDepth 100000
namespace Go.Proofs.YtfppjenblllfaaaGreatDoor
open Go.Emb
def Ol (w:World) (K:Value→World→Prop):Prop:= buildSlice P T.d 42 [(0,(.string ⟨#[105,110,116]⟩)),(1,(.string ⟨#[116,114,117,101]⟩)),(2,(.string ⟨#[102,97,108,115,101]⟩)),(3,(.string ⟨#[119,111,114,100]⟩)),(4,(.string ⟨#[110,117,108,108]⟩)),(5,(.string ⟨#[108,111,97,100]⟩)),(6,(.string ⟨#[115,116,111,114,101]⟩)),(7,(.string ⟨#[112,111,112]⟩)),(8,(.string ⟨#[100,117,112]⟩)),(9,(.string ⟨#[115,119,97,112]⟩)),(10,(.string ⟨#[97,100,100]⟩)),(11,(.string ⟨#[115,117,98]⟩)),(12,(.string ⟨#[109,117,108]⟩)),(13,(.string ⟨#[100,105,118]⟩)),(14,(.string ⟨#[114,101,109]⟩)),(15,(.string ⟨#[110,101,103]⟩)),(16,(.string ⟨#[108,101,115,115]⟩)),(17,(.string ⟨#[115,97,109,101]⟩)),(18,(.string ⟨#[110,111,116]⟩)),(19,(.string ⟨#[98,111,116,104]⟩)),(20,(.string ⟨#[106,111,105,110]⟩)),(21,(.string ⟨#[115,105,122,101]⟩)),(22,(.string ⟨#[106,117,109,112]⟩)),(23,(.string ⟨#[98,114,97,110,99,104]⟩)),(24,(.string ⟨#[110,101,119]⟩)),(25,(.string ⟨#[103,101,116]⟩)),(26,(.string ⟨#[112,117,116]⟩)),(27,(.string ⟨#[99,97,108,108]⟩)),(28,(.string ⟨#[97,114,114,97,121]⟩)),(29,(.string ⟨#[97,116]⟩)),(30,(.string ⟨#[115,101,116]⟩)),(31,(.string ⟨#[105,115]⟩)),(32,(.string ⟨#[99,97,115,116]⟩)),(33,(.string ⟨#[114,101,116,117,114,110]⟩)),(34,(.string ⟨#[116,104,114,111,119]⟩)),(35,(.string ⟨#[111,117,116]⟩)),(36,(.string ⟨#[101,113,117,97,108]⟩)),(37,(.string ⟨#[97,110,100]⟩)),(38,(.string ⟨#[111,114]⟩)),(39,(.string ⟨#[120,111,114]⟩)),(40,(.string ⟨#[115,104,108]⟩)),(41,(.string ⟨#[115,104,114]⟩))] w fun a w=>K a w
theorem Aw {w:World} {K:Value→World→Prop} (h:Ol w K):Q1 P F.bu [] w K:=Q9 (List.replicate 2 none) Tryz.func63 rfl (by decide) (by kernel_rfl) h
def Bb:V1:=[none,none,none,none,some ([4],[2,4,6,7,8,9,10,11,12,13,14,15,16,17,18]),none,none,none,none,none,none]
def Vo (h:Value) (w:World) (K:Value→World→Prop):Prop:= Q1 P F.bu [] w fun g w=>lp (α:=Value) (.int .i64 0) w fun a b k w=>X5 P .len [T.d] T.e [false] [g] w fun i w=>Q3 P .lss T.e (.tmp 6) (.tmp 8) b i w fun j w=>X1 j (indexAddr P T.d g b w fun c w=>Q2 P T.b c w fun d w=>Q3 P .eql T.b (.tmp 15) (.tmp 16) d h w fun f w=>X1 f (K b w) (Q3 P .add T.e (.tmp 10) (.const (.int .i64 1)) b (.int .i64 1) w fun e w=>a e w)) (K (.int .i64 (-1)) w)
theorem Bd {a:Value} {w:World} {K:Value→World→Prop} (h:Vo a w K):Q1 P F.aV [a] w K:=Q9 Bb Tryz.func34 rfl (by decide) (by kernel_rfl) h
def Gs:V1:=[none,none,none,some ([4],[4,5,6,7,8,9]),none,none,none,none,none,some ([10],[10,11,12,13,14,15,16,17,18]),none,none,none,none,none,none,none,none,none,none,none,none]
def Lr (a:Value) (w:World) (K:Value→World→Prop):Prop:= jn (α:=Value) w (fun f w=>Q3 P .eql T.b (.tmp 3) (.const (.string ⟨#[105,110,116]⟩)) a (.string ⟨#[105,110,116]⟩) w fun q w=>X1 q (f q w) (Q3 P .eql T.b (.tmp 3) (.const (.string ⟨#[108,111,97,100]⟩)) a (.string ⟨#[108,111,97,100]⟩) w fun o w=>X1 o (f o w) (Q3 P .eql T.b (.tmp 3) (.const (.string ⟨#[115,116,111,114,101]⟩)) a (.string ⟨#[115,116,111,114,101]⟩) w fun n w=>X1 n (f n w) (Q3 P .eql T.b (.tmp 3) (.const (.string ⟨#[106,117,109,112]⟩)) a (.string ⟨#[106,117,109,112]⟩) w fun p w=>X1 p (f p w) (Q3 P .eql T.b (.tmp 3) (.const (.string ⟨#[98,114,97,110,99,104]⟩)) a (.string ⟨#[98,114,97,110,99,104]⟩) w fun r w=>f r w))))) fun t u w=>X1 t (K (.int .i64 1) w) (jn (α:=Value) w (fun b w=>Q3 P .eql T.b (.tmp 3) (.const (.string ⟨#[119,111,114,100]⟩)) a (.string ⟨#[119,111,114,100]⟩) w fun i w=>X1 i (b i w) (Q3 P .eql T.b (.tmp 3) (.const (.string ⟨#[110,101,119]⟩)) a (.string ⟨#[110,101,119]⟩) w fun c w=>X1 c (b c w) (Q3 P .eql T.b (.tmp 3) (.const (.string ⟨#[103,101,116]⟩)) a (.string ⟨#[103,101,116]⟩) w fun j w=>X1 j (b j w) (Q3 P .eql T.b (.tmp 3) (.const (.string ⟨#[112,117,116]⟩)) a (.string ⟨#[112,117,116]⟩) w fun g w=>X1 g (b g w) (Q3 P .eql T.b (.tmp 3) (.const (.string ⟨#[99,97,108,108]⟩)) a (.string ⟨#[99,97,108,108]⟩) w fun d w=>X1 d (b d w) (Q3 P .eql T.b (.tmp 3) (.const (.string ⟨#[97,114,114,97,121]⟩)) a (.string ⟨#[97,114,114,97,121]⟩) w fun h w=>X1 h (b h w) (Q3 P .eql T.b (.tmp 3) (.const (.string ⟨#[105,115]⟩)) a (.string ⟨#[105,115]⟩) w fun e w=>X1 e (b e w) (Q3 P .eql T.b (.tmp 3) (.const (.string ⟨#[99,97,115,116]⟩)) a (.string ⟨#[99,97,115,116]⟩) w fun l w=>b l w)))))))) fun s u w=>X1 s (K (.int .i64 2) w) (Q1 P F.aV [a] w fun m w=>Q3 P .lss T.e (.tmp 20) (.const (.int .i64 0)) m (.int .i64 0) w fun k w=>X1 k (K (.int .i64 (-1)) w) (K (.int .i64 0) w)))
theorem Fz {a:Value} {w:World} {K:Value→World→Prop} (h:Lr a w K):Q1 P F.b3 [a] w K:=Q9 Gs Tryz.func18 rfl (by decide) (by kernel_rfl) h
def Lt (f m:Value) (w:World) (K:Value→World→Prop):Prop:= X5 P .len [T.b] T.e [false] [f] w fun n w=>Q3 P .lss T.e (.tmp 5) (.tmp 7) m n w fun b w=>Q0 b true w (fun w J=>J f w) fun c w=>Q0 b true w (fun w J=>J m w) fun j w=>Q0 b true w (E1 P T.b c j) fun g w=>Q0 b true w (Q3 P .geq T.y (.tmp 12) (.const (.int .u8 128)) g (.int .u8 128)) fun l w=>pick P b l (.bool false) w fun a w=>Q0 a true w (fun w J=>J f w) fun d w=>Q0 a true w (fun w J=>J m w) fun k w=>Q0 a true w (E1 P T.b d k) fun e w=>Q0 a true w (Q3 P .lss T.y (.tmp 18) (.const (.int .u8 192)) e (.int .u8 192)) fun i w=>pick P a i (.bool false) w fun h w=>K h w
theorem Bw {a b:Value} {w:World} {K:Value→World→Prop} (h:Lt a b w K):Q1 P F.p [a,b] w K:=Q9 (List.replicate 2 none) Tryz.func242 rfl (by decide) (by kernel_rfl) h
def Km:V1:=[none,none,some ([],[2,4,5,9,10,11,12,13,14,15,16,17,18,19,20,21,22,23,24,25,26,27,28,29,30,31,32,33,34,35,36,37,38,39,40,41,42,43,44,45,46,47,48,49,50,51,52,53,54,55,56,57,58,59,60,61,62,63,64,65,66,67,68,69,70,71,72,73,74,75,76,77,78,79,80,81,82,83,84,85,86,87,88,89,90,91,92,93,94,95,96,97,98,99,100,101,102,103,104,105,106]),none,none,none,none,none,none,none,none,none,none,none,none,none]
def My (c:Value) (w:World) (K:Value→World→Prop):Prop:= E1 P T.b c (.int .i64 0) w fun t7 w=>conv P T.y T.e t7 w fun t8 w=>jn (α:=Unit) w (fun J2 w=>Q3 P .lss T.e (.tmp 10) (.const (.int .i64 128)) t8 (.int .i64 128) w fun bk w=>X1 bk (K (.int .i64 1) w) (Q3 P .geq T.e (.tmp 13) (.const (.int .i64 194)) t8 (.int .i64 194) w fun ah w=>Q0 ah true w (fun w J=>J t8 w) fun bu w=>Q0 ah true w (Q3 P .lss T.e (.tmp 16) (.const (.int .i64 224)) bu (.int .i64 224)) fun a8 w=>pick P ah a8 (.bool false) w fun ak w=>Q0 ak true w (fun w J=>J c w) fun bw w=>Q0 ak true w (Q1 P F.p [bw,(.int .i64 1)]) fun bb w=>pick P ak bb (.bool false) w fun bn w=>X1 bn (K (.int .i64 2) w) (Q3 P .geq T.e (.tmp 24) (.const (.int .i64 224)) t8 (.int .i64 224) w fun ax w=>Q0 ax true w (fun w J=>J t8 w) fun bv w=>Q0 ax true w (Q3 P .lss T.e (.tmp 27) (.const (.int .i64 240)) bv (.int .i64 240)) fun bh w=>pick P ax bh (.bool false) w fun ao w=>Q0 ao true w (fun w J=>J c w) fun bm w=>Q0 ao true w (Q1 P F.p [bm,(.int .i64 1)]) fun bx w=>pick P ao bx (.bool false) w fun aq w=>Q0 aq true w (fun w J=>J c w) fun a9 w=>Q0 aq true w (Q1 P F.p [a9,(.int .i64 2)]) fun bl w=>pick P aq bl (.bool false) w fun b1 w=>X1 b1 (dr w fun a b=>Q7 a (fun O=> ∀w,b w→Q3 P .rem T.e (.tmp 38) (.const (.int .i64 16)) t8 (.int .i64 16) w (dk a O w)) fun O=>Q7 a (fun H=> ∀C w,b w→O C w→Q3 P .mul T.e (.tmp 39) (.const (.int .i64 4096)) C (.int .i64 4096) w (dk a H w)) fun H=>Q7 a (fun Y=> ∀w,b w→E1 P T.b c (.int .i64 1) w (dk a Y w)) fun Y=>Q7 a (fun Z=> ∀E w,b w→Y E w→Q3 P .rem T.y (.tmp 42) (.const (.int .u8 64)) E (.int .u8 64) w (dk a Z w)) fun Z=>Q7 a (fun h=> ∀w,b w→E1 P T.b c (.int .i64 2) w (dk a h w)) fun h=>Q7 a (fun B=> ∀aa w,b w→h aa w→Q3 P .rem T.y (.tmp 48) (.const (.int .u8 64)) aa (.int .u8 64) w (dk a B w)) fun B=>Q7 a (fun o=> ∀l w,b w→Z l w→conv P T.y T.e l w (dk a o w)) fun o=>Q7 a (fun k=> ∀z w,b w→o z w→Q3 P .mul T.e (.tmp 44) (.const (.int .i64 64)) z (.int .i64 64) w (dk a k w)) fun k=>Q7 a (fun ap=> ∀g Q w,b w→H g w→k Q w→Q3 P .add T.e (.tmp 40) (.tmp 45) g Q w (dk a ap w)) fun ap=>Q7 a (fun ai=> ∀D w,b w→B D w→conv P T.y T.e D w (dk a ai w)) fun ai=>∀C g E l aa D z Q a2 a4 w,b w→O C w→H g w→Y E w→Z l w→h aa w→B D w→o z w→k Q w→ap a2 w→ai a4 w→ Q3 P .add T.e (.tmp 46) (.tmp 50) a2 a4 w fun aj w=>Q3 P .geq T.e (.tmp 52) (.const (.int .i64 2048)) aj (.int .i64 2048) w fun e w=>Q0 e true w (fun w J=>J aj w) fun bp w=>Q0 e true w (Q3 P .lss T.e (.tmp 55) (.const (.int .i64 55296)) bp (.int .i64 55296)) fun be w=>Q0 e true w (fun w J=>J be w) fun ay w=>Q0 ay false w (fun w J=>J aj w) fun b0 w=>Q0 ay false w (Q3 P .gtr T.e (.tmp 58) (.const (.int .i64 57343)) b0 (.int .i64 57343)) fun bo w=>Q0 e true w (pick P ay (.bool true) bo) fun a7 w=>pick P e a7 (.bool false) w fun bj w=>X1 bj (K (.int .i64 3) w) (J2 () w)) (Q3 P .geq T.e (.tmp 63) (.const (.int .i64 240)) t8 (.int .i64 240) w fun av w=>Q0 av true w (fun w J=>J t8 w) fun bi w=>Q0 av true w (Q3 P .lss T.e (.tmp 66) (.const (.int .i64 245)) bi (.int .i64 245)) fun br w=>pick P av br (.bool false) w fun aw w=>Q0 aw true w (fun w J=>J c w) fun bf w=>Q0 aw true w (Q1 P F.p [bf,(.int .i64 1)]) fun bs w=>pick P aw bs (.bool false) w fun an w=>Q0 an true w (fun w J=>J c w) fun bd w=>Q0 an true w (Q1 P F.p [bd,(.int .i64 2)]) fun bq w=>pick P an bq (.bool false) w fun ar w=>Q0 ar true w (fun w J=>J c w) fun bg w=>Q0 ar true w (Q1 P F.p [bg,(.int .i64 3)]) fun ba w=>pick P ar ba (.bool false) w fun bc w=>X1 bc (dr w fun a b=>Q7 a (fun u=> ∀w,b w→Q3 P .rem T.e (.tmp 81) (.const (.int .i64 8)) t8 (.int .i64 8) w (dk a u w)) fun u=>Q7 a (fun U=> ∀R w,b w→u R w→Q3 P .mul T.e (.tmp 82) (.const (.int .i64 262144)) R (.int .i64 262144) w (dk a U w)) fun U=>Q7 a (fun M=> ∀w,b w→E1 P T.b c (.int .i64 1) w (dk a M w)) fun M=>Q7 a (fun ae=> ∀q w,b w→M q w→Q3 P .rem T.y (.tmp 85) (.const (.int .u8 64)) q (.int .u8 64) w (dk a ae w)) fun ae=>Q7 a (fun y=> ∀w,b w→E1 P T.b c (.int .i64 2) w (dk a y w)) fun y=>Q7 a (fun n=> ∀ac w,b w→y ac w→Q3 P .rem T.y (.tmp 91) (.const (.int .u8 64)) ac (.int .u8 64) w (dk a n w)) fun n=>Q7 a (fun af=> ∀w,b w→E1 P T.b c (.int .i64 3) w (dk a af w)) fun af=>Q7 a (fun t=> ∀X w,b w→af X w→Q3 P .rem T.y (.tmp 97) (.const (.int .u8 64)) X (.int .u8 64) w (dk a t w)) fun t=>Q7 a (fun V=> ∀N w,b w→ae N w→conv P T.y T.e N w (dk a V w)) fun V=>Q7 a (fun j=> ∀v w,b w→V v w→Q3 P .mul T.e (.tmp 87) (.const (.int .i64 4096)) v (.int .i64 4096) w (dk a j w)) fun j=>Q7 a (fun i=> ∀m ad w,b w→U m w→j ad w→Q3 P .add T.e (.tmp 83) (.tmp 88) m ad w (dk a i w)) fun i=>Q7 a (fun L=> ∀s w,b w→n s w→conv P T.y T.e s w (dk a L w)) fun L=>Q7 a (fun A=> ∀W w,b w→L W w→Q3 P .mul T.e (.tmp 93) (.const (.int .i64 64)) W (.int .i64 64) w (dk a A w)) fun A=>Q7 a (fun al=> ∀r f w,b w→i r w→A f w→Q3 P .add T.e (.tmp 89) (.tmp 94) r f w (dk a al w)) fun al=>Q7 a (fun am=> ∀p w,b w→t p w→conv P T.y T.e p w (dk a am w)) fun am=>∀R m q N ac s X p v ad r W f az a6 w,b w→u R w→U m w→M q w→ae N w→y ac w→n s w→af X w→t p w→V v w→j ad w→i r w→L W w→A f w→al az w→am a6 w→ Q3 P .add T.e (.tmp 95) (.tmp 99) az a6 w fun ag w=>Q3 P .geq T.e (.tmp 101) (.const (.int .i64 65536)) ag (.int .i64 65536) w fun d w=>Q0 d true w (fun w J=>J ag w) fun a1 w=>Q0 d true w (Q3 P .leq T.e (.tmp 104) (.const (.int .i64 1114111)) a1 (.int .i64 1114111)) fun a3 w=>pick P d a3 (.bool false) w fun a5 w=>X1 a5 (K (.int .i64 4) w) (J2 () w)) (J2 () w))))) fun z2 d_ w=>K (.int .i64 0) w
theorem Kt {a:Value} {w:World} {K:Value→World→Prop} (h:My a w K):Q1 P F.bs [a] w K:=Q9 Km Tryz.func240 rfl (by decide) (by kernel_rfl) h
def Fm:V1:=[none,none,some ([0],[0,2,3,4,5,6,7,8,9,10,11,12]),none,none,none,none,none,none,none]
def Lb (e:Value) (w:World) (K:Value→World→Prop):Prop:= lp (α:=Value) e w fun a c h w=>Q3 P .neq T.b (.tmp 4) (.const (.string ⟨#[]⟩)) c (.string ⟨#[]⟩) w fun f w=>X1 f (Q1 P F.bs [c] w fun d w=>Q3 P .eql T.e (.tmp 8) (.const (.int .i64 0)) d (.int .i64 0) w fun g w=>X1 g (K (.bool false) w) (E9 P T.b c (some d) none none w fun b w=>a b w)) (K (.bool true) w)
theorem Gl {a:Value} {w:World} {K:Value→World→Prop} (h:Lb a w K):Q1 P F.bg [a] w K:=Q9 Fm Tryz.func232 rfl (by decide) (by kernel_rfl) h
def Bz:V1:=[none,none,none,some ([5],[2,3,4,5,6,7,8,9,10,11,12,13,14,15,16,17,18,19,20,21,22,23,24,25,26,27,28,29,30,31,32,33]),none,none,none,none,none,none]
def Wi (z:Value) (w:World) (K:Value→World→Prop):Prop:= lp (α:=Value) (.int .i64 0) w fun e u N w=>X5 P .len [T.b] T.e [false] [z] w fun M w=>Q3 P .lss T.e (.tmp 6) (.tmp 8) u M w fun L w=>X1 L (E1 P T.b z u w fun E w=>Q3 P .eql T.y (.tmp 14) (.const (.int .u8 46)) E (.int .u8 46) w fun D w=>X1 D (dr w fun b d=>Q7 b (fun t=> ∀w,d w→E9 P T.b z none (some u) none w (dk b t w)) fun t=>Q7 b (fun r=> ∀w,d w→Q3 P .add T.e (.tmp 20) (.const (.int .i64 1)) u (.int .i64 1) w (dk b r w)) fun r=>Q7 b (fun v=> ∀i w,d w→r i w→E9 P T.b z (some i) none none w (dk b v w)) fun v=>Q7 b (fun o=> ∀w,d w→E9 P T.b z none (some u) none w (dk b o w)) fun o=>Q7 b (fun c=> ∀j w,d w→o j w→Q1 P F.e [j] w (dk b c w)) fun c=>Q7 b (fun s=> ∀a w,d w→c a w→Q0 a true w (fun w J=>J z w) (dk b s w)) fun s=>Q7 b (fun f=> ∀a w,d w→c a w→Q0 a true w (fun w J=>J u w) (dk b f w)) fun f=>Q7 b (fun q=> ∀a p w,d w→c a w→f p w→Q0 a true w (Q3 P .add T.e (.tmp 29) (.const (.int .i64 1)) p (.int .i64 1)) (dk b q w)) fun q=>Q7 b (fun h=> ∀a l k w,d w→c a w→s l w→q k w→Q0 a true w (E9 P T.b l (some k) none none) (dk b h w)) fun h=>Q7 b (fun m=> ∀a g w,d w→c a w→h g w→Q0 a true w (Q1 P F.r [g]) (dk b m w)) fun m=>Q7 b (fun y=> ∀a n w,d w→c a w→m n w→pick P a n (.bool false) w (dk b y w)) fun y=>∀A i C j a l p k g n B w,d w→t A w→r i w→v C w→o j w→c a w→s l w→f p w→q k w→h g w→m n w→y B w→ K (.tuple #[A,C,B]) w) (Q3 P .add T.e (.tmp 10) (.const (.int .i64 1)) u (.int .i64 1) w fun H w=>e H w)) (K (.tuple #[(.string ⟨#[]⟩),(.string ⟨#[]⟩),(.bool false)]) w)
theorem Gg {a:Value} {w:World} {K:Value→World→Prop} (h:Wi a w K):Q1 P F.bh [a] w K:=Q9 Bz Tryz.func233 rfl (by decide) (by kernel_rfl) h
def Bj:V1:=[none,none,none,none,none,none,some ([4],[4,5,6,7,8,30,31,32,33,34,35,36,37,38,39,40,41,42,43,44,45,46,47,48,49,50,51,52,53,54,55,56,57,58,59,60,61,62,63,64,65,66,67,68,69,70,71,72,73,74,75,76,77,78,79,80,81,82,83,84,85,86,87,88,89,90,91,92,93,94,95,96,97,98,99,100,101,102,103,104,105,106,107,108,109,110]),none,none,none,none,none,some ([4,5],[4,5,59,60,61,62,63,64,65,66,67,68,69,70,71,72,73]),none,none,none,none,some ([82],[82,83,84]),none,none,none,none,none,none,none]
def Wh (a0:Value) (w:World) (K:Value→World→Prop):Prop:= box P T.l a0 w fun d w=>fieldAddr P T.l d 0 w fun t9 w=>Q2 P T.b t9 w fun B w=>Q1 P F.b3 [B] w fun j w=>Q3 P .lss T.e (.tmp 12) (.const (.int .i64 0)) j (.int .i64 0) w fun be w=>X1 be (K (.int .i64 40) w) (Q3 P .eql T.e (.tmp 14) (.const (.int .i64 1)) j (.int .i64 1) w fun k w=>Q0 k false w (fieldAddr P T.l d 1) fun M w=>Q0 k false w (Q2 P T.a6 M) fun ad w=>Q0 k false w (Q3 P .eql T.a6 (.tmp 18) (.const (.int .i64 0)) ad (.int .i64 0)) fun W w=>pick P k (.bool true) W w fun g w=>Q0 g true w (fun w J=>J j w) fun av w=>Q0 g true w (Q3 P .eql T.e (.tmp 22) (.const (.int .i64 2)) av (.int .i64 2)) fun aj w=>Q0 g true w (fun w J=>J aj w) fun l w=>Q0 l false w (fieldAddr P T.l d 2) fun a3 w=>Q0 l false w (Q2 P T.b a3) fun a9 w=>Q0 l false w (Q3 P .eql T.b (.tmp 26) (.const (.string ⟨#[]⟩)) a9 (.string ⟨#[]⟩)) fun a6 w=>Q0 g true w (pick P l (.bool true) a6) fun ah w=>pick P g ah (.bool false) w fun a w=>jn (α:=Value) w (fun n w=>Q3 P .eql T.e (.tmp 30) (.const (.int .i64 2)) j (.int .i64 2) w fun ar w=>X1 ar (fieldAddr P T.l d 0 w fun ba w=>Q2 P T.b ba w fun e w=>Q3 P .eql T.b (.tmp 33) (.const (.string ⟨#[119,111,114,100]⟩)) e (.string ⟨#[119,111,114,100]⟩) w fun ai w=>X1 ai (Q0 a true w (fieldAddr P T.l d 2) fun a2 w=>Q0 a true w (Q2 P T.b a2) fun ay w=>Q0 a true w (X5 P .len [T.b] T.e [false] [ay]) fun Z w=>Q0 a true w (Q3 P .leq T.e (.tmp 51) (.const (.int .i64 64)) Z (.int .i64 64)) fun a1 w=>pick P a a1 (.bool false) w fun i w=>Q0 i true w (fieldAddr P T.l d 2) fun ax w=>Q0 i true w (Q2 P T.b ax) fun ab w=>Q0 i true w (Q1 P F.bg [ab]) fun bb w=>pick P i bb (.bool false) w fun bc w=>lp (α:=Value×Value) (bc,(.int .i64 0)) w fun h b d_ w=>fieldAddr P T.l d 2 w fun C w=>Q2 P T.b C w fun al w=>X5 P .len [T.b] T.e [false] [al] w fun Y w=>Q3 P .lss T.e (.tmp 59) (.tmp 62) b.2 Y w fun X w=>X1 X (Q0 b.1 true w (fieldAddr P T.l d 2) fun aw w=>Q0 b.1 true w (Q2 P T.b aw) fun am w=>Q0 b.1 true w (fun w J=>J b.2 w) fun ae w=>Q0 b.1 true w (E1 P T.b am ae) fun a4 w=>Q0 b.1 true w (Q3 P .neq T.y (.tmp 71) (.const (.int .u8 10)) a4 (.int .u8 10)) fun ak w=>pick P b.1 ak (.bool false) w fun a5 w=>Q3 P .add T.e (.tmp 64) (.const (.int .i64 1)) b.2 (.int .i64 1) w fun D w=>h (a5,D) w) (n b.1 w)) (Q3 P .eql T.b (.tmp 33) (.const (.string ⟨#[110,101,119]⟩)) e (.string ⟨#[110,101,119]⟩) w fun az w=>X1 az (Q0 a true w (fieldAddr P T.l d 2) fun af w=>Q0 a true w (Q2 P T.b af) fun U w=>Q0 a true w (Q1 P F.e [U]) fun aa w=>pick P a aa (.bool false) w fun ap w=>n ap w) (jn (α:=Value) w (fun u w=>Q3 P .eql T.b (.tmp 33) (.const (.string ⟨#[105,115]⟩)) e (.string ⟨#[105,115]⟩) w fun p w=>X1 p (u p w) (Q3 P .eql T.b (.tmp 33) (.const (.string ⟨#[99,97,115,116]⟩)) e (.string ⟨#[99,97,115,116]⟩) w fun L w=>u L w)) fun N d_ w=>X1 N (Q0 a true w (fieldAddr P T.l d 2) fun an w=>Q0 a true w (Q2 P T.b an) fun bd w=>Q0 a true w (Q1 P F.i [bd]) fun ac w=>pick P a ac (.bool false) w fun f w=>Q0 f true w (fieldAddr P T.l d 2) fun ag w=>Q0 f true w (Q2 P T.b ag) fun a7 w=>Q0 f true w (Q1 P F.ac [a7]) fun E w=>Q0 f true w (J5 P .not E) fun Q w=>pick P f Q (.bool false) w fun a8 w=>n a8 w) (Q3 P .eql T.b (.tmp 33) (.const (.string ⟨#[97,114,114,97,121]⟩)) e (.string ⟨#[97,114,114,97,121]⟩) w fun V w=>X1 V (Q0 a true w (fieldAddr P T.l d 2) fun y w=>Q0 a true w (Q2 P T.b y) fun o w=>Q0 a true w (Q1 P F.i [o]) fun v w=>pick P a v (.bool false) w fun c w=>Q0 c true w (fieldAddr P T.l d 2) fun z w=>Q0 c true w (Q2 P T.b z) fun r w=>Q0 c true w (Q1 P F.ak [r]) fun A w=>Q0 c true w (Q3 P .lss T.e (.tmp 108) (.const (.int .i64 3)) A (.int .i64 3)) fun s w=>pick P c s (.bool false) w fun q w=>n q w) (fieldAddr P T.l d 2 w fun O w=>Q2 P T.b O w fun aq w=>Q1 P F.bh [aq] w fun m w=>ext P m 0 w fun bh w=>ext P m 1 w fun bk w=>ext P m 2 w fun H w=>Q0 a true w (fun w J=>J H w) fun R w=>pick P a R (.bool false) w fun ao w=>n ao w))))) (n a w)) fun z6 d_ w=>J5 P .not z6 w fun t w=>X1 t (K (.int .i64 41) w) (K (.int .i64 0) w))
theorem Fp {a:Value} {w:World} {K:Value→World→Prop} (h:Wh a w K):Q1 P F.bf [a] w K:=Q9 Bj Tryz.func221 rfl (by decide) (by kernel_rfl) h
def Ai:V1:=[none,none,none,some ([3],[2,3,4,5,6,7,8,9,10,11,12,13,14,15,16,17,18]),none,none,none,none,none,none,none]
def Ob (h:Value) (w:World) (K:Value→World→Prop):Prop:= lp (α:=Value) (.int .i64 0) w fun a g k w=>X5 P .len [T.k] T.e [false] [h] w fun i w=>Q3 P .lss T.e (.tmp 5) (.tmp 7) g i w fun j w=>X1 j (indexAddr P T.k h g w fun f w=>Q2 P T.l f w fun c w=>Q1 P F.bf [c] w fun b w=>Q3 P .neq T.s (.tmp 16) (.const (.int .i64 0)) b (.int .i64 0) w fun e w=>X1 e (K b w) (Q3 P .add T.e (.tmp 9) (.const (.int .i64 1)) g (.int .i64 1) w fun d w=>a d w)) (K (.int .i64 0) w)
theorem Tc {a:Value} {w:World} {K:Value→World→Prop} (h:Ob a w K):Q1 P F.aO [a] w K:=Q9 Ai Tryz.func205 rfl (by decide) (by kernel_rfl) h
def Cn:V1:=[none,none,none,none,some ([3,4],[3,4,21,22,23,24,25,26,27,28,29,30,31,32,33,34,35,36]),none,none,none,none,none,none,none,none,none,some ([3,6],[3,6,7,60,61,62,63,64,65,66,67,68,69,70,71,72,73,74,75,76,77,78,79,80,81,82,83,84,85,86,87,88,89,90,91,92,93,94,95,96,97,98,99,100,101,102,103,104,105,106]),none,none,none,none,none]
def Vd (a0:Value) (w:World) (K:Value→World→Prop):Prop:= box P T.c a0 w fun e w=>fieldAddr P T.c e 0 w fun t8 w=>Q2 P T.b t8 w fun t9 w=>Q1 P F.r [t9] w fun g w=>Q0 g true w (fieldAddr P T.c e 2) fun a7 w=>Q0 g true w (Q2 P T.b a7) fun bx w=>Q0 g true w (Q3 P .eql T.b (.tmp 13) (.const (.string ⟨#[]⟩)) bx (.string ⟨#[]⟩)) fun X w=>Q0 g true w (fun w J=>J X w) fun o w=>Q0 o false w (fieldAddr P T.c e 2) fun bk w=>Q0 o false w (Q2 P T.b bk) fun V w=>Q0 o false w (Q1 P F.i [V]) fun ak w=>Q0 g true w (pick P o (.bool true) ak) fun ac w=>pick P g ac (.bool false) w fun bo w=>lp (α:=Value×Value) (bo,(.int .i64 0)) w fun n d d_ w=>fieldAddr P T.c e 1 w fun a5 w=>Q2 P T.d a5 w fun aq w=>X5 P .len [T.d] T.e [false] [aq] w fun bv w=>Q3 P .lss T.e (.tmp 21) (.tmp 24) d.2 bv w fun be w=>X1 be (Q0 d.1 true w (fieldAddr P T.c e 1) fun ah w=>Q0 d.1 true w (Q2 P T.d ah) fun a4 w=>Q0 d.1 true w (fun w J=>J d.2 w) fun bp w=>Q0 d.1 true w (indexAddr P T.d a4 bp) fun ax w=>Q0 d.1 true w (Q2 P T.b ax) fun bi w=>Q0 d.1 true w (Q1 P F.i [bi]) fun W w=>pick P d.1 W (.bool false) w fun a2 w=>Q3 P .add T.e (.tmp 26) (.const (.int .i64 1)) d.2 (.int .i64 1) w fun bl w=>n (a2,bl) w) (fieldAddr P T.c e 3 w fun b0 w=>Q2 P T.n b0 w fun ao w=>X1 ao (Q0 d.1 true w (fieldAddr P T.c e 4) fun bn w=>Q0 d.1 true w (Q2 P T.e bn) fun bd w=>Q0 d.1 true w (Q3 P .eql T.e (.tmp 42) (.const (.int .i64 0)) bd (.int .i64 0)) fun Y w=>pick P d.1 Y (.bool false) w fun k w=>Q0 k true w (fieldAddr P T.c e 5) fun ap w=>Q0 k true w (Q2 P T.k ap) fun ae w=>Q0 k true w (X5 P .len [T.k] T.e [false] [ae]) fun br w=>Q0 k true w (Q3 P .eql T.e (.tmp 48) (.const (.int .i64 0)) br (.int .i64 0)) fun bc w=>pick P k bc (.bool false) w fun m w=>Q0 m true w (fieldAddr P T.c e 6) fun bb w=>Q0 m true w (Q2 P T.o bb) fun ay w=>Q0 m true w (X5 P .len [T.o] T.e [false] [ay]) fun bh w=>Q0 m true w (Q3 P .eql T.e (.tmp 54) (.const (.int .i64 0)) bh (.int .i64 0)) fun a8 w=>pick P m a8 (.bool false) w fun aj w=>K aj w) (fieldAddr P T.c e 5 w fun bs w=>Q2 P T.k bs w fun bu w=>X5 P .len [T.k] T.e [false] [bu] w fun r w=>lp (α:=Value×Value) (d.1,(.int .i64 0)) w fun l b d_ w=>fieldAddr P T.c e 6 w fun av w=>Q2 P T.o av w fun af w=>X5 P .len [T.o] T.e [false] [af] w fun ad w=>Q3 P .lss T.e (.tmp 60) (.tmp 63) b.2 ad w fun a3 w=>X1 a3 (fieldAddr P T.c e 6 w fun ba w=>Q2 P T.o ba w fun a6 w=>indexAddr P T.o a6 b.2 w fun al w=>Q2 P T.p al w fun bg w=>W7 P T.p w fun q w=>Z4 P T.p q bg w fun _u w=>Q0 b.1 true w (fieldAddr P T.p q 0) fun ai w=>Q0 b.1 true w (Q2 P T.e ai) fun a9 w=>Q0 b.1 true w (Q3 P .geq T.e (.tmp 75) (.const (.int .i64 0)) a9 (.int .i64 0)) fun a1 w=>pick P b.1 a1 (.bool false) w fun h w=>Q0 h true w (fieldAddr P T.p q 0) fun Z w=>Q0 h true w (Q2 P T.e Z) fun ag w=>Q0 h true w (fieldAddr P T.p q 1) fun az w=>Q0 h true w (Q2 P T.e az) fun bj w=>Q0 h true w (Q3 P .lss T.e (.tmp 80) (.tmp 82) ag bj) fun aa w=>pick P h aa (.bool false) w fun i w=>Q0 i true w (fieldAddr P T.p q 1) fun bf w=>Q0 i true w (Q2 P T.e bf) fun aw w=>Q0 i true w (fun w J=>J r w) fun bw w=>Q0 i true w (Q3 P .leq T.e (.tmp 87) (.tmp 88) aw bw) fun am w=>pick P i am (.bool false) w fun p w=>Q0 p true w (fieldAddr P T.p q 2) fun an w=>Q0 p true w (Q2 P T.e an) fun bm w=>Q0 p true w (Q3 P .geq T.e (.tmp 93) (.const (.int .i64 0)) bm (.int .i64 0)) fun U w=>pick P p U (.bool false) w fun j w=>Q0 j true w (fieldAddr P T.p q 2) fun bq w=>Q0 j true w (Q2 P T.e bq) fun ab w=>Q0 j true w (fun w J=>J r w) fun bz w=>Q0 j true w (Q3 P .lss T.e (.tmp 98) (.tmp 99) ab bz) fun t w=>pick P j t (.bool false) w fun f w=>Q0 f true w (fieldAddr P T.p q 3) fun L w=>Q0 f true w (Q2 P T.b L) fun z w=>Q0 f true w (Q1 P F.e [z]) fun H w=>pick P f H (.bool false) w fun Q w=>Q3 P .add T.e (.tmp 65) (.const (.int .i64 1)) b.2 (.int .i64 1) w fun ar w=>l (Q,ar) w) (Q0 b.1 true w (fun w J=>J r w) fun D w=>Q0 b.1 true w (Q3 P .gtr T.e (.tmp 109) (.const (.int .i64 0)) D (.int .i64 0)) fun y w=>pick P b.1 y (.bool false) w fun a w=>Q0 a true w (fieldAddr P T.c e 4) fun s w=>Q0 a true w (Q2 P T.e s) fun v w=>Q0 a true w (fieldAddr P T.c e 1) fun O w=>Q0 a true w (Q2 P T.d O) fun B w=>Q0 a true w (X5 P .len [T.d] T.e [false] [B]) fun A w=>Q0 a true w (Q3 P .gtr T.e (.tmp 114) (.tmp 117) v A) fun E w=>pick P a E (.bool false) w fun c w=>Q0 c true w (fieldAddr P T.c e 5) fun u w=>Q0 c true w (Q2 P T.k u) fun R w=>Q0 c true w (Q1 P F.aO [R]) fun N w=>Q0 c true w (Q3 P .eql T.s (.tmp 123) (.const (.int .i64 0)) N (.int .i64 0)) fun C w=>pick P c C (.bool false) w fun M w=>K M w)))
theorem Bh {a:Value} {w:World} {K:Value→World→Prop} (h:Vd a w K):Q1 P F.w [a] w K:=Q9 Cn Tryz.func172 rfl (by decide) (by kernel_rfl) h
def Fs:V1:=[none,none,none,none,some ([3,4],[3,4,5,26,27,28,29,30,31,32,33,34,35,36,37,38,39,40,41,42,43,44,45,46,47,48,49,50,51,52,53,54,55,56,57,58,59,60,61,62,63,64,65,66,67,68,69,70]),none,none,none,none,none,some ([3,5],[3,5,52,53,54,55,56,57,58,59,60,61,62,63,64,65,66,67,68,69,70]),none,none,none,none,none,some ([3,6],[3,6,7,71,72,73,74,75,76,77,78,79,80,81,82,83,84,85,86,87,88,89,90,91,92,93,94,95,96,97,98,99,100,101,102,103,104,105,106,107,108,109,110,111,112,113,114,115,116,117,118,119,120,121,122]),none,none,none,none,none,some ([3,7],[3,7,102,103,104,105,106,107,108,109,110,111,112,113,114,115,116,117,118,119,120,121,122]),none,none,none,none,none,some ([3,8],[3,8,9,10,123,124,125,126,127,128,129,130,131,132,133,134,135,136,137,138,139,140,141,142,143,144,145,146,147,148,149,150,151,152,153,154,155,156,157,158,159,160,161,162,163,164,165,166,167,168,169,170,171,172,173,174]),none,none,none,none,none,none,some ([3,10],[3,10,158,159,160,161,162,163,164,165,166,167,168,169,170,171,172,173,174]),none,none,none,none]
def Wj (a0:Value) (w:World) (K:Value→World→Prop):Prop:= box P T.a a0 w fun i w=>fieldAddr P T.a i 0 w fun ed w=>Q2 P T.b ed w fun ez w=>Q1 P F.e [ez] w fun bp w=>Q0 bp true w (fieldAddr P T.a i 1) fun e0 w=>Q0 bp true w (Q2 P T.b e0) fun eh w=>Q0 bp true w (Q1 P F.e [eh]) fun d2 w=>pick P bp d2 (.bool false) w fun ah w=>Q0 ah true w (fieldAddr P T.a i 0) fun e7 w=>Q0 ah true w (Q2 P T.b e7) fun ep w=>Q0 ah true w (fieldAddr P T.a i 1) fun ey w=>Q0 ah true w (Q2 P T.b ey) fun eb w=>Q0 ah true w (Q3 P .neq T.b (.tmp 21) (.tmp 23) ep eb) fun e9 w=>pick P ah e9 (.bool false) w fun e3 w=>lp (α:=Value×Value) (e3,(.int .i64 0)) w fun bb u d_ w=>fieldAddr P T.a i 2 w fun e6 w=>Q2 P T.d e6 w fun et w=>X5 P .len [T.d] T.e [false] [et] w fun ew w=>Q3 P .lss T.e (.tmp 26) (.tmp 29) u.2 ew w fun d6 w=>X1 d6 (dr w fun a b=>Q7 a (fun a3=> ∀w,b w→Q0 u.1 true w (fieldAddr P T.a i 2) (dk a a3 w)) fun a3=>Q7 a (fun a2=> ∀w,b w→Q0 u.1 true w (fun w J=>J u.2 w) (dk a a2 w)) fun a2=>Q7 a (fun a8=> ∀bm w,b w→a3 bm w→Q0 u.1 true w (Q2 P T.d bm) (dk a a8 w)) fun a8=>Q7 a (fun a6=> ∀bc a7 w,b w→a8 bc w→a2 a7 w→Q0 u.1 true w (indexAddr P T.d bc a7) (dk a a6 w)) fun a6=>Q7 a (fun bz=> ∀bn w,b w→a6 bn w→Q0 u.1 true w (Q2 P T.b bn) (dk a bz w)) fun bz=>Q7 a (fun bx=> ∀bv w,b w→bz bv w→Q0 u.1 true w (Q1 P F.e [bv]) (dk a bx w)) fun bx=>Q7 a (fun j=> ∀bi w,b w→bx bi w→pick P u.1 bi (.bool false) w (dk a j w)) fun j=>Q7 a (fun b2=> ∀c w,b w→j c w→Q0 c true w (fieldAddr P T.a i 2) (dk a b2 w)) fun b2=>Q7 a (fun bl=> ∀c w,b w→j c w→Q0 c true w (fun w J=>J u.2 w) (dk a bl w)) fun bl=>Q7 a (fun bj=> ∀c w,b w→j c w→Q0 c true w (fieldAddr P T.a i 0) (dk a bj w)) fun bj=>Q7 a (fun a4=> ∀c a1 w,b w→j c w→b2 a1 w→Q0 c true w (Q2 P T.d a1) (dk a a4 w)) fun a4=>Q7 a (fun bq=> ∀c br b0 w,b w→j c w→a4 br w→bl b0 w→Q0 c true w (indexAddr P T.d br b0) (dk a bq w)) fun bq=>Q7 a (fun cc=> ∀c a9 w,b w→j c w→bq a9 w→Q0 c true w (Q2 P T.b a9) (dk a cc w)) fun cc=>Q7 a (fun cb=> ∀c bg w,b w→j c w→bj bg w→Q0 c true w (Q2 P T.b bg) (dk a cb w)) fun cb=>∀bm a7 bc bn bv bi c a1 b0 bg br a9 c9 cx w,b w→a3 bm w→a2 a7 w→a8 bc w→a6 bn w→bz bv w→bx bi w→j c w→b2 a1 w→bl b0 w→bj bg w→a4 br w→bq a9 w→cc c9 w→cb cx w→ Q0 c true w (Q3 P .neq T.b (.tmp 47) (.tmp 49) c9 cx) fun ee w=>pick P c ee (.bool false) w fun d4 w=>lp (α:=Value×Value) (d4,(.int .i64 0)) w fun ak e d_ w=>Q3 P .lss T.e (.tmp 52) (.tmp 53) e.2 u.2 w fun e4 w=>X1 e4 (dr w fun a b=>Q7 a (fun bf=> ∀w,b w→Q0 e.1 true w (fieldAddr P T.a i 2) (dk a bf w)) fun bf=>Q7 a (fun bk=> ∀w,b w→Q0 e.1 true w (fun w J=>J e.2 w) (dk a bk w)) fun bk=>Q7 a (fun bh=> ∀w,b w→Q0 e.1 true w (fieldAddr P T.a i 2) (dk a bh w)) fun bh=>Q7 a (fun b3=> ∀w,b w→Q0 e.1 true w (fun w J=>J u.2 w) (dk a b3 w)) fun b3=>Q7 a (fun az=> ∀bu w,b w→bf bu w→Q0 e.1 true w (Q2 P T.d bu) (dk a az w)) fun az=>Q7 a (fun b4=> ∀ay ba w,b w→az ay w→bk ba w→Q0 e.1 true w (indexAddr P T.d ay ba) (dk a b4 w)) fun b4=>Q7 a (fun ca=> ∀a5 w,b w→b4 a5 w→Q0 e.1 true w (Q2 P T.b a5) (dk a ca w)) fun ca=>Q7 a (fun bd=> ∀bs w,b w→bh bs w→Q0 e.1 true w (Q2 P T.d bs) (dk a bd w)) fun bd=>Q7 a (fun b1=> ∀ax bo w,b w→bd ax w→b3 bo w→Q0 e.1 true w (indexAddr P T.d ax bo) (dk a b1 w)) fun b1=>Q7 a (fun b9=> ∀bw w,b w→b1 bw w→Q0 e.1 true w (Q2 P T.b bw) (dk a b9 w)) fun b9=>∀bu ba bs bo ay a5 c8 ax bw di w,b w→bf bu w→bk ba w→bh bs w→b3 bo w→az ay w→b4 a5 w→ca c8 w→bd ax w→b1 bw w→b9 di w→ Q0 e.1 true w (Q3 P .neq T.b (.tmp 63) (.tmp 68) c8 di) fun ec w=>pick P e.1 ec (.bool false) w fun d9 w=>Q3 P .add T.e (.tmp 55) (.const (.int .i64 1)) e.2 (.int .i64 1) w fun er w=>ak (d9,er) w) (Q3 P .add T.e (.tmp 31) (.const (.int .i64 1)) u.2 (.int .i64 1) w fun e8 w=>bb (e.1,e8) w)) (lp (α:=Value×Value) (u.1,(.int .i64 0)) w fun aq f d_ w=>fieldAddr P T.a i 6 w fun eu w=>Q2 P T.i eu w fun e5 w=>X5 P .len [T.i] T.e [false] [e5] w fun d7 w=>Q3 P .lss T.e (.tmp 71) (.tmp 74) f.2 d7 w fun e2 w=>X1 e2 (Q0 f.1 true w (fieldAddr P T.a i 6) fun d5 w=>Q0 f.1 true w (Q2 P T.i d5) fun ex w=>Q0 f.1 true w (fun w J=>J f.2 w) fun eg w=>Q0 f.1 true w (indexAddr P T.i ex eg) fun eo w=>Q0 f.1 true w (fieldAddr P T.m eo 0) fun d1 w=>Q0 f.1 true w (Q2 P T.b d1) fun d8 w=>Q0 f.1 true w (Q1 P F.r [d8]) fun ef w=>pick P f.1 ef (.bool false) w fun n w=>Q0 n true w (fieldAddr P T.a i 6) fun es w=>Q0 n true w (Q2 P T.i es) fun e1 w=>Q0 n true w (fun w J=>J f.2 w) fun ek w=>Q0 n true w (indexAddr P T.i e1 ek) fun ea w=>Q0 n true w (fieldAddr P T.m ea 1) fun ej w=>Q0 n true w (Q2 P T.b ej) fun em w=>Q0 n true w (Q1 P F.i [em]) fun d3 w=>pick P n d3 (.bool false) w fun be w=>Q0 be true w (fieldAddr P T.a i 3) fun eq w=>Q0 be true w (Q2 P T.n eq) fun el w=>Q0 be true w (J5 P .not el) fun cf w=>pick P be cf (.bool false) w fun dp w=>lp (α:=Value×Value) (dp,(.int .i64 0)) w fun ai d d_ w=>Q3 P .lss T.e (.tmp 102) (.tmp 103) d.2 f.2 w fun dc w=>X1 dc (dr w fun a b=>Q7 a (fun A=> ∀w,b w→Q0 d.1 true w (fieldAddr P T.a i 6) (dk a A w)) fun A=>Q7 a (fun ac=> ∀w,b w→Q0 d.1 true w (fun w J=>J d.2 w) (dk a ac w)) fun ac=>Q7 a (fun N=> ∀w,b w→Q0 d.1 true w (fieldAddr P T.a i 6) (dk a N w)) fun N=>Q7 a (fun t=> ∀w,b w→Q0 d.1 true w (fun w J=>J f.2 w) (dk a t w)) fun t=>Q7 a (fun Y=> ∀z w,b w→A z w→Q0 d.1 true w (Q2 P T.i z) (dk a Y w)) fun Y=>Q7 a (fun q=> ∀R Q w,b w→Y R w→ac Q w→Q0 d.1 true w (indexAddr P T.i R Q) (dk a q w)) fun q=>Q7 a (fun s=> ∀Z w,b w→q Z w→Q0 d.1 true w (fieldAddr P T.m Z 0) (dk a s w)) fun s=>Q7 a (fun ar=> ∀r w,b w→s r w→Q0 d.1 true w (Q2 P T.b r) (dk a ar w)) fun ar=>Q7 a (fun ag=> ∀aa w,b w→N aa w→Q0 d.1 true w (Q2 P T.i aa) (dk a ag w)) fun ag=>Q7 a (fun ab=> ∀v U w,b w→ag v w→t U w→Q0 d.1 true w (indexAddr P T.i v U) (dk a ab w)) fun ab=>Q7 a (fun O=> ∀B w,b w→ab B w→Q0 d.1 true w (fieldAddr P T.m B 0) (dk a O w)) fun O=>Q7 a (fun al=> ∀M w,b w→O M w→Q0 d.1 true w (Q2 P T.b M) (dk a al w)) fun al=>∀z Q aa U R Z r b5 v B M b7 w,b w→A z w→ac Q w→N aa w→t U w→Y R w→q Z w→s r w→ar b5 w→ag v w→ab B w→O M w→al b7 w→ Q0 d.1 true w (Q3 P .neq T.b (.tmp 114) (.tmp 120) b5 b7) fun ci w=>pick P d.1 ci (.bool false) w fun dz w=>Q3 P .add T.e (.tmp 105) (.const (.int .i64 1)) d.2 (.int .i64 1) w fun du w=>ai (dz,du) w) (Q3 P .add T.e (.tmp 76) (.const (.int .i64 1)) f.2 (.int .i64 1) w fun ei w=>aq (d.1,ei) w)) (lp (α:=Value×Value) (f.1,(.int .i64 0)) w fun am h d_ w=>fieldAddr P T.a i 7 w fun co w=>Q2 P T.f co w fun ds w=>X5 P .len [T.f] T.e [false] [ds] w fun dn w=>Q3 P .lss T.e (.tmp 123) (.tmp 126) h.2 dn w fun dj w=>X1 dj (fieldAddr P T.a i 7 w fun ce w=>Q2 P T.f ce w fun dx w=>indexAddr P T.f dx h.2 w fun cq w=>Q2 P T.c cq w fun c6 w=>W7 P T.c w fun t9 w=>Z4 P T.c t9 c6 w fun _u w=>Q0 h.1 true w (Q2 P T.c t9) fun c4 w=>Q0 h.1 true w (Q1 P F.w [c4]) fun df w=>pick P h.1 df (.bool false) w fun k w=>Q0 k true w (fieldAddr P T.c t9 3) fun cm w=>Q0 k true w (Q2 P T.n cm) fun de w=>Q0 k true w (J5 P .not de) fun cp w=>Q0 k true w (fun w J=>J cp w) fun aj w=>Q0 aj false w (fieldAddr P T.a i 4) fun cw w=>Q0 aj false w (Q2 P T.n cw) fun cr w=>Q0 k true w (pick P aj (.bool true) cr) fun cg w=>pick P k cg (.bool false) w fun l w=>Q0 l true w (fieldAddr P T.a i 3) fun ct w=>Q0 l true w (Q2 P T.n ct) fun cj w=>Q0 l true w (J5 P .not cj) fun cn w=>Q0 l true w (fun w J=>J cn w) fun av w=>Q0 av false w (fieldAddr P T.c t9 3) fun c3 w=>Q0 av false w (Q2 P T.n c3) fun dy w=>Q0 l true w (pick P av (.bool true) dy) fun dv w=>pick P l dv (.bool false) w fun da w=>lp (α:=Value×Value) (da,(.int .i64 0)) w fun ao g d_ w=>Q3 P .lss T.e (.tmp 158) (.tmp 159) g.2 h.2 w fun dd w=>X1 dd (dr w fun a b=>Q7 a (fun ae=> ∀w,b w→Q0 g.1 true w (fieldAddr P T.a i 7) (dk a ae w)) fun ae=>Q7 a (fun V=> ∀w,b w→Q0 g.1 true w (fun w J=>J g.2 w) (dk a V w)) fun V=>Q7 a (fun D=> ∀w,b w→Q0 g.1 true w (fieldAddr P T.c t9 0) (dk a D w)) fun D=>Q7 a (fun af=> ∀X w,b w→ae X w→Q0 g.1 true w (Q2 P T.f X) (dk a af w)) fun af=>Q7 a (fun E=> ∀L C w,b w→af L w→V C w→Q0 g.1 true w (indexAddr P T.f L C) (dk a E w)) fun E=>Q7 a (fun ad=> ∀y w,b w→E y w→Q0 g.1 true w (fieldAddr P T.c y 0) (dk a ad w)) fun ad=>Q7 a (fun ap=> ∀W w,b w→ad W w→Q0 g.1 true w (Q2 P T.b W) (dk a ap w)) fun ap=>Q7 a (fun an=> ∀p w,b w→D p w→Q0 g.1 true w (Q2 P T.b p) (dk a an w)) fun an=>∀X C p L y W b8 b6 w,b w→ae X w→V C w→D p w→af L w→E y w→ad W w→ap b8 w→an b6 w→ Q0 g.1 true w (Q3 P .neq T.b (.tmp 170) (.tmp 172) b8 b6) fun dg w=>pick P g.1 dg (.bool false) w fun c1 w=>Q3 P .add T.e (.tmp 161) (.const (.int .i64 1)) g.2 (.int .i64 1) w fun cz w=>ao (c1,cz) w) (Q3 P .add T.e (.tmp 128) (.const (.int .i64 1)) h.2 (.int .i64 1) w fun dm w=>am (g.1,dm) w)) (Q0 h.1 true w (fieldAddr P T.a i 3) fun cu w=>Q0 h.1 true w (Q2 P T.n cu) fun cd w=>Q0 h.1 true w (J5 P .not cd) fun dq w=>Q0 h.1 true w (fun w J=>J dq w) fun o w=>Q0 o false w (fieldAddr P T.a i 4) fun db w=>Q0 o false w (Q2 P T.n db) fun dl w=>Q0 o false w (fun w J=>J dl w) fun H w=>Q0 H true w (fieldAddr P T.a i 1) fun cv w=>Q0 H true w (Q2 P T.b cv) fun c0 w=>Q0 H true w (Q3 P .eql T.b (.tmp 185) (.const (.string ⟨#[79,98,106,101,99,116]⟩)) c0 (.string ⟨#[79,98,106,101,99,116]⟩)) fun dh w=>Q0 o false w (pick P H dh (.bool false)) fun ch w=>Q0 h.1 true w (pick P o (.bool true) ch) fun dt w=>pick P h.1 dt (.bool false) w fun m w=>Q0 m true w (fieldAddr P T.a i 4) fun c7 w=>Q0 m true w (Q2 P T.n c7) fun cy w=>Q0 m true w (fun w J=>J cy w) fun aw w=>Q0 aw true w (fieldAddr P T.a i 5) fun cs w=>Q0 aw true w (Q2 P T.n cs) fun dw w=>Q0 m true w (pick P aw dw (.bool false)) fun d0 w=>Q0 m true w (J5 P .not d0) fun cl w=>pick P m cl (.bool false) w fun ck w=>K ck w)))
theorem Fl {a:Value} {w:World} {K:Value→World→Prop} (h:Wj a w K):Q1 P F.ba [a] w K:=Q9 Fs Tryz.func113 rfl (by decide) (by kernel_rfl) h
def Vw (e:Value) (w:World) (K:Value→World→Prop):Prop:= box P T.a e w fun a w=>Q2 P T.a a w fun g w=>Q1 P F.bn [g] w fun d w=>X1 d (K (.int .i64 51) w) (Q2 P T.a a w fun f w=>Q1 P F.ba [f] w fun b w=>J5 P .not b w fun c w=>X1 c (K (.int .i64 50) w) (K (.int .i64 0) w))
theorem Gr {a:Value} {w:World} {K:Value→World→Prop} (h:Vw a w K):Q1 P F.b7 [a] w K:=Q9 (List.replicate 8 none) Tryz.func53 rfl (by decide) (by kernel_rfl) h
def Ko:V1:=[none,none,none,some ([5],[4,5,6,7,8,9,10,11,12,13,14,15,16,17,18,19]),none,none,none,none,none,none]
def Mo (h k:Value) (w:World) (K:Value→World→Prop):Prop:= lp (α:=Value) (.int .i64 0) w fun a b l w=>X5 P .len [T.g] T.e [false] [h] w fun i w=>Q3 P .lss T.e (.tmp 6) (.tmp 8) b i w fun j w=>X1 j (indexAddr P T.g h b w fun d w=>fieldAddr P T.a d 0 w fun f w=>Q2 P T.b f w fun e w=>Q3 P .eql T.b (.tmp 16) (.tmp 17) e k w fun c w=>X1 c (K b w) (Q3 P .add T.e (.tmp 10) (.const (.int .i64 1)) b (.int .i64 1) w fun g w=>a g w)) (K (.int .i64 (-1)) w)
theorem Kj {a b:Value} {w:World} {K:Value→World→Prop} (h:Mo a b w K):Q1 P F.c [a,b] w K:=Q9 Ko Tryz.func54 rfl (by decide) (by kernel_rfl) h
def Bi:V1:=[none,none,none,none,none,none,none,some ([6],[4,6,7,28,29,30,31,32,33,34,35,36,37,38,39,40,41,42,43,44,45,46,47,48,49,50,51]),none,none,none,none,none,none,none]
def Ux (g W:Value) (w:World) (K:Value→World→Prop):Prop:= box P T.a W w fun b w=>fieldAddr P T.a b 1 w fun V w=>Q2 P T.b V w fun i w=>Q1 P F.c [g,i] w fun f w=>Q3 P .lss T.e (.tmp 12) (.const (.int .i64 0)) f (.int .i64 0) w fun d w=>Q0 d false w (fun w J=>J g w) fun l w=>Q0 d false w (fun w J=>J f w) fun C w=>Q0 d false w (indexAddr P T.g l C) fun n w=>Q0 d false w (fieldAddr P T.a n 3) fun z w=>Q0 d false w (Q2 P T.n z) fun s w=>pick P d (.bool true) s w fun c w=>Q0 c false w (fun w J=>J g w) fun j w=>Q0 c false w (fun w J=>J f w) fun N w=>Q0 c false w (indexAddr P T.g j N) fun R w=>Q0 c false w (fieldAddr P T.a R 5) fun q w=>Q0 c false w (Q2 P T.n q) fun H w=>pick P c (.bool true) H w fun D w=>X1 D (K (.int .i64 61) w) (lp (α:=Value) (.int .i64 0) w fun e r X w=>fieldAddr P T.a b 2 w fun Q w=>Q2 P T.d Q w fun y w=>X5 P .len [T.d] T.e [false] [y] w fun U w=>Q3 P .lss T.e (.tmp 28) (.tmp 31) r U w fun M w=>X1 M (fieldAddr P T.a b 2 w fun t w=>Q2 P T.d t w fun E w=>indexAddr P T.d E r w fun m w=>Q2 P T.b m w fun k w=>Q1 P F.c [g,k] w fun h w=>Q3 P .lss T.e (.tmp 42) (.const (.int .i64 0)) h (.int .i64 0) w fun a w=>Q0 a false w (fun w J=>J g w) fun A w=>Q0 a false w (fun w J=>J h w) fun L w=>Q0 a false w (indexAddr P T.g A L) fun u w=>Q0 a false w (fieldAddr P T.a u 3) fun O w=>Q0 a false w (Q2 P T.n O) fun p w=>Q0 a false w (J5 P .not p) fun o w=>pick P a (.bool true) o w fun v w=>X1 v (K (.int .i64 62) w) (Q3 P .add T.e (.tmp 33) (.const (.int .i64 1)) r (.int .i64 1) w fun B w=>e B w)) (K (.int .i64 0) w))
theorem Ck {a b:Value} {w:World} {K:Value→World→Prop} (h:Ux a b w K):Q1 P F.aX [a,b] w K:=Q9 Bi Tryz.func55 rfl (by decide) (by kernel_rfl) h
def Fw:V1:=[none,none,none,none,some ([3,4],[3,4,5,6,7,8,13,14,15,16,17,18,19,20,21,22,23,24,25,26,27,28,29,30,31,32,33,34,35,36,37,38,39,40,41,42,43,44,45,46,47,48,49,50,51,52,53,54]),none,none,none,none,none,none,none,some ([7],[7,8,34,35,36,37,38,39,40,41,42,43,44,45,46,47,48,49,50]),none,none,some ([],[8,40,41,42,43,44,45,46,47,48,49,50]),none,none,none,none,some ([9],[9,10,11,55,56,57,58,59,60,61,62,63,64,65,66,67,68,69,70,71,72,73,74,75,76,77,78,79,80,81,82,83,84,85,86,87,88,89,90,91,92,93,94,95,96,97,98,99,100,101,102,103]),none,none,none,none,some ([10],[10,11,61,62,63,64,65,66,67,68,69,70,71,72,73,74,75,76,77,78,79,80,81,82,83,84,85,86,87,88,89,90,91,92,93,94,95,96,97,98,99,100,101,102,103]),none,none,none,none,some ([11],[11,67,68,69,70,71,72,73,74,75,76,77,78,79,80,81,82,83,84,85,86,87,88,89,90,91,92,93,94,95,96,97,98,99,100,101,102,103]),none,none,none,none]
def Wp (a0:Value) (w:World) (K:Value→World→Prop):Prop:= buildSlice P T.a1 0 [] w fun bs w=>lp (α:=Value×Value) (bs,(.int .i64 0)) w fun Z r d_ w=>X5 P .len [T.g] T.e [false] [a0] w fun bu w=>Q3 P .lss T.e (.tmp 13) (.tmp 15) r.2 bu w fun bz w=>X1 bz (X5 P .len [T.g] T.e [false] [a0] w fun bc w=>Nn P T.a0 bc bc w fun a6 w=>dr w fun b d=>Q7 b (fun V=> ∀w,d w→indexAddr P T.g a0 r.2 w (dk b V w)) fun V=>Q7 b (fun U=> ∀ap w,d w→V ap w→fieldAddr P T.a ap 1 w (dk b U w)) fun U=>Q7 b (fun av=> ∀w,d w→indexAddr P T.g a0 r.2 w (dk b av w)) fun av=>Q7 b (fun ag=> ∀H w,d w→av H w→fieldAddr P T.a H 2 w (dk b ag w)) fun ag=>Q7 b (fun z=> ∀ai w,d w→U ai w→Q2 P T.b ai w (dk b z w)) fun z=>Q7 b (fun a2=> ∀an w,d w→z an w→buildSlice P T.d 1 [(0,an)] w (dk b a2 w)) fun a2=>Q7 b (fun a5=> ∀aa w,d w→ag aa w→Q2 P T.d aa w (dk b a5 w)) fun a5=>∀ap ai H aa an bb bd w,d w→V ap w→U ai w→av H w→ag aa w→z an w→a2 bb w→a5 bd w→ X5 P .append [T.d,T.d] T.d [false,false] [bb,bd] w fun a7 w=>lp (α:=Value) (.int .i64 0) w fun q a3 d_ w=>X5 P .len [T.d] T.e [false] [a7] w fun bq w=>Q3 P .lss T.e (.tmp 34) (.tmp 36) a3 bq w fun b3 w=>X1 b3 (jn (α:=Unit) w (fun be w=>indexAddr P T.d a7 a3 w fun bh w=>Q2 P T.b bh w fun bp w=>Q1 P F.c [a0,bp] w fun ba w=>Q3 P .geq T.e (.tmp 46) (.const (.int .i64 0)) ba (.int .i64 0) w fun bi w=>X1 bi (indexAddr P T.a0 a6 ba w fun bw w=>Z4 P T.n bw (.bool true) w fun _u w=>be () w) (be () w)) fun b4 d_ w=>Q3 P .add T.e (.tmp 38) (.const (.int .i64 1)) a3 (.int .i64 1) w fun bv w=>q bv w) (buildSlice P T.a1 1 [(0,a6)] w fun bo w=>X5 P .append [T.a1,T.a1] T.a1 [false,false] [r.1,bo] w fun bx w=>Q3 P .add T.e (.tmp 17) (.const (.int .i64 1)) r.2 (.int .i64 1) w fun bj w=>Z (bx,bj) w)) (lp (α:=Value) (.int .i64 0) w fun k ab d_ w=>X5 P .len [T.g] T.e [false] [a0] w fun b0 w=>Q3 P .lss T.e (.tmp 55) (.tmp 57) ab b0 w fun b1 w=>X1 b1 (lp (α:=Value) (.int .i64 0) w fun o p d_ w=>X5 P .len [T.g] T.e [false] [a0] w fun b2 w=>Q3 P .lss T.e (.tmp 61) (.tmp 63) p b2 w fun br w=>X1 br (lp (α:=Value) (.int .i64 0) w fun n m d_ w=>X5 P .len [T.g] T.e [false] [a0] w fun bn w=>Q3 P .lss T.e (.tmp 67) (.tmp 69) m bn w fun bk w=>X1 bk (dr w fun b d=>Q7 b (fun A=> ∀w,d w→indexAddr P T.a1 r.1 p w (dk b A w)) fun A=>Q7 b (fun ad=> ∀w,d w→indexAddr P T.a1 r.1 p w (dk b ad w)) fun ad=>Q7 b (fun a4=> ∀af w,d w→A af w→Q2 P T.a0 af w (dk b a4 w)) fun a4=>Q7 b (fun ah=> ∀E w,d w→ad E w→Q2 P T.a0 E w (dk b ah w)) fun ah=>Q7 b (fun ak=> ∀Y w,d w→ah Y w→indexAddr P T.a0 Y m w (dk b ak w)) fun ak=>Q7 b (fun e=> ∀y w,d w→ak y w→Q2 P T.n y w (dk b e w)) fun e=>Q7 b (fun R=> ∀a w,d w→e a w→Q0 a false w (fun w J=>J r.1 w) (dk b R w)) fun R=>Q7 b (fun al=> ∀a w,d w→e a w→Q0 a false w (fun w J=>J p w) (dk b al w)) fun al=>Q7 b (fun u=> ∀a aj W w,d w→e a w→R aj w→al W w→Q0 a false w (indexAddr P T.a1 aj W) (dk b u w)) fun u=>Q7 b (fun D=> ∀a w,d w→e a w→Q0 a false w (fun w J=>J ab w) (dk b D w)) fun D=>Q7 b (fun t=> ∀a ar w,d w→e a w→u ar w→Q0 a false w (Q2 P T.a0 ar) (dk b t w)) fun t=>Q7 b (fun X=> ∀a L ae w,d w→e a w→t L w→D ae w→Q0 a false w (indexAddr P T.a0 L ae) (dk b X w)) fun X=>Q7 b (fun B=> ∀a aq w,d w→e a w→X aq w→Q0 a false w (Q2 P T.n aq) (dk b B w)) fun B=>Q7 b (fun f=> ∀a N w,d w→e a w→B N w→Q0 a false w (fun w J=>J N w) (dk b f w)) fun f=>Q7 b (fun ac=> ∀c w,d w→f c w→Q0 c true w (fun w J=>J r.1 w) (dk b ac w)) fun ac=>Q7 b (fun M=> ∀c w,d w→f c w→Q0 c true w (fun w J=>J ab w) (dk b M w)) fun M=>Q7 b (fun aw=> ∀c s v w,d w→f c w→ac s w→M v w→Q0 c true w (indexAddr P T.a1 s v) (dk b aw w)) fun aw=>Q7 b (fun Q=> ∀c w,d w→f c w→Q0 c true w (fun w J=>J m w) (dk b Q w)) fun Q=>Q7 b (fun ay=> ∀c am w,d w→f c w→aw am w→Q0 c true w (Q2 P T.a0 am) (dk b ay w)) fun ay=>Q7 b (fun O=> ∀c ao C w,d w→f c w→ay ao w→Q C w→Q0 c true w (indexAddr P T.a0 ao C) (dk b O w)) fun O=>Q7 b (fun i=> ∀c ax w,d w→f c w→O ax w→Q0 c true w (Q2 P T.n ax) (dk b i w)) fun i=>Q7 b (fun g=> ∀a c h w,d w→e a w→f c w→i h w→Q0 a false w (pick P c h (.bool false)) (dk b g w)) fun g=>Q7 b (fun l=> ∀a j w,d w→e a w→g j w→pick P a (.bool true) j w (dk b l w)) fun l=>∀af E a8 Y y a aj W ar ae L aq N c s v am C ao ax h j az w,d w→A af w→ad E w→a4 a8 w→ah Y w→ak y w→e a w→R aj w→al W w→u ar w→D ae w→t L w→X aq w→B N w→f c w→ac s w→M v w→aw am w→Q C w→ay ao w→O ax w→i h w→g j w→l az w→ indexAddr P T.a0 a8 m w fun a9 w=>Z4 P T.n a9 az w fun _u w=>Q3 P .add T.e (.tmp 71) (.const (.int .i64 1)) m (.int .i64 1) w fun bl w=>n bl w) (Q3 P .add T.e (.tmp 65) (.const (.int .i64 1)) p (.int .i64 1) w fun bm w=>o bm w)) (Q3 P .add T.e (.tmp 59) (.const (.int .i64 1)) ab (.int .i64 1) w fun bg w=>k bg w)) (K r.1 w))
theorem Fu {a:Value} {w:World} {K:Value→World→Prop} (h:Wp a w K):Q1 P F.az [a] w K:=Q9 Fw Tryz.func56 rfl (by decide) (by kernel_rfl) h
def Tk:V1:=[none,none,none,none,none,none,some ([9],[8,9,16,17,18,19,20,21,22,23,24,25,26,27,28]),none,none,none,none,none,none,none,none,some ([1,11],[1,11,41,42,43,44,45,46,47,48,49,50,51,52,53,54,55,56]),none,none,none,none]
def Om (y v X u:Value) (w:World) (K:Value→World→Prop):Prop:= Q3 P .lss T.e (.tmp 12) (.tmp 13) u X w fun C w=>X1 C (K v w) (lp (α:=Value) (.int .i64 0) w fun e N Y w=>X5 P .len [T.t] T.e [false] [v] w fun O w=>Q3 P .lss T.e (.tmp 16) (.tmp 18) N O w fun J w=>X1 J (indexAddr P T.t v N w fun U w=>Q2 P T.e U w fun H w=>Q3 P .eql T.e (.tmp 25) (.tmp 26) H u w fun Q w=>X1 Q (K v w) (Q3 P .add T.e (.tmp 20) (.const (.int .i64 1)) N (.int .i64 1) w fun E w=>e E w)) (dr w fun a o=>Q7 a (fun f=> ∀w,o w→indexAddr P T.g y u w (dk a f w)) fun f=>Q7 a (fun j=> ∀d w,o w→f d w→fieldAddr P T.a d 1 w (dk a j w)) fun j=>Q7 a (fun g=> ∀w,o w→indexAddr P T.g y u w (dk a g w)) fun g=>Q7 a (fun h=> ∀n w,o w→g n w→fieldAddr P T.a n 2 w (dk a h w)) fun h=>Q7 a (fun k=> ∀l w,o w→j l w→Q2 P T.b l w (dk a k w)) fun k=>Q7 a (fun p=> ∀m w,o w→k m w→buildSlice P T.d 1 [(0,m)] w (dk a p w)) fun p=>Q7 a (fun q=> ∀i w,o w→h i w→Q2 P T.d i w (dk a q w)) fun q=>∀d l n i m t s w,o w→f d w→j l w→g n w→h i w→k m w→p t w→q s w→ X5 P .append [T.d,T.d] T.d [false,false] [t,s] w fun r w=>lp (α:=Value×Value) (v,(.int .i64 0)) w fun b c Y w=>X5 P .len [T.d] T.e [false] [r] w fun D w=>Q3 P .lss T.e (.tmp 41) (.tmp 43) c.2 D w fun W w=>X1 W (indexAddr P T.d r c.2 w fun V w=>Q2 P T.b V w fun L w=>Q1 P F.c [y,L] w fun B w=>Q1 P F.aM [y,c.1,X,B] w fun M w=>Q3 P .add T.e (.tmp 45) (.const (.int .i64 1)) c.2 (.int .i64 1) w fun R w=>b (M,R) w) (buildSlice P T.t 1 [(0,u)] w fun A w=>X5 P .append [T.t,T.t] T.t [false,false] [c.1,A] w fun z w=>K z w)))
theorem Tb {b d a c:Value} {w:World} {K:Value→World→Prop} (h:Om b d a c w K):Q1 P F.aM [b,d,a,c] w K:=Q9 Tk Tryz.func57 rfl (by decide) (by kernel_rfl) h
end Go.Proofs.YtfppjenblllfaaaGreatDoor

set_option maxRecDepth 100000
namespace Go.Proofs.YtfppjenblllfaaaGreatDoor
open Go.Emb
def Qo (u A:Value) (w:World) (K:Value→World→Prop):Prop:= Q1 P F.c [u,A] w fun z w=>Q3 P .lss T.e (.tmp 9) (.const (.int .i64 0)) z (.int .i64 0) w fun v w=>X1 v (K (.slice none 0 0) w) (dr w fun a b=>Q7 a (fun c=> ∀w,b w→indexAddr P T.g u z w (dk a c w)) fun c=>Q7 a (fun h=> ∀e w,b w→c e w→fieldAddr P T.a e 1 w (dk a h w)) fun h=>Q7 a (fun l=> ∀w,b w→indexAddr P T.g u z w (dk a l w)) fun l=>Q7 a (fun i=> ∀p w,b w→l p w→fieldAddr P T.a p 6 w (dk a i w)) fun i=>Q7 a (fun d=> ∀w,b w→buildSlice P T.i 0 [] w (dk a d w)) fun d=>Q7 a (fun m=> ∀k w,b w→h k w→Q2 P T.b k w (dk a m w)) fun m=>Q7 a (fun g=> ∀f w,b w→m f w→Q1 P F.x [u,f] w (dk a g w)) fun g=>Q7 a (fun q=> ∀o j w,b w→d o w→g j w→X5 P .append [T.i,T.i] T.i [false,false] [o,j] w (dk a q w)) fun q=>Q7 a (fun r=> ∀n w,b w→i n w→Q2 P T.i n w (dk a r w)) fun r=>∀e k p n o f j s t w,b w→c e w→h k w→l p w→i n w→d o w→m f w→g j w→q s w→r t w→ X5 P .append [T.i,T.i] T.i [false,false] [s,t] w fun y w=>K y w)
theorem Vg {a b:Value} {w:World} {K:Value→World→Prop} (h:Qo a b w K):Q1 P F.x [a,b] w K:=Q9 (List.replicate 6 none) Tryz.func173 rfl (by decide) (by kernel_rfl) h
def Gp:V1:=[none,none,none,none,some ([8],[6,8,12,13,14,15,16,17,18,19,20,21,22,23,24,25]),none,none,none,none,none,none]
def Lc (l m k:Value) (w:World) (K:Value→World→Prop):Prop:= Q1 P F.x [l,m] w fun b w=>lp (α:=Value) (.int .i64 0) w fun a c n w=>X5 P .len [T.i] T.e [false] [b] w fun d w=>Q3 P .lss T.e (.tmp 12) (.tmp 14) c d w fun h w=>X1 h (indexAddr P T.i b c w fun g w=>fieldAddr P T.m g 0 w fun f w=>Q2 P T.b f w fun j w=>Q3 P .eql T.b (.tmp 22) (.tmp 23) j k w fun e w=>X1 e (K c w) (Q3 P .add T.e (.tmp 16) (.const (.int .i64 1)) c (.int .i64 1) w fun i w=>a i w)) (K (.int .i64 (-1)) w)
theorem Fg {b c a:Value} {w:World} {K:Value→World→Prop} (h:Lc b c a w K):Q1 P F.bb [b,c,a] w K:=Q9 Gp Tryz.func114 rfl (by decide) (by kernel_rfl) h
def Nc (b:Value) (w:World) (K:Value→World→Prop):Prop:= X5 P .len [T.b] T.e [false] [b] w fun e w=>Q1 P F.ak [b] w fun c w=>Q3 P .mul T.e (.const (.int .i64 2)) (.tmp 7) (.int .i64 2) c w fun d w=>Q3 P .sub T.e (.tmp 5) (.tmp 8) e d w fun f w=>E9 P T.b b none (some f) none w fun a w=>K a w
theorem Pf {a:Value} {w:World} {K:Value→World→Prop} (h:Nc a w K):Q1 P F.aG [a] w K:=Q9 (List.replicate 2 none) Tryz.func121 rfl (by decide) (by kernel_rfl) h
def Mu (p d:Value) (w:World) (K:Value→World→Prop):Prop:= Q3 P .eql T.b (.tmp 5) (.const (.string ⟨#[110,117,108,108]⟩)) d (.string ⟨#[110,117,108,108]⟩) w fun c w=>Q0 c false w (fun w J=>J d w) fun r w=>Q0 c false w (Q1 P F.i [r]) fun q w=>Q0 c false w (fun w J=>J q w) fun a w=>Q0 a true w (fun w J=>J d w) fun m w=>Q0 a true w (Q1 P F.aG [m]) fun e w=>Q0 a true w (Q1 P F.ac [e]) fun n w=>Q0 a true w (fun w J=>J n w) fun b w=>Q0 b false w (fun w J=>J p w) fun f w=>Q0 b false w (fun w J=>J d w) fun k w=>Q0 b false w (Q1 P F.aG [k]) fun g w=>Q0 b false w (Q1 P F.c [f,g]) fun j w=>Q0 b false w (Q3 P .geq T.e (.tmp 18) (.const (.int .i64 0)) j (.int .i64 0)) fun i w=>Q0 a true w (pick P b (.bool true) i) fun l w=>Q0 c false w (pick P a l (.bool false)) fun h w=>pick P c (.bool true) h w fun o w=>K o w
theorem Ks {a b:Value} {w:World} {K:Value→World→Prop} (h:Mu a b w K):Q1 P F.bm [a,b] w K:=Q9 (List.replicate 2 none) Tryz.func61 rfl (by decide) (by kernel_rfl) h
def Lk (e d:Value) (w:World) (K:Value→World→Prop):Prop:= Q3 P .neq T.b (.tmp 5) (.const (.string ⟨#[110,117,108,108]⟩)) d (.string ⟨#[110,117,108,108]⟩) w fun a w=>Q0 a true w (fun w J=>J e w) fun f w=>Q0 a true w (fun w J=>J d w) fun g w=>Q0 a true w (Q1 P F.bm [f,g]) fun b w=>pick P a b (.bool false) w fun c w=>K c w
theorem Ge {a b:Value} {w:World} {K:Value→World→Prop} (h:Lk a b w K):Q1 P F.bc [a,b] w K:=Q9 (List.replicate 2 none) Tryz.func115 rfl (by decide) (by kernel_rfl) h
def Ir:V1:=[none,none,none,none,some ([3,4],[3,4,5,6,7,8,9,10,11,12,13,14,15,16,17,18,19,20,21,22]),none,none,none,some ([3],[3,12,13,14,15]),none,none]
def Mi (r:Value) (w:World) (K:Value→World→Prop):Prop:= box P T.c r w fun a w=>lp (α:=Value×Value) ((.string ⟨#[40]⟩),(.int .i64 0)) w fun b c y w=>fieldAddr P T.c a 1 w fun u w=>Q2 P T.d u w fun q w=>X5 P .len [T.d] T.e [false] [q] w fun v w=>Q3 P .lss T.e (.tmp 5) (.tmp 8) c.2 v w fun s w=>X1 s (jn (α:=Value) w (fun p w=>Q3 P .gtr T.e (.tmp 12) (.const (.int .i64 0)) c.2 (.int .i64 0) w fun n w=>X1 n (Q3 P .add T.b (.tmp 14) (.const (.string ⟨#[44]⟩)) c.1 (.string ⟨#[44]⟩) w fun d w=>p d w) (p c.1 w)) fun t y w=>fieldAddr P T.c a 1 w fun e w=>Q2 P T.d e w fun h w=>indexAddr P T.d h c.2 w fun k w=>Q2 P T.b k w fun f w=>Q3 P .add T.b (.tmp 16) (.tmp 21) t f w fun o w=>Q3 P .add T.e (.tmp 10) (.const (.int .i64 1)) c.2 (.int .i64 1) w fun m w=>b (o,m) w) (Q3 P .add T.b (.tmp 23) (.const (.string ⟨#[41]⟩)) c.1 (.string ⟨#[41]⟩) w fun l w=>fieldAddr P T.c a 2 w fun g w=>Q2 P T.b g w fun j w=>Q3 P .add T.b (.tmp 24) (.tmp 26) l j w fun i w=>K i w)
theorem Kr {a:Value} {w:World} {K:Value→World→Prop} (h:Mi a w K):Q1 P F.aF [a] w K:=Q9 Ir Tryz.func116 rfl (by decide) (by kernel_rfl) h
def Pp:V1:=[none,none,none,some ([5],[4,5,6,7,8,9,10,11,12,13,14,15,16,17,18,19,20,21]),none,none,none,none,none,none]
def Oc (m p:Value) (w:World) (K:Value→World→Prop):Prop:= box P T.a m w fun a w=>lp (α:=Value) (.int .i64 0) w fun b c q w=>fieldAddr P T.a a 7 w fun l w=>Q2 P T.f l w fun o w=>X5 P .len [T.f] T.e [false] [o] w fun n w=>Q3 P .lss T.e (.tmp 6) (.tmp 9) c n w fun d w=>X1 d (fieldAddr P T.a a 7 w fun k w=>Q2 P T.f k w fun g w=>indexAddr P T.f g c w fun i w=>fieldAddr P T.c i 0 w fun f w=>Q2 P T.b f w fun h w=>Q3 P .eql T.b (.tmp 18) (.tmp 19) h p w fun j w=>X1 j (K c w) (Q3 P .add T.e (.tmp 11) (.const (.int .i64 1)) c (.int .i64 1) w fun e w=>b e w)) (K (.int .i64 (-1)) w)
theorem Tt {a b:Value} {w:World} {K:Value→World→Prop} (h:Oc a b w K):Q1 P F.aN [a,b] w K:=Q9 Pp Tryz.func174 rfl (by decide) (by kernel_rfl) h
def Gv:V1:=[none,none,none,some ([9],[6,8,9,10,11,12,13,14,15,16,17,18,19,20,21,22,23,24,25,26,27,28,29,30,31,32,33,34,35,36,37,38,39,40,41,42,43,44,45,46,47,48,49,50,51,52,53,54]),none,none,none,none,none,none,none,none,none,none,none,none]
def Lh (A a1 a2:Value) (w:World) (K:Value→World→Prop):Prop:= box P T.a a1 w fun d w=>W7 P T.c w fun s w=>lp (α:=Value) (.int .i64 0) w fun f Q d_ w=>fieldAddr P T.a d 2 w fun W w=>Q2 P T.d W w fun D w=>X5 P .len [T.d] T.e [false] [D] w fun U w=>Q3 P .lss T.e (.tmp 15) (.tmp 18) Q U w fun M w=>X1 M (fieldAddr P T.a d 2 w fun ab w=>Q2 P T.d ab w fun L w=>indexAddr P T.d L Q w fun X w=>Q2 P T.b X w fun V w=>Q1 P F.c [A,V] w fun aa w=>indexAddr P T.g A aa w fun R w=>Q2 P T.a R w fun B w=>W7 P T.a w fun a w=>Z4 P T.a a B w fun _u w=>Q2 P T.a a w fun Z w=>Q1 P F.aN [Z,a2] w fun y w=>Q3 P .geq T.e (.tmp 35) (.const (.int .i64 0)) y (.int .i64 0) w fun N w=>X1 N (dr w fun b e=>Q7 b (fun i=> ∀w,e w→fieldAddr P T.a a 0 w (dk b i w)) fun i=>Q7 b (fun l=> ∀w,e w→fieldAddr P T.a a 7 w (dk b l w)) fun l=>Q7 b (fun p=> ∀n w,e w→i n w→Q2 P T.b n w (dk b p w)) fun p=>Q7 b (fun j=> ∀h w,e w→l h w→Q2 P T.f h w (dk b j w)) fun j=>Q7 b (fun m=> ∀g w,e w→j g w→indexAddr P T.f g y w (dk b m w)) fun m=>Q7 b (fun q=> ∀k w,e w→m k w→Q2 P T.c k w (dk b q w)) fun q=>∀n h z g k t w,e w→i n w→l h w→p z w→j g w→m k w→q t w→ Z4 P T.c s t w fun _u w=>V7 P T.c s w fun u=>K (.tuple #[z,u,(.bool true)]) w) (Q2 P T.a a w fun Y w=>Q1 P F.aB [A,Y,a2] w fun r w=>ext P r 0 w fun J w=>ext P r 1 w fun E w=>ext P r 2 w fun O w=>W7 P T.c w fun c w=>Z4 P T.c c E w fun _u w=>X1 O (dr w fun b e=>Q7 b (fun o=> ∀w,e w→Q2 P T.c c w (dk b o w)) fun o=>∀v w,e w→o v w→ Z4 P T.c s v w fun _u w=>V7 P T.c s w fun u=>K (.tuple #[J,u,(.bool true)]) w) (Q3 P .add T.e (.tmp 20) (.const (.int .i64 1)) Q (.int .i64 1) w fun H w=>f H w))) (O7 P T.c [] w fun C w=>Z4 P T.c s C w fun _u w=>V7 P T.c s w fun u=>K (.tuple #[(.string ⟨#[]⟩),u,(.bool false)]) w)
theorem Fq {b c a:Value} {w:World} {K:Value→World→Prop} (h:Lh b c a w K):Q1 P F.aB [b,c,a] w K:=Q9 Gv Tryz.func175 rfl (by decide) (by kernel_rfl) h
def Cy:V1:=[none,none,none,some ([9],[6,8,9,10,18,19,20,21,22,23,24,25,26,27,28,29,30,31,32,33,34,35,36,37,38,39,40,41,42,43,44,45,46,47]),none,none,none,none,none,none,none,none,some ([11],[6,8,11,12,13,14,51,52,53,54,55,56,57,58,59,60,61,62,63,64,65,66,67,68,69,70,71,72,73]),none,none,none,none,none,none,none]
def Vk (c a1 a2:Value) (w:World) (K:Value→World→Prop):Prop:= W7 P T.c w fun y w=>Q1 P F.c [c,a1] w fun N w=>lp (α:=Value) N w fun e C d_ w=>Q3 P .geq T.e (.tmp 18) (.const (.int .i64 0)) C (.int .i64 0) w fun U w=>X1 U (indexAddr P T.g c C w fun ad w=>Q2 P T.a ad w fun V w=>Q1 P F.aN [V,a2] w fun E w=>Q3 P .geq T.e (.tmp 33) (.const (.int .i64 0)) E (.int .i64 0) w fun Y w=>X1 Y (dr w fun a b=>Q7 a (fun g=> ∀w,b w→indexAddr P T.g c C w (dk a g w)) fun g=>Q7 a (fun j=> ∀q w,b w→g q w→fieldAddr P T.a q 0 w (dk a j w)) fun j=>Q7 a (fun m=> ∀w,b w→indexAddr P T.g c C w (dk a m w)) fun m=>Q7 a (fun n=> ∀i w,b w→m i w→fieldAddr P T.a i 7 w (dk a n w)) fun n=>Q7 a (fun t=> ∀k w,b w→j k w→Q2 P T.b k w (dk a t w)) fun t=>Q7 a (fun h=> ∀f w,b w→n f w→Q2 P T.f f w (dk a h w)) fun h=>Q7 a (fun o=> ∀p w,b w→h p w→indexAddr P T.f p E w (dk a o w)) fun o=>Q7 a (fun v=> ∀l w,b w→o l w→Q2 P T.c l w (dk a v w)) fun v=>∀q k i f z p l B w,b w→g q w→j k w→m i w→n f w→t z w→h p w→o l w→v B w→ Z4 P T.c y B w fun _u w=>V7 P T.c y w fun A=>K (.tuple #[z,A,(.bool true)]) w) (indexAddr P T.g c C w fun ab w=>fieldAddr P T.a ab 1 w fun ae w=>Q2 P T.b ae w fun R w=>Q1 P F.c [c,R] w fun aa w=>e aa w)) (Q1 P F.c [c,a1] w fun O w=>lp (α:=Value) O w fun d r d_ w=>Q3 P .geq T.e (.tmp 51) (.const (.int .i64 0)) r (.int .i64 0) w fun Q w=>X1 Q (indexAddr P T.g c r w fun ah w=>Q2 P T.a ah w fun J w=>Q1 P F.aB [c,J,a2] w fun s w=>ext P s 0 w fun M w=>ext P s 1 w fun ac w=>ext P s 2 w fun Z w=>W7 P T.c w fun H w=>Z4 P T.c H ac w fun _u w=>X1 Z (dr w fun a b=>Q7 a (fun u=> ∀w,b w→Q2 P T.c H w (dk a u w)) fun u=>∀D w,b w→u D w→ Z4 P T.c y D w fun _u w=>V7 P T.c y w fun A=>K (.tuple #[M,A,(.bool true)]) w) (indexAddr P T.g c r w fun W w=>fieldAddr P T.a W 1 w fun af w=>Q2 P T.b af w fun ag w=>Q1 P F.c [c,ag] w fun L w=>d L w)) (O7 P T.c [] w fun X w=>Z4 P T.c y X w fun _u w=>V7 P T.c y w fun A=>K (.tuple #[(.string ⟨#[]⟩),A,(.bool false)]) w))
theorem Ba {b c a:Value} {w:World} {K:Value→World→Prop} (h:Vk b c a w K):Q1 P F.aZ [b,c,a] w K:=Q9 Cy Tryz.func117 rfl (by decide) (by kernel_rfl) h
def So:V1:=[none,none,none,none,some ([6],[4,6,24,25,26,27,28,29,30,31,32,33,34,35,36,37,38,39,40,41]),none,none,none,none,none,none,none,none,some ([7,8],[7,8,43,44,45,46,47,48,49,50,51,52,53,54,55,56,57,58]),none,none,none,none,none,some ([7,9],[7,9,59,60,61,62,63,64,65,66,67,68,69,70,71,72,73,74,75,76,77,78,79,80,81,82,83,84,85,86,87,88,89]),none,none,some ([7],[7,66,67,68,69,70,71,72,73,74,75,76,77,78,79,80,81,82,83,84,85,86,87,88,89]),none,none,none,none,some ([10],[4,10,90,91,92,93,94,95,96,97,98,99,100,101,102]),none,none,none,none,none,none,none,none,none,some ([12,13],[12,13,106,107,108,109,110,111,112,113,114,115,116,117,118,119,120,121,122,123,124,125,126,127,128,129,130]),none,none,some ([12],[12,112,113,114,115,116,117,118,119,120,121,122,123,124,125,126,127,128,129,130]),none,none,none,some ([14],[4,14,15,131,132,133,134,135,136,137,138,139,140,141,142,143,144,145,146,147,148,149,150,151,152,153,154,155,156,157,158,159,160,161,162,163,164,165]),none,none,none,none,some ([15],[4,15,137,138,139,140,141,142,143,144,145,146,147,148,149,150,151,152,153,154,155,156,157,158,159,160,161,162,163,164,165]),none,none,none,none,none,none,none,some ([16],[4,16,17,18,19,166,167,168,169,170,171,172,173,174,175,176,177,178,179,180,181,182,183,184,185,186,187,188,189,190,191,192,193,194,195]),none,none,none,none,none,none,none]
def Uj (a0 a1:Value) (w:World) (K:Value→World→Prop):Prop:= indexAddr P T.g a0 a1 w fun d7 w=>Q2 P T.a d7 w fun da w=>W7 P T.a w fun t5 w=>Z4 P T.a t5 da w fun _u w=>lp (α:=Value) (.int .i64 0) w fun a6 x4 d_ w=>fieldAddr P T.a t5 6 w fun eb w=>Q2 P T.i eb w fun ef w=>X5 P .len [T.i] T.e [false] [ef] w fun ee w=>Q3 P .lss T.e (.tmp 24) (.tmp 27) x4 ee w fun d3 w=>X1 d3 (dr w fun b c=>Q7 b (fun ba=> ∀w,c w→fieldAddr P T.a t5 1 w (dk b ba w)) fun ba=>Q7 b (fun a7=> ∀w,c w→fieldAddr P T.a t5 6 w (dk b a7 w)) fun a7=>Q7 b (fun bk=> ∀bf w,c w→ba bf w→Q2 P T.b bf w (dk b bk w)) fun bk=>Q7 b (fun a3=> ∀be w,c w→a7 be w→Q2 P T.i be w (dk b a3 w)) fun a3=>Q7 b (fun a2=> ∀bc w,c w→a3 bc w→indexAddr P T.i bc x4 w (dk b a2 w)) fun a2=>Q7 b (fun a4=> ∀a5 w,c w→a2 a5 w→fieldAddr P T.m a5 0 w (dk b a4 w)) fun a4=>Q7 b (fun bn=> ∀bd w,c w→a4 bd w→Q2 P T.b bd w (dk b bn w)) fun bn=>∀bf be b0 bc a5 bd cl w,c w→ba bf w→a7 be w→bk b0 w→a3 bc w→a2 a5 w→a4 bd w→bn cl w→ Q1 P F.bb [a0,b0,cl] w fun dw w=>Q3 P .geq T.e (.tmp 40) (.const (.int .i64 0)) dw (.int .i64 0) w fun dq w=>X1 dq (K (.int .i64 64) w) (Q3 P .add T.e (.tmp 29) (.const (.int .i64 1)) x4 (.int .i64 1) w fun c4 w=>a6 c4 w)) (buildSlice P T.d 0 [] w fun di w=>lp (α:=Value×Value) (di,(.int .i64 0)) w fun ax al d_ w=>fieldAddr P T.a t5 6 w fun d6 w=>Q2 P T.i d6 w fun ed w=>X5 P .len [T.i] T.e [false] [ed] w fun c9 w=>Q3 P .lss T.e (.tmp 43) (.tmp 46) al.2 c9 w fun dz w=>X1 dz (fieldAddr P T.a t5 6 w fun c2 w=>Q2 P T.i c2 w fun dg w=>indexAddr P T.i dg al.2 w fun ec w=>fieldAddr P T.m ec 1 w fun df w=>Q2 P T.b df w fun d0 w=>buildSlice P T.d 1 [(0,d0)] w fun eg w=>X5 P .append [T.d,T.d] T.d [false,false] [al.1,eg] w fun ds w=>Q3 P .add T.e (.tmp 48) (.const (.int .i64 1)) al.2 (.int .i64 1) w fun dh w=>ax (ds,dh) w) (lp (α:=Value×Value) (al.1,(.int .i64 0)) w fun ar j d_ w=>fieldAddr P T.a t5 7 w fun cy w=>Q2 P T.f cy w fun dc w=>X5 P .len [T.f] T.e [false] [dc] w fun c1 w=>Q3 P .lss T.e (.tmp 59) (.tmp 62) j.2 c1 w fun eh w=>X1 eh (jn (α:=Value) w (fun b7 w=>fieldAddr P T.a t5 7 w fun ea w=>Q2 P T.f ea w fun d8 w=>indexAddr P T.f d8 j.2 w fun c7 w=>fieldAddr P T.c c7 1 w fun dl w=>Q2 P T.d dl w fun d4 w=>X5 P .append [T.d,T.d] T.d [false,false] [j.1,d4] w fun cs w=>fieldAddr P T.a t5 7 w fun c5 w=>Q2 P T.f c5 w fun d9 w=>indexAddr P T.f d9 j.2 w fun dn w=>fieldAddr P T.c dn 2 w fun d2 w=>Q2 P T.b d2 w fun dx w=>Q3 P .neq T.b (.tmp 79) (.const (.string ⟨#[]⟩)) dx (.string ⟨#[]⟩) w fun c3 w=>X1 c3 (fieldAddr P T.a t5 7 w fun dm w=>Q2 P T.f dm w fun dy w=>indexAddr P T.f dy j.2 w fun c6 w=>fieldAddr P T.c c6 2 w fun dj w=>Q2 P T.b dj w fun dd w=>buildSlice P T.d 1 [(0,dd)] w fun dt w=>X5 P .append [T.d,T.d] T.d [false,false] [cs,dt] w fun d1 w=>b7 d1 w) (b7 cs w)) fun de d_ w=>Q3 P .add T.e (.tmp 64) (.const (.int .i64 1)) j.2 (.int .i64 1) w fun cx w=>ar (de,cx) w) (lp (α:=Value) (.int .i64 0) w fun ak bl d_ w=>X5 P .len [T.d] T.e [false] [j.1] w fun c8 w=>Q3 P .lss T.e (.tmp 90) (.tmp 92) bl c8 w fun dp w=>X1 dp (indexAddr P T.d j.1 bl w fun dv w=>Q2 P T.b dv w fun bs w=>Q1 P F.bc [a0,bs] w fun cq w=>J5 P .not cq w fun bo w=>X1 bo (K (.int .i64 65) w) (Q3 P .add T.e (.tmp 94) (.const (.int .i64 1)) bl (.int .i64 1) w fun c0 w=>ak c0 w)) (Q1 P F.az [a0] w fun cf w=>buildSlice P T.f 0 [] w fun cj w=>lp (α:=Value×Value) (cj,(.int .i64 0)) w fun az f d_ w=>X5 P .len [T.g] T.e [false] [a0] w fun cu w=>Q3 P .lss T.e (.tmp 106) (.tmp 108) f.2 cu w fun b2 w=>X1 b2 (jn (α:=Value) w (fun ca w=>Q3 P .eql T.e (.tmp 112) (.tmp 113) f.2 a1 w fun g w=>Q0 g false w (fun w J=>J cf w) fun bx w=>Q0 g false w (fun w J=>J a1 w) fun cg w=>Q0 g false w (indexAddr P T.a1 bx cg) fun b4 w=>Q0 g false w (Q2 P T.a0 b4) fun b9 w=>Q0 g false w (fun w J=>J f.2 w) fun b6 w=>Q0 g false w (indexAddr P T.a0 b9 b6) fun bv w=>Q0 g false w (Q2 P T.n bv) fun cv w=>pick P g (.bool true) cv w fun cr w=>X1 cr (indexAddr P T.g a0 f.2 w fun ck w=>fieldAddr P T.a ck 7 w fun cm w=>Q2 P T.f cm w fun co w=>X5 P .append [T.f,T.f] T.f [false,false] [f.1,co] w fun br w=>ca br w) (ca f.1 w)) fun d5 d_ w=>Q3 P .add T.e (.tmp 110) (.const (.int .i64 1)) f.2 (.int .i64 1) w fun ce w=>az (d5,ce) w) (lp (α:=Value) (.int .i64 0) w fun ai av d_ w=>X5 P .len [T.f] T.e [false] [f.1] w fun b1 w=>Q3 P .lss T.e (.tmp 131) (.tmp 133) av b1 w fun cc w=>X1 cc (lp (α:=Value) (.int .i64 0) w fun aq a9 d_ w=>Q3 P .lss T.e (.tmp 137) (.tmp 138) a9 av w fun bq w=>X1 bq (dr w fun b c=>Q7 b (fun E=> ∀w,c w→indexAddr P T.f f.1 av w (dk b E w)) fun E=>Q7 b (fun m=> ∀u w,c w→E u w→fieldAddr P T.c u 0 w (dk b m w)) fun m=>Q7 b (fun l=> ∀w,c w→indexAddr P T.f f.1 a9 w (dk b l w)) fun l=>Q7 b (fun W=> ∀U w,c w→l U w→fieldAddr P T.c U 0 w (dk b W w)) fun W=>Q7 b (fun Q=> ∀C w,c w→m C w→Q2 P T.b C w (dk b Q w)) fun Q=>Q7 b (fun z=> ∀A w,c w→W A w→Q2 P T.b A w (dk b z w)) fun z=>Q7 b (fun d=> ∀v q w,c w→Q v w→z q w→Q3 P .eql T.b (.tmp 146) (.tmp 151) v q w (dk b d w)) fun d=>Q7 b (fun y=> ∀a w,c w→d a w→Q0 a true w (fun w J=>J f.1 w) (dk b y w)) fun y=>Q7 b (fun X=> ∀a w,c w→d a w→Q0 a true w (fun w J=>J av w) (dk b X w)) fun X=>Q7 b (fun n=> ∀a V af w,c w→d a w→y V w→X af w→Q0 a true w (indexAddr P T.f V af) (dk b n w)) fun n=>Q7 b (fun H=> ∀a w,c w→d a w→Q0 a true w (fun w J=>J f.1 w) (dk b H w)) fun H=>Q7 b (fun r=> ∀a w,c w→d a w→Q0 a true w (fun w J=>J a9 w) (dk b r w)) fun r=>Q7 b (fun aa=> ∀a D Z w,c w→d a w→H D w→r Z w→Q0 a true w (indexAddr P T.f D Z) (dk b aa w)) fun aa=>Q7 b (fun R=> ∀a ae w,c w→d a w→n ae w→Q0 a true w (Q2 P T.c ae) (dk b R w)) fun R=>Q7 b (fun ay=> ∀a Y w,c w→d a w→R Y w→Q0 a true w (Q1 P F.aF [Y]) (dk b ay w)) fun ay=>Q7 b (fun ao=> ∀a ag w,c w→d a w→aa ag w→Q0 a true w (Q2 P T.c ag) (dk b ao w)) fun ao=>∀u C U A v q a V af ae D Z ag Y bg bh w,c w→E u w→m C w→l U w→W A w→Q v w→z q w→d a w→y V w→X af w→n ae w→H D w→r Z w→aa ag w→R Y w→ay bg w→ao bh w→ Q0 a true w (Q1 P F.aF [bh]) fun cb w=>Q0 a true w (Q3 P .neq T.b (.tmp 158) (.tmp 163) bg cb) fun cd w=>pick P a cd (.bool false) w fun ci w=>X1 ci (K (.int .i64 66) w) (Q3 P .add T.e (.tmp 140) (.const (.int .i64 1)) a9 (.int .i64 1) w fun bw w=>aq bw w)) (Q3 P .add T.e (.tmp 135) (.const (.int .i64 1)) av (.int .i64 1) w fun cn w=>ai cn w)) (lp (α:=Value) (.int .i64 0) w fun am bj d_ w=>X5 P .len [T.f] T.e [false] [f.1] w fun bz w=>Q3 P .lss T.e (.tmp 166) (.tmp 168) bj bz w fun ab w=>Q0 ab true w (fieldAddr P T.a t5 4) fun bp w=>Q0 ab true w (Q2 P T.n bp) fun b3 w=>Q0 ab true w (J5 P .not b3) fun ch w=>pick P ab ch (.bool false) w fun b8 w=>X1 b8 (dr w fun b c=>Q7 b (fun L=> ∀w,c w→fieldAddr P T.a t5 0 w (dk b L w)) fun L=>Q7 b (fun ad=> ∀w,c w→indexAddr P T.f f.1 bj w (dk b ad w)) fun ad=>Q7 b (fun M=> ∀N w,c w→ad N w→fieldAddr P T.c N 0 w (dk b M w)) fun M=>Q7 b (fun s=> ∀ac w,c w→L ac w→Q2 P T.b ac w (dk b s w)) fun s=>Q7 b (fun o=> ∀B w,c w→M B w→Q2 P T.b B w (dk b o w)) fun o=>Q7 b (fun i=> ∀p O w,c w→s p w→o O w→Q1 P F.aZ [a0,p,O] w (dk b i w)) fun i=>Q7 b (fun an=> ∀e w,c w→i e w→ext P e 0 w (dk b an w)) fun an=>Q7 b (fun t=> ∀e w,c w→i e w→ext P e 1 w (dk b t w)) fun t=>Q7 b (fun aw=> ∀e w,c w→i e w→ext P e 2 w (dk b aw w)) fun aw=>Q7 b (fun a8=> ∀w,c w→W7 P T.c w (dk b a8 w)) fun a8=>Q16 b (fun aj=> ∀k h w,c w→a8 k w→t h w→Z4 P T.c k h w (dk b (aj [k,h]) w)) fun aj=>∀ac N B p O e bu h bi k cz w,c w→L ac w→ad N w→M B w→s p w→o O w→i e w→an bu w→t h w→aw bi w→a8 k w→aj [k,h] cz w→ J5 P .not bi w fun ap w=>Q0 ap false w (fieldAddr P T.c k 3) fun cw w=>Q0 ap false w (Q2 P T.n cw) fun b5 w=>pick P ap (.bool true) b5 w fun ct w=>X1 ct (K (.int .i64 67) w) (Q3 P .add T.e (.tmp 175) (.const (.int .i64 1)) bj (.int .i64 1) w fun cp w=>am cp w)) (K (.int .i64 0) w)))))))
theorem Sk {a b:Value} {w:World} {K:Value→World→Prop} (h:Uj a b w K):Q1 P F.aR [a,b] w K:=Q9 So Tryz.func58 rfl (by decide) (by kernel_rfl) h
def Tg:V1:=[none,none,none,none,none,some ([5,7],[2,3,4,5,7,8,21,22,23,24,25,26,27,28,29,30,31,32,33,34,35,36,37,38,39,40,41,42]),none,none,none,none,none,none,none,none,none,some ([9],[2,3,4,9,43,44,45,46,47,48,49,50,51,52,53,54,55,56,57,58,59,60]),none,none,none,none,none,none,none,some ([10],[2,3,4,10,11,61,62,63,64,65,66,67,68,69,70,71,72,73,74,75,76]),none,none,none,none,none,none,none,none,none,some ([13],[2,3,4,13,79,80,81,82,83,84,85,86,87,88,89,90,91,92,93,94,95,96]),none,none,none,none,none,none,none,none,some ([14,15],[14,15,98,99,100,101,102,103,104,105,106,107,108,109,110]),none,none,none,none,none,some ([16],[2,3,4,16,17,111,112,113,114,115,116,117,118,119,120,121,122,123,124,125,126,127,128,129,130,131]),none,none,none,none,none,none,none]
def Og (l:Value) (w:World) (K:Value→World→Prop):Prop:= Q1 P F.b6 [] w fun A w=>X5 P .len [T.g] T.e [false] [A] w fun b w=>lp (α:=Value×Value) (A,(.int .i64 0)) w fun m c L w=>X5 P .len [T.g] T.e [false] [l] w fun ap w=>Q3 P .lss T.e (.tmp 21) (.tmp 23) c.2 ap w fun ax w=>X1 ax (indexAddr P T.g l c.2 w fun av w=>Q2 P T.a av w fun ac w=>Q1 P F.b7 [ac] w fun N w=>Q3 P .neq T.s (.tmp 32) (.const (.int .i64 0)) N (.int .i64 0) w fun ay w=>X1 ay (K (.tuple #[(.slice none 0 0),c.2,N]) w) (indexAddr P T.g l c.2 w fun W w=>Q2 P T.a W w fun R w=>buildSlice P T.g 1 [(0,R)] w fun an w=>X5 P .append [T.g,T.g] T.g [false,false] [c.1,an] w fun aa w=>Q3 P .add T.e (.tmp 25) (.const (.int .i64 1)) c.2 (.int .i64 1) w fun al w=>m (aa,al) w)) (lp (α:=Value) (.int .i64 0) w fun d j L w=>X5 P .len [T.g] T.e [false] [l] w fun ag w=>Q3 P .lss T.e (.tmp 43) (.tmp 45) j ag w fun am w=>X1 am (indexAddr P T.g l j w fun Z w=>fieldAddr P T.a Z 0 w fun az w=>Q2 P T.b az w fun ab w=>Q1 P F.c [c.1,ab] w fun V w=>Q3 P .add T.e (.tmp 56) (.tmp 57) b j w fun aw w=>Q3 P .neq T.e (.tmp 55) (.tmp 58) V aw w fun Q w=>X1 Q (K (.tuple #[(.slice none 0 0),j,(.int .i64 60)]) w) (Q3 P .add T.e (.tmp 47) (.const (.int .i64 1)) j (.int .i64 1) w fun ar w=>d ar w)) (lp (α:=Value) (.int .i64 0) w fun h o L w=>X5 P .len [T.g] T.e [false] [l] w fun a3 w=>Q3 P .lss T.e (.tmp 61) (.tmp 63) o a3 w fun a4 w=>X1 a4 (indexAddr P T.g l o w fun ah w=>Q2 P T.a ah w fun ad w=>Q1 P F.aX [c.1,ad] w fun E w=>Q3 P .neq T.s (.tmp 73) (.const (.int .i64 0)) E (.int .i64 0) w fun ae w=>X1 ae (K (.tuple #[(.slice none 0 0),o,E]) w) (Q3 P .add T.e (.tmp 65) (.const (.int .i64 1)) o (.int .i64 1) w fun aq w=>h aq w)) (Q1 P F.az [c.1] w fun ai w=>lp (α:=Value) (.int .i64 0) w fun e i L w=>X5 P .len [T.g] T.e [false] [l] w fun a2 w=>Q3 P .lss T.e (.tmp 79) (.tmp 81) i a2 w fun aj w=>X1 aj (Q3 P .add T.e (.tmp 86) (.tmp 87) b i w fun a1 w=>indexAddr P T.a1 ai a1 w fun af w=>Q2 P T.a0 af w fun X w=>Q3 P .add T.e (.tmp 91) (.tmp 92) b i w fun ak w=>indexAddr P T.a0 X ak w fun O w=>Q2 P T.n O w fun Y w=>X1 Y (K (.tuple #[(.slice none 0 0),i,(.int .i64 63)]) w) (Q3 P .add T.e (.tmp 83) (.const (.int .i64 1)) i (.int .i64 1) w fun U w=>e U w)) (buildSlice P T.t 0 [] w fun ao w=>lp (α:=Value×Value) (ao,(.int .i64 0)) w fun k a L w=>X5 P .len [T.g] T.e [false] [l] w fun u w=>Q3 P .lss T.e (.tmp 98) (.tmp 100) a.2 u w fun z w=>X1 z (Q3 P .add T.e (.tmp 107) (.tmp 108) b a.2 w fun M w=>Q1 P F.aM [c.1,a.1,b,M] w fun B w=>Q3 P .add T.e (.tmp 102) (.const (.int .i64 1)) a.2 (.int .i64 1) w fun y w=>k (B,y) w) (lp (α:=Value) (.int .i64 0) w fun g n L w=>X5 P .len [T.t] T.e [false] [a.1] w fun v w=>Q3 P .lss T.e (.tmp 111) (.tmp 113) n v w fun C w=>X1 C (indexAddr P T.t a.1 n w fun t w=>Q2 P T.e t w fun D w=>Q1 P F.aR [c.1,D] w fun q w=>Q3 P .neq T.s (.tmp 123) (.const (.int .i64 0)) q (.int .i64 0) w fun J w=>X1 J (dr w fun Tr Br=>Q7 Tr (fun f=> ∀w,Br w→indexAddr P T.t a.1 n w (dk Tr f w)) fun f=>∀p w,Br w→f p w→ Q2 P T.e p w fun r w=>Q3 P .sub T.e (.tmp 128) (.tmp 129) r b w fun s w=>K (.tuple #[(.slice none 0 0),s,q]) w) (Q3 P .add T.e (.tmp 115) (.const (.int .i64 1)) n (.int .i64 1) w fun H w=>g H w)) (K (.tuple #[c.1,(.int .i64 0),(.int .i64 0)]) w))))))
theorem Ae {a:Value} {w:World} {K:Value→World→Prop} (h:Og a w K):Q1 P F.bt [a] w K:=Q9 Tg Tryz.func27 rfl (by decide) (by kernel_rfl) h
def Vp (w:World) (K:Value→World→Prop):Prop:= Q1 P F.au [] w fun p w=>Q1 P F.cI [p] w fun a w=>ext P a 0 w fun e w=>ext P a 1 w fun o w=>ext P a 2 w fun n w=>Q1 P F.au [] w fun f w=>Q1 P F.bt [f] w fun d w=>ext P d 0 w fun g w=>ext P d 1 w fun q w=>ext P d 2 w fun h w=>Q3 P .neq T.s (.tmp 20) (.const (.int .i64 0)) n (.int .i64 0) w fun b w=>Q0 b false w (fun w J=>J h w) fun k w=>Q0 b false w (Q3 P .neq T.s (.tmp 23) (.const (.int .i64 0)) k (.int .i64 0)) fun m w=>pick P b (.bool true) m w fun c w=>Q0 c false w (fun w J=>J e w) fun j w=>Q0 c false w (Q3 P .eql T.r (.tmp 27) (.const (.pointer none)) j (.pointer none)) fun i w=>pick P c (.bool true) i w fun l w=>X1 l (K (.tuple #[(.pointer none),(.slice none 0 0)]) w) (K (.tuple #[e,g]) w)
theorem Sy {w:World} {K:Value→World→Prop} (h:Vp w K):Q1 P F.aU [] w K:=Q9 (List.replicate 7 none) Tryz.func10 rfl (by decide) (by kernel_rfl) h
def Iq (u:Value) (w:World) (K:Value→World→Prop):Prop:= box P T.h u w fun a w=>W7 P T.h w fun r w=>dr w fun b c=>Q7 b (fun f=> ∀w,c w→fieldAddr P T.h a 1 w (dk b f w)) fun f=>Q7 b (fun h=> ∀w,c w→fieldAddr P T.h a 2 w (dk b h w)) fun h=>Q7 b (fun e=> ∀g w,c w→f g w→Q2 P T.d g w (dk b e w)) fun e=>Q7 b (fun m=> ∀k w,c w→e k w→Q1 P F.b [k] w (dk b m w)) fun m=>Q7 b (fun i=> ∀j w,c w→h j w→Q2 P T.d j w (dk b i w)) fun i=>Q7 b (fun p=> ∀w,c w→fieldAddr P T.h a 1 w (dk b p w)) fun p=>Q7 b (fun n=> ∀d w,c w→i d w→Q1 P F.b [d] w (dk b n w)) fun n=>∀g j k t d q s w,c w→f g w→h j w→e k w→m t w→i d w→p q w→n s w→ Z4 P T.d q t w fun _u w=>fieldAddr P T.h a 2 w fun l w=>Z4 P T.d l s w fun _u w=>Q2 P T.h a w fun o w=>Z4 P T.h r o w fun _u w=>V7 P T.h r w fun v=>K v w
theorem Q3r {a:Value} {w:World} {K:Value→World→Prop} (h:Iq a w K):Q1 P F.bI [a] w K:=Q9 (List.replicate 3 none) Tryz.func28 rfl (by decide) (by kernel_rfl) h
def Jr (a f:Value) (w:World) (K:Value→World→Prop):Prop:= Q1 P F.a5 [a,f] w fun g w=>J5 P .not g w fun h w=>X1 h (K (.tuple #[a,(.bool false)]) w) (X5 P .len [T.b] T.e [false] [a] w fun d w=>X5 P .len [T.b] T.e [false] [f] w fun c w=>Q3 P .sub T.e (.tmp 13) (.tmp 15) d c w fun b w=>E9 P T.b a none (some b) none w fun e w=>K (.tuple #[e,(.bool true)]) w)
theorem Rd {a b:Value} {w:World} {K:Value→World→Prop} (h:Jr a b w K):Q1 P F.bP [a,b] w K:=Q9 (List.replicate 5 none) Tryz.func206 rfl (by decide) (by kernel_rfl) h
def Mv (c e:Value) (w:World) (K:Value→World→Prop):Prop:= Q1 P F.bP [c,e] w fun b w=>ext P b 0 w fun d w=>ext P b 1 w fun a w=>K (.tuple #[d,a]) w
theorem Kn {a b:Value} {w:World} {K:Value→World→Prop} (h:Mv a b w K):Q1 P F.bq [a,b] w K:=Q9 (List.replicate 2 none) Tryz.func176 rfl (by decide) (by kernel_rfl) h
def Q0B (g:Value) (w:World) (K:Value→World→Prop):Prop:= Q1 P F.bq [g,(.string ⟨#[91,93]⟩)] w fun f w=>ext P f 0 w fun h w=>ext P f 1 w fun i w=>J5 P .not i w fun a w=>Q0 a false w (fun w J=>J g w) fun e w=>Q0 a false w (Q1 P F.a1 [e]) fun b w=>Q0 a false w (J5 P .not b) fun d w=>pick P a (.bool true) d w fun c w=>X1 c (K (.string ⟨#[]⟩) w) (K h w)
theorem Q5l {a:Value} {w:World} {K:Value→World→Prop} (h:Q0B a w K):Q1 P F.cE [a] w K:=Q9 (List.replicate 6 none) Tryz.func118 rfl (by decide) (by kernel_rfl) h
def Wz (e g:Value) (w:World) (K:Value→World→Prop):Prop:= box P T.a e w fun a w=>fieldAddr P T.a a 0 w fun d w=>Q2 P T.b d w fun f w=>Q2 P T.b g w fun b w=>Q3 P .eql T.b (.tmp 5) (.tmp 6) f b w fun c w=>K c w
theorem Gq {a b:Value} {w:World} {K:Value→World→Prop} (h:Wz a b w K):Q1 P F.bd [a,b] w K:=Q9 (List.replicate 2 none) Tryz.func119 rfl (by decide) (by kernel_rfl) h
def Ou (f d z:Value) (w:World) (K:Value→World→Prop):Prop:= box P T.b z w fun a w=>Q1 P F.v [f,d] w fun e w=>J5 P .not e w fun b w=>Q0 b false w (fun w J=>J f w) fun v w=>Q0 b false w (Q2 P T.b a) fun l w=>Q0 b false w (Q1 P F.v [v,l]) fun i w=>Q0 b false w (J5 P .not i) fun q w=>pick P b (.bool true) q w fun j w=>X1 j (K (.bool false) w) (Q2 P T.b a w fun t w=>Q3 P .eql T.b (.tmp 19) (.tmp 20) d t w fun m w=>X1 m (K (.bool true) w) (Q1 P F.ab [d] w fun c w=>Q0 c false w (Q2 P T.b a) fun s w=>Q0 c false w (Q1 P F.ab [s]) fun r w=>pick P c (.bool true) r w fun p w=>X1 p (K (.bool false) w) (Q3 P .eql T.b (.tmp 30) (.const (.string ⟨#[110,117,108,108]⟩)) d (.string ⟨#[110,117,108,108]⟩) w fun g w=>X1 g (K (.bool true) w) (Q1 P F.cE [d] w fun o w=>Q3 P .neq T.b (.tmp 34) (.const (.string ⟨#[]⟩)) o (.string ⟨#[]⟩) w fun k w=>X1 k (Q2 P T.b a w fun n w=>Q3 P .eql T.b (.tmp 36) (.const (.string ⟨#[79,98,106,101,99,116]⟩)) n (.string ⟨#[79,98,106,101,99,116]⟩) w fun y w=>K y w) (M4 P (.func F.bd) [] [a] w fun h w=>Q1 P F.t [f,d,h] w fun u w=>K u w)))))
theorem Ab {b c a:Value} {w:World} {K:Value→World→Prop} (h:Ou b c a w K):Q1 P F.a9 [b,c,a] w K:=Q9 (List.replicate 13 none) Tryz.func59 rfl (by decide) (by kernel_rfl) h
def Pb:V1:=[none,none,none,none,none,none,none,none,none,none,some ([7],[6,7,40,41,42,43,44,45,46,47,48,49,50,51]),none,none,none,none,none,none]
def Mc (d h g:Value) (w:World) (K:Value→World→Prop):Prop:= Q1 P F.a9 [d,h,g] w fun i w=>X1 i (K g w) (Q1 P F.a9 [d,g,h] w fun m w=>X1 m (K h w) (Q1 P F.v [d,h] w fun u w=>J5 P .not u w fun a w=>Q0 a false w (fun w J=>J d w) fun r w=>Q0 a false w (fun w J=>J g w) fun q w=>Q0 a false w (Q1 P F.v [r,q]) fun o w=>Q0 a false w (J5 P .not o) fun v w=>pick P a (.bool true) v w fun e w=>Q0 e false w (fun w J=>J h w) fun t w=>Q0 e false w (Q1 P F.ab [t]) fun y w=>pick P e (.bool true) y w fun f w=>Q0 f false w (fun w J=>J g w) fun l w=>Q0 f false w (Q1 P F.ab [l]) fun z w=>pick P f (.bool true) z w fun n w=>X1 n (K (.string ⟨#[]⟩) w) (lp (α:=Value) h w fun b c A w=>Q1 P F.k [d,c] w fun k w=>X1 k (Q1 P F.a9 [d,g,c] w fun j w=>X1 j (K c w) (Q1 P F.h [d,c] w fun p w=>We P T.a p 1 w fun s w=>b s w)) (K (.string ⟨#[79,98,106,101,99,116]⟩) w))))
theorem Kz {b c a:Value} {w:World} {K:Value→World→Prop} (h:Mc b c a w K):Q1 P F.aD [b,c,a] w K:=Q9 Pb Tryz.func29 rfl (by decide) (by kernel_rfl) h
def Q5a:V1:=[none,none,none,none,none,none,none,none,none,none,none,some ([49],[7,9,10,11,49,50,51,52,53,54,55,56,57,58,59,60,61,62,63,64,65,66,67,68,69,70,71]),none,none,none,none,none,none,none,none,none,none,some ([75],[12,13,14,75,76,77,78,79,80,81,82,83,84,85,86,87,88,89,90,91,92,93,94,95,96,97,98,99,100,101,102,103,104]),none,none,none,none,none,some ([14],[14,80,81,82,83,84,85,86,87,88,89,90,91,92,93,94,95,96,97]),none,none]
def Az (a0 a1 a2:Value) (w:World) (K:Value→World→Prop):Prop:= box P T.h a1 w fun j w=>box P T.h a2 w fun i w=>W7 P T.h w fun f w=>fieldAddr P T.h j 0 w fun a6 w=>Q2 P T.n a6 w fun B w=>J5 P .not B w fun R w=>X1 R (Q2 P T.h i w fun L w=>Q1 P F.bI [L] w fun bb w=>Z4 P T.h f bb w fun _u w=>V7 P T.h f w fun g=>K (.tuple #[g,(.int .i64 0)]) w) (fieldAddr P T.h i 0 w fun ao w=>Q2 P T.n ao w fun ab w=>J5 P .not ab w fun bg w=>X1 bg (Q2 P T.h j w fun az w=>Q1 P F.bI [az] w fun a9 w=>Z4 P T.h f a9 w fun _u w=>V7 P T.h f w fun g=>K (.tuple #[g,(.int .i64 0)]) w) (fieldAddr P T.h j 1 w fun Z w=>Q2 P T.d Z w fun ag w=>X5 P .len [T.d] T.e [false] [ag] w fun M w=>fieldAddr P T.h i 1 w fun an w=>Q2 P T.d an w fun bc w=>X5 P .len [T.d] T.e [false] [bc] w fun ah w=>Q3 P .neq T.e (.tmp 30) (.tmp 33) M ah w fun a w=>Q0 a false w (fieldAddr P T.h j 2) fun al w=>Q0 a false w (Q2 P T.d al) fun bk w=>Q0 a false w (X5 P .len [T.d] T.e [false] [bk]) fun W w=>Q0 a false w (fieldAddr P T.h i 2) fun av w=>Q0 a false w (Q2 P T.d av) fun z w=>Q0 a false w (X5 P .len [T.d] T.e [false] [z]) fun ba w=>Q0 a false w (Q3 P .neq T.e (.tmp 38) (.tmp 41) W ba) fun ay w=>pick P a (.bool true) ay w fun D w=>X1 D (O7 P T.h [] w fun aj w=>Z4 P T.h f aj w fun _u w=>V7 P T.h f w fun g=>K (.tuple #[g,(.int .i64 75)]) w) (O7 P T.h [(0,(.bool true))] w fun a5 w=>W7 P T.h w fun k w=>Z4 P T.h k a5 w fun _u w=>fieldAddr P T.h j 1 w fun aa w=>Q2 P T.d aa w fun n w=>X5 P .len [T.d] T.e [false] [n] w fun be w=>lp (α:=Value) (.int .i64 0) w fun e h d_ w=>Q3 P .lss T.e (.tmp 49) (.tmp 48) h be w fun aw w=>X1 aw (indexAddr P T.d n h w fun ax w=>Q2 P T.b ax w fun ai w=>fieldAddr P T.h i 1 w fun Q w=>Q2 P T.d Q w fun bf w=>indexAddr P T.d bf h w fun ap w=>Q2 P T.b ap w fun y w=>Q1 P F.aD [a0,ai,y] w fun p w=>Q3 P .eql T.b (.tmp 62) (.const (.string ⟨#[]⟩)) p (.string ⟨#[]⟩) w fun bi w=>X1 bi (O7 P T.h [] w fun am w=>Z4 P T.h f am w fun _u w=>V7 P T.h f w fun g=>K (.tuple #[g,(.int .i64 75)]) w) (fieldAddr P T.h k 1 w fun v w=>Q2 P T.d v w fun ad w=>buildSlice P T.d 1 [(0,p)] w fun aq w=>X5 P .append [T.d,T.d] T.d [false,false] [ad,aq] w fun ae w=>fieldAddr P T.h k 1 w fun U w=>Z4 P T.d U ae w fun _u w=>Q3 P .add T.e (.tmp 49) (.const (.int .i64 1)) h (.int .i64 1) w fun a4 w=>e a4 w)) (fieldAddr P T.h j 2 w fun ac w=>Q2 P T.d ac w fun t w=>X5 P .len [T.d] T.e [false] [t] w fun N w=>lp (α:=Value) (.int .i64 0) w fun c d d_ w=>Q3 P .lss T.e (.tmp 75) (.tmp 74) d N w fun ak w=>X1 ak (indexAddr P T.d t d w fun Y w=>Q2 P T.b Y w fun m w=>jn (α:=Value) w (fun u w=>Q3 P .neq T.b (.tmp 80) (.const (.string ⟨#[]⟩)) m (.string ⟨#[]⟩) w fun b w=>Q0 b true w (fieldAddr P T.h i 2) fun E w=>Q0 b true w (Q2 P T.d E) fun A w=>Q0 b true w (fun w J=>J d w) fun O w=>Q0 b true w (indexAddr P T.d A O) fun a3 w=>Q0 b true w (Q2 P T.b a3) fun af w=>Q0 b true w (Q3 P .neq T.b (.tmp 87) (.const (.string ⟨#[]⟩)) af (.string ⟨#[]⟩)) fun bh w=>pick P b bh (.bool false) w fun V w=>X1 V (fieldAddr P T.h i 2 w fun X w=>Q2 P T.d X w fun a7 w=>indexAddr P T.d a7 d w fun C w=>Q2 P T.b C w fun a8 w=>Q1 P F.aD [a0,m,a8] w fun bd w=>u bd w) (u (.string ⟨#[]⟩) w)) fun ar d_ w=>fieldAddr P T.h k 2 w fun H w=>Q2 P T.d H w fun bj w=>buildSlice P T.d 1 [(0,ar)] w fun s w=>X5 P .append [T.d,T.d] T.d [false,false] [bj,s] w fun l w=>fieldAddr P T.h k 2 w fun r w=>Z4 P T.d r l w fun _u w=>Q3 P .add T.e (.tmp 75) (.const (.int .i64 1)) d (.int .i64 1) w fun o w=>c o w) (Q2 P T.h k w fun q w=>Z4 P T.h f q w fun _u w=>V7 P T.h f w fun g=>K (.tuple #[g,(.int .i64 0)]) w)))))
theorem Q4f {b c a:Value} {w:World} {K:Value→World→Prop} (h:Az b c a w K):Q1 P F.cp [b,c,a] w K:=Q9 Q5a Tryz.func13 rfl (by decide) (by kernel_rfl) h
def Pd:V1:=[none,none,none,none,none,none,some ([5],[4,5,11,12,13,14,15,16,17,18,19,20,21,22,23,24,25]),none,none,none,none,none,none]
def Md (n s:Value) (w:World) (K:Value→World→Prop):Prop:= X5 P .len [T.d] T.e [false] [n] w fun t w=>X5 P .len [T.d] T.e [false] [s] w fun u w=>Q3 P .neq T.e (.tmp 7) (.tmp 9) t u w fun m w=>X1 m (K (.bool false) w) (lp (α:=Value) (.int .i64 0) w fun a l v w=>X5 P .len [T.d] T.e [false] [n] w fun r w=>Q3 P .lss T.e (.tmp 11) (.tmp 13) l r w fun o w=>X1 o (dr w fun f i=>Q7 f (fun d=> ∀w,i w→indexAddr P T.d n l w (dk f d w)) fun d=>Q7 f (fun c=> ∀w,i w→indexAddr P T.d s l w (dk f c w)) fun c=>Q7 f (fun g=> ∀b w,i w→d b w→Q2 P T.b b w (dk f g w)) fun g=>Q7 f (fun h=> ∀e w,i w→c e w→Q2 P T.b e w (dk f h w)) fun h=>∀b e j k w,i w→d b w→c e w→g j w→h k w→ Q3 P .neq T.b (.tmp 20) (.tmp 24) j k w fun p w=>X1 p (K (.bool false) w) (Q3 P .add T.e (.tmp 15) (.const (.int .i64 1)) l (.int .i64 1) w fun q w=>a q w)) (K (.bool true) w))
theorem Ky {a b:Value} {w:World} {K:Value→World→Prop} (h:Md a b w K):Q1 P F.aE [a,b] w K:=Q9 Pd Tryz.func31 rfl (by decide) (by kernel_rfl) h
def Mx (q u:Value) (w:World) (K:Value→World→Prop):Prop:= box P T.h q w fun b w=>box P T.h u w fun a w=>fieldAddr P T.h b 0 w fun t w=>Q2 P T.n t w fun r w=>fieldAddr P T.h a 0 w fun p w=>Q2 P T.n p w fun s w=>Q3 P .eql T.n (.tmp 6) (.tmp 8) r s w fun d w=>Q0 d true w (fieldAddr P T.h b 1) fun m w=>Q0 d true w (Q2 P T.d m) fun e w=>Q0 d true w (fieldAddr P T.h a 1) fun n w=>Q0 d true w (Q2 P T.d n) fun g w=>Q0 d true w (Q1 P F.aE [e,g]) fun f w=>pick P d f (.bool false) w fun c w=>Q0 c true w (fieldAddr P T.h b 2) fun j w=>Q0 c true w (Q2 P T.d j) fun i w=>Q0 c true w (fieldAddr P T.h a 2) fun k w=>Q0 c true w (Q2 P T.d k) fun h w=>Q0 c true w (Q1 P F.aE [i,h]) fun o w=>pick P c o (.bool false) w fun l w=>K l w
theorem Pa {a b:Value} {w:World} {K:Value→World→Prop} (h:Mx a b w K):Q1 P F.aC [a,b] w K:=Q9 (List.replicate 2 none) Tryz.func15 rfl (by decide) (by kernel_rfl) h
def Wa:V1:=[none,none,none,none,none,none,some ([13],[4,5,13,14,15,16,17,18,19,20,21,22,23,24,25]),none,none,none,none,none,none,none]
def K5 (n s:Value) (w:World) (K:Value→World→Prop):Prop:= X5 P .len [T.d] T.e [false] [n] w fun t w=>X5 P .len [T.d] T.e [false] [s] w fun u w=>Q3 P .neq T.e (.tmp 7) (.tmp 9) t u w fun m w=>X1 m (K (.bool false) w) (X5 P .len [T.d] T.e [false] [n] w fun o w=>lp (α:=Value) (.int .i64 0) w fun a l v w=>Q3 P .lss T.e (.tmp 13) (.tmp 12) l o w fun p w=>X1 p (dr w fun f i=>Q7 f (fun b=> ∀w,i w→indexAddr P T.d n l w (dk f b w)) fun b=>Q7 f (fun d=> ∀w,i w→indexAddr P T.d s l w (dk f d w)) fun d=>Q7 f (fun h=> ∀c w,i w→b c w→Q2 P T.b c w (dk f h w)) fun h=>Q7 f (fun g=> ∀e w,i w→d e w→Q2 P T.b e w (dk f g w)) fun g=>∀c e j k w,i w→b c w→d e w→h j w→g k w→ Q3 P .neq T.b (.tmp 19) (.tmp 23) j k w fun r w=>X1 r (K (.bool false) w) (Q3 P .add T.e (.tmp 13) (.const (.int .i64 1)) l (.int .i64 1) w fun q w=>a q w)) (K (.bool true) w))
theorem Lv {a b:Value} {w:World} {K:Value→World→Prop} (h:K5 a b w K):Q1 P F.a0 [a,b] w K:=Q9 Wa Tryz.func32 rfl (by decide) (by kernel_rfl) h
def Q0U (q u:Value) (w:World) (K:Value→World→Prop):Prop:= box P T.h q w fun b w=>box P T.h u w fun a w=>fieldAddr P T.h b 0 w fun t w=>Q2 P T.n t w fun r w=>fieldAddr P T.h a 0 w fun p w=>Q2 P T.n p w fun s w=>Q3 P .eql T.n (.tmp 6) (.tmp 8) r s w fun d w=>Q0 d true w (fieldAddr P T.h b 1) fun m w=>Q0 d true w (Q2 P T.d m) fun e w=>Q0 d true w (fieldAddr P T.h a 1) fun n w=>Q0 d true w (Q2 P T.d n) fun g w=>Q0 d true w (Q1 P F.a0 [e,g]) fun f w=>pick P d f (.bool false) w fun c w=>Q0 c true w (fieldAddr P T.h b 2) fun j w=>Q0 c true w (Q2 P T.d j) fun i w=>Q0 c true w (fieldAddr P T.h a 2) fun k w=>Q0 c true w (Q2 P T.d k) fun h w=>Q0 c true w (Q1 P F.a0 [i,h]) fun o w=>pick P c o (.bool false) w fun l w=>K l w
theorem Q5C {a b:Value} {w:World} {K:Value→World→Prop} (h:Q0U a b w K):Q1 P F.cC [a,b] w K:=Q9 (List.replicate 2 none) Tryz.func16 rfl (by decide) (by kernel_rfl) h
def Db (e n:Value) (w:World) (K:Value→World→Prop):Prop:= nilCheck P e w fun m w=>fieldAddr P T.u m 4 w fun j w=>Q2 P T.s j w fun k w=>Q3 P .eql T.s (.tmp 7) (.const (.int .i64 0)) k (.int .i64 0) w fun l w=>X1 l (nilCheck P e w fun h w=>fieldAddr P T.u h 3 w fun f w=>fieldAddr P T.h f 1 w fun c w=>Q2 P T.d c w fun a w=>X5 P .append [T.d,T.d] T.d [false,false] [a,n] w fun d w=>nilCheck P e w fun i w=>fieldAddr P T.u i 3 w fun b w=>fieldAddr P T.h b 1 w fun g w=>Z4 P T.d g d w fun _u w=>K (.tuple #[]) w) (K (.tuple #[]) w)
theorem Q0k {a b:Value} {w:World} {K:Value→World→Prop} (h:Db a b w K):Q1 P F.bF [a,b] w K:=Q9 (List.replicate 1 none) Tryz.func123 rfl (by decide) (by kernel_rfl) h
def Q0K (b:Value) (w:World) (K:Value→World→Prop):Prop:= box P T.b b w fun a w=>M4 P (.func F.cN) [] [a] w fun c w=>K c w
theorem Q5o {a:Value} {w:World} {K:Value→World→Prop} (h:Q0K a w K):Q1 P F.aP [a] w K:=Q9 (List.replicate 2 none) Tryz.func64 rfl (by decide) (by kernel_rfl) h
def Kc:V1:=[none,some ([],[7,8,9,10,11,12,13,14,15,16,17,18,19]),none,none]
def Ma (c q p:Value) (w:World) (K:Value→World→Prop):Prop:= jn (α:=Unit) w (fun o w=>J5 P .not q w fun a w=>Q0 a true w (fun w J=>J c w) fun b w=>Q0 a true w (nilCheck P b) fun l w=>Q0 a true w (fieldAddr P T.u l 4) fun d w=>Q0 a true w (Q2 P T.s d) fun m w=>Q0 a true w (Q3 P .eql T.s (.tmp 13) (.const (.int .i64 0)) m (.int .i64 0)) fun f w=>pick P a f (.bool false) w fun e w=>X1 e (nilCheck P c w fun i w=>fieldAddr P T.u i 4 w fun h w=>Z4 P T.s h p w fun _u w=>o () w) (o () w)) fun r s w=>nilCheck P c w fun g w=>fieldAddr P T.u g 4 w fun n w=>Q2 P T.s n w fun j w=>Q3 P .eql T.s (.tmp 23) (.const (.int .i64 0)) j (.int .i64 0) w fun k w=>K k w
theorem Pc {b c a:Value} {w:World} {K:Value→World→Prop} (h:Ma b c a w K):Q1 P F.aj [b,c,a] w K:=Q9 Kc Tryz.func37 rfl (by decide) (by kernel_rfl) h
end Go.Proofs.YtfppjenblllfaaaGreatDoor

set_option maxRecDepth 100000
namespace Go.Proofs.YtfppjenblllfaaaGreatDoor
open Go.Emb
def Oo (b c:Value) (w:World) (K:Value→World→Prop):Prop:= nilCheck P b w fun J w=>fieldAddr P T.u J 3 w fun d w=>fieldAddr P T.h d 1 w fun D w=>Q2 P T.d D w fun g w=>X5 P .len [T.d] T.e [false] [g] w fun E w=>Q3 P .geq T.e (.tmp 13) (.tmp 14) E c w fun h w=>Q1 P F.aj [b,h,(.int .i64 72)] w fun t w=>J5 P .not t w fun j w=>X1 j (Nn P T.d c c w fun n w=>K n w) (nilCheck P b w fun l w=>fieldAddr P T.u l 3 w fun H w=>fieldAddr P T.h H 1 w fun z w=>Q2 P T.d z w fun B w=>X5 P .len [T.d] T.e [false] [B] w fun m w=>Q3 P .sub T.e (.tmp 25) (.tmp 26) m c w fun a w=>nilCheck P b w fun A w=>fieldAddr P T.u A 3 w fun p w=>fieldAddr P T.h p 1 w fun e w=>Q2 P T.d e w fun y w=>E9 P T.d y (some a) none none w fun r w=>Q1 P F.b [r] w fun k w=>nilCheck P b w fun q w=>fieldAddr P T.u q 3 w fun i w=>fieldAddr P T.h i 1 w fun f w=>Q2 P T.d f w fun v w=>E9 P T.d v none (some a) (some a) w fun C w=>nilCheck P b w fun s w=>fieldAddr P T.u s 3 w fun u w=>fieldAddr P T.h u 1 w fun o w=>Z4 P T.d o C w fun _u w=>K k w)
theorem Aj {a b:Value} {w:World} {K:Value→World→Prop} (h:Oo a b w K):Q1 P F.bv [a,b] w K:=Q9 (List.replicate 8 none) Tryz.func70 rfl (by decide) (by kernel_rfl) h
def Ml (c h e:Value) (w:World) (K:Value→World→Prop):Prop:= nilCheck P c w fun f w=>fieldAddr P T.u f 0 w fun g w=>Q2 P T.r g w fun a w=>Q1 P F.a9 [a,h,e] w fun b w=>Q1 P F.aj [c,b,(.int .i64 73)] w fun d w=>K (.tuple #[]) w
theorem Kf {b c a:Value} {w:World} {K:Value→World→Prop} (h:Ml b c a w K):Q1 P F.bo [b,c,a] w K:=Q9 [] Tryz.func132 rfl (by decide) (by kernel_rfl) h
def Q0s:V1:=[none,none,none,some ([7],[7,15,16,17,18,19,20,21,22,23,24,25,26,27,28]),none,none,none,none]
def Da (o y v:Value) (w:World) (K:Value→World→Prop):Prop:= X5 P .len [T.d] T.e [false] [v] w fun n w=>Q1 P F.bv [o,n] w fun l w=>X5 P .len [T.d] T.e [false] [l] w fun u w=>Q3 P .sub T.e (.tmp 13) (.const (.int .i64 1)) u (.int .i64 1) w fun p w=>lp (α:=Value) p w fun a m B w=>Q3 P .geq T.e (.tmp 15) (.const (.int .i64 0)) m (.int .i64 0) w fun s w=>X1 s (dr w fun f i=>Q7 f (fun c=> ∀w,i w→indexAddr P T.d l m w (dk f c w)) fun c=>Q7 f (fun b=> ∀w,i w→indexAddr P T.d v m w (dk f b w)) fun b=>Q7 f (fun g=> ∀e w,i w→c e w→Q2 P T.b e w (dk f g w)) fun g=>Q7 f (fun h=> ∀d w,i w→b d w→Q2 P T.b d w (dk f h w)) fun h=>∀e d k j w,i w→c e w→b d w→g k w→h j w→ Q1 P F.bo [o,k,j] w fun A w=>Q3 P .sub T.e (.tmp 17) (.const (.int .i64 1)) m (.int .i64 1) w fun r w=>a r w) (Q3 P .neq T.b (.tmp 29) (.const (.string ⟨#[]⟩)) y (.string ⟨#[]⟩) w fun q w=>X1 q (buildSlice P T.d 1 [(0,y)] w fun t w=>Q1 P F.bF [o,t] w fun z w=>K (.tuple #[]) w) (K (.tuple #[]) w))
theorem Q0m {b c a:Value} {w:World} {K:Value→World→Prop} (h:Da b c a w K):Q1 P F.a4 [b,c,a] w K:=Q9 Q0s Tryz.func126 rfl (by decide) (by kernel_rfl) h
def Cr (c e b:Value) (w:World) (K:Value→World→Prop):Prop:= Q2 P T.b e w fun d w=>Q2 P T.d b w fun a w=>Q1 P F.a4 [c,d,a] w fun f w=>K (.tuple #[]) w
theorem Q2c {b c a:Value} {w:World} {K:Value→World→Prop} (h:Cr b c a w K):Q1 P F.c6 [b,c,a] w K:=Q9 [] Tryz.func125 rfl (by decide) (by kernel_rfl) h
def Ak (c e:Value) (w:World) (K:Value→World→Prop):Prop:= box P T.b c w fun b w=>box P T.d e w fun a w=>M4 P (.func F.c6) [] [b,a] w fun d w=>K d w
theorem Q59 {a b:Value} {w:World} {K:Value→World→Prop} (h:Ak a b w K):Q1 P F.a2 [a,b] w K:=Q9 (List.replicate 2 none) Tryz.func71 rfl (by decide) (by kernel_rfl) h
def Vn (a:Value) (w:World) (K:Value→World→Prop):Prop:= buildSlice P T.d 2 [(0,(.string ⟨#[105,110,116]⟩)),(1,(.string ⟨#[105,110,116]⟩))] w fun b w=>Q1 P F.a4 [a,(.string ⟨#[98,111,111,108]⟩),b] w fun c w=>K (.tuple #[]) w
theorem Ct {a:Value} {w:World} {K:Value→World→Prop} (h:Vn a w K):Q1 P F.aw [a] w K:=Q9 [] Tryz.func72 rfl (by decide) (by kernel_rfl) h
def Wv (a:Value) (w:World) (K:Value→World→Prop):Prop:= buildSlice P T.d 2 [(0,(.string ⟨#[105,110,116]⟩)),(1,(.string ⟨#[105,110,116]⟩))] w fun b w=>Q1 P F.a4 [a,(.string ⟨#[105,110,116]⟩),b] w fun c w=>K (.tuple #[]) w
theorem Bx {a:Value} {w:World} {K:Value→World→Prop} (h:Wv a w K):Q1 P F.b8 [a] w K:=Q9 [] Tryz.func86 rfl (by decide) (by kernel_rfl) h
def Q4u:V1:=[none,none,none,none,some ([26],[3,26,27,28,29,30,31]),none,none,none,none,none]
def Ps (w:World) (K:Value→World→Prop):Prop:= Ru P T.j none w fun a w=>Q1 P F.aP [(.string ⟨#[105,110,116]⟩)] w fun B w=>mapUpdate P T.j a (.string ⟨#[105,110,116]⟩) B w fun _u w=>Q1 P F.aP [(.string ⟨#[98,111,111,108]⟩)] w fun z w=>mapUpdate P T.j a (.string ⟨#[116,114,117,101]⟩) z w fun _u w=>Q1 P F.aP [(.string ⟨#[98,111,111,108]⟩)] w fun v w=>mapUpdate P T.j a (.string ⟨#[102,97,108,115,101]⟩) v w fun _u w=>Q1 P F.aP [(.string ⟨#[116,101,120,116]⟩)] w fun A w=>mapUpdate P T.j a (.string ⟨#[119,111,114,100]⟩) A w fun _u w=>Q1 P F.aP [(.string ⟨#[110,117,108,108]⟩)] w fun y w=>mapUpdate P T.j a (.string ⟨#[110,117,108,108]⟩) y w fun _u w=>mapUpdate P T.j a (.string ⟨#[108,111,97,100]⟩) (.func (.func F.cf) #[] #[]) w fun _u w=>mapUpdate P T.j a (.string ⟨#[115,116,111,114,101]⟩) (.func (.func F.c7) #[] #[]) w fun _u w=>mapUpdate P T.j a (.string ⟨#[100,117,112]⟩) (.func (.func F.cs) #[] #[]) w fun _u w=>mapUpdate P T.j a (.string ⟨#[115,119,97,112]⟩) (.func (.func F.cg) #[] #[]) w fun _u w=>mapUpdate P T.j a (.string ⟨#[112,111,112]⟩) (.func (.func F.cJ) #[] #[]) w fun _u w=>buildSlice P T.d 1 [(0,(.string ⟨#[105,110,116]⟩))] w fun c w=>Q1 P F.a2 [(.string ⟨#[105,110,116]⟩),c] w fun s w=>mapUpdate P T.j a (.string ⟨#[110,101,103]⟩) s w fun _u w=>buildSlice P T.d 1 [(0,(.string ⟨#[98,111,111,108]⟩))] w fun e w=>Q1 P F.a2 [(.string ⟨#[98,111,111,108]⟩),e] w fun t w=>mapUpdate P T.j a (.string ⟨#[110,111,116]⟩) t w fun _u w=>buildSlice P T.d 2 [(0,(.string ⟨#[98,111,111,108]⟩)),(1,(.string ⟨#[98,111,111,108]⟩))] w fun h w=>Q1 P F.a2 [(.string ⟨#[98,111,111,108]⟩),h] w fun f w=>mapUpdate P T.j a (.string ⟨#[98,111,116,104]⟩) f w fun _u w=>buildSlice P T.d 2 [(0,(.string ⟨#[116,101,120,116]⟩)),(1,(.string ⟨#[116,101,120,116]⟩))] w fun n w=>Q1 P F.a2 [(.string ⟨#[116,101,120,116]⟩),n] w fun g w=>mapUpdate P T.j a (.string ⟨#[106,111,105,110]⟩) g w fun _u w=>mapUpdate P T.j a (.string ⟨#[108,101,115,115]⟩) (.func (.func F.aw) #[] #[]) w fun _u w=>mapUpdate P T.j a (.string ⟨#[115,97,109,101]⟩) (.func (.func F.aw) #[] #[]) w fun _u w=>mapUpdate P T.j a (.string ⟨#[115,105,122,101]⟩) (.func (.func F.ch) #[] #[]) w fun _u w=>mapUpdate P T.j a (.string ⟨#[106,117,109,112]⟩) (.func (.func F.cK) #[] #[]) w fun _u w=>buildSlice P T.d 1 [(0,(.string ⟨#[98,111,111,108]⟩))] w fun l w=>Q1 P F.a2 [(.string ⟨#[]⟩),l] w fun k w=>mapUpdate P T.j a (.string ⟨#[98,114,97,110,99,104]⟩) k w fun _u w=>mapUpdate P T.j a (.string ⟨#[110,101,119]⟩) (.func (.func F.c4) #[] #[]) w fun _u w=>mapUpdate P T.j a (.string ⟨#[103,101,116]⟩) (.func (.func F.ct) #[] #[]) w fun _u w=>mapUpdate P T.j a (.string ⟨#[112,117,116]⟩) (.func (.func F.ci) #[] #[]) w fun _u w=>mapUpdate P T.j a (.string ⟨#[99,97,108,108]⟩) (.func (.func F.cj) #[] #[]) w fun _u w=>mapUpdate P T.j a (.string ⟨#[97,114,114,97,121]⟩) (.func (.func F.c8) #[] #[]) w fun _u w=>mapUpdate P T.j a (.string ⟨#[97,116]⟩) (.func (.func F.cA) #[] #[]) w fun _u w=>mapUpdate P T.j a (.string ⟨#[115,101,116]⟩) (.func (.func F.cu) #[] #[]) w fun _u w=>mapUpdate P T.j a (.string ⟨#[105,115]⟩) (.func (.func F.cB) #[] #[]) w fun _u w=>mapUpdate P T.j a (.string ⟨#[99,97,115,116]⟩) (.func (.func F.ck) #[] #[]) w fun _u w=>mapUpdate P T.j a (.string ⟨#[114,101,116,117,114,110]⟩) (.func (.func F.cl) #[] #[]) w fun _u w=>buildSlice P T.d 1 [(0,(.string ⟨#[70,97,117,108,116]⟩))] w fun p w=>Q1 P F.a2 [(.string ⟨#[]⟩),p] w fun i w=>mapUpdate P T.j a (.string ⟨#[116,104,114,111,119]⟩) i w fun _u w=>buildSlice P T.d 1 [(0,(.string ⟨#[105,110,116]⟩))] w fun d w=>Q1 P F.a2 [(.string ⟨#[]⟩),d] w fun q w=>mapUpdate P T.j a (.string ⟨#[111,117,116]⟩) q w fun _u w=>mapUpdate P T.j a (.string ⟨#[101,113,117,97,108]⟩) (.func (.func F.c9) #[] #[]) w fun _u w=>O7 P T.ai [(0,(.string ⟨#[97,100,100]⟩)),(1,(.string ⟨#[115,117,98]⟩)),(2,(.string ⟨#[109,117,108]⟩)),(3,(.string ⟨#[100,105,118]⟩)),(4,(.string ⟨#[114,101,109]⟩)),(5,(.string ⟨#[97,110,100]⟩)),(6,(.string ⟨#[111,114]⟩)),(7,(.string ⟨#[120,111,114]⟩)),(8,(.string ⟨#[115,104,108]⟩)),(9,(.string ⟨#[115,104,114]⟩))] w fun j w=>lp (α:=Value) (.int .i64 0) w fun b r C w=>Q3 P .lss T.e (.tmp 26) (.const (.int .i64 10)) r (.int .i64 10) w fun o w=>X1 o (E1 P T.ai j r w fun m w=>mapUpdate P T.j a m (.func (.func F.b8) #[] #[]) w fun _u w=>Q3 P .add T.e (.tmp 26) (.const (.int .i64 1)) r (.int .i64 1) w fun u w=>b u w) (K a w)
theorem Q4p {w:World} {K:Value→World→Prop} (h:Ps w K):Q1 P F.cq [] w K:=Q9 Q4u Tryz.func36 rfl (by decide) (by kernel_rfl) h
def Q2K (a0 a1 a2 a3:Value) (w:World) (K:Value→World→Prop):Prop:= box P T.c a1 w fun O w=>box P T.l a2 w fun i w=>box P T.h a3 w fun h w=>W7 P T.h w fun X w=>drR w fun a b=>Q7 a (fun q=> ∀c,Ap c→ ∀w,b w→fieldAddr P T.h h 1 w (dk a q w)) fun q=>Q7 a (fun A=> ∀c,Ap c→ ∀w,b w→fieldAddr P T.h h 2 w (dk a A w)) fun A=>Q7 a (fun Q=> ∀c,Ap c→ ∀w,b w→Q2 P T.c O w (dk a Q w)) fun Q=>Q7 a (fun M=> ∀c,Ap c→ ∀w,b w→Q2 P T.l i w (dk a M w)) fun M=>Q7 a (fun E=> ∀y c,Ap c→ ∀w,b w→q y w→Q2 P T.d y w (dk a E w)) fun E=>Q2g a (fun n=> ∀l c,Ap c→ ∀w,b w→E l w→Q1 P F.b [l] w (dkR a n w)) fun n=>Q7 a (fun j=> ∀r c,Ap c→ ∀w,b w→A r w→Q2 P T.d r w (dk a j w)) fun j=>Q2g a (fun J=> ∀D c,Ap c→ ∀w,b w→j D w→Q1 P F.b [D] w (dkR a J w)) fun J=>Q7 a (fun U=> ∀t p c,Ap c→ ∀w,b w→n (c 6) t w→J (c 8) p w→O7 P T.h [(0,(.bool true)),(1,t),(2,p)] w (dk a U w)) fun U=>∀y r aa Z l t D p Y c,Ap c→ ∀w,b w→q y w→A r w→Q aa w→M Z w→E l w→n (c 6) t w→j D w→J (c 8) p w→U Y w→ O7 P T.u [(0,a0),(1,aa),(2,Z),(3,Y)] w fun aq w=>box P T.u aq w fun f w=>dr w fun a b=>Q7 a (fun B=> ∀w,b w→fieldAddr P T.l i 0 w (dk a B w)) fun B=>Q7 a (fun o=> ∀w,b w→Q1 P F.cq [] w (dk a o w)) fun o=>Q7 a (fun L=> ∀z w,b w→B z w→Q2 P T.b z w (dk a L w)) fun L=>Q7 a (fun g=> ∀C u w,b w→o C w→L u w→lookup P T.j C u true w (dk a g w)) fun g=>Q7 a (fun W=> ∀d w,b w→g d w→ext P d 0 w (dk a W w)) fun W=>Q7 a (fun N=> ∀d w,b w→g d w→ext P d 1 w (dk a N w)) fun N=>∀z C u d ac ae w,b w→B z w→o C w→L u w→g d w→W ac w→N ae w→ J5 P .not ae w fun aw w=>X1 aw (O7 P T.h [] w fun ao w=>Z4 P T.h X ao w fun _u w=>V7 P T.h X w fun r0=>K (.tuple #[r0,(.int .i64 76)]) w) (Y9 P ac [f] w fun a4 w=>nilCheck P f w fun ah w=>fieldAddr P T.u ah 3 w fun ap w=>fieldAddr P T.h ap 1 w fun al w=>Q2 P T.d al w fun aj w=>X5 P .len [T.d] T.e [false] [aj] w fun ax w=>Q3 P .leq T.e (.tmp 44) (.const (.int .i64 24)) ax (.int .i64 24) w fun an w=>Q1 P F.aj [f,an,(.int .i64 72)] w fun a5 w=>nilCheck P f w fun ar w=>fieldAddr P T.u ar 4 w fun ak w=>Q2 P T.s ak w fun ai w=>Q3 P .neq T.s (.tmp 50) (.const (.int .i64 0)) ai (.int .i64 0) w fun am w=>X1 am (dr w fun a b=>Q7 a (fun m=> ∀w,b w→nilCheck P f w (dk a m w)) fun m=>Q7 a (fun H=> ∀s w,b w→m s w→fieldAddr P T.u s 4 w (dk a H w)) fun H=>Q7 a (fun v=> ∀w,b w→O7 P T.h [] w (dk a v w)) fun v=>Q7 a (fun V=> ∀k w,b w→H k w→Q2 P T.s k w (dk a V w)) fun V=>Q16 a (fun R=> ∀e w,b w→v e w→Z4 P T.h X e w (dk a (R [e]) w)) fun R=>∀s k e ad u5 w,b w→m s w→H k w→v e w→V ad w→R [e] u5 w→ V7 P T.h X w fun r0=>K (.tuple #[r0,ad]) w) (nilCheck P f w fun av w=>fieldAddr P T.u av 3 w fun ag w=>Q2 P T.h ag w fun af w=>Z4 P T.h X af w fun _u w=>V7 P T.h X w fun r0=>K (.tuple #[r0,(.int .i64 0)]) w))
theorem Q8a {b d a c:Value} {w:World} {K:Value→World→Prop} (h:Q2K b d a c w K):Q1 P F.cP [b,d,a,c] w K:=Q9 (List.replicate 12 none) Tryz.func19 rfl (by decide) (by kernel_rfl) h
def Ls (w:World) (K:Value→World→Prop):Prop:= Q1 P F.aU [] w fun t8 w=>ext P t8 0 w fun n w=>ext P t8 1 w fun j w=>Q3 P .eql T.r (.tmp 11) (.const (.pointer none)) n (.pointer none) w fun d w=>Q0 d false w (fun w J=>J j w) fun q w=>Q0 d false w (X5 P .len [T.g] T.e [false] [q]) fun l w=>Q0 d false w (Q3 P .eql T.e (.tmp 15) (.const (.int .i64 0)) l (.int .i64 0)) fun E w=>pick P d (.bool true) E w fun o w=>X1 o (K (.bool false) w) (O7 P T.c [] w fun N w=>O7 P T.l [(0,(.string ⟨#[97,100,100]⟩))] w fun r w=>buildSlice P T.d 2 [(0,(.string ⟨#[105,110,116]⟩)),(1,(.string ⟨#[105,110,116]⟩))] w fun k w=>O7 P T.h [(0,(.bool true)),(1,k)] w fun R w=>Q1 P F.cP [n,N,r,R] w fun h w=>ext P h 0 w fun t w=>ext P h 1 w fun L w=>W7 P T.h w fun a w=>Z4 P T.h a t w fun _u w=>buildSlice P T.d 1 [(0,(.string ⟨#[110,117,108,108]⟩))] w fun W w=>O7 P T.h [(0,(.bool true)),(1,W)] w fun z w=>buildSlice P T.d 1 [(0,(.string ⟨#[116,101,120,116,91,93]⟩))] w fun Z w=>O7 P T.h [(0,(.bool true)),(1,Z)] w fun O w=>Q1 P F.cp [n,z,O] w fun i w=>ext P i 0 w fun C w=>ext P i 1 w fun p w=>W7 P T.h w fun c w=>Z4 P T.h c C w fun _u w=>Q2 P T.h a w fun Y w=>buildSlice P T.d 1 [(0,(.string ⟨#[105,110,116]⟩))] w fun H w=>O7 P T.h [(0,(.bool true)),(1,H)] w fun B w=>Q1 P F.aC [Y,B] w fun f w=>Q0 f true w (fun w J=>J L w) fun Q w=>Q0 f true w (Q3 P .eql T.s (.tmp 41) (.const (.int .i64 0)) Q (.int .i64 0)) fun u w=>pick P f u (.bool false) w fun b w=>Q0 b true w (Q2 P T.h c) fun D w=>Q0 b true w (buildSlice P T.d 1 [(0,(.string ⟨#[116,101,120,116,91,93]⟩))]) fun M w=>Q0 b true w (O7 P T.h [(0,(.bool true)),(1,M)]) fun v w=>Q0 b true w (Q1 P F.aC [D,v]) fun U w=>pick P b U (.bool false) w fun g w=>Q0 g true w (fun w J=>J p w) fun y w=>Q0 g true w (Q3 P .eql T.s (.tmp 51) (.const (.int .i64 0)) y (.int .i64 0)) fun s w=>pick P g s (.bool false) w fun e w=>Q0 e true w (Q2 P T.h a) fun m w=>Q0 e true w (Q2 P T.h a) fun A w=>Q0 e true w (Q1 P F.cC [m,A]) fun V w=>pick P e V (.bool false) w fun X w=>K X w)
theorem Gc {w:World} {K:Value→World→Prop} (h:Ls w K):Q1 P F.ay [] w K:=Q9 (List.replicate 8 none) Tryz.func11 rfl (by decide) (by kernel_rfl) h
end Go.Proofs.YtfppjenblllfaaaGreatDoor

set_option maxRecDepth 100000
namespace Go.Proofs.YtfppjenblllfaaaGreatDoor
open Go.Emb
def Nf:V1:=[none,none,none,some ([8],[4,5,8,9,10,11,12,13,14,15,16,17,18]),none,none,none,none,none,none,none]
def Qq (g j:Value) (w:World) (K:Value→World→Prop):Prop:= X5 P .len [T.t] T.e [false] [g] w fun h w=>lp (α:=Value) (.int .i64 0) w fun a b k w=>Q3 P .lss T.e (.tmp 8) (.tmp 7) b h w fun i w=>X1 i (indexAddr P T.t g b w fun c w=>Q2 P T.e c w fun f w=>Y9 P j [f] w fun e w=>X1 e (K b w) (Q3 P .add T.e (.tmp 8) (.const (.int .i64 1)) b (.int .i64 1) w fun d w=>a d w)) (K (.int .i64 (-1)) w)
theorem Nr {a b:Value} {w:World} {K:Value→World→Prop} (h:Qq a b w K):Q1 P F.bi [a,b] w K:=Q9 Nf Tryz.func93 rfl (by decide) (by kernel_rfl) h
def K2 (b d:Value) (w:World) (K:Value→World→Prop):Prop:= Q1 P F.bi [b,d] w fun a w=>Q3 P .geq T.e (.tmp 7) (.const (.int .i64 0)) a (.int .i64 0) w fun c w=>K c w
theorem Vu {a b:Value} {w:World} {K:Value→World→Prop} (h:K2 a b w K):Q1 P F.ai [a,b] w K:=Q9 (List.replicate 2 none) Tryz.func42 rfl (by decide) (by kernel_rfl) h
def Ib (c e:Value) (w:World) (K:Value→World→Prop):Prop:= Q2 P T.k e w fun d w=>X5 P .len [T.k] T.e [false] [d] w fun a w=>Q3 P .geq T.e (.tmp 4) (.tmp 6) c a w fun b w=>K b w
theorem Q3C {a b:Value} {w:World} {K:Value→World→Prop} (h:Ib a b w K):Q1 P F.ca [a,b] w K:=Q9 (List.replicate 2 none) Tryz.func43 rfl (by decide) (by kernel_rfl) h
def Q5z:V1:=[none,none,none,none,none,some ([6],[6,7,8,20,21,22,23,24,25,26,27,28,29,30,31,32,33,34,35,36,37,38,39,40,41,42,43,44,45,46,47,48,49,50,51,52,53,54]),none,none,some ([26],[26,27,28]),none,none,some ([8],[8,31,32,33,34,35,36,37,38,39,40,41,42]),none,none,none,some ([52],[52,53,54]),none,none,none,none,none]
def Q0F (a0 m:Value) (w:World) (K:Value→World→Prop):Prop:= box P T.k a0 w fun a w=>Q3 P .lss T.e (.tmp 9) (.const (.int .i64 0)) m (.int .i64 0) w fun d w=>Q0 d false w (fun w J=>J m w) fun p w=>Q0 d false w (Q2 P T.k a) fun ad w=>Q0 d false w (X5 P .len [T.k] T.e [false] [ad]) fun t w=>Q0 d false w (Q3 P .geq T.e (.tmp 12) (.tmp 14) p t) fun q w=>pick P d (.bool true) q w fun M w=>X1 M (K (.tuple #[(.slice none 0 0),(.bool false)]) w) (Q3 P .add T.e (.tmp 17) (.const (.int .i64 1)) m (.int .i64 1) w fun H w=>buildSlice P T.t 1 [(0,H)] w fun f w=>jn (α:=Value) w (fun l w=>Q2 P T.k a w fun R w=>indexAddr P T.k R m w fun n w=>Q2 P T.l n w fun W w=>W7 P T.l w fun b w=>Z4 P T.l b W w fun _u w=>fieldAddr P T.l b 0 w fun ab w=>Q2 P T.b ab w fun e w=>jn (α:=Value) w (fun J8 w=>Q3 P .eql T.b (.tmp 25) (.const (.string ⟨#[106,117,109,112]⟩)) e (.string ⟨#[106,117,109,112]⟩) w fun h w=>X1 h (J8 h w) (Q3 P .eql T.b (.tmp 25) (.const (.string ⟨#[98,114,97,110,99,104]⟩)) e (.string ⟨#[98,114,97,110,99,104]⟩) w fun L w=>J8 L w)) fun z8 d_ w=>X1 z8 (Q2 P T.k a w fun aa w=>X5 P .len [T.k] T.e [false] [aa] w fun C w=>jn (α:=Value) w (fun g w=>fieldAddr P T.l b 1 w fun ae w=>Q2 P T.a6 ae w fun U w=>Q3 P .geq T.a6 (.tmp 32) (.const (.int .i64 0)) U (.int .i64 0) w fun c w=>Q0 c true w (fieldAddr P T.l b 1) fun s w=>Q0 c true w (Q2 P T.a6 s) fun y w=>Q0 c true w (Q2 P T.k a) fun Q w=>Q0 c true w (X5 P .len [T.k] T.e [false] [Q]) fun N w=>Q0 c true w (Q3 P .lss T.a6 (.tmp 36) (.tmp 38) y N) fun r w=>pick P c r (.bool false) w fun o w=>X1 o (fieldAddr P T.l b 1 w fun V w=>Q2 P T.a6 V w fun v w=>g v w) (g C w)) fun X d_ w=>buildSlice P T.t 1 [(0,X)] w fun O w=>X5 P .append [T.t,T.t] T.t [false,false] [f,O] w fun i w=>fieldAddr P T.l b 0 w fun z w=>Q2 P T.b z w fun Y w=>Q3 P .eql T.b (.tmp 48) (.const (.string ⟨#[106,117,109,112]⟩)) Y (.string ⟨#[106,117,109,112]⟩) w fun u w=>X1 u (E9 P T.t i (some (.int .i64 1)) none none w fun A w=>l A w) (l i w)) (jn (α:=Value) w (fun j w=>Q3 P .eql T.b (.tmp 25) (.const (.string ⟨#[114,101,116,117,114,110]⟩)) e (.string ⟨#[114,101,116,117,114,110]⟩) w fun k w=>X1 k (j k w) (Q3 P .eql T.b (.tmp 25) (.const (.string ⟨#[116,104,114,111,119]⟩)) e (.string ⟨#[116,104,114,111,119]⟩) w fun B w=>j B w)) fun D d_ w=>X1 D (l (.slice none 0 0) w) (l f w))) fun z5 d_ w=>M4 P (.func F.ca) [] [a] w fun E w=>Q1 P F.ai [z5,E] w fun Z w=>X1 Z (K (.tuple #[(.slice none 0 0),(.bool false)]) w) (K (.tuple #[z5,(.bool true)]) w))
theorem Q5D {a b:Value} {w:World} {K:Value→World→Prop} (h:Q0F a b w K):Q1 P F.cD [a,b] w K:=Q9 Q5z Tryz.func23 rfl (by decide) (by kernel_rfl) h
def Iu:V1:=[none,none,none,none,none,none,none,some ([6],[4,5,6,35,36,37,38,39,40,41,42,43,44,45,46]),none,none,none,none,some ([6],[4,5,6,47,48,49,50,51,52,53,54,55,56,57,58,59,60,61,62,63,64,65,66,67,68,69]),none,none,none,none,none]
def Mj (j i:Value) (w:World) (K:Value→World→Prop):Prop:= Q3 P .lss T.e (.tmp 9) (.const (.int .i64 0)) i (.int .i64 0) w fun b w=>Q0 b false w (fun w J=>J i w) fun p w=>Q0 b false w (fun w J=>J j w) fun af w=>Q0 b false w (X5 P .len [T.k] T.e [false] [af]) fun u w=>Q0 b false w (Q3 P .geq T.e (.tmp 12) (.tmp 14) p u) fun q w=>pick P b (.bool true) q w fun O w=>X1 O (K (.tuple #[(.slice none 0 0),(.bool false)]) w) (buildSlice P T.t 0 [] w fun g w=>indexAddr P T.k j i w fun V w=>Q2 P T.l V w fun v w=>W7 P T.l w fun c w=>Z4 P T.l c v w fun _u w=>fieldAddr P T.l c 0 w fun n w=>Q2 P T.b n w fun Y w=>Q3 P .eql T.b (.tmp 23) (.const (.string ⟨#[106,117,109,112]⟩)) Y (.string ⟨#[106,117,109,112]⟩) w fun f w=>Q0 f false w (fieldAddr P T.l c 0) fun R w=>Q0 f false w (Q2 P T.b R) fun Q w=>Q0 f false w (Q3 P .eql T.b (.tmp 27) (.const (.string ⟨#[114,101,116,117,114,110]⟩)) Q (.string ⟨#[114,101,116,117,114,110]⟩)) fun N w=>pick P f (.bool true) N w fun e w=>Q0 e false w (fieldAddr P T.l c 0) fun aj w=>Q0 e false w (Q2 P T.b aj) fun W w=>Q0 e false w (Q3 P .eql T.b (.tmp 32) (.const (.string ⟨#[116,104,114,111,119]⟩)) W (.string ⟨#[116,104,114,111,119]⟩)) fun ad w=>pick P e (.bool true) ad w fun L w=>jn (α:=Value) w (fun J7 w=>J5 P .not L w fun z w=>X1 z (Q3 P .add T.e (.tmp 37) (.const (.int .i64 1)) i (.int .i64 1) w fun H w=>X5 P .len [T.k] T.e [false] [j] w fun o w=>Q3 P .geq T.e (.tmp 38) (.tmp 40) H o w fun X w=>X1 X (K (.tuple #[(.slice none 0 0),(.bool false)]) w) (Q3 P .add T.e (.tmp 43) (.const (.int .i64 1)) i (.int .i64 1) w fun ag w=>buildSlice P T.t 1 [(0,ag)] w fun M w=>X5 P .append [T.t,T.t] T.t [false,false] [g,M] w fun U w=>J7 U w)) (J7 g w)) fun z7 d_ w=>jn (α:=Value) w (fun h w=>fieldAddr P T.l c 0 w fun A w=>Q2 P T.b A w fun ab w=>Q3 P .eql T.b (.tmp 48) (.const (.string ⟨#[106,117,109,112]⟩)) ab (.string ⟨#[106,117,109,112]⟩) w fun d w=>Q0 d false w (fieldAddr P T.l c 0) fun C w=>Q0 d false w (Q2 P T.b C) fun y w=>Q0 d false w (Q3 P .eql T.b (.tmp 52) (.const (.string ⟨#[98,114,97,110,99,104]⟩)) y (.string ⟨#[98,114,97,110,99,104]⟩)) fun ae w=>pick P d (.bool true) ae w fun D w=>X1 D (fieldAddr P T.l c 1 w fun r w=>Q2 P T.a6 r w fun E w=>Q3 P .lss T.a6 (.tmp 56) (.const (.int .i64 0)) E (.int .i64 0) w fun a w=>Q0 a false w (fieldAddr P T.l c 1) fun l w=>Q0 a false w (Q2 P T.a6 l) fun k w=>Q0 a false w (fun w J=>J j w) fun aa w=>Q0 a false w (X5 P .len [T.k] T.e [false] [aa]) fun B w=>Q0 a false w (Q3 P .geq T.a6 (.tmp 60) (.tmp 62) k B) fun ah w=>pick P a (.bool true) ah w fun ai w=>X1 ai (K (.tuple #[(.slice none 0 0),(.bool false)]) w) (fieldAddr P T.l c 1 w fun Z w=>Q2 P T.a6 Z w fun t w=>buildSlice P T.t 1 [(0,t)] w fun m w=>X5 P .append [T.t,T.t] T.t [false,false] [z7,m] w fun ac w=>h ac w)) (h z7 w)) fun s d_ w=>K (.tuple #[s,(.bool true)]) w)
theorem Iz {a b:Value} {w:World} {K:Value→World→Prop} (h:Mj a b w K):Q1 P F.bk [a,b] w K:=Q9 Iu Tryz.func24 rfl (by decide) (by kernel_rfl) h
def Ex:V1:=[none,none,none,none,none,none,none,none,none,none,none,some ([9],[4,9,40,41,42,43,44,45,46,47,48,49,50,51,52,53,54]),none,none,none,none,none,none]
def Yv (s W:Value) (w:World) (K:Value→World→Prop):Prop:= X5 P .len [T.k] T.e [false] [s] w fun R w=>Q3 P .gtr T.e (.tmp 11) (.const (.int .i64 300)) R (.int .i64 300) w fun u w=>X1 u (Q1 P F.ay [] w fun U w=>K U w) (Q1 P F.cD [s,W] w fun n w=>ext P n 0 w fun p w=>ext P n 1 w fun B w=>Q1 P F.bk [s,W] w fun q w=>ext P q 0 w fun l w=>ext P q 1 w fun A w=>Q1 P F.ay [] w fun O w=>J5 P .not O w fun f w=>Q0 f false w (fun w J=>J B w) fun Q w=>Q0 f false w (fun w J=>J A w) fun H w=>Q0 f false w (Q3 P .neq T.n (.tmp 29) (.tmp 30) Q H) fun t w=>pick P f (.bool true) t w fun a w=>Q0 a false w (fun w J=>J p w) fun L w=>Q0 a false w (X5 P .len [T.t] T.e [false] [L]) fun y w=>Q0 a false w (fun w J=>J l w) fun D w=>Q0 a false w (X5 P .len [T.t] T.e [false] [D]) fun V w=>Q0 a false w (Q3 P .neq T.e (.tmp 35) (.tmp 37) y V) fun M w=>pick P a (.bool true) M w fun v w=>X1 v (K (.bool false) w) (lp (α:=Value) (.int .i64 0) w fun b g X w=>X5 P .len [T.t] T.e [false] [l] w fun C w=>Q3 P .lss T.e (.tmp 40) (.tmp 42) g C w fun z w=>X1 z (dr w fun i m=>Q7 i (fun c=> ∀w,m w→indexAddr P T.t p g w (dk i c w)) fun c=>Q7 i (fun e=> ∀w,m w→indexAddr P T.t l g w (dk i e w)) fun e=>Q7 i (fun j=> ∀h w,m w→c h w→Q2 P T.e h w (dk i j w)) fun j=>Q7 i (fun k=> ∀d w,m w→e d w→Q2 P T.e d w (dk i k w)) fun k=>∀h d o r w,m w→c h w→e d w→j o w→k r w→ Q3 P .neq T.e (.tmp 49) (.tmp 53) o r w fun E w=>X1 E (K (.bool false) w) (Q3 P .add T.e (.tmp 44) (.const (.int .i64 1)) g (.int .i64 1) w fun N w=>b N w)) (K (.bool true) w)))
theorem Hf {a b:Value} {w:World} {K:Value→World→Prop} (h:Yv a b w K):Q1 P F.bH [a,b] w K:=Q9 Ex Tryz.func9 rfl (by decide) (by kernel_rfl) h
end Go.Proofs.YtfppjenblllfaaaGreatDoor


namespace Go.Emb
open Go.RowKit (Below)
variable {P : Program} {w w' : World} {K : Value → World → Prop}
theorem X9 {s:Sem Value} {v:Value} (h:s.run P w= .ok v w'):op P (sv s) w K=K v w':=by
 rw[Xb];unfold Qf sv;simp[h]
theorem Ng {s:Sem Unit} (h:s.run P w= .ok () w'):op P (su s) w K=K undef w':=by
 rw[Xb];unfold Qf su;simp[h]
abbrev S (l:List UInt8):Value:= .string ⟨l.toArray⟩
abbrev I (n:Int):Value:= .int .i64 n
theorem Oq {b:Bool} {x y:Value}:pick P (.bool b) x y w K=K (if b then x else y) w:=by
 unfold pick;rw[Xb];unfold Qf;cases b<;>simp[asBool]
theorem Rt {x y:Value}:pick P (.bool true) x y w K=K x w:=by rw[Oq];rfl
theorem Dg {x y:Value}:pick P (.bool false) x y w K=K y w:=by rw[Oq];rfl
theorem Q9j {a b:Bool} {u:Value}:pick P (.bool a) (if a=true then .bool b else u) (.bool false) w K=K (.bool (a&&b)) w:=by
 rw[Oq];cases a<;>rfl
theorem X0B {a b:Bool} {u:Value}:pick P (.bool a) (.bool true) (if a=false then .bool b else u) w K=K (.bool (a||b)) w:=by
 rw[Oq];cases a<;>rfl
theorem I8 {c:World→(Value→World→Prop)→Prop}:Q0 (.bool true) true w c K=c w K:=by rw[Ot];simp[Lp]
theorem Uz {c:World→(Value→World→Prop)→Prop}:Q0 (.bool false) false w c K=c w K:=by rw[Ot];simp[Lp]
theorem Pq {c:World→(Value→World→Prop)→Prop}:Q0 (.bool true) false w c K=K undef w:=by rw[Ot];simp[Lp]
theorem Ub {c:World→(Value→World→Prop)→Prop}:Q0 (.bool false) true w c K=K undef w:=by rw[Ot];simp[Lp]
theorem Ao {b:Bool} {c:World→(Value→World→Prop)→Prop}:Q0 undef b w c K=K undef w:=by rw[Ot];rfl
theorem Q9J {a b:Bool} {v:Value}:Q0 (.bool a) b w (fun w J=>J v w) K=K (if a=b then v else undef) w:=by
 rw[Ot];unfold Lp;by_cases h:a=b<;>simp[h]
theorem Q4C {b:Bool} {t e:Prop}:X1 (.bool b) t e=if b=true then t else e:=by rw[Q4w];cases b<;>rfl
theorem Nh {t e:Prop}:X1 (.bool true) t e=t:=by rw[Q4C];simp
theorem Vf {t e:Prop}:X1 (.bool false) t e=e:=by rw[Q4C];simp
section ints
variable {k : IntKind} {t : TypeId} {ox oy : Operand} {a b : Int}
theorem Be:Q3 P .add t ox oy (.int k a) (.int k b) w K=K (.int k (k.wrap (a+b))) w:=X9 (by simp[eqGuard,Go.binOp,Op.intArith])
theorem Q09:Q3 P .sub t ox oy (.int k a) (.int k b) w K=K (.int k (k.wrap (a-b))) w:=X9 (by simp[eqGuard,Go.binOp,Op.intArith])
theorem Q6w:Q3 P .mul t ox oy (.int k a) (.int k b) w K=K (.int k (k.wrap (a*b))) w:=X9 (by simp[eqGuard,Go.binOp,Op.intArith])
theorem Q2a:Q3 P .lss t ox oy (.int k a) (.int k b) w K=K (.bool (decide (a<b))) w:=X9 (by simp[eqGuard,Go.binOp,Op.intCmp])
theorem Q2w:Q3 P .leq t ox oy (.int k a) (.int k b) w K=K (.bool (decide (a≤b))) w:=X9 (by simp[eqGuard,Go.binOp,Op.intCmp])
theorem Q2p:Q3 P .gtr t ox oy (.int k a) (.int k b) w K=K (.bool (decide (b<a))) w:=X9 (by simp[eqGuard,Go.binOp,Op.intCmp])
theorem Q08:Q3 P .geq t ox oy (.int k a) (.int k b) w K=K (.bool (decide (b≤a))) w:=X9 (by simp[eqGuard,Go.binOp,Op.intCmp])
theorem Q0i:Q3 P .eql t ox oy (.int k a) (.int k b) w K=K (.bool (decide (a=b))) w:=X9 (by
 simp[eqGuard,Go.binOp,Op.intCmp];rfl)
theorem Q2k:Q3 P .neq t ox oy (.int k a) (.int k b) w K=K (.bool (!decide (a=b))) w:=X9 (by
 simp[eqGuard,Go.binOp,Op.intCmp];rfl)
end ints
theorem Q2l {b:Bool}:J5 P .not (.bool b) w K=K (.bool (!b)) w:=X9 (by simp[Op.unary])
section bools
variable {t : TypeId} {ox oy : Operand} {a b : Bool}
theorem Q1l (d:Nat) (h:P.underlying t=some .bool):(Op.equalIn (d+1) t (.bool a) (.bool b)).run P w= .ok (a==b) w:=by
 simp[Op.equalIn,run_underlying h]
theorem Bf (h:P.underlying t=some .bool):(Op.equal t (.bool a) (.bool b)).run P w= .ok (a==b) w:=Q1l 9999 h
theorem Q4J (h:P.underlying t=some .bool):Q3 P .eql t ox oy (.bool a) (.bool b) w K=K (.bool (a==b)) w:=X9 (by
 simp[eqGuard,Go.binOp,Bf h])
theorem Q58 (h:P.underlying t=some .bool):Q3 P .neq t ox oy (.bool a) (.bool b) w K=K (.bool (!(a==b))) w:=X9 (by
 simp[eqGuard,Go.binOp,Bf h])
end bools
theorem Zb {vs:List Value} {i:Nat} {v:Value} (h:vs[i]? =some v):ext P (.tuple vs.toArray) i w K=K v w:=X9 (by
 simp[Instr.extract,h])
theorem X22 {a b:Value}:ext P (.tuple #[a,b]) 0 w K=K a w:=Zb (vs:=[a,b]) rfl
theorem X1l {a b:Value}:ext P (.tuple #[a,b]) 1 w K=K b w:=Zb (vs:=[a,b]) rfl
theorem X06 {a b c:Value}:ext P (.tuple #[a,b,c]) 0 w K=K a w:=Zb (vs:=[a,b,c]) rfl
theorem X0h {a b c:Value}:ext P (.tuple #[a,b,c]) 1 w K=K b w:=Zb (vs:=[a,b,c]) rfl
theorem X04 {a b c:Value}:ext P (.tuple #[a,b,c]) 2 w K=K c w:=Zb (vs:=[a,b,c]) rfl
theorem C4 {n:Int} (d: -9223372036854775808≤n) (c:n≤9223372036854775807):IntKind.i64.wrap n=n:=by
 have e:n % 18446744073709551616=n∨n % 18446744073709551616=n+18446744073709551616:=by omega
 show (if (true&&decide (n % 18446744073709551616≥9223372036854775808))=true then n % 18446744073709551616-18446744073709551616 else n % 18446744073709551616)=n
 simp only[Bool.true_and,decide_eq_true_eq]
 split<;>omega
theorem w32 {n:Int} (d: -2147483648≤n) (c:n≤2147483647):IntKind.i32.wrap n=n:=by
 show (if (true&&decide (n % 4294967296≥2147483648))=true then n % 4294967296-4294967296 else n % 4294967296)=n
 simp only[Bool.true_and,decide_eq_true_eq]
 split<;>omega
section strs
variable {t : TypeId} {ox oy : Operand} {a b : List UInt8}
theorem Q2x (a b:List UInt8):(a==b)=decide (a=b):=by rw[Bool.eq_iff_iff];simp
theorem Sv:Q3 P .eql t ox oy (S a) (S b) w K=K (.bool (decide (a=b))) w:=X9 (by
 simp[eqGuard,Go.binOp,Op.stringOp,Q2x])
theorem Su:Q3 P .neq t ox oy (S a) (S b) w K=K (.bool (!decide (a=b))) w:=X9 (by
 simp[eqGuard,Go.binOp,Op.stringOp,Q2x])
theorem B7 (l:List UInt8):(ByteArray.mk l.toArray).size=l.length:=by simp[ByteArray.size]
theorem Q8w (a b:List UInt8):ByteArray.mk a.toArray++ByteArray.mk b.toArray=ByteArray.mk (a++b).toArray:=by
 apply ByteArray.ext;simp
theorem X29:IntKind.i64.max=9223372036854775807:=by decide
theorem Q5y (h:a.length+b.length≤9223372036854775807):Q3 P .add t ox oy (S a) (S b) w K=K (S (a++b)) w:=X9 (by
 have c: ¬(((a.length+b.length:Nat):Int)>IntKind.i64.max):=by rw[X29];omega
 simp only[eqGuard,Go.binOp,Op.stringOp,B7,Q8w]
 simp only[if_neg c]
 simp)
theorem D6 {cs:List Bool} {r:TypeId} (c:P.underlying t=some .string):X5 P .len [t] r cs [S a] w K=K (I a.length) w:=by
 have h:(Builtin.len_ #[t] r #[S a]).run P w= .ok (I a.length) w:=by
  simp[Builtin.len_,run_underlying c,B7,goInt]
 exact X9 h
theorem Qv {i:Int} (d:P.underlying t=some .string) (c:0≤i) (h:i.toNat<a.length):E1 P t (S a) (I i) w K=K (.int .u8 (a[i.toNat]'h).toNat) w:=X9 (by
 simp only[Instr.index,asIntOf,Sem.run_bind,Sem.run_pure,Result.andThen_ok,run_underlying d,c,if_true]
 have:(ByteArray.mk a.toArray)[i.toNat]? =some (a[i.toNat]'h):=by
  rw[getElem?_pos _ _ (by rw[B7];exact h)]
  rfl
 rw[this];simp)
theorem Q20 (l:List UInt8) (i j:Nat):(ByteArray.mk l.toArray).extract i j=ByteArray.mk ((l.take j).drop i).toArray:=by
 apply ByteArray.ext
 apply Array.ext'
 simp[List.drop_take]
theorem Ln {i:Int} (d:P.underlying t=some .string) (c:0≤i) (h:i≤a.length):E9 P t (S a) (some (I i)) none none w K=K (S (a.drop i.toNat)) w:=X9 (by
 simp[Instr.sliceAt,Instr.slice,Instr.sliceBounds,Instr.sliceBound,asIntOf,run_underlying d,c,h,B7,Q20])
theorem P8 {i:Int} (d:P.underlying t=some .string) (c:0≤i) (h:i≤a.length):E9 P t (S a) none (some (I i)) none w K=K (S (a.take i.toNat)) w:=X9 (by
 simp[Instr.sliceAt,Instr.slice,Instr.sliceBounds,Instr.sliceBound,asIntOf,run_underlying d,c,h,B7,Q20])
end strs
theorem Q11 {s d:TypeId} {k j:IntKind} {n:Int} {ds:TypeDesc} (c:P.underlying s=some ds) (e:P.underlying d=some (.int k)):conv P s d (.int j n) w K=K (.int k (k.wrap n)) w:=X9 (by
 simp[Go.convert,run_underlying c,run_underlying e,Conv.intToInt])
def Ad (w:World) (r:Nat) (o:Obj):World:={w with heap:=w.heap.setIfInBounds r o}
theorem Q3i {B r:Nat} {a w:World} {o:Obj} (h:Below B a w) (c:B≤r):Below B a (Ad w r o):=
 h.trans ⟨rfl,rfl,rfl,by simp[Ad],fun k d=>by simp only[Ad];rw[Array.getElem?_setIfInBounds_ne (by omega)]⟩
theorem Q6i {w:World} {r:Nat} {o:Obj} (h:r<w.heap.size):(Ad w r o).heap[r]? =some o:=by
 simp only[Ad];rw[Array.getElem?_setIfInBounds_self_of_lt h]
theorem X0r {t:TypeId} {a:List UInt8} (c:P.underlying t=some .string):rng P t (S a) w K=K (.pointer (some ⟨w.heap.size,0,none⟩)) (w.alloc (.stringIter ⟨a.toArray⟩ 0)):=X9 (by
 simp[Instr.range,run_underlying c])
theorem X0u {t:TypeId} {r pos:Nat} {s:ByteArray} (h:w.heap[r]? =some (.stringIter s pos)) (d:pos<s.size):
 J1 P (.pointer (some ⟨r,0,none⟩)) true t w K=K (.tuple #[.bool true,I pos, .int .i32 (Utf8.decode s pos).1]) (Ad w r (.stringIter s (pos+(Utf8.decode s pos).2))):=X9 (by
 have c: ∀(k:Obj→Sem Value),(getObj r>>=k).run P w=(k (.stringIter s pos)).run P w:=by
  intro k;rw[Sem.run_bind];simp[getObj,Sem.run,h]
 have e: ∀o,(setObj r o).run P w= .ok () (Ad w r o):=by intro o;simp[setObj,Sem.run,h,Ad]
 unfold Instr.next
 simp only[c,d,if_true]
 simp[e,goInt])
theorem Q5A {t:TypeId} {r pos:Nat} {s:ByteArray} (h:w.heap[r]? =some (.stringIter s pos)) (d: ¬pos<s.size):
 J1 P (.pointer (some ⟨r,0,none⟩)) true t w K=K (.tuple #[.bool false]) w:=X9 (by
 have c: ∀(k:Obj→Sem Value),(getObj r>>=k).run P w=(k (.stringIter s pos)).run P w:=by
  intro k;rw[Sem.run_bind];simp[getObj,Sem.run,h]
 unfold Instr.next
 simp only[c,d,if_false]
 simp)
theorem X0j {a:Value}:ext P (.tuple #[a]) 0 w K=K a w:=Zb (vs:=[a]) rfl
theorem Q6A {s:ByteArray} {i:Nat} (h:(s.get! i).toNat<128):Utf8.decode s i=((s.get! i).toNat,1):=by
 unfold Utf8.decode
 simp only[Nat.add_zero]
 rw[if_pos h]
theorem Q5h {s:ByteArray} {i:Nat} (h: ¬(s.get! i).toNat<128):128≤(Utf8.decode s i).1:=by
 unfold Utf8.decode
 simp only[Nat.add_zero]
 rw[if_neg h]
 repeat' split
 all_goals (simp only[Utf8.runeError] at*;try omega)
 all_goals (simp only[Bool.and_eq_true,decide_eq_true_eq,ge_iff_le] at*;omega)
theorem Q5d {s:ByteArray} {i:Nat}:1≤(Utf8.decode s i).2:=by
 unfold Utf8.decode
 simp only
 repeat' split
 all_goals simp
def Ff (p:Int→Bool) (s:ByteArray):Nat→Nat→Bool
 | 0,_=>true
 | n+1,i=>if i<s.size then p (Utf8.decode s i).1&&Ff p s n (i+(Utf8.decode s i).2) else true
theorem Q2u {a:List UInt8} {i:Nat} (h:i<a.length):(ByteArray.mk a.toArray).get! i=a[i]:=by
 show (ByteArray.mk a.toArray).data[i]! =a[i]
 simp[h]
theorem Q7j (p:Int→Bool) (e: ∀c:Int,128≤c→p c=false) (a:List UInt8): ∀(n i:Nat),a.length-i≤n→Ff p ⟨a.toArray⟩ n i=(a.drop i).all (fun b=>p b.toNat):=by
 intro n
 induction n with
 | zero=>intro i h;rw[List.drop_eq_nil_of_le (by omega)];rfl
 | succ n g=>
  intro i h
  simp only[Ff,B7]
  split
  ·rename_i d
   rw[List.drop_eq_getElem_cons d,List.all_cons]
   by_cases f:a[i].toNat<128
   ·rw[Q6A (by rw[Q2u d];exact f),Q2u d]
    simp only
    rw[g (i+1) (by omega)]
   ·have j:=Q5h (s:=⟨a.toArray⟩) (i:=i) (by rw[Q2u d];exact f)
    rw[e _ (by omega),e _ (by omega)];rfl
  ·rename_i d;rw[List.drop_eq_nil_of_le (by omega)];rfl
theorem V9 {α:Type} {A:(α→World→Prop)→World→Prop} {B:α→(Nat→Value)→World→Prop} (h:A (fun x w=> ∀d,B x d w) w):jn w A B:=G6 _ h (fun _ d _ c=>c d)
theorem X2 {d:World→World→Prop} {A c:(Value→World→Prop)→Prop} (V:Value) (h:A (fun v _=>v=V)) (e:c (fun v _=>v=V)):Q7 d A c:=
 W9 _ (fun _ _ _ h _=>h) h e
theorem Nt {w w0:World} {A:(World→World→Prop)→(World→Prop)→Prop} (e:Below w0.heap.size w0 w)
 (h:A (fun w w'=>Below w.heap.size w w') (fun w'=>Below w0.heap.size w0 w')):dr w A:=
 Q0b _ _ e.drew (fun _ _ c d=>c.trans (d.mono c.size)) h
theorem Q1n {w w':World} {v V:Value} (c:Below w.heap.size w w') (h:v=V):dk (fun w w'=>Below w.heap.size w w') (fun v _=>v=V) w v w':=⟨c,h⟩
theorem X6 {w:World} {v V:Value} (h:v=V):dk (fun w w'=>Below w.heap.size w w') (fun v _=>v=V) w v w:=⟨Below.refl _ _,h⟩
theorem Q5f {n:Nat} {fn:Func} {e:Array Value→Sem Value} {xs:List Value} {v:Value} (i:P.funcs[n]? =some fn) (j:(fn.name== "runtime.NumGoroutine")=false) (l:fn.body.isNone=true)
 (g:(Extern.findNext fn).isNone=true) (o:Extern.find fn=some e) (m:(e xs.toArray).run P w= .ok v w) (h:K v w):Q1 P n xs w K:=by
 have c:Extern.findNext fn=none:=by simpa using g
 have f: ¬fn.name= "runtime.NumGoroutine":=by simpa using j
 have d:fn.body=none:=by simpa using l
 unfold Q1
 rw[Xb]
 unfold Qf callFunc
 simp[i,f,d,c,o,m,h]
theorem Q1w {α:Type} (p:α→Bool) (c:Nat→Bool): ∀(l:List α),(∀i (h:i<l.length),c i=p l[i])→(List.range l.length).find? c=l.findIdx? p
 | [],_=>rfl
 | x::l,h=>by
  rw[List.length_cons,List.range_succ_eq_map,List.find?_cons,List.findIdx?_cons]
  have e:c 0=p x:=h 0 (by simp)
  rw[e]
  cases p x
  ·simp only[Bool.false_eq_true,if_false]
   rw[List.find?_map]
   have:=Q1w p (c ∘ Nat.succ) l (fun i d=>h (i+1) (by simpa using d))
   rw[this]
  ·rfl
def Mr:=And.intro @Rt <| And.intro @Dg <| And.intro @Ao <| And.intro @Be <| And.intro @Q09 <| And.intro @Q6w <| And.intro @Q2a <| And.intro @Q2w <| And.intro @Q2p <| And.intro @Q08 <| And.intro @Q0i <| And.intro @Q2k <| And.intro @Q2l <| And.intro @Sv <| And.intro @Su <| And.intro @X22 <| And.intro @X1l <| And.intro @X06 <| And.intro @X0h <| And.intro @X04 <| And.intro @X0j <| And.intro @Q9j <| And.intro @X0B <| And.intro @I8 <| And.intro @Uz <| And.intro @Pq <| And.intro @Ub <| And.intro @Q9J <| And.intro @Nh <| @Vf
def Mp:=And.intro @Rt <| And.intro @Dg <| And.intro @Ao <| And.intro @Be <| And.intro @Q09 <| And.intro @Q6w <| And.intro @Q2a <| And.intro @Q2w <| And.intro @Q2p <| And.intro @Q08 <| And.intro @Q0i <| And.intro @Q2k <| And.intro @Q2l <| And.intro @Sv <| And.intro @Su <| And.intro @X22 <| And.intro @X1l <| And.intro @X06 <| And.intro @X0h <| And.intro @X04 <| And.intro @X0j <| And.intro @I8 <| And.intro @Uz <| And.intro @Pq <| And.intro @Ub <| And.intro @Nh <| @Vf
def Mb:=And.intro @Bool.true_eq_false <| And.intro @Bool.false_eq_true <| And.intro @Bool.not_true <| And.intro @Bool.not_false <| And.intro @Bool.and_true <| And.intro @Bool.true_and <| And.intro @Bool.and_false <| And.intro @Bool.false_and <| And.intro @Bool.or_true <| And.intro @Bool.true_or <| And.intro @Bool.or_false <| @Bool.false_or
end Go.Emb

namespace Go.Kd
abbrev X0:=List UInt8
def Qe (c:Int):Bool:=decide (65≤c)&&decide (c≤90)
def K0 (c:Int):Bool:=decide (97≤c)&&decide (c≤122)
def R7 (c:Int):Bool:=decide (48≤c)&&decide (c≤57)
def E3 (c:Int):Bool:=Qe c||K0 c||R7 c
def name (s:X0):Bool:=match s with
 | []=>false
 | c::_=>decide (s.length≤32)&& !R7 c.toNat&&s.all (fun b=>E3 b.toNat)
def W3 (s:X0):Bool:=match s with
 | []=>false
 | c::_=>name s&&Qe c.toNat
def L7 (s:X0):Bool:=match s with
 | []=>false
 | c::_=>name s&&K0 c.toNat
def plain (s:X0):Bool:=decide (s=[105,110,116])||decide (s=[98,111,111,108])||decide (s=[116,101,120,116])
def D7 (s:X0):Bool:=decide (2≤s.length)&&decide (s.drop (s.length-2)=[91,93])
def cutA (s:X0):X0:=s.take (s.length-2)
def Xe:Nat→X0→X0×Nat
 | 0,s=>(s,0)
 | n+1,s=>if D7 s then ((Xe n (cutA s)).1,(Xe n (cutA s)).2+1) else (s,0)
def base (s:X0):X0×Nat:=Xe s.length s
def right (s:X0):Bool:=decide ((base s).2≤3)&&(plain (base s).1||W3 (base s).1)
def elem (s:X0):X0:=if D7 s&&right s then cutA s else []
def Q13 (s:X0):Nat:=if right s then (base s).2 else 0
def A0 (s:X0):X0×X0×Bool:=match s with
 | []=>([],[],false)
 | c::r=>if c=46 then ([],r,true) else ((c::(A0 r).1),(A0 r).2.1,(A0 r).2.2)
def Yb (s:X0):Bool:=(A0 s).2.2&&W3 (A0 s).1&&L7 (A0 s).2.1
def Q03 (c:UInt8) (s:X0):Int:=match s.findIdx? (fun b=>decide (b=c)) with
 | some i=>i
 | none=> -1
def Q1Q (s:X0) (o:Option Nat):X0×X0×Bool:=match o with
 | some i=>(s.take i,s.drop (i+1),true)
 | none=>(s,[],false)
theorem Bv (s:X0):A0 s=Q1Q s (s.findIdx? (fun b=>decide (b=46))):=by
 induction s with
 | nil=>rfl
 | cons c r a=>
  rw[List.findIdx?_cons]
  simp only[A0]
  by_cases h:c=46
  ·simp[h,Q1Q]
  ·simp only[h,if_false,decide_false,Bool.false_eq_true]
   rw[a]
   cases r.findIdx? (fun b=>decide (b=46)) with
   | none=>simp[Q1Q]
   | some i=>simp[Q1Q]
end Go.Kd

namespace Go.Proofs.YtfppjenblllfaaaGreatDoor
open Go.Emb Go.RowKit Go.Kd
variable {w : World} {K : Value → World → Prop}
theorem X8:P.underlying T.b=some .string:=by kernel_rfl
theorem X2s:P.underlying T.e=some (.int .i64):=by kernel_rfl
theorem Q1W:P.underlying T.n=some .bool:=by kernel_rfl
theorem Q25:P.underlying T.y=some (.int .u8):=by kernel_rfl
theorem Q6e:P.underlying T.ag=some (.int .i32):=by kernel_rfl
theorem Q6v (c:Int) (h:K (.bool (Qe c)) w):Q1 P F.bS [.int .i32 c] w K:=Q5e (by
 unfold An
 (try simp only[↓Mr,Mr,Mb,reduceIte])
 cases a:decide (65≤c)<;>simp only[a,↓Mr,Mr,Mb,reduceIte]<;>simpa [Qe,a] using h)
theorem Q6h (c:Int) (h:K (.bool (K0 c)) w):Q1 P F.bU [.int .i32 c] w K:=Q3R (by
 unfold Td
 (try simp only[↓Mr,Mr,Mb,reduceIte])
 cases a:decide (97≤c)<;>simp only[a,↓Mr,Mr,Mb,reduceIte]<;>simpa [K0,a] using h)
theorem X0K (c:Int) (h:K (.bool (E3 c)) w):Q1 P F.bN [.int .i32 c] w K:=Q3s (by
 unfold Il
 refine Q6v c ?_
 cases a:Qe c
 ·(try simp only[↓Mr,Mr,Mb,reduceIte])
  refine Q6h c ?_
  cases b:K0 c
  ·(try simp only[↓Mr,Mr,Mb,reduceIte])
   cases d:decide (48≤c)
   ·(try simp only[↓Mr,Mr,Mb,reduceIte])
    simpa [E3,R7,a,b,d] using h
   ·(try simp only[↓Mr,Mr,Mb,reduceIte])
    simpa [E3,R7,a,b,d] using h
  ·(try simp only[↓Mr,Mr,Mb,reduceIte])
   simpa [E3,a,b] using h
 ·(try simp only[↓Mr,Mr,Mb,reduceIte])
  simpa [E3,a] using h)
theorem X2j (a:List UInt8) (f:Value) (p:Int→Bool) (l: ∀(c:Int) (w:World) (K:Value→World→Prop),K (.bool (p c)) w→Y9 P f [.int .i32 c] w K)
 (h: ∀w',Below w.heap.size w w'→K (.bool (Ff p ⟨a.toArray⟩ a.length 0)) w'):Q1 P F.cn [S a,f] w K:=Q7q (by
 unfold Q1O
 rw[X0r X8]
 refine Jb (fun _ w'=> ∃pos n:Nat,a.length-pos≤n∧Ff p ⟨a.toArray⟩ a.length 0=Ff p ⟨a.toArray⟩ n pos∧Below w.heap.size w w'∧w'.heap[w.heap.size]? =some (.stringIter ⟨a.toArray⟩ pos))
  (fun _ w'=>match w'.heap[w.heap.size]? with | some (.stringIter _ pos)=>a.length-pos | _=>0) ⟨0,a.length,by omega,rfl,(Below.refl _ _).alloc (Nat.le_refl _) _,heap_alloc_new w _⟩ ?_
 rintro _ _ w1 ⟨pos,n,q,b,j,g⟩
 by_cases e:pos<a.length
 ·rw[X0u g (by rw[B7];exact e)]
  (try simp only[↓Mr,Mr,Mb,reduceIte])
  refine l _ _ _ ?_
  obtain ⟨n,rfl⟩: ∃m,n=m+1:=⟨n-1,by omega⟩
  simp only[Ff,B7,e,if_true] at b
  have r:=Q5d (s:=⟨a.toArray⟩) (i:=pos)
  have d:w.heap.size<w1.heap.size:=(Array.getElem?_eq_some_iff.1 g).1
  cases k:p (Utf8.decode ⟨a.toArray⟩ pos).1
  ·(try simp only[↓Mr,Mr,Mb,reduceIte])
   rw[k] at b
   have:=h _ (Q3i (o:= .stringIter ⟨a.toArray⟩ (pos+(Utf8.decode ⟨a.toArray⟩ pos).2)) j (Nat.le_refl _))
   rw[b] at this
   exact this
  ·(try simp only[↓Mr,Mr,Mb,reduceIte])
   rw[k] at b
   refine ⟨⟨_,n,?_,b,Q3i j (Nat.le_refl _),Q6i d⟩,?_⟩
   ·omega
   ·simp only[Q6i d,g];omega
 ·rw[Q5A g (by rw[B7];exact e)]
  (try simp only[↓Mr,Mr,Mb,reduceIte])
  have:Ff p ⟨a.toArray⟩ n pos=true:=by
   cases n with
   | zero=>rfl
   | succ n=>simp only[Ff,B7,e,if_false]
  rw[←this,←b]
  exact h _ j)
theorem Q6T (c:Int) (h:128≤c):E3 c=false:=by
 simp[E3,Qe,K0,R7];omega
theorem Q4v (a:List UInt8) (n:a.length≤140737488355328) (h: ∀w',Below w.heap.size w w'→K (.bool (name a)) w'):Q1 P F.bG [S a] w K:=Q5U (by
 unfold Q0E
 have e: ∀c r,a=c::r→(decide (a.length≤32)&& !R7 c.toNat)=true→Q1 P F.cn [S a,(.func (.func F.bN) #[] #[])] w K:=by
  intro c r m b
  refine X2j a _ E3 (fun c w K h=>Y7 (first:=[]) (caps:=[]) (X0K c h)) fun w' l=>?_
  rw[Q7j _ Q6T a _ _ (by omega)]
  have:=h w' l
  rw[m] at this b⊢
  simp only[name] at this
  rw[b,Bool.true_and] at this
  simpa using this
 cases a with
 | nil=>
  simp only[↓Mr,Mr,Mb,reduceIte,decide_true]
  exact h w (Below.refl _ _)
 | cons c r=>
  have f:decide (c::r=[])=false:=by simp
  simp only[↓Mr,Mr,Mb,reduceIte,f,D6 X8]
  by_cases i:(c::r).length≤32
  ·have d:r.length≤31:=by simpa using i
   have b:decide ((32:Int)<((c::r).length:Int))=false:=by simp only[decide_eq_false_iff_not];omega
   simp only[↓Mr,Mr,Mb,reduceIte,b]
   rw[Qv X8 (by omega) (by simp)]
   (try simp only[↓Mr,Mr,Mb,reduceIte])
   have k:(c::r)[(0:Int).toNat]'(by simp)=c:=rfl
   simp only[k]
   cases g:decide ((48:Int)≤(c.toNat:Int))
   ·(try simp only[↓Mr,Mr,Mb,reduceIte])
    exact e c r rfl (by simp[R7,d,g])
   ·(try simp only[↓Mr,Mr,Mb,reduceIte])
    rw[Qv X8 (by omega) (by simp)]
    simp only[↓Mr,Mr,Mb,reduceIte,k]
    cases j:decide ((c.toNat:Int)≤57)
    ·(try simp only[↓Mr,Mr,Mb,reduceIte])
     exact e c r rfl (by simp only[R7,g,j];simp[d])
    ·(try simp only[↓Mr,Mr,Mb,reduceIte])
     have:name (c::r)=false:=by simp only[name,R7,g,j];simp
     rw[←this];exact h w (Below.refl _ _)
  ·have b:decide ((32:Int)<((c::r).length:Int))=true:=by simp only[decide_eq_true_eq];omega
   simp only[↓Mr,Mr,Mb,reduceIte,b]
   have:name (c::r)=false:=by simp only[name];rw[decide_eq_false i];rfl
   rw[←this];exact h w (Below.refl _ _))
theorem Dv (a:List UInt8) (f:a.length≤140737488355328) (h: ∀w',Below w.heap.size w w'→K (.bool (W3 a)) w'):Q1 P F.ad [S a] w K:=Q42 (by
 unfold Pu
 refine Q4v a f fun w1 b=>?_
 cases a with
 | nil=>
  simp only[name,↓Mr,Mr,Mb,reduceIte]
  exact h w1 b
 | cons c r=>
  cases d:name (c::r)
  ·(try simp only[↓Mr,Mr,Mb,reduceIte])
   have:=h w1 b
   simp only[W3,d] at this
   simpa using this
  ·(try simp only[↓Mr,Mr,Mb,reduceIte])
   rw[Qv X8 (by omega) (by simp)]
   have e:(c::r)[(0:Int).toNat]'(by simp)=c:=rfl
   simp only[e]
   rw[Q11 Q25 Q6e,w32 (by omega) (by have:=c.toNat_lt;omega)]
   refine Q6v _ ?_
   (try simp only[↓Mr,Mr,Mb,reduceIte])
   have:=h w1 b
   simp only[W3,d] at this
   simpa using this)
theorem Vh (a:List UInt8) (h:K (.bool (plain a)) w):Q1 P F.ab [S a] w K:=Q3V (by
 unfold Pm
 (try simp only[↓Mr,Mr,Mb,reduceIte])
 cases b:decide (a=[105,110,116])<;>(try simp only[↓Mr,Mr,Mb,reduceIte])
 ·cases c:decide (a=[98,111,111,108])<;>(try simp only[↓Mr,Mr,Mb,reduceIte])<;>simpa [plain,b,c] using h
 ·simpa [plain,b] using h)
def Zp (a b:List UInt8):Bool:=decide (b.length≤a.length)&&decide (a.drop (a.length-b.length)=b)
theorem Ns (a b:List UInt8) (f:a.length≤140737488355328) (e:b.length≤140737488355328) (h:K (.bool (Zp a b)) w):Q1 P F.a5 [S a,S b] w K:=Rc (by
 unfold Jp
 rw[D6 X8,D6 X8]
 (try simp only[↓Mr,Mr,Mb,reduceIte])
 by_cases d:b.length≤a.length
 ·have c:decide ((b.length:Int)≤a.length)=true:=by simp only[decide_eq_true_eq];omega
  simp only[↓Mr,Mr,Mb,reduceIte,c,D6 X8]
  rw[C4 (by omega) (by omega),Ln X8 (by omega) (by omega)]
  (try simp only[↓Mr,Mr,Mb,reduceIte])
  rw[show ((a.length:Int)-b.length).toNat=a.length-b.length from by omega]
  simpa [Zp,d] using h
 ·have c:decide ((b.length:Int)≤a.length)=false:=by simp only[decide_eq_false_iff_not];omega
  simp only[↓Mr,Mr,Mb,reduceIte,c]
  simpa [Zp,d] using h)
theorem Q5E (a b:List UInt8) (d:a.length≤140737488355328) (c:b.length≤140737488355328) (h:K (.bool (Zp a b)) w):Q1 P F.bp [S a,S b] w K:=Kk (by
 unfold Mh
 exact Ns a b d c h)
def Nq (a b:List UInt8):List UInt8:=if Zp a b then a.take (a.length-b.length) else a
theorem Q33 {a b:List UInt8} (h:Zp a b=true):b.length≤a.length:=by
 simp only[Zp,Bool.and_eq_true,decide_eq_true_eq] at h;exact h.1
theorem Q4b (a b:List UInt8) (e:a.length≤140737488355328) (d:b.length≤140737488355328) (h:K (S (Nq a b)) w):Q1 P F.be [S a,S b] w K:=Gw (by
 unfold Wl
 refine Ei ?_
 unfold Ys
 refine Ns a b e d ?_
 cases c:Zp a b
 ·(try simp only[↓Mr,Mr,Mb,reduceIte])
  simpa [Nq,c] using h
 ·have f:=Q33 c
  simp only[↓Mr,Mr,Mb,reduceIte,D6 X8]
  rw[C4 (by omega) (by omega),P8 X8 (by omega) (by omega)]
  rw[show ((a.length:Int)-b.length).toNat=a.length-b.length from by omega]
  simpa [Nq,c] using h)
theorem Q5P (a b:List UInt8) (e:a.length≤140737488355328) (d:b.length≤140737488355328) (h:K (.tuple #[S (Nq a b), .bool (Zp a b)]) w):Q1 P F.bq [S a,S b] w K:=Kn (by
 unfold Mv
 refine Rd ?_
 unfold Jr
 refine Ns a b e d ?_
 cases c:Zp a b
 ·(try simp only[↓Mr,Mr,Mb,reduceIte])
  simpa [Nq,c] using h
 ·have f:=Q33 c
  simp only[↓Mr,Mr,Mb,reduceIte,D6 X8]
  rw[C4 (by omega) (by omega),P8 X8 (by omega) (by omega)]
  rw[show ((a.length:Int)-b.length).toNat=a.length-b.length from by omega]
  (try simp only[↓Mr,Mr,Mb,reduceIte])
  simpa [Nq,c] using h)
theorem Q1v (a:List UInt8):Zp a [91,93]=D7 a:=rfl
theorem Q0D (a:List UInt8):Nq a [91,93]=if D7 a then Kd.cutA a else a:=rfl
theorem T4 {a:List UInt8} (h:D7 a=true):(Kd.cutA a).length+2=a.length:=by
 simp only[D7,Bool.and_eq_true,decide_eq_true_eq] at h
 simp only[Kd.cutA,List.length_take];omega
theorem Q1H: ∀(n m:Nat) (a:List UInt8),a.length≤n→a.length≤m→Xe n a=Xe m a
 | 0,0,a,_,_=>rfl
 | 0,m+1,a,h,_=>by
  have:a=[]:=List.eq_nil_of_length_eq_zero (by omega)
  subst this;rfl
 | n+1,0,a,_,h=>by
  have:a=[]:=List.eq_nil_of_length_eq_zero (by omega)
  subst this;rfl
 | n+1,m+1,a,b,c=>by
  simp only[Xe]
  split
  ·rename_i h
   have:=T4 h
   rw[Q1H n m (Kd.cutA a) (by omega) (by omega)]
  ·rfl
theorem Zx (a:List UInt8):base a=if D7 a then ((base (Kd.cutA a)).1,(base (Kd.cutA a)).2+1) else (a,0):=by
 unfold base
 cases b:a.length with
 | zero=>
  have:a=[]:=List.eq_nil_of_length_eq_zero b
  subst this;rfl
 | succ n=>
  simp only[Xe]
  split
  ·rename_i h
   have:=T4 h
   rw[Q1H n (Kd.cutA a).length (Kd.cutA a) (by omega) (Nat.le_refl _)]
  ·rfl
theorem Q0e (a:List UInt8):(base a).1.length+2*(base a).2=a.length:=by
 have key: ∀n (a:List UInt8),(Xe n a).1.length+2*(Xe n a).2=a.length:=by
  intro n
  induction n with
  | zero=>intro a;simp[Xe]
  | succ n b=>
   intro a
   simp only[Xe]
   split
   ·rename_i h
    have:=T4 h
    have:=b (Kd.cutA a)
    simp only;omega
   ·simp
 exact key _ a
theorem Q7B (a:List UInt8) (f:a.length≤140737488355328) (h:K (.tuple #[S (base a).1,I (base a).2]) w):Q1 P F.c5 [S a] w K:=Q5M (by
 unfold Q0M
 refine Jb (fun x w'=>w'=w∧ ∃(b:List UInt8) (n:Nat),x=(S b,I n)∧b.length+2*n=a.length∧base a=((base b).1,(base b).2+n)) (fun x _=>match x.1 with | .string s=>s.size | _=>0)
  ⟨rfl,a,0,rfl,by omega,rfl⟩ ?_
 rintro _ _ _ ⟨rfl,b,n,rfl,e,c⟩
 refine Q5E b _ (by omega) (by simp) ?_
 rw[Q1v]
 cases d:D7 b
 ·(try simp only[↓Mr,Mr,Mb,reduceIte])
  rw[Zx b,d] at c
  simp only[Bool.false_eq_true,if_false,Nat.zero_add] at c
  rw[c] at h;exact h
 ·(try simp only[↓Mr,Mr,Mb,reduceIte])
  refine Q4b b _ (by omega) (by simp) ?_
  rw[Q0D,d]
  simp only[↓Mr,Mr,Mb,reduceIte,if_true]
  have g:=T4 d
  rw[C4 (by omega) (by omega)]
  refine ⟨⟨by first | rfl | trivial,Kd.cutA b,n+1,by simp,by omega,?_⟩,?_⟩
  ·rw[c,Zx b,d];simp;omega
  ·simp only[B7];omega)
theorem Jc (a:List UInt8) (g:a.length≤140737488355328) (h: ∀w',Below w.heap.size w w'→K (.bool (right a)) w'):Q1 P F.a1 [S a] w K:=Q5c (by
 unfold Al
 have e:=Q0e a
 refine Q7B a g ?_
 (try simp only[↓Mr,Mr,Mb,reduceIte])
 by_cases b:(base a).2≤3
 ·have c:decide (((base a).2:Int)≤3)=true:=by simp only[decide_eq_true_eq];omega
  simp only[↓Mr,Mr,Mb,reduceIte,c]
  refine Vh _ ?_
  cases d:plain (base a).1
  ·(try simp only[↓Mr,Mr,Mb,reduceIte])
   refine Dv _ (by omega) fun w1 f=>?_
   (try simp only[↓Mr,Mr,Mb,reduceIte])
   have:=h w1 f
   simp only[right,b,d] at this
   simpa using this
  ·(try simp only[↓Mr,Mr,Mb,reduceIte])
   have:=h w (Below.refl _ _)
   simp only[right,b,d] at this
   simpa using this
 ·have c:decide (((base a).2:Int)≤3)=false:=by simp only[decide_eq_false_iff_not];omega
  simp only[↓Mr,Mr,Mb,reduceIte,c]
  have:=h w (Below.refl _ _)
  simp only[right,b] at this
  simpa using this)
theorem X1G (a:List UInt8) (c:a.length≤140737488355328) (h: ∀w',Below w.heap.size w w'→K (S (elem a)) w'):Q1 P F.cE [S a] w K:=Q5l (by
 unfold Q0B
 refine Q5P a _ c (by simp) ?_
 rw[Q1v,Q0D]
 (try simp only[↓Mr,Mr,Mb,reduceIte])
 cases b:D7 a
 ·(try simp only[↓Mr,Mr,Mb,reduceIte])
  have:=h w (Below.refl _ _)
  simp only[elem,b] at this
  exact this
 ·(try simp only[↓Mr,Mr,Mb,reduceIte])
  refine Jc a c fun w1 e=>?_
  have:=h w1 e
  cases d:right a
  ·(try simp only[↓Mr,Mr,Mb,reduceIte])
   simp only[elem,b,d] at this
   exact this
  ·simp only[↓Mr,Mr,Mb,reduceIte,if_true]
   simp only[elem,b,d] at this
   exact this)
theorem X1S (a:List UInt8) (b:a.length≤140737488355328) (h: ∀w',Below w.heap.size w w'→K (I (Q13 a)) w'):Q1 P F.cH [S a] w K:=Q5H (by
 unfold Q0P
 refine Q7B a b ?_
 (try simp only[↓Mr,Mr,Mb,reduceIte])
 refine Jc a b fun w1 c=>?_
 have:=h w1 c
 cases d:right a<;>(try simp only[↓Mr,Mr,Mb,reduceIte])<;>simpa [Q13,d] using this)
end Go.Proofs.YtfppjenblllfaaaGreatDoor

namespace Go.Proofs.YtfppjenblllfaaaGreatDoor
open Go.Emb Go.RowKit Go.Kd
variable {w : World} {K : Value → World → Prop}
theorem Q0r (a:List UInt8) (c:UInt8) (h:K (I (Q03 c a)) w):Q1 P F.bE [S a, .int .u8 c.toNat] w K:=by
 refine Q5f (e:=Extern.BytealgIndexByte.indexByte) Tryz.func235 (by decide) rfl (by kernel_rfl) (by kernel_rfl) ?_ h
 have g:((List.range (ByteArray.mk a.toArray).size).find? fun i=>(ByteArray.mk a.toArray)[i]! ==c)=a.findIdx? (fun b=>decide (b=c)):=by
  rw[B7]
  refine Q1w _ _ a fun i f=>?_
  have:(ByteArray.mk a.toArray)[i]! =a[i]:=by
   rw[getElem!_pos _ _ (by rw[B7];exact f)];rfl
  rw[this,Bool.eq_iff_iff];simp
 have d:((c.toNat:Int).toNat.toUInt8)=c:=by simp
 have:=run_indexByte_string (P:=P) ⟨a.toArray⟩ c.toNat w
 rw[d] at this
 refine this.trans ?_
 unfold firstIdx Q03
 rw[g]
 cases a.findIdx? (fun b=>decide (b=c))<;>rfl
theorem Q9q (a:List UInt8) (c:UInt8) (h:K (I (Q03 c a)) w):Q1 P F.br [S a,S [c]] w K:=Kh (by
 unfold Mw
 simp only[D6 X8]
 have i:decide ((([c]:List UInt8).length:Int)=0)=false:=rfl
 have g:decide ((([c]:List UInt8).length:Int)=1)=true:=rfl
 simp only[Q0i,i,g]
 simp only[↓Mr,Mr,Mb,reduceIte]
 have e:E1 P T.b (S [c]) (I 0) w fun b w=>Q1 P F.aq [S a,b] w fun d w=>K d w:=by
  rw[Qv X8 (by omega) (by simp)]
  refine Hy ?_
  unfold Jo
  exact Q0r a c h
 cases j:decide ([c]=a)
 ·(try simp only[↓Mr,Mr,Mb,reduceIte])
  exact e
 ·(try simp only[↓Mr,Mr,Mb,reduceIte])
  have f:[c]=a:=by simpa using j
  have:Q03 c a=0:=by rw[←f];simp[Q03,List.findIdx?_cons]
  rw[this] at h;exact h)
theorem Q9E {c:UInt8} {a:List UInt8} {i:Nat} (h:a.findIdx? (fun b=>decide (b=c))=some i):i<a.length:=by
 have:=List.findIdx?_eq_some_iff_getElem.1 h
 exact this.1
theorem X27 (a:List UInt8) (g:a.length≤140737488355328) (h: ∀w',Below w.heap.size w w'→K (.tuple #[S (A0 a).1,S (A0 a).2.1, .bool (A0 a).2.2]) w'):Q1 P F.ce [S a,S [46]] w K:=Q3u (by
 unfold Ip
 refine Q0q ?_
 unfold Dc
 refine Q9q a 46 ?_
 rw[Bv] at h
 unfold Q03
 cases c:a.findIdx? (fun b=>decide (b=46)) with
 | none=>
  simp only[↓Mr,Mr,Mb,reduceIte,show decide ((0:Int)≤ -1)=false from rfl]
  have:=h w (Below.refl _ _)
  rw[c] at this;exact this
 | some i=>
  have f:=Q9E c
  have d:decide ((0:Int)≤(i:Int))=true:=by simp
  simp only[Q08,d]
  simp only[↓Mr,Mr,Mb,reduceIte]
  refine Nt (Below.refl _ w) ?_
  refine X2 (S (a.take i)) (fun w1 _=>?_) ?_
  ·rw[P8 X8 (by omega) (by omega)];exact X6 (by simp)
  refine X2 (I 1) (fun w1 _=>?_) ?_
  ·rw[D6 X8];exact X6 rfl
  refine X2 (I (i+1)) ?_ ?_
  ·rintro _ w1 _ rfl
   rw[Be,C4 (by omega) (by omega)];exact X6 rfl
  refine X2 (S (a.drop (i+1))) ?_ ?_
  ·rintro _ w1 _ rfl
   rw[Ln X8 (by omega) (by omega)];exact X6 (by simp)
  rintro _ _ _ _ w1 e rfl rfl rfl rfl
  (try simp only[↓Mr,Mr,Mb,reduceIte])
  have:=h w1 e
  rw[c] at this;exact this)
theorem X0z (a:List UInt8) (u:a.length≤140737488355328) (h: ∀w',Below w.heap.size w w'→K (if Yb a then .tuple #[S (A0 a).1,S (A0 a).2.1,I 0] else .tuple #[S [],S [],I 30]) w'):Q1 P F.cw [S a] w K:=Q4H (by
 unfold Py
 refine X27 a u fun w1 e=>?_
 have o:(A0 a).1.length≤a.length∧(A0 a).2.1.length≤a.length:=by
  rw[Bv]
  cases a.findIdx? (fun b=>decide (b=46))<;>simp[Q1Q]
  omega
 generalize t:(A0 a).1=p at h o
 generalize y:(A0 a).2.1=q at h o
 have n:Yb a=((A0 a).2.2&&W3 p&&L7 q):=by rw[Yb,t,y]
 cases i:(A0 a).2.2
 ·simp only[↓Mr,Mr,Mb,reduceIte]
  have:=h w1 e
  rw[n,i] at this;simpa using this
 ·simp only[↓Mr,Mr,Mb,reduceIte]
  refine Dv p (by omega) fun z j=>?_
  have d:=e.trans (j.mono e.size)
  cases s:W3 p
  ·(try simp only[↓Mr,Mr,Mb,reduceIte])
   have:=h z d
   rw[n,i,s] at this;simpa using this
  ·(try simp only[↓Mr,Mr,Mb,reduceIte])
   refine Q4v q (by omega) fun A l=>?_
   have f:=d.trans (l.mono d.size)
   have:=h A f
   rw[n,i,s] at this
   cases g:name q
   ·(try simp only[↓Mr,Mr,Mb,reduceIte])
    have m:L7 q=false:=by cases q with | nil=>rfl | cons c r=>simp[L7,g]
    rw[m] at this;simpa using this
   ·(try simp only[↓Mr,Mr,Mb,reduceIte])
    cases q with
    | nil=>simp[name] at g
    | cons c r=>
     rw[Qv X8 (by omega) (by simp)]
     have k:(c::r)[(0:Int).toNat]'(by simp)=c:=rfl
     (try simp only[↓Mr,Mr,Mb,reduceIte])
     rw[k,Q11 Q25 Q6e,w32 (by omega) (by have:=c.toNat_lt;omega)]
     refine Q6h _ ?_
     have m:L7 (c::r)=K0 c.toNat:=by simp[L7,g]
     rw[m] at this
     cases v:K0 c.toNat<;>(try simp only[↓Mr,Mr,Mb,reduceIte])<;>rw[v] at this<;>simpa using this)
theorem Pn (a:List UInt8) (h:K (.bool (plain a)) w):Q1 P F.ac [S a] w K:=Bs (by
 unfold Ll
 refine V9 ?_
 (try simp only[↓Mr,Mr,Mb,reduceIte])
 cases b:decide (a=[105,110,116])
 ·cases c:decide (a=[98,111,111,108])
  ·cases d:decide (a=[116,101,120,116])<;>(try simp only[↓Mr,Mr,Mb,reduceIte])<;>intro _<;>(try simp only[↓Mr,Mr,Mb,reduceIte])<;>simpa [plain,b,c,d] using h
  ·(try simp only[↓Mr,Mr,Mb,reduceIte])
   intro _
   (try simp only[↓Mr,Mr,Mb,reduceIte])
   simpa [plain,b,c] using h
 ·(try simp only[↓Mr,Mr,Mb,reduceIte])
  intro _
  (try simp only[↓Mr,Mr,Mb,reduceIte])
  simpa [plain,b] using h)
def Q9Q (a:List UInt8) (w:World) (x:Value) (w':World):Prop:=
 w=w'∧ ∃i:Nat,x=I i∧i≤a.length∧(0<i→(a.head?.map fun c=>R7 c.toNat)=some false)∧(a.take i).all (fun b=>E3 b.toNat)=true
def Q3G (a:List UInt8) (x:Value):Nat:=match x with | .int _ i=>a.length-i.toNat | _=>0
theorem Q50 (a:List UInt8) (O:a.length≤140737488355328) (h:K (.bool (name a)) w):Q1 P F.aK [S a] w K:=Kl (by
 unfold Mn
 refine Jb (Q9Q a w) (fun x _=>Q3G a x) ⟨rfl,0,rfl,by omega,by omega,by simp⟩ ?_
 rintro _ _ _ ⟨rfl,i,rfl,Q,L,j⟩
 rw[D6 X8]
 (try simp only[↓Mr,Mr,Mb,reduceIte])
 by_cases m:i<a.length
 ·have D:decide ((i:Int)<a.length)=true:=by simp only[decide_eq_true_eq];omega
  simp only[D,↓Mr,Mr,Mb,reduceIte]
  have d: ∀C:Value→World→Prop,E1 P T.b (S a) (I i) w C=C (.int .u8 (a[i]'m).toNat) w:=fun C=>by
   rw[Qv X8 (by omega) (by simpa using m)];simp
  generalize q:a[i]=c at d
  have e:E3 c.toNat=false∨(i=0∧R7 c.toNat=true)→name a=false:=by
   intro t
   cases a with
   | nil=>rfl
   | cons M r=>
    simp only[name]
    rcases t with t | ⟨rfl,t⟩
    ·have:(M::r).all (fun b=>E3 b.toNat)=false:=by
      rw[List.all_eq_false]
      exact ⟨c,by rw[←q];exact List.getElem_mem _,by simp[t]⟩
     rw[this];simp
    ·simp only[List.getElem_cons_zero] at q
     rw[q,t];simp
  have f:E3 c.toNat=true→(i=0→R7 c.toNat=false)→Q9Q a w (I (IntKind.i64.wrap ((i:Int)+1))) w∧Q3G a (I (IntKind.i64.wrap ((i:Int)+1)))<Q3G a (I i):=by
   intro H J
   rw[C4 (by omega) (by omega)]
   refine ⟨⟨rfl,i+1,by simp,by omega,fun _=>?_,?_⟩,by simp only[Q3G];omega⟩
   ·by_cases p:0<i
    ·exact L p
    ·obtain rfl:i=0:=by omega
     cases a with
     | nil=>simp at m
     | cons M r=>simp only[List.getElem_cons_zero] at q;subst q;simp[J rfl]
   ·rw[List.take_add_one,List.getElem?_eq_getElem m,q]
    simp[j,H]
  have z:=c.toNat_lt
  have y:decide ((i:Int)=0)=decide (i=0):=by rw[Bool.eq_iff_iff];simp
  by_cases o:97≤(c.toNat:Int)
  ·by_cases A:(c.toNat:Int)≤122
   ·simp only[d,decide_eq_true o,decide_eq_true A,↓Mr,Mr,Mb,reduceIte]
    exact f (by simp[E3,K0,o,A]) (fun _=>by simp[R7];omega)
   ·have n:(65:Int)≤c.toNat:=by omega
    have s: ¬(c.toNat:Int)≤90:=by omega
    have g: ¬(c.toNat:Int)<48:=by omega
    have k:(57:Int)<c.toNat:=by omega
    simp only[d,decide_eq_true o,decide_eq_false A,decide_eq_true n,decide_eq_false s,decide_eq_false g,decide_eq_true k,y,↓Mr,Mr,Mb,reduceIte]
    have l:=e (.inl (by simp[E3,Qe,K0,R7];omega))
    rw[l] at h
    cases decide (i=0)<;>(try simp only[d,decide_eq_false g,decide_eq_true k,↓Mr,Mr,Mb,reduceIte])<;>exact h
  ·by_cases n:(65:Int)≤c.toNat
   ·by_cases s:(c.toNat:Int)≤90
    ·simp only[d,decide_eq_false o,decide_eq_true n,decide_eq_true s,↓Mr,Mr,Mb,reduceIte]
     exact f (by simp[E3,Qe,n,s]) (fun _=>by simp[R7];omega)
    ·have g: ¬(c.toNat:Int)<48:=by omega
     have k:(57:Int)<c.toNat:=by omega
     simp only[d,decide_eq_false o,decide_eq_true n,decide_eq_false s,decide_eq_false g,decide_eq_true k,y,↓Mr,Mr,Mb,reduceIte]
     have l:=e (.inl (by simp[E3,Qe,K0,R7];omega))
     rw[l] at h
     cases decide (i=0)<;>(try simp only[d,decide_eq_false g,decide_eq_true k,↓Mr,Mr,Mb,reduceIte])<;>exact h
   ·by_cases g:(c.toNat:Int)<48
    ·simp only[d,decide_eq_false o,decide_eq_false n,decide_eq_true g,y,↓Mr,Mr,Mb,reduceIte]
     have l:=e (.inl (by simp[E3,Qe,K0,R7];omega))
     rw[l] at h
     cases decide (i=0)<;>(try simp only[d,decide_eq_true g,↓Mr,Mr,Mb,reduceIte])<;>exact h
    ·by_cases k:(57:Int)<c.toNat
     ·simp only[d,decide_eq_false o,decide_eq_false n,decide_eq_false g,decide_eq_true k,y,↓Mr,Mr,Mb,reduceIte]
      have l:=e (.inl (by simp[E3,Qe,K0,R7];omega))
      rw[l] at h
      cases decide (i=0)<;>(try simp only[d,decide_eq_false g,decide_eq_true k,↓Mr,Mr,Mb,reduceIte])<;>exact h
     ·have v:R7 c.toNat=true:=by simp[R7];omega
      simp only[d,decide_eq_false o,decide_eq_false n,decide_eq_false g,decide_eq_false k,y,↓Mr,Mr,Mb,reduceIte]
      by_cases p:i=0
      ·have l:=e (.inr ⟨p,v⟩)
       rw[l] at h
       simp only[decide_eq_true p,d,decide_eq_false g,decide_eq_false k,↓Mr,Mr,Mb,reduceIte]
       exact h
      ·simp only[decide_eq_false p,d,decide_eq_false g,decide_eq_false k,↓Mr,Mr,Mb,reduceIte]
       exact f (by simp[E3,v]) (fun h=>absurd h p)
 ·have D:decide ((i:Int)<a.length)=false:=by simp only[decide_eq_false_iff_not];omega
  obtain rfl:i=a.length:=by omega
  simp only[D,↓Mr,Mr,Mb,reduceIte]
  rw[D6 X8]
  cases a with
  | nil=>
   have E:decide ((1:Int)≤(([]:List UInt8).length:Int))=false:=rfl
   simp only[E,↓Mr,Mr,Mb,reduceIte];exact h
  | cons c r=>
   have E:decide ((1:Int)≤((c::r).length:Int))=true:=by simp only[decide_eq_true_eq,List.length_cons];omega
   have u:=L (by simp)
   simp only[List.head?_cons,Option.map_some,Option.some.injEq] at u
   simp only[List.take_length] at j
   have B:name (c::r)=decide ((c::r).length≤32):=by simp only[name,u,j];simp
   have N:decide (((c::r).length:Int)≤32)=decide ((c::r).length≤32):=by rw[Bool.eq_iff_iff];simp only[decide_eq_true_eq];omega
   simp only[E,D6 X8,N,↓Mr,Mr,Mb,reduceIte]
   rw[←B];exact h)
theorem Fv {c:UInt8} {r:List UInt8} (h:name (c::r)=true):E3 c.toNat=true∧R7 c.toNat=false:=by
 simp only[name,Bool.and_eq_true,List.all_cons,Bool.not_eq_true'] at h
 exact ⟨h.2.1,h.1.2⟩
theorem Qw (a:List UInt8) (g:a.length≤140737488355328) (h:K (.bool (W3 a)) w):Q1 P F.e [S a] w K:=Bm (by
 unfold Wn
 refine Q50 a g ?_
 cases a with
 | nil=>simp only[name,↓Mr,Mr,Mb,reduceIte];exact h
 | cons c r=>
  cases d:name (c::r)
  ·(try simp only[↓Mr,Mr,Mb,reduceIte])
   simpa [W3,d] using h
  ·(try simp only[↓Mr,Mr,Mb,reduceIte])
   rw[Qv X8 (by omega) (by simp)]
   have b:(c::r)[(0:Int).toNat]'(by simp)=c:=rfl
   (try simp only[↓Mr,Mr,Mb,reduceIte])
   rw[b]
   obtain ⟨e,f⟩:=Fv d
   have:decide ((c.toNat:Int)≤90)=Qe c.toNat:=by
    simp only[E3,Qe,K0,R7,Bool.or_eq_true,Bool.and_eq_true,Bool.and_eq_false_iff,decide_eq_true_eq,decide_eq_false_iff_not] at e f⊢
    rw[Bool.eq_iff_iff];simp only[Bool.and_eq_true,decide_eq_true_eq];omega
   rw[this]
   simpa [W3,d] using h)
theorem Ft (a:List UInt8) (g:a.length≤140737488355328) (h:K (.bool (L7 a)) w):Q1 P F.r [S a] w K:=Cv (by
 unfold Vs
 refine Q50 a g ?_
 cases a with
 | nil=>simp only[name,↓Mr,Mr,Mb,reduceIte];exact h
 | cons c r=>
  cases d:name (c::r)
  ·(try simp only[↓Mr,Mr,Mb,reduceIte])
   simpa [L7,d] using h
  ·(try simp only[↓Mr,Mr,Mb,reduceIte])
   rw[Qv X8 (by omega) (by simp)]
   have b:(c::r)[(0:Int).toNat]'(by simp)=c:=rfl
   (try simp only[↓Mr,Mr,Mb,reduceIte])
   rw[b]
   obtain ⟨e,f⟩:=Fv d
   have:decide ((97:Int)≤c.toNat)=K0 c.toNat:=by
    simp only[E3,Qe,K0,R7,Bool.or_eq_true,Bool.and_eq_true,Bool.and_eq_false_iff,decide_eq_true_eq,decide_eq_false_iff_not] at e f⊢
    rw[Bool.eq_iff_iff];simp only[Bool.and_eq_true,decide_eq_true_eq];omega
   rw[this]
   simpa [L7,d] using h)
def X2u (a:List UInt8) (w:World) (x:Value×Value) (w':World):Prop:=
 w=w'∧ ∃(b:List UInt8) (n:Nat),x=(S b,I n)∧b.length+2*n=a.length∧(base a).2=(base b).2+n
def X02 (x:Value×Value):Nat:=match x.1 with | .string s=>s.size | _=>0
theorem Q1i (a:List UInt8) (k:a.length≤140737488355328) (h:K (I (base a).2) w):Q1 P F.ak [S a] w K:=Kg (by
 unfold Mf
 refine Jb (X2u a w) (fun x _=>X02 x) ⟨rfl,a,0,rfl,by omega,rfl⟩ ?_
 rintro _ _ _ ⟨rfl,b,n,rfl,j,c⟩
 rw[D6 X8]
 (try simp only[↓Mr,Mr,Mb,reduceIte])
 by_cases f:2≤b.length
 ·have e:decide ((2:Int)≤b.length)=true:=by simp only[decide_eq_true_eq];omega
  simp only[e,D6 X8,↓Mr,Mr,Mb,reduceIte]
  rw[C4 (by omega) (by omega),Ln X8 (by omega) (by omega)]
  rw[show ((b.length:Int)-2).toNat=b.length-2 from by omega]
  have i:decide (b.drop (b.length-2)=[91,93])=D7 b:=by simp[D7,f]
  simp only[i,↓Mr,Mr,Mb,reduceIte]
  cases d:D7 b
  ·(try simp only[↓Mr,Mr,Mb,reduceIte])
   rw[Zx b,d] at c
   simp only[Bool.false_eq_true,if_false,Nat.zero_add] at c
   rw[c] at h;exact h
  ·(try simp only[D6 X8,↓Mr,Mr,Mb,reduceIte])
   rw[P8 X8 (by omega) (by omega)]
   rw[show ((b.length:Int)-2).toNat=b.length-2 from by omega]
   have g:=T4 d
   refine ⟨⟨rfl,Kd.cutA b,n+1,?_,by omega,?_⟩,?_⟩
   ·simp only[Kd.cutA,Prod.mk.injEq,true_and]
    first | rfl | (rw[C4 (by omega) (by omega)];rfl)
   ·rw[c,Zx b,d];simp;omega
   ·simp only[X02,B7,List.length_take];omega
 ·have e:decide ((2:Int)≤b.length)=false:=by simp only[decide_eq_false_iff_not];omega
  simp only[e,↓Mr,Mr,Mb,reduceIte]
  have d:D7 b=false:=by simp[D7,f]
  rw[Zx b,d] at c
  simp only[Bool.false_eq_true,if_false,Nat.zero_add] at c
  rw[c] at h;exact h)
theorem Q2J (a:List UInt8):a.take (a.length-2*(base a).2)=(base a).1:=by
 have key: ∀n (a:List UInt8),a.take (a.length-2*(Xe n a).2)=(Xe n a).1:=by
  intro n
  induction n with
  | zero=>intro a;simp[Xe]
  | succ n b=>
   intro a
   simp only[Xe]
   split
   ·rename_i h
    have c:=T4 h
    simp only
    rw[←b (Kd.cutA a)]
    rw[Kd.cutA,List.take_take,List.length_take]
    congr 1
    omega
   ·simp
 exact key _ a
theorem Va (a:List UInt8) (f:a.length≤140737488355328) (h:K (.bool (right a)) w):Q1 P F.i [S a] w K:=Gx (by
 unfold Wb
 have e:=Q0e a
 refine Q1i a f ?_
 rw[D6 X8]
 (try simp only[↓Mr,Mr,Mb,reduceIte])
 rw[C4 (n:=2*((base a).2:Int)) (by omega) (by omega),C4 (by omega) (by omega),P8 X8 (by omega) (by omega)]
 rw[show ((a.length:Int)-2*((base a).2:Int)).toNat=a.length-2*(base a).2 from by omega,Q2J]
 (try simp only[↓Mr,Mr,Mb,reduceIte])
 by_cases b:(base a).2≤3
 ·have c:decide (((base a).2:Int)≤3)=true:=by simp only[decide_eq_true_eq];omega
  simp only[c,↓Mr,Mr,Mb,reduceIte]
  refine Pn _ ?_
  cases d:plain (base a).1
  ·(try simp only[↓Mr,Mr,Mb,reduceIte])
   refine Qw _ (by omega) ?_
   (try simp only[↓Mr,Mr,Mb,reduceIte])
   simpa [right,b,d] using h
  ·(try simp only[↓Mr,Mr,Mb,reduceIte])
   simpa [right,b,d] using h
 ·have c:decide (((base a).2:Int)≤3)=false:=by simp only[decide_eq_false_iff_not];omega
  simp only[c,↓Mr,Mr,Mb,reduceIte]
  simpa [right,b] using h)
def X20 (a:List UInt8) (w:World) (x:Value) (w':World):Prop:=
 w=w'∧ ∃n:Nat,x=I n∧n≤a.length∧(∀i,(h:i<n)→(b:i<a.length)→a[i]≠46)
def Q8o (a:List UInt8) (x:Value):Nat:=match x with | .int _ n=>(a.length-n).toNat | _=>0
theorem Q2O (a:List UInt8) (M:a.length≤140737488355328) (h: ∀w',Below w.heap.size w w'→K (if (A0 a).2.2 then .tuple #[S (A0 a).1,S (A0 a).2.1, .bool (Yb a)] else .tuple #[S [],S [], .bool false]) w'):Q1 P F.bh [S a] w K:=Gg (by
 unfold Wi
 refine Jb (X20 a w) (fun x _=>Q8o a x) ⟨rfl,0,rfl,by omega,by omega⟩ ?_
 rintro _ _ _ ⟨rfl,n,rfl,L,p⟩
 rw[D6 X8]
 (try simp only[↓Mr,Mr,Mb,reduceIte])
 by_cases E:n<a.length
 ·have y:decide ((n:Int)<a.length)=true:=by simp only[decide_eq_true_eq];omega
  simp only[y,↓Mr,Mr,Mb,reduceIte]
  rw[Qv X8 (by omega) (by omega)]
  (try simp only[↓Mr,Mr,Mb,reduceIte])
  simp only[Int.toNat_natCast]
  have C:decide (((a[n]).toNat:Int)=46)=decide (a[n]=46):=by
   rw[Bool.eq_iff_iff];simp only[decide_eq_true_eq]
   constructor
   ·intro e;exact UInt8.toNat_inj.1 (by have:(46:UInt8).toNat=46:=rfl;omega)
   ·intro e;rw[e];rfl
  rw[C]
  by_cases m:a[n]=46
  ·simp only[m,decide_true,↓Mr,Mr,Mb,reduceIte]
   have l:A0 a=(a.take n,a.drop (n+1),true):=by
    have:a.findIdx? (fun b=>decide (b=46))=some n:=by
     rw[List.findIdx?_eq_some_iff_getElem]
     exact ⟨E,by simpa using m,fun j D=>by simpa using p j D (by omega)⟩
    rw[Bv,this];rfl
   have o:Yb a=(W3 (a.take n)&&L7 (a.drop (n+1))):=by simp[Yb,l]
   rw[l,o] at h
   have r:((n:Int)+1).toNat=n+1:=by omega
   have v:(a.take n).length≤140737488355328:=by simp only[List.length_take];omega
   have s:(a.drop (n+1)).length≤140737488355328:=by simp only[List.length_drop];omega
   have z: ∀{w:World} {K:Value→World→Prop},K (S (a.take n)) w→E9 P T.b (S a) none (some (I n)) none w K:=by
    intro w K h
    rw[P8 X8 (by omega) (by omega),show ((n:Int)).toNat=n from by omega];exact h
   have A: ∀{w:World} {K:Value→World→Prop},K (S (a.drop (n+1))) w→E9 P T.b (S a) (some (I (n+1))) none none w K:=by
    intro w K h
    rw[Ln X8 (by omega) (by omega),r];exact h
   refine Nt (Below.refl _ _) ?_
   refine X2 (S (a.take n)) (fun w c=>z (X6 rfl)) ?_
   refine X2 (I (n+1)) (fun w c=>X6 (by rw[C4 (by omega) (by omega)])) ?_
   refine X2 (S (a.drop (n+1))) (fun t w c e=>by rw[e];exact A (X6 rfl)) ?_
   refine X2 (S (a.take n)) (fun w c=>z (X6 rfl)) ?_
   refine X2 (.bool (W3 (a.take n))) (fun t w c e=>by rw[e];exact Qw _ v (X6 rfl)) ?_
   cases g:W3 (a.take n)
   ·refine X2 undef (fun t w c e=>by rw[e,Ub];exact X6 rfl) ?_
    refine X2 undef (fun t w c e=>by rw[e,Ub];exact X6 rfl) ?_
    refine X2 undef (fun t f w c e d=>by rw[e,Ub];exact X6 rfl) ?_
    refine X2 undef (fun t f q w c e d k=>by rw[e,Ub];exact X6 rfl) ?_
    refine X2 undef (fun t f w c e d=>by rw[e,Ub];exact X6 rfl) ?_
    refine X2 (.bool false) (fun t f w c e d=>by rw[e,Dg];exact X6 rfl) ?_
    rintro _ _ _ _ _ _ _ _ _ _ _ w1 c rfl rfl rfl rfl rfl rfl rfl rfl rfl rfl rfl
    rw[g] at h
    exact h w1 (by simpa using c)
   ·refine X2 (S a) (fun t w c e=>by rw[e,I8];exact X6 rfl) ?_
    refine X2 (I n) (fun t w c e=>by rw[e,I8];exact X6 rfl) ?_
    refine X2 (I (n+1)) (fun t f w c e d=>by rw[e,d,I8];simp only[↓Mr,Mr,Mb,reduceIte];exact X6 (by rw[C4 (by omega) (by omega)])) ?_
    refine X2 (S (a.drop (n+1))) (fun t f q w c e d k=>by rw[e,d,k,I8];exact A (X6 rfl)) ?_
    refine X2 (.bool (L7 (a.drop (n+1)))) (fun t f w c e d=>by rw[e,d,I8];exact Ft _ s (X6 rfl)) ?_
    refine X2 (.bool (L7 (a.drop (n+1)))) (fun t f w c e d=>by rw[e,d,Rt];exact X6 rfl) ?_
    rintro _ _ _ _ _ _ _ _ _ _ _ w1 c rfl rfl rfl rfl rfl rfl rfl rfl rfl rfl rfl
    rw[g] at h
    exact h w1 (by simpa using c)
  ·simp only[m,decide_false,↓Mr,Mr,Mb,reduceIte]
   rw[C4 (by omega) (by omega)]
   refine ⟨⟨rfl,n+1,rfl,by omega,fun i B H=>?_⟩,?_⟩
   ·by_cases u:i=n
    ·subst u;exact m
    ·exact p i (by omega) H
   ·simp only[Q8o];omega
 ·have y:decide ((n:Int)<a.length)=false:=by simp only[decide_eq_false_iff_not];omega
  simp only[y,↓Mr,Mr,Mb,reduceIte]
  have l:(A0 a).2.2=false∧(A0 a).1=a∧(A0 a).2.1=[]:=by
   have:a.findIdx? (fun b=>decide (b=46))=none:=by
    rw[List.findIdx?_eq_none_iff]
    intro x J
    obtain ⟨i,B,rfl⟩:=List.getElem_of_mem J
    simpa using p i (by omega) B
   rw[Bv,this];exact ⟨rfl,rfl,rfl⟩
  rw[l.1] at h
  exact h w (Below.refl _ _))
end Go.Proofs.YtfppjenblllfaaaGreatDoor

namespace Go.Emb
open Go.RowKit
class TZ (P : Program) (t : TypeId) (sz b : outParam Nat) (z : outParam Value) : Prop where
  h : (P.info? t).map (fun i => (i.size, i.bytes, i.zero)) = some (sz, b, some z)
def Q8d:Option TypeDesc→Bool
 | some (.struct _)=>true
 | some (.array _ _)=>true
 | none=>true
 | _=>false
class TG (P : Program) (t : TypeId) (g : outParam Bool) : Prop where
  h : (Q8d (P.underlying t), (P.underlying t).isSome) = (g, true)
class TS (P : Program) (t : TypeId) (e : outParam TypeId) : Prop where
  h : P.underlying t = some (.slice e)
class TA (P : Program) (t : TypeId) (n : outParam Nat) (e : outParam TypeId) : Prop where
  h : P.underlying t = some (.array n e)
class TM (P : Program) (t : TypeId) (k e : outParam TypeId) : Prop where
  h : P.underlying t = some (.map k e)
def Q2h (d:Option TypeDesc) (k:Nat):Option (Nat×TypeId):=match d with
 | some (.struct a)=>(a[k]?).map fun f=>(f.offset,f.type)
 | _=>none
class TF (P : Program) (t : TypeId) (k : Nat) (off : outParam Nat) (ft : outParam TypeId) : Prop where
  h : Q2h (P.underlying t) k = some (off, ft)
variable {P : Program} {w w0 w1 w' w'' : World} {K : Value → World → Prop}
theorem TZ.info {t:TypeId} {sz b:Nat} {z:Value} (h:TZ P t sz b z): ∃i,P.info? t=some i∧i.size=sz∧i.bytes=b∧i.zero=some z:=by
 obtain ⟨i,a,e⟩:=Option.map_eq_some_iff.1 h.h
 simp only[Prod.mk.injEq] at e
 exact ⟨i,a,e.1,e.2.1,e.2.2⟩
theorem W5 {t:TypeId} {sz b:Nat} {z:Value} (h:TZ P t sz b z) (w:World):(sizeOf t).run P w= .ok sz w:=by
 obtain ⟨i,a,rfl,_⟩:=h.info
 simp[sizeOf,typeInfo,a]
theorem Yc {t:TypeId} {sz b:Nat} {z:Value} (h:TZ P t sz b z) (w:World):(zeroValue t).run P w= .ok z w:=by
 obtain ⟨i,c,_,_,a⟩:=h.info
 simp[zeroValue,typeInfo,c,a]
theorem Yx {t:TypeId} {g:Bool} (h:TG P t g) (w:World):(isAgg t).run P w= .ok g w:=by
 have hh:=h.h
 simp only[Prod.mk.injEq] at hh
 obtain ⟨c,b⟩:=hh
 cases a:P.underlying t with
 | none=>rw[a] at b;cases b
 | some d=>
  rw[a] at c
  have:=run_underlying (P:=P) (w:=w) a
  simp only[isAgg,Sem.run_bind,this,Result.andThen_ok]
  cases d<;>simp_all [Q8d]
theorem Cl (a:Addr) (i j:Nat):(a.add i).add j=a.add (i+j):=by
 unfold Addr.add
 by_cases b:i=0
 ·simp[b]
 ·by_cases c:j=0
  ·simp[c]
  ·simp[b,c,Nat.add_assoc]
theorem add_zero (a:Addr):a.add 0=a:=by simp[Addr.add]
theorem C6 (a:Addr) (i:Nat):(a.add i).block=a.block:=by unfold Addr.add;split<;>rfl
theorem Ya (a:Addr) (i:Nat):(a.add i).off=a.off+i:=by unfold Addr.add;split<;>simp_all
theorem I4 {a:Addr} (h:a.spot=none) (i:Nat):(a.add i).spot=none:=by unfold Addr.add;split<;>simp_all
abbrev Q4:=Nat→Option Obj
def X4 (w:World) (σ:Q4):Prop:= ∀b o,σ b=some o→w.heap[b]? =some o
structure Stp (w : World) (σ : Q4) (w' : World) (σ' : Q4) : Prop where
  bel : Below w.heap.size w w'
  sat : X4 w' σ'
  le : ∀ b o, σ b = some o → σ' b = some o
  old : ∀ b, b < w.heap.size → σ' b = σ b
theorem X4.lt {σ:Q4} (h:X4 w σ) {b:Nat} {o:Obj} (a:σ b=some o):b<w.heap.size:=(Array.getElem?_eq_some_iff.1 (h b o a)).1
theorem X4.below {σ:Q4} (h:X4 w σ) (a:Below w.heap.size w w'):X4 w' σ:=fun b o e=>(a.block b (h.lt e)).trans (h b o e)
theorem Stp.refl {σ:Q4} (h:X4 w σ):Stp w σ w σ:=⟨Below.refl _ _,h,fun _ _ e=>e,fun _ _=>rfl⟩
theorem Stp.trans {σ0 σ1 c:Q4} (h:Stp w σ0 w' σ1) (k:Stp w' σ1 w'' c):Stp w σ0 w'' c:=
 ⟨h.bel.trans (k.bel.mono h.bel.size),k.sat,fun b o e=>k.le b o (h.le b o e),fun b a=>(k.old b (Nat.lt_of_lt_of_le a h.bel.size)).trans (h.old b a)⟩
theorem Stp.of_below {σ:Q4} (h:X4 w σ) (a:Below w.heap.size w w'):Stp w σ w' σ:=⟨a,h.below a,fun _ _ e=>e,fun _ _=>rfl⟩
def Q4.put (σ:Q4) (b:Nat) (o:Obj):Q4:=fun k=>if k=b then some o else σ k
theorem X4.none {σ:Q4} (h:X4 w σ) {b:Nat} (a:w.heap.size≤b):σ b=none:=by
 cases e:σ b with
 | none=>rfl
 | some o=>have:=h.lt e;omega
theorem Stp.alloc {σ:Q4} (h:X4 w σ) (o:Obj):Stp w σ (w.alloc o) (σ.put w.heap.size o):=by
 refine ⟨(Below.refl _ _).alloc (Nat.le_refl _) o,?_,?_,?_⟩
 ·intro b p e
  by_cases a:b=w.heap.size
  ·subst a
   simp only[Q4.put,if_true] at e
   cases e
   exact heap_alloc_new w o
  ·simp only[Q4.put,if_neg a] at e
   rw[Below.heap_alloc w o b (h.lt e)];exact h b p e
 ·intro b p e
  have:=h.lt e
  simp only[Q4.put];rw[if_neg (by omega)];exact e
 ·intro b a
  simp only[Q4.put];rw[if_neg (by omega)]
theorem Stp.own {σ:Q4} (h:X4 w σ) (o:Obj):Stp w σ (w.alloc o) σ:=Stp.of_below h ((Below.refl _ _).alloc (Nat.le_refl _) o)
def Z2 (σ:Q4) (a:Addr) (cs:List Value):Prop:=a.spot=none∧ ∃D7 e b,σ a.block=some (.cells D7 e b)∧ ∀i v,cs[i]? =some v→D7[a.off+i]? =some v
theorem Z2.up {σ σ':Q4} {a:Addr} {cs:List Value} (h:Z2 σ a cs) (g:Stp w σ w' σ'):Z2 σ' a cs:=by
 obtain ⟨b,D7,e,f,d,c⟩:=h
 exact ⟨b,D7,e,f,g.le _ _ d,c⟩
theorem Z2.cell {σ:Q4} {a:Addr} {cs:List Value} (h:Z2 σ a cs) (f:X4 w σ) {i:Nat} {v:Value} (g:cs[i]? =some v):w.cell? (a.add i)=some v:=by
 obtain ⟨b,D7,e,j,d,c⟩:=h
 have:=f _ _ d
 unfold World.cell?
 rw[C6,this,Ya,I4 b]
 exact c i v g
def Z5 (σ:Q4) (w:World) (b:Nat) (cs:List Value):Prop:=σ b=none∧ ∃e,w.heap[b]? =some (.cells cs.toArray e (0,0))
theorem Z5.lt {σ:Q4} {b:Nat} {cs:List Value} (h:Z5 σ w b cs):b<w.heap.size:=by
 obtain ⟨_,e,h⟩:=h
 exact (Array.getElem?_eq_some_iff.1 h).1
theorem Z5.up {σ σ':Q4} {b:Nat} {cs:List Value} (h:Z5 σ w b cs) (c:Stp w σ w' σ'):Z5 σ' w' b cs:=by
 have a:=h.lt
 obtain ⟨d,e,f⟩:=h
 exact ⟨(c.old b a).trans d,e,(c.bel.block b a).trans f⟩
theorem Z5.cell {σ:Q4} {b:Nat} {cs:List Value} (h:Z5 σ w b cs) {i:Nat} {v:Value} (c:cs[i]? =some v):w.cell? ((⟨b,0,none⟩:Addr).add i)=some v:=by
 obtain ⟨_,e,a⟩:=h
 unfold World.cell?
 rw[C6,Ya,I4 rfl]
 simp only[a]
 simpa using c
theorem Z5.keep {σ σ0:Q4} {b:Nat} {cs:List Value} (h:Z5 σ w b cs) (d:Stp w0 σ0 w σ) (m:w0.heap.size≤b): ∃σ',Stp w0 σ0 w σ'∧Z2 σ' ⟨b,0,none⟩ cs∧(∀k o,σ k=some o→σ' k=some o)∧(∀k,k≠b→σ' k=σ k):=by
 obtain ⟨g,e,j⟩:=h
 refine ⟨σ.put b (.cells cs.toArray e (0,0)),⟨d.bel,?_,?_,?_⟩,⟨rfl,cs.toArray,e,(0,0),by simp[Q4.put],?_⟩,?_,?_⟩
 ·intro k o c
  by_cases a:k=b
  ·subst a;simp only[Q4.put,if_true] at c;cases c;exact j
  ·simp only[Q4.put,if_neg a] at c;exact d.sat k o c
 ·intro k o c
  by_cases a:k=b
  ·subst a;have:=d.le _ _ c;rw[g] at this;cases this
  ·simp only[Q4.put,if_neg a];exact d.le _ _ c
 ·intro k f
  simp only[Q4.put];rw[if_neg (by omega)];exact d.old k f
 ·intro i v l;simpa using l
 ·intro k o c
  by_cases a:k=b
  ·subst a;rw[g] at c;cases c
  ·simp only[Q4.put,if_neg a];exact c
 ·intro k a;simp only[Q4.put,if_neg a]
theorem Q6l (t:TypeId) (v:Value) (w:World):(Instr.box t v).run P w= .ok (.pointer (some ⟨w.heap.size,0,none⟩)) (w.alloc (.cells v.cells t)):=by
 simp[Instr.box,newVar,newRow]
theorem Q1S {σ:Q4} (a:X4 w σ) (cs:Array Value) (t:TypeId):Z5 σ (w.alloc (.cells cs t)) w.heap.size cs.toList:=
 ⟨a.none (Nat.le_refl _),t,by simpa using heap_alloc_new w (.cells cs t)⟩
theorem Q7r {σ:Q4} (cs:Array Value) (t:TypeId):Z2 (σ.put w.heap.size (.cells cs t)) ⟨w.heap.size,0,none⟩ cs.toList:=
 ⟨rfl,cs,t,(0,0),by simp[Q4.put],fun i v h=>by simpa using h⟩
theorem M8 {σ:Q4} {t:TypeId} {v:Value} (b:X4 w σ) (h: ∀a w' σ',Stp w σ w' σ'→Z2 σ' a v.cells.toList→K (.pointer (some a)) w'):box P t v w K:=by
 unfold box;rw[X9 (Q6l t v w)]
 exact h _ _ _ (Stp.alloc b _) (Q7r _ t)
theorem Q9l {σ:Q4} {t:TypeId} {v:Value} (a:X4 w σ) (h: ∀b w',w.heap.size≤b→Stp w σ w' σ→Z5 σ w' b v.cells.toList→K (.pointer (some ⟨b,0,none⟩)) w'):box P t v w K:=by
 unfold box;rw[X9 (Q6l t v w)]
 exact h _ _ (Nat.le_refl _) (Stp.own a _) (Q1S a _ t)
theorem Ha {σ:Q4} {t:TypeId} {sz by_:Nat} {z:Value} [tz:TZ P t sz by_ z] (a:X4 w σ) (h: ∀b w',w.heap.size≤b→Stp w σ w' σ→Z5 σ w' b z.cells.toList→K (.pointer (some ⟨b,0,none⟩)) w'):W7 P t w K:=by
 unfold W7
 have:(Instr.alloc t true (.tuple #[])).run P w= .ok (.pointer (some ⟨w.heap.size,0,none⟩)) (w.alloc (.cells z.cells t)):=by
  simp[Instr.alloc,Yc tz,newVar,newRow]
 rw[X9 this]
 exact h _ _ (Nat.le_refl _) (Stp.own a _) (Q1S a _ t)
theorem Qu {t:TypeId} [tg:TG P t false] {a:Addr} {v:Value} (b:w.cell? a=some v) (h:K v w):Q2 P t (.pointer (some a)) w K:=by
 unfold Q2
 rw[X9 (v:=v) (w':=w) (by simp[Instr.loadAt,Instr.sureAddr,loadVar,Yx tg,b])]
 exact h
theorem Hl {t:TypeId} {sz by_:Nat} {z:Value} [tg:TG P t true] [tz:TZ P t sz by_ z] {a:Addr} {cs:List Value} (b:cs.length=sz) (c: ∀j v,cs[j]? =some v→w.cell? (a.add j)=some v) (h:K (.agg cs.toArray) w):Q2 P t (.pointer (some a)) w K:=by
 unfold Q2
 have:=run_loadCells_list (P:=P) w a cs c
 rw[b] at this
 rw[X9 (v:= .agg cs.toArray) (w':=w) (by simp[Instr.loadAt,Instr.sureAddr,loadVar,Yx tg,W5 tz,this])]
 exact h
theorem ld {σ:Q4} {t:TypeId} [TG P t false] {a:Addr} {cs:List Value} {i:Nat} {v:Value} (b:X4 w σ) (d:Z2 σ a cs) (c:cs[i]? =some v) (h:K v w):Q2 P t (.pointer (some (a.add i))) w K:=
 Qu (d.cell b c) h
theorem X7 {σ:Q4} {t:TypeId} [TG P t false] {a:Addr} {cs:List Value} {v:Value} (b:X4 w σ) (d:Z2 σ a cs) (c:cs[0]? =some v) (h:K v w):Q2 P t (.pointer (some a)) w K:=by
 have:=ld (P:=P) (t:=t) b d c h
 rwa [add_zero] at this
theorem Z1 {σ:Q4} {t:TypeId} {sz by_:Nat} {z:Value} [TG P t true] [TZ P t sz by_ z] {a:Addr} {cs:List Value} (b:X4 w σ) (f:Z2 σ a cs) (d:cs.length=sz) (h:K (.agg cs.toArray) w):Q2 P t (.pointer (some a)) w K:=
 Hl d (fun _ _ c=>f.cell b c) h
theorem Uh {σ:Q4} {t:TypeId} [TG P t false] {b:Nat} {cs:List Value} {i:Nat} {v:Value} (c:Z5 σ w b cs) (a:cs[i]? =some v) (h:K v w):Q2 P t (.pointer (some ((⟨b,0,none⟩:Addr).add i))) w K:=
 Qu (c.cell a) h
theorem Q8P {σ:Q4} {t:TypeId} [TG P t false] {b:Nat} {cs:List Value} {v:Value} (c:Z5 σ w b cs) (a:cs[0]? =some v) (h:K v w):Q2 P t (.pointer (some ⟨b,0,none⟩)) w K:=by
 have:=Uh (P:=P) (t:=t) c a h
 rwa [add_zero] at this
theorem Q6N {σ:Q4} {t:TypeId} {sz by_:Nat} {z:Value} [TG P t true] [TZ P t sz by_ z] {b:Nat} {cs:List Value} (c:Z5 σ w b cs) (d:cs.length=sz) (h:K (.agg cs.toArray) w):Q2 P t (.pointer (some ⟨b,0,none⟩)) w K:=
 Hl d (fun _ _ a=>c.cell a) h
theorem W2 {t:TypeId} {sz by_:Nat} {z:Value} [tg:TG P t true] [tz:TZ P t sz by_ z] {σ:Q4} {b:Nat} {cs:List Value} {K:Value→Prop} (c:Z5 σ w b cs) (d:cs.length=sz) (h:K (.agg cs.toArray)):V7 P t (.pointer (some ⟨b,0,none⟩)) w K:=by
 rw[Q1V]
 refine ⟨_,?_,h⟩
 have:=run_loadCells_list (P:=P) w ⟨b,0,none⟩ cs (fun _ _ a=>c.cell a)
 rw[d] at this
 simp[asAddr,loadVar,Yx tg,W5 tz,this]
structure Upd (w : World) (b : Nat) (w' : World) : Prop where
  os : w'.os = w.os
  tape : w'.tape = w.tape
  output : w'.output = w.output
  size : w'.heap.size = w.heap.size
  block : ∀ k, k ≠ b → w'.heap[k]? = w.heap[k]?
theorem Upd.stp {σ0 σ:Q4} {b:Nat} (c:Upd w b w') (a:Stp w0 σ0 w σ) (h:w0.heap.size≤b) (f:σ b=none):Stp w0 σ0 w' σ:=by
 refine ⟨⟨c.os.trans a.bel.os,c.tape.trans a.bel.tape,c.output.trans a.bel.output,by rw[c.size];exact a.bel.size,fun k g=>(c.block k (by omega)).trans (a.bel.block k g)⟩,?_,a.le,a.old⟩
 intro k o d
 rw[c.block k (by intro e;subst e;rw[f] at d;cases d)]
 exact a.sat k o d
theorem Z5.upd {σ:Q4} {b k:Nat} {cs:List Value} (h:Z5 σ w k cs) (f:Upd w b w') (a:k≠b):Z5 σ w' k cs:=by
 obtain ⟨c,e,d⟩:=h
 exact ⟨c,e,(f.block k a).trans d⟩
theorem Dj {b:Nat} {cs:Array Value} {a:Array Value} {e:TypeId} (h:w.heap[b]? =some (.cells a e (0,0))):Upd w b (w.setRow b cs)∧(w.setRow b cs).heap[b]? =some (.cells cs e (0,0)):=by
 have d:=(Array.getElem?_eq_some_iff.1 h).1
 refine ⟨⟨rfl,rfl,rfl,by simp[World.setRow],fun k c=>?_⟩,?_⟩
 ·simp only[World.setRow,Array.getElem?_modify]
  rw[if_neg (by omega)]
 ·simp only[World.setRow,Array.getElem?_modify,if_true,h]
  rfl
theorem sta {t:TypeId} {sz by_:Nat} {z:Value} [tz:TZ P t sz by_ z] {σ:Q4} {b:Nat} {cs ds:List Value} (g:Z5 σ w b cs) (j:cs.length=sz) (d:ds.length=sz) (k:ds.toArray.all (·.oneCell')=true)
 (h: ∀w',Upd w b w'→Z5 σ w' b ds→K undef w'):Z4 P t (.pointer (some ⟨b,0,none⟩)) (.agg ds.toArray) w K:=by
 obtain ⟨l,e,c⟩:=g
 unfold Z4
 obtain ⟨i,m,a,_⟩:=tz.info
 have:=run_storeVar_row (P:=P) w b e t cs.toArray ds.toArray c (by simp[m,a,d]) (by simp[j,d]) k
 rw[Ng (w':=w.setRow b ds.toArray) (by simpa [Instr.storeAt,Instr.sureAddr] using this)]
 obtain ⟨f,hh⟩:=Dj (cs:=ds.toArray) c
 exact h _ f ⟨l,e,hh⟩
theorem X0C {cs:List Value} {i:Nat} {v:Value} (a:i<cs.length):(cs.take i++[v]++cs.drop (i+1))=cs.set i v:=by
 rw[List.set_eq_take_append_cons_drop,if_pos a];simp
theorem Nb {t:TypeId} {by_:Nat} {z:Value} [tz:TZ P t 1 by_ z] {σ:Q4} {b i:Nat} {cs:List Value} {v:Value} (f:Z5 σ w b cs) (m:i<cs.length) (g:v.cells= #[v]) (j:v.oneCell'=true)
 (h: ∀w',Upd w b w'→Z5 σ w' b (cs.set i v)→K undef w'):Z4 P t (.pointer (some ((⟨b,0,none⟩:Addr).add i))) v w K:=by
 obtain ⟨k,e,c⟩:=f
 unfold Z4
 have a:(⟨b,0,none⟩:Addr).add i=⟨b,i,none⟩:=by unfold Addr.add;split<;>simp_all
 have:=run_storeCells_at P b i e [v] 0 cs.toArray w c (by simp;omega) (by simpa using j)
 simp only[Nat.add_zero] at this
 obtain ⟨d,hh⟩:=Dj (cs:=(cs.set i v).toArray) c
 have l:(List.take i cs.toArray.toList++[v]++List.drop (i+[v].length) cs.toArray.toList).toArray=(cs.set i v).toArray:=by
  rw[←X0C m];simp
 rw[l] at this
 rw[Ng (w':=w.setRow b (cs.set i v).toArray) (by simp[Instr.storeAt,Instr.sureAddr,a,storeVar,W5 tz,g,this])]
 exact h _ d ⟨k,e,hh⟩
theorem st0 {t:TypeId} {by_:Nat} {z:Value} [tz:TZ P t 1 by_ z] {σ:Q4} {b:Nat} {cs:List Value} {v:Value} (d:Z5 σ w b cs) (c:0<cs.length) (f:v.cells= #[v]) (a:v.oneCell'=true)
 (h: ∀w',Upd w b w'→Z5 σ w' b (cs.set 0 v)→K undef w'):Z4 P t (.pointer (some ⟨b,0,none⟩)) v w K:=by
 have:=Nb (P:=P) (t:=t) d c f a h
 rwa [add_zero] at this
class NZ (n : Nat) : Prop where
  h : (n == 0) = false
instance (n:Nat):NZ (n+1):=⟨rfl⟩
theorem fa {t:TypeId} {k b:Nat} {d:TypeId} {sz by_:Nat} {z:Value} [tf:TF P t k b d] [tz:TZ P d sz by_ z] [nz:NZ sz] {a:Addr}:fieldAddr P t (.pointer (some a)) k w K=K (.pointer (some (a.add b))) w:=by
 unfold fieldAddr
 have hh:=tf.h
 unfold Q2h at hh
 split at hh
 ·rename_i n l
  obtain ⟨f,g,c⟩:=Option.map_eq_some_iff.1 hh
  simp only[Prod.mk.injEq] at c
  obtain ⟨i,j⟩:=c
  subst j i
  have m: ¬sz=0:=by simpa using nz.h
  exact X9 (by simp[Instr.fieldAt,run_underlying l,g,Instr.sureAddr,fieldPlace,W5 tz,m])
 ·cases hh
theorem Cm {t e:TypeId} {sz by_:Nat} {z:Value} [ts:TS P t e] [tz:TZ P e sz by_ z] {a:Addr} {n b:Nat} {k:IntKind} {i:Int} (d:0≤i) (c:i<n):indexAddr P t (.slice (some a) n b) (.int k i) w K=K (.pointer (some (a.add (i.toNat*sz)))) w:=by
 unfold indexAddr
 exact X9 (by simp[Instr.indexAt,run_underlying ts.h,asIntOf,W5 tz,d,c])
theorem Q8r {t e:TypeId} {n sz by_:Nat} {z:Value} [ta:TA P t n e] [tz:TZ P e sz by_ z] {a:Addr} {k:IntKind} {i:Int} (c:0≤i) (b:i<n):indexAddr P t (.pointer (some a)) (.int k i) w K=K (.pointer (some (a.add (i.toNat*sz)))) w:=by
 unfold indexAddr
 exact X9 (by simp[Instr.indexAt,run_underlying ta.h,asIntOf,Instr.sureAddr,W5 tz,c,b])
theorem E8 {a:Addr}:nilCheck P (.pointer (some a)) w K=K (.pointer (some a)) w:=by
 unfold nilCheck
 rw[Xb];unfold Qf
 simp[execOp]
class Rep {α : Type} (R : Q4 → α → List Value → Prop) : Prop where
  up : ∀ {σ σ' : Q4} {x : α} {cs : List Value}, (∀ b o, σ b = some o → σ' b = some o) → R σ x cs → R σ' x cs
  one : ∀ {σ : Q4} {x : α} {cs : List Value}, R σ x cs → ∀ u ∈ cs, u.oneCell' = true
def Sl {α:Type} (sz:Nat) (R:Q4→α→List Value→Prop) (σ:Q4) (v:Value) (xs:List α):Prop:=
 ∃a c,v= .slice a xs.length c∧xs.length≤c∧c≤maxLen∧(a=none→c=0)∧
  ∀b,a=some b→(0<xs.length→b.spot=none)∧ ∀i x,xs[i]? =some x→ ∃cs,Z2 σ (b.add (i*sz)) cs∧cs.length=sz∧R σ x cs
theorem Z2.le {σ σ':Q4} {a:Addr} {cs:List Value} (h:Z2 σ a cs) (i: ∀b o,σ b=some o→σ' b=some o):Z2 σ' a cs:=by
 obtain ⟨c,D7,e,g,f,d⟩:=h
 exact ⟨c,D7,e,g,i _ _ f,d⟩
section
variable {α : Type} {R : Q4 → α → List Value → Prop} {sz : Nat} {σ σ' : Q4} {v : Value} {xs : List α}
theorem Sl.le [hr:Rep R] (h:Sl sz R σ v xs) (g: ∀b o,σ b=some o→σ' b=some o):Sl sz R σ' v xs:=by
 obtain ⟨a,c,p,q,m,j,f⟩:=h
 refine ⟨a,c,p,q,m,j,fun b d=>⟨(f b d).1,fun i x r=>?_⟩⟩
 obtain ⟨cs,l,k,n⟩:=(f b d).2 i x r
 exact ⟨cs,l.le g,k,hr.up g n⟩
theorem Sl.up [Rep R] (h:Sl sz R σ v xs) (a:Stp w σ w' σ'):Sl sz R σ' v xs:=h.le a.le
theorem Sl.max (h:Sl sz R σ v xs):xs.length≤9223372036854775807:=by
 obtain ⟨a,b,f,g,c,d⟩:=h
 simp only[maxLen] at c;omega
theorem Sl.nil:Sl sz R σ (.slice none 0 0) ([]:List α):=⟨none,0,rfl,by simp,by simp,fun _=>rfl,fun b a=>by cases a⟩
theorem Q6d {c e t:TypeId} {cs:List Bool} [ts:TS P c e] {a:Option Addr} {n b:Nat}:X5 P .len [c] t cs [.slice a n b] w K=K (I n) w:=by
 have h:(Builtin.len_ #[c] t #[.slice a n b]).run P w= .ok (I n) w:=by
  simp[Builtin.len_,run_underlying ts.h,goInt]
 exact X9 h
theorem X1C {b e t:TypeId} {cs:List Bool} [ts:TS P b e] (h:Sl sz R σ v xs):X5 P .len [b] t cs [v] w K=K (I xs.length) w:=by
 obtain ⟨a,c,rfl,_⟩:=h
 exact Q6d
theorem X2d {t e:TypeId} {by_:Nat} {z:Value} [TS P t e] [TZ P e sz by_ z] (h:Sl sz R σ v xs) {k:IntKind} {i:Int} (g:0≤i) (n:i.toNat<xs.length)
 (o: ∀a cs,Z2 σ a cs→cs.length=sz→R σ xs[i.toNat] cs→K (.pointer (some a)) w):indexAddr P t v (.int k i) w K:=by
 obtain ⟨a,m,rfl,q,p,c,j⟩:=h
 cases a with
 | none=>have:=c rfl;omega
 | some b=>
  rw[Cm g (by omega)]
  obtain ⟨cs,f,d,l⟩:=(j b rfl).2 i.toNat xs[i.toNat] (by simp[n])
  exact o _ cs f d l
end
theorem Stp.turn {σ0 σ:Q4} {row:Option Nat} (b:w.grownBy w' row) (a:Stp w0 σ0 w σ) (d: ∀k,row=some k→w0.heap.size≤k∧σ k=none):Stp w0 σ0 w' σ:=by
 refine ⟨⟨b.os.trans a.bel.os,b.tape.trans a.bel.tape,b.output.trans a.bel.output,Nat.le_trans a.bel.size b.size,fun k f=>?_⟩,?_,a.le,a.old⟩
 ·refine (b.block k (Nat.lt_of_lt_of_le f a.bel.size) ?_).trans (a.bel.block k f)
  intro e;have:=(d k e.symm).1;omega
 ·intro k o c
  refine (b.block k (a.sat.lt c) ?_).trans (a.sat k o c)
  intro e;rw[(d k e.symm).2] at c;cases c
def V8 {α:Type} (B:Nat) (e:TypeId) (sz:Nat) (R:Q4→α→List Value→Prop) (σ:Q4) (w:World) (v:Value) (xs:List α):Prop:=
 ∃cells,w.ownsRow B e sz v xs.length cells∧(∀k,v.ownBlock=some k→σ k=none)∧ ∀i x,xs[i]? =some x→R σ x ((cells.drop (i*sz)).take sz)
section
variable {α : Type} {R : Q4 → α → List Value → Prop} {B sz : Nat} {e : TypeId} {σ σ' : Q4} {v u : Value} {xs ys : List α}
theorem V8.nil:V8 B e sz R σ w (.slice none 0 0) ([]:List α):=⟨[],World.ownsRow_nil w B e sz,by intro k a;simp[Value.ownBlock] at a,by intro i x h;simp at h⟩
theorem V8.mem (h:V8 B e sz R σ w v xs): ∀k,v.ownBlock=some k→B≤k∧k<w.heap.size∧σ k=none:=by
 obtain ⟨cells,d,f,_⟩:=h
 intro k c
 obtain ⟨a,b⟩:=d.lt k c
 exact ⟨a,b,f k c⟩
theorem V8.up [hr:Rep R] (h:V8 B e sz R σ w v xs) (a:Stp w σ w' σ'):V8 B e sz R σ' w' v xs:=by
 obtain ⟨cells,c,f,d⟩:=h
 refine ⟨cells,c.kept ⟨a.bel.os,a.bel.tape,a.bel.output,a.bel.size,fun k g _=>a.bel.block k g⟩ (by cases b:v.ownBlock<;>simp) (row:=none),?_,fun i x j=>hr.up a.le (d i x j)⟩
 intro k b
 rw[a.old k (c.lt k b).2];exact f k b
theorem Sl.cells (h:Sl sz R σ v xs) (H:X4 w σ) [hr:Rep R]: ∃(a:Option Addr) (d:Nat) (c:List Value),v= .slice a xs.length d∧(a=none→d=0)∧c.length=xs.length*sz∧(∀b,a=some b→ ∀j u,c[j]? =some u→w.cell? (b.add j)=some u)∧(∀u∈c,u.oneCell'=true)∧
 ∀i x,xs[i]? =some x→R σ x ((c.drop (i*sz)).take sz):=by
 obtain ⟨a,d,rfl,Q,N,l,z⟩:=h
 cases a with
 | none=>
  have L:=l rfl
  have f:xs=[]:=List.eq_nil_of_length_eq_zero (by omega)
  subst f
  exact ⟨none,d,[],rfl,l,by simp,fun b C=>(by cases C),by simp,by simp⟩
 | some b=>
  obtain ⟨D,q⟩:=z b rfl
  clear z
  have key: ∀(ys:List α) (k:Nat),(∀i x,ys[i]? =some x→ ∃cs,Z2 σ (b.add ((k+i)*sz)) cs∧cs.length=sz∧R σ x cs)→
   ∃c:List Value,c.length=ys.length*sz∧(∀j u,c[j]? =some u→w.cell? (b.add (k*sz+j))=some u)∧(∀u∈c,u.oneCell'=true)∧ ∀i x,ys[i]? =some x→R σ x ((c.drop (i*sz)).take sz):=by
   intro ys
   induction ys with
   | nil=>intro k _;exact ⟨[],by simp,by simp,by simp,by simp⟩
   | cons y r J=>
    intro k t
    obtain ⟨cs,E,s,A⟩:=t 0 y rfl
    obtain ⟨c,m,g,n,p⟩:=J (k+1) (fun i x f=>by
     have:=t (i+1) x (by simpa using f)
     rwa [show k+1+i=k+(i+1) by omega])
    refine ⟨cs++c,by simp[m,s,Nat.add_mul,Nat.add_comm],?_,?_,?_⟩
    ·intro j u hu
     by_cases M:j<sz
     ·rw[List.getElem?_append_left (by omega)] at hu
      have:=E.cell H hu
      rwa [Cl,Nat.add_zero] at this
     ·rw[List.getElem?_append_right (by omega)] at hu
      have:=g _ _ hu
      rwa [s,show (k+1)*sz+(j-sz)=k*sz+j by rw[Nat.add_mul];omega] at this
    ·intro u hu
     rcases List.mem_append.1 hu with hu | hu
     ·exact hr.one A u hu
     ·exact n u hu
    ·intro i x f
     cases i with
     | zero=>
      simp at f;subst f
      simp only[Nat.zero_mul,List.drop_zero]
      rw[List.take_append_of_le_length (by omega),List.take_of_length_le (by omega)];exact A
     | succ i=>
      have:=p i x (by simpa using f)
      rw[show (i+1)*sz=cs.length+i*sz by rw[Nat.add_mul];omega,List.drop_append]
      simpa [List.drop_eq_nil_of_le] using this
  obtain ⟨c,m,g,n,p⟩:=key xs 0 (fun i x f=>by rw[Nat.zero_add];exact q i x f)
  refine ⟨some b,d,c,rfl,l,m,?_,n,p⟩
  intro O o j u hu
  cases o
  have:=g j u hu
  rwa [Nat.zero_mul,Nat.zero_add] at this
end
section
variable {α : Type} {R : Q4 → α → List Value → Prop} {sz : Nat} {e : TypeId} {σ σ0 : Q4} {v u : Value} {xs ys : List α}
theorem El (cells a:List Value) (n i:Nat) (c:cells.length=n*sz) (b:i<n):((cells++a).drop (i*sz)).take sz=(cells.drop (i*sz)).take sz:=by
 have h:i*sz+sz≤n*sz:=by rw[←Nat.succ_mul];exact Nat.mul_le_mul_right _ b
 rw[List.drop_append_of_le_length (by omega),List.take_append_of_le_length (by simp only[List.length_drop];omega)]
theorem app {t s:TypeId} {by_:Nat} {z:Value} {cs:List Bool} [ts:TS P t e] [tz:TZ P e sz by_ z] [hr:Rep R] (A:Stp w0 σ0 w σ) (ha:V8 w0.heap.size e sz R σ w v xs) (Q:Sl sz R σ u ys) (J:(z.cells.size==sz&&decide (0<sz))=true)
 (hb:(xs.length+ys.length)*by_≤140737488355328) (hm:xs.length+ys.length≤9223372036854775807)
 (h: ∀f w',w.grownBy w' v.ownBlock→Stp w0 σ0 w' σ→V8 w0.heap.size e sz R σ w' f (xs++ys)→(f.ownBlock=v.ownBlock∨ ∀k,f.ownBlock=some k→w.heap.size≤k)→K f w'):X5 P .append [t,t] s cs [v,u] w K:=by
 obtain ⟨cells,r,W,h3⟩:=ha
 obtain ⟨a,m,c,rfl,O,N,n3,n4,n5⟩:=Q.cells A.sat
 obtain ⟨i,L,E,H,p⟩:=tz.info
 have o: ∀f w',(Builtin.append_ #[t,t] s #[v, .slice a ys.length m]).run P w= .ok f w'→w'.ownsRow w0.heap.size e sz f (xs.length+ys.length) (cells++c)→w.grownBy w' v.ownBlock→(f.ownBlock=v.ownBlock∨f.ownBlock=some w.heap.size)→X5 P .append [t,t] s cs [v, .slice a ys.length m] w K:=by
  intro f w' y d l hat
  have q:(builtin .append #[t,t] s cs.toArray #[v, .slice a ys.length m]).run P w= .ok (.value f) w':=by
   simp[builtin,y]
  unfold X5
  rw[Xb];unfold Qf
  rw[q]
  refine h f w' l (Stp.turn l A fun k n=>⟨(r.lt k n).1,W k n⟩) ⟨cells++c,by rw[List.length_append];exact d,?_,?_⟩ ?_
  ·intro k n
   rcases hat with hat | hat
   ·exact W k (hat▸n)
   ·rw[hat] at n;cases n;exact A.sat.none (Nat.le_refl _)
  ·intro j x C
   by_cases V:j<xs.length
   ·rw[List.getElem?_append_left V] at C
    rw[El cells c xs.length j r.1 V]
    exact h3 j x C
   ·rw[List.getElem?_append_right (by omega)] at C
    have:=n5 _ _ C
    rw[show j*sz=cells.length+(j-xs.length)*sz by rw[r.1,←Nat.add_mul];congr 1;omega,List.drop_append]
    simpa [List.drop_eq_nil_of_le] using this
  ·rcases hat with hat | hat
   ·exact .inl hat
   ·right;intro k n;rw[hat] at n;cases n;exact Nat.le_refl _
 simp only[Bool.and_eq_true,beq_iff_eq,decide_eq_true_eq] at J
 cases a with
 | some b=>
  obtain ⟨f,w',g1,Y,g3,_,Z⟩:=run_append_own_at (P:=P) w w0.heap.size t s e i z sz by_ ts.h L p E H J.1 J.2 v xs.length cells r b ys.length m c N (n3 b rfl) n4 (by simp only[maxLen];omega) hb A.bel.size
  exact o f w' g1 Y g3 Z
 | none=>
  have hy:ys=[]:=List.eq_nil_of_length_eq_zero (by obtain ⟨a',U,e',q1,_,q3,_⟩:=Q;injection e' with _ e2 e3;have:=O rfl;subst e3;omega)
  have M:=O rfl
  subst hy M
  have X:c=[]:=List.eq_nil_of_length_eq_zero (by simpa using N)
  subst X
  have d:=r
  rcases r.2 with ⟨rfl,h0⟩ | ⟨g,m,ac,rfl,am,hg,D,_⟩
  ·refine o (.slice none 0 0) w ?_ (by simpa using d) (World.grownBy.refl w _) (.inl rfl)
   simp[Builtin.append_,run_underlying ts.h,sizeOf,typeInfo,L,Builtin.lenOf,Builtin.firstCells]
  ·refine o _ w ?_ (by simpa using d) (World.grownBy.refl w _) (.inl rfl)
   simp[Builtin.append_,run_underlying ts.h,sizeOf,typeInfo,L,Builtin.lenOf,Builtin.firstCells,D,storeCells]
end
section
variable {α : Type} {R : Q4 → α → List Value → Prop} {sz : Nat} {e : TypeId} {σ σ0 : Q4} {v u : Value} {xs ys : List α}
theorem Q4.put_le {w:World} (d:X4 w σ) {b:Nat} (h:σ b=none) (o:Obj): ∀k p,σ k=some p→(σ.put b o) k=some p:=by
 intro k p c
 by_cases a:k=b
 ·subst a;rw[h] at c;cases c
 ·simp only[Q4.put,if_neg a];exact c
theorem Stp.put {b:Nat} {o:Obj} (d:Stp w0 σ0 w σ) (f:σ b=none) (h:w0.heap.size≤b) (g:w.heap[b]? =some o):Stp w0 σ0 w (σ.put b o):=by
 refine ⟨d.bel,?_,fun k p a=>Q4.put_le d.sat f o k p (d.le k p a),?_⟩
 ·intro k p a
  by_cases c:k=b
  ·subst c;simp only[Q4.put,if_true] at a;cases a;exact g
  ·simp only[Q4.put,if_neg c] at a;exact d.sat k p a
 ·intro k a
  simp only[Q4.put];rw[if_neg (by omega)];exact d.old k a
theorem V8.keep [hr:Rep R] (h:V8 w0.heap.size e sz R σ w v xs) (q:Stp w0 σ0 w σ): ∃σ',Stp w0 σ0 w σ'∧Sl sz R σ' v xs∧(∀k o,σ k=some o→σ' k=some o)∧(∀k,some k≠v.ownBlock→σ' k=σ k):=by
 obtain ⟨cells,r,D,C⟩:=h
 rcases r.2 with ⟨rfl,A⟩ | ⟨g,p,d,rfl,z,y,l,f,H,m⟩
 ·have:xs=[]:=List.eq_nil_of_length_eq_zero A
  subst this
  exact ⟨σ,q,Sl.nil,fun _ _ h=>h,fun _ _=>rfl⟩
 ·have s:=D g rfl
  have a:=Q4.put_le q.sat s (.cells d e (0,0))
  refine ⟨σ.put g (.cells d e (0,0)),q.put s z y,⟨_,p,rfl,l,f,by simp,?_⟩,a,?_⟩
  ·intro b n
   cases n
   refine ⟨fun _=>rfl,fun i x t=>⟨(cells.drop (i*sz)).take sz,⟨I4 rfl _,d,e,(0,0),by rw[C6];simp[Q4.put],?_⟩,?_,hr.up a (C i x t)⟩⟩
   ·intro j u c
    rw[Ya]
    rw[List.getElem?_take] at c
    split at c
    ·rw[List.getElem?_drop,←m,List.getElem?_take] at c
     split at c
     ·simpa using c
     ·cases c
    ·cases c
   ·have E:i<xs.length:=(List.getElem?_eq_some_iff.1 t).1
    have h:i*sz+sz≤xs.length*sz:=by rw[←Nat.succ_mul];exact Nat.mul_le_mul_right _ E
    rw[List.length_take,List.length_drop,r.1];omega
  ·intro k J
   have:k≠g:=by intro e;subst e;exact J rfl
   simp only[Q4.put,if_neg this]
theorem Sl.piece {a:Option Addr} {n d:Nat} (h:Sl sz R σ (.slice a n d) xs) (l m:Nat) (L:l+m≤xs.length):Sl sz R σ (.slice (if d=l then a else a.map (·.add (l*sz))) m (d-l)) ((xs.drop l).take m):=by
 obtain ⟨M,o,H,O,N,r,p⟩:=h
 injection H with E J D
 subst E J D
 have c:((xs.drop l).take m).length=m:=by simp;omega
 refine ⟨_,d-l,by rw[c],by rw[c];omega,by omega,?_,?_⟩
 ·intro j
  split at j
  ·omega
  ·cases a with
   | none=>have:=r rfl;omega
   | some b=>simp at j
 ·intro b f
  split at f
  ·rename_i s
   obtain ⟨k,q⟩:=p b f
   have z:m=0:=by omega
   subst z
   exact ⟨fun h=>by simp at h,by simp⟩
  ·cases a with
   | none=>simp at f
   | some A=>
    simp only[Option.map_some,Option.some.injEq] at f
    obtain ⟨k,q⟩:=p A rfl
    subst f
    refine ⟨fun h=>I4 (k (by rw[c] at h;omega)) _,fun i x g=>?_⟩
    rw[List.getElem?_take] at g
    split at g
    ·rw[List.getElem?_drop] at g
     obtain ⟨cs,y,t,C⟩:=q _ _ g
     refine ⟨cs,?_,t,C⟩
     rw[Cl,←Nat.add_mul];exact y
    ·cases g
theorem Hn {t:TypeId} {by_:Nat} {z:Value} [ts:TS P t e] [tz:TZ P e sz by_ z] (h:Sl sz R σ v xs) (c d:Option Value) (l m:Nat) (g:c=none∧l=0∨c=some (I l)) (f:d=none∧m=xs.length∨d=some (I m)) (i:l≤m) (r:m≤xs.length)
 (o: ∀j,Sl sz R σ j ((xs.drop l).take (m-l))→K j w):E9 P t v c d none w K:=by
 have n:=h
 obtain ⟨a,b,rfl,C,y,p,s⟩:=h
 have hh: ∀w:World,(Instr.sliceBounds true xs.length b c d none).run P w= .ok (l,m,b) w:=by
  intro w
  have A:(m:Int)≤b:=by omega
  have q:(l:Int)≤m:=by omega
  have k:m≤b:=by omega
  rcases g with ⟨rfl,rfl⟩ | rfl<;>rcases f with ⟨rfl,rfl⟩ | rfl<;>
   simp[Instr.sliceBounds,Instr.sliceBound,asIntOf,k,i]<;>intros<;>omega
 unfold E9
 have:(Instr.sliceAt t (.slice a xs.length b) c d none).run P w= .ok (.slice (if b=l then a else a.map (·.add (l*sz))) (m-l) (b-l)) w:=by
  simp[Instr.sliceAt,run_underlying ts.h,Instr.slice,hh,W5 tz]
 rw[X9 this]
 exact o _ (n.piece l (m-l) (by omega))
def en:Nat→List Value→List (Nat×Value)
 | _,[]=>[]
 | i,v::r=>(i,v)::en (i+1) r
theorem Q7X (off:Nat): ∀(vs:List Value) (k:Nat) (cs:Array Value),off+k+vs.length≤cs.size→
 ((vs.zipIdx k).foldl (fun cs (p:Value×Nat)=>cs.setIfInBounds (off+p.2) p.1) cs).toList=cs.toList.take (off+k)++vs++cs.toList.drop (off+k+vs.length):=by
 intro vs
 induction vs with
 | nil=>intro k cs _;simp
 | cons v r ih=>
  intro k cs h
  simp only[List.length_cons] at h
  rw[List.zipIdx_cons,List.foldl_cons,ih (k+1) _ (by simp;omega)]
  simp only[Array.toList_setIfInBounds,List.length_cons]
  apply List.ext_getElem?
  intro i
  simp only[List.getElem?_append,List.length_take,List.length_set,Array.length_toList,List.getElem?_take,List.getElem?_drop,List.length_append,List.getElem?_set,List.length_cons]
  rcases Nat.lt_trichotomy i (off+k) with hi | hi | hi
  ·simp[show i<off+(k+1) by omega,hi,show i<min (off+(k+1)) cs.size by omega,show i<min (off+(k+1)) cs.size+r.length by omega,show i<min (off+k) cs.size by omega,show i<min (off+k) cs.size+(r.length+1) by omega,show off+k≠i by omega]
  ·subst hi
   simp[show off+k<off+(k+1) by omega,show off+k<min (off+(k+1)) cs.size by omega,show off+k<min (off+(k+1)) cs.size+r.length by omega,show¬off+k<min (off+k) cs.size by omega,show off+k<min (off+k) cs.size+(r.length+1) by omega,show off+k<cs.size by omega,show off+k-min (off+k) cs.size=0 by omega]
  ·by_cases h2:i<off+(k+1)+r.length
   ·simp[show¬i<min (off+(k+1)) cs.size by omega,show i<min (off+(k+1)) cs.size+r.length by omega,show¬i<min (off+k) cs.size by omega,show i<min (off+k) cs.size+(r.length+1) by omega,show i-min (off+k) cs.size=(i-min (off+(k+1)) cs.size)+1 by omega]
   ·simp only[show¬i<min (off+(k+1)) cs.size+r.length by omega,show¬i<min (off+k) cs.size+(r.length+1) by omega,if_false]
    rw[show off+(k+1)+r.length+(i-(min (off+(k+1)) cs.size+r.length))=i by omega,show off+k+(r.length+1)+(i-(min (off+k) cs.size+(r.length+1)))=i by omega,if_neg (by omega)]
theorem Q6o (sz:Nat): ∀(vs:List Value) (i:Nat) (cs:Array Value),(i+vs.length)*sz≤cs.size→(∀v∈vs,v.cells.size=sz)→
 ∃cs',Instr.fill (fun i=>some (i*sz,sz)) cs (en i vs)=some cs'∧cs'.toList=cs.toList.take (i*sz)++vs.flatMap (·.cells.toList)++cs.toList.drop ((i+vs.length)*sz):=by
 intro vs
 induction vs with
 | nil=>intro i cs _ _;exact ⟨cs,rfl,by simp⟩
 | cons v r ih=>
  intro i cs h hv
  have hv0:=hv v (by simp)
  simp only[List.length_cons] at h
  have h1:i*sz+sz≤cs.size:=by
   have:(i+1)*sz≤(i+(r.length+1))*sz:=Nat.mul_le_mul_right _ (by omega)
   rw[Nat.succ_mul] at this;omega
  have hset:=Q7X (i*sz) v.cells.toList 0 cs (by simp;omega)
  simp only[Nat.add_zero] at hset
  have e1:v.cells.zipIdx.foldl (fun cs (p:Value×Nat)=>cs.setIfInBounds (i*sz+p.2) p.1) cs=(v.cells.toList.zipIdx 0).foldl (fun cs (p:Value×Nat)=>cs.setIfInBounds (i*sz+p.2) p.1) cs:=by
   rw[←Array.foldl_toList,Array.toList_zipIdx]
  have hsz':((v.cells.toList.zipIdx 0).foldl (fun cs (p:Value×Nat)=>cs.setIfInBounds (i*sz+p.2) p.1) cs).size=cs.size:=by
   rw[←Array.length_toList,hset]
   simp;omega
  obtain ⟨cs',q1,q2⟩:=ih (i+1) _ (by rw[hsz'];rw[show i+1+r.length=i+(r.length+1) by omega];exact h) (fun u hu=>hv u (by simp[hu]))
  refine ⟨cs',?_,?_⟩
  ·simp only[en,Instr.fill]
   rw[if_neg (by simp[hv0];omega)]
   rw[e1];exact q1
  ·rw[q2,hset]
   simp only[List.flatMap_cons,List.length_cons,Array.length_toList,hv0]
   have e2:(i+1)*sz=i*sz+sz:=by rw[Nat.succ_mul]
   have e3:(i+(r.length+1))*sz=i*sz+sz+r.length*sz:=by rw[Nat.add_mul,Nat.succ_mul];omega
   have e4:(i+1+r.length)*sz=i*sz+sz+r.length*sz:=by rw[Nat.add_mul,Nat.succ_mul]
   rw[e2,e3,e4]
   have t1:(cs.toList.take (i*sz)).length=i*sz:=by simp;omega
   have t2:(cs.toList.take (i*sz)++v.cells.toList).length=i*sz+sz:=by rw[List.length_append,t1];simp[hv0]
   have k1: ∀C:List Value,(cs.toList.take (i*sz)++v.cells.toList++C).take (i*sz+sz)=cs.toList.take (i*sz)++v.cells.toList:=by
    intro C
    rw[List.take_append_of_le_length (by omega),List.take_of_length_le (by omega)]
   have k2: ∀(C:List Value) (n:Nat),(cs.toList.take (i*sz)++v.cells.toList++C).drop (i*sz+sz+n)=C.drop n:=by
    intro C n
    rw[List.drop_append,t2,List.drop_eq_nil_of_le (by omega),List.nil_append]
    congr 1;omega
   rw[k1,k2,List.drop_drop]
   simp only[List.append_assoc]
theorem Oz {t:TypeId} {by_:Nat} {z:Value} [ts:TS P t e] [tz:TZ P e sz by_ z] (vs:List Value) (hv: ∀v∈vs,v.cells.size=sz) (hsm:vs.length*sz≤16777216) (w:World):
 ∃cells:Array Value,(Instr.buildSlice t vs.length (en 0 vs).toArray).run P w= .ok (.slice (some ⟨w.heap.size,0,none⟩) vs.length vs.length) (w.alloc (.cells cells e))∧cells.toList=vs.flatMap (·.cells.toList):=by
 have h2: ¬vs.length*sz>2 ^ 24:=by omega
 by_cases h:vs.length*sz=0
 ·obtain ⟨cells,hf,hl⟩:=Q6o sz vs 0 ((Array.range (vs.length*sz)).map ((#[]:Array Value)[· % (#[]:Array Value).size]!)) (by simp) hv
  refine ⟨cells,?_,by rw[hl];simp⟩
  simp only[Instr.buildSlice,Sem.run_bind,run_underlying ts.h,Result.andThen_ok,W5 tz,if_neg h2,if_pos h,Sem.run_pure,hf]
  simp[newRow]
 ·obtain ⟨cells,hf,hl⟩:=Q6o sz vs 0 ((Array.range (vs.length*sz)).map (z.cells[· % z.cells.size]!)) (by simp) hv
  refine ⟨cells,?_,by rw[hl];simp⟩
  simp only[Instr.buildSlice,Sem.run_bind,run_underlying ts.h,Result.andThen_ok,W5 tz,if_neg h2,if_neg h,Sem.run_pure,Yc tz,hf]
  simp[newRow]
theorem Q79 {vs:List Value} (d: ∀v∈vs,v.cells.size=sz) (i:Nat) (v:Value) (h:vs[i]? =some v):((vs.flatMap (·.cells.toList)).drop (i*sz)).take sz=v.cells.toList:=by
 induction vs generalizing i with
 | nil=>simp at h
 | cons a r f=>
  have b:=d a (by simp)
  cases i with
  | zero=>
   simp at h;subst h
   rw[List.flatMap_cons,Nat.zero_mul,List.drop_zero,List.take_append_of_le_length (by simp[b]),List.take_of_length_le (by simp[b])]
  | succ i=>
   rw[List.flatMap_cons,Nat.succ_mul,List.drop_append,List.drop_eq_nil_of_le (by simp[b]),List.nil_append]
   rw[show i*sz+sz-a.cells.toList.length=i*sz by simp[b]]
   exact f (fun v c=>d v (by simp[c])) i (by simpa using h)
theorem Q1h {vs:List Value} (b: ∀v∈vs,v.cells.size=sz):(vs.flatMap (·.cells.toList)).length=vs.length*sz:=by
 induction vs with
 | nil=>simp
 | cons a r c=>
  rw[List.flatMap_cons,List.length_append,c (fun v h=>b v (by simp[h]))]
  simp[b a (by simp),Nat.succ_mul,Nat.add_comm]
def Ay (R:Q4→α→List Value→Prop) (σ:Q4):List Value→List α→Prop
 | [],[]=>True
 | v::vs,x::xs=>R σ x v.cells.toList∧Ay R σ vs xs
 | _,_=>False
theorem Ay.len {vs:List Value} (h:Ay R σ vs xs):vs.length=xs.length:=by
 induction vs generalizing xs with
 | nil=>cases xs with
  | nil=>rfl
  | cons=>exact h.elim
 | cons v r a=>cases xs with
  | nil=>exact h.elim
  | cons x y=>simp[a h.2]
theorem Ay.get {vs:List Value} (h:Ay R σ vs xs) {i:Nat} {x:α} (a:xs[i]? =some x): ∃v,vs[i]? =some v∧R σ x v.cells.toList:=by
 induction vs generalizing xs i with
 | nil=>cases xs with
  | nil=>simp at a
  | cons=>exact h.elim
 | cons v r b=>cases xs with
  | nil=>exact h.elim
  | cons y ys=>
   cases i with
   | zero=>simp at a;subst a;exact ⟨v,rfl,h.1⟩
   | succ i=>obtain ⟨u,d,c⟩:=b h.2 (i:=i) (by simpa using a);exact ⟨u,by simpa using d,c⟩
theorem I6 {t:TypeId} {by_:Nat} {z:Value} {n:Nat} {a:List (Nat×Value)} [ts:TS P t e] [tz:TZ P e sz by_ z] (g:Stp w0 σ0 w σ) (vs:List Value) (xs:List α) (o:n=vs.length) (q:a=en 0 vs) (c: ∀v∈vs,v.cells.size=sz) (b:(decide (0<sz)&&decide (vs.length*sz≤16777216))=true) (m:Ay R σ vs xs)
 (h: ∀v w',Stp w σ w' σ→V8 w0.heap.size e sz R σ w' v xs→(∀k,v.ownBlock=some k→w.heap.size≤k)→K v w'):buildSlice P t n a w K:=by
 subst o q
 simp only[Bool.and_eq_true,decide_eq_true_eq] at b
 obtain ⟨j,b⟩:=b
 obtain ⟨cells,s,f⟩:=Oz (P:=P) (t:=t) vs c b w
 unfold buildSlice
 rw[X9 s]
 have d:=m.len
 refine h _ _ (Stp.own g.sat _) ⟨cells.toList,⟨by rw[f,Q1h c,d], .inr ⟨_,_,cells,by rw[d],g.bel.size,heap_alloc_new w _,by omega,?_,?_,?_⟩⟩,?_,?_⟩ ?_
 ·simp only[maxLen]
  have:vs.length*1≤vs.length*sz:=Nat.mul_le_mul_left _ j
  omega
 ·rw[←Array.length_toList,f,Q1h c,d]
 ·rw[List.take_of_length_le (by rw[f,Q1h c,d];exact Nat.le_refl _)]
 ·intro k l;cases l;exact g.sat.none (Nat.le_refl _)
 ·intro i x y
  obtain ⟨v,p,r⟩:=m.get y
  rw[f,Q79 c i v p];exact r
 ·intro k l;cases l;exact Nat.le_refl _
theorem N5 [Rep R] {t:TypeId} {by_:Nat} {z:Value} {n:Nat} {a:List (Nat×Value)} [ts:TS P t e] [tz:TZ P e sz by_ z] (j:X4 w σ) (vs:List Value) (xs:List α) (c:n=vs.length) (f:a=en 0 vs) (l: ∀v∈vs,v.cells.size=sz) (b:(decide (0<sz)&&decide (vs.length*sz≤16777216))=true) (k:Ay R σ vs xs)
 (h: ∀v w' σ',Stp w σ w' σ'→Sl sz R σ' v xs→K v w'):buildSlice P t n a w K:=by
 refine I6 (Stp.refl j) vs xs c f l b k fun v w' m i _=>?_
 obtain ⟨σ',g,d,_⟩:=i.keep m
 exact h v w' σ' g d
theorem X0J {t:TypeId} {k a:Nat} {c:TypeId} [tf:TF P t k a c] [tg:TG P c false] {cs:Array Value} {v:Value} (l:cs[a]? =some v):We P t (.agg cs) k w K=K v w:=by
 unfold We
 have hh:=tf.h
 unfold Q2h at hh
 split at hh
 ·rename_i m j
  obtain ⟨f,d,b⟩:=Option.map_eq_some_iff.1 hh
  simp only[Prod.mk.injEq] at b
  obtain ⟨g,i⟩:=b
  subst i g
  exact X9 (by simp[Instr.field,run_underlying j,d,asAgg,part,Yx tg,l])
 ·cases hh
theorem Qs {f:Fn} {first caps:List Value}:M4 P f first caps w K=K (.func f first.toArray caps.toArray) w:=X9 (by simp[Instr.makeFunc])
theorem W1 {t:TypeId} {a:List (Nat×Value)} {cells:Array Value} (h:P.built t a=some cells) (b:K (.agg cells) w):O7 P t a w K:=by
 unfold O7
 rw[X9 (run_build w t a.toArray cells h)];exact b
end
def N0 (o:Option Obj) (m:List (List UInt8×Value)):Prop:=
 ∃es a,o=some (.map es a)∧es.toList.map (fun e=>(e.key,e.val))=m.map (fun p=>(S p.1,p.2))∧(es.toList.map (·.born)).Pairwise (· < ·)∧ ∀e∈es.toList,e.born<a
def L9 (m:List (List UInt8×Value)) (k:List UInt8):Option Value:=match m with
 | []=>none
 | p::r=>if p.1=k then some p.2 else L9 r k
def Xg (m:List (List UInt8×Value)) (k:List UInt8) (v:Value):List (List UInt8×Value):=match m with
 | []=>[(k,v)]
 | p::r=>if p.1=k then (k,v)::r else p::Xg r k v
theorem Rm (a b:List UInt8):((⟨a.toArray⟩:ByteArray)==⟨b.toArray⟩)=decide (a=b):=by
 rw[←Q2x]
 show (a.toArray==b.toArray)=_
 simp
theorem Rl (k:List UInt8): ∀(es:List MapEntry) (m:List (List UInt8×Value)) (i:Nat),es.map (fun e=>(e.key,e.val))=m.map (fun p=>(S p.1,p.2))→
 ∃r,Instr.findNow .string (S k) es i=some r∧r.map (·.2)=L9 m k∧(∀j v,r=some (j,v)→i≤j∧(∃e,es[j-i]? =some e∧e.key=S k)∧ ∀u,(es.modify (j-i) fun e=>{e with key:=S k,val:=u}).map (fun e=>(e.key,e.val))=(Xg m k u).map (fun p=>(S p.1,p.2)))∧
  (r=none→ ∀u,Xg m k u=m++[(k,u)]):=by
 intro es
 induction es with
 | nil=>
  intro m i h
  cases m with
  | nil=>exact ⟨none,rfl,rfl,(by simp),fun _ u=>rfl⟩
  | cons=>simp at h
 | cons e r z=>
  intro m i h
  cases m with
  | nil=>simp at h
  | cons p q=>
   simp only[List.map_cons,List.cons.injEq,Prod.mk.injEq] at h
   obtain ⟨⟨d,g⟩,f⟩:=h
   simp only[Instr.findNow,d,Instr.sameNow,Rm]
   by_cases a:p.1=k
   ·have c:decide (k=p.1)=true:=by simp[a]
    simp only[c]
    refine ⟨_,rfl,by simp[L9,a,g],?_,by simp⟩
    intro j v b
    cases b
    refine ⟨Nat.le_refl _,⟨e,by simp,by rw[d,a]⟩,fun u=>?_⟩
    simp[Xg,a,f]
   ·have c:decide (k=p.1)=false:=by simp;exact fun e=>a e.symm
    simp only[c]
    obtain ⟨C,o,y,n,A⟩:=z q (i+1) f
    refine ⟨C,o,by simp[L9,a,y],?_,?_⟩
    ·intro j v b
     obtain ⟨D,t,s⟩:=n j v b
     refine ⟨by omega,by rw[show j-i=(j-(i+1))+1 by omega];simpa using t,fun u=>?_⟩
     have:=s u
     rw[show j-i=(j-(i+1))+1 by omega]
     simp[Xg,a,d,g,this]
    ·intro l u
     simp[Xg,a,A l u]
theorem B3 {t:TypeId} (a:P.underlying t=some .string) (b:Bool) (k:List UInt8) (w:World):(Instr.checkKey b 10000 t (S k)).run P w= .ok () w:=by
 unfold Instr.checkKey
 simp[run_underlying a]
theorem Q15 {t g f:TypeId} {sz by_:Nat} {z:Value} [tm:TM P t g f] [tz:TZ P f sz by_ z] (c:P.underlying g=some .string) {r:Nat} {m:List (List UInt8×Value)} (j:N0 (w.heap[r]?) m) (k:List UInt8):
 lookup P t (.map (some r)) (S k) true w K=K (match L9 m k with | some v=> .tuple #[v, .bool true] | none=> .tuple #[z, .bool false]) w:=by
 obtain ⟨es,a,l,n,y,q⟩:=j
 obtain ⟨o,d,b,s,A⟩:=Rl k es.toList m 0 n
 unfold lookup
 refine X9 ?_
 simp only[Instr.lookup,Sem.run_bind,run_underlying tm.h,Result.andThen_ok,Instr.findKey,run_underlying c,d,B3 c]
 have i:(getObj r).run P w= .ok (.map es a) w:=by simp[getObj,Sem.run,l]
 simp only[i,Result.andThen_ok,Sem.run_bind,Sem.run_pure,B3 c,run_underlying c,d]
 cases o with
 | none=>simp at b;rw[←b];simp[Yc tz]
 | some p=>simp at b;rw[←b];simp
theorem Q34 {t d c:TypeId} {sz by_:Nat} {z:Value} [tm:TM P t d c] [tz:TZ P c sz by_ z] (f:P.underlying d=some .string) {r:Nat} {m:List (List UInt8×Value)} (j:N0 (w.heap[r]?) m) (k:List UInt8):
 lookup P t (.map (some r)) (S k) false w K=K ((L9 m k).getD z) w:=by
 obtain ⟨es,a,l,n,y,q⟩:=j
 obtain ⟨o,g,b,s,A⟩:=Rl k es.toList m 0 n
 unfold lookup
 refine X9 ?_
 have i:(getObj r).run P w= .ok (.map es a) w:=by simp[getObj,Sem.run,l]
 simp only[Instr.lookup,Sem.run_bind,run_underlying tm.h,Result.andThen_ok,Instr.findKey,run_underlying f,g,B3 f,i,Sem.run_pure]
 cases o with
 | none=>simp at b;rw[←b];simp[Yc tz]
 | some p=>simp at b;rw[←b];simp
def E2 (σ:Q4) (w:World) (r:Nat) (m:List (List UInt8×Value)):Prop:=σ r=none∧N0 (w.heap[r]?) m
def I9 (σ:Q4) (r:Nat) (m:List (List UInt8×Value)):Prop:=N0 (σ r) m
theorem I9.is {σ:Q4} {r:Nat} {m:List (List UInt8×Value)} (h:I9 σ r m) (d:X4 w σ):N0 (w.heap[r]?) m:=by
 obtain ⟨es,a,b,c⟩:=h
 exact ⟨es,a,d _ _ b,c⟩
theorem I9.le {σ σ':Q4} {r:Nat} {m:List (List UInt8×Value)} (h:I9 σ r m) (f: ∀b o,σ b=some o→σ' b=some o):I9 σ' r m:=by
 obtain ⟨es,a,c,d⟩:=h
 exact ⟨es,a,f _ _ c,d⟩
theorem I9.up {σ σ':Q4} {r:Nat} {m:List (List UInt8×Value)} (h:I9 σ r m) (a:Stp w σ w' σ'):I9 σ' r m:=h.le a.le
theorem E2.lt {σ:Q4} {r:Nat} {m:List (List UInt8×Value)} (h:E2 σ w r m):r<w.heap.size:=by
 obtain ⟨_,es,a,b,_⟩:=h
 exact (Array.getElem?_eq_some_iff.1 b).1
theorem E2.up {σ σ':Q4} {r:Nat} {m:List (List UInt8×Value)} (h:E2 σ w r m) (b:Stp w σ w' σ'):E2 σ' w' r m:=by
 have a:=h.lt
 exact ⟨(b.old r a).trans h.1,(b.bel.block r a).symm▸h.2⟩
theorem Tz {t:TypeId} {σ:Q4} (a:X4 w σ) (h: ∀r w',w.heap.size≤r→Stp w σ w' σ→E2 σ w' r []→K (.map (some r)) w'):Ru P t none w K:=by
 unfold Ru
 rw[X9 (v:= .map (some w.heap.size)) (w':=w.alloc (.map #[] 0)) (by simp[Instr.makeMap])]
 exact h _ _ (Nat.le_refl _) (Stp.own a _) ⟨a.none (Nat.le_refl _), #[],0,heap_alloc_new w _,rfl,by simp,by simp⟩
theorem E2.keep {σ σ0:Q4} {r:Nat} {m:List (List UInt8×Value)} (h:E2 σ w r m) (c:Stp w0 σ0 w σ) (g:w0.heap.size≤r): ∃σ',Stp w0 σ0 w σ'∧I9 σ' r m∧(∀k o,σ k=some o→σ' k=some o)∧(∀k,k≠r→σ' k=σ k):=by
 obtain ⟨b,es,a,d,f⟩:=h
 exact ⟨σ.put r (.map es a),c.put b g d,⟨es,a,by simp[Q4.put],f⟩,Q4.put_le c.sat b _,fun k i=>by simp only[Q4.put,if_neg i]⟩
theorem Dh {t V X:TypeId} [tm:TM P t V X] (A:P.underlying V=some .string) {σ:Q4} {r:Nat} {m:List (List UInt8×Value)} (hm:E2 σ w r m) (k:List UInt8) (v:Value)
 (h: ∀w',Upd w r w'→E2 σ w' r (Xg m k v)→K undef w'):mapUpdate P t (.map (some r)) (S k) v w K:=by
 obtain ⟨M,es,d,E,U,O,C⟩:=hm
 obtain ⟨r',J,q2,W,q4⟩:=Rl k es.toList m 0 U
 have H:(getObj r).run P w= .ok (.map es d) w:=by simp[getObj,Sem.run,E]
 have Z:=(Array.getElem?_eq_some_iff.1 E).1
 have l: ∀o,o=Obj.map es d∨True→(∀c e f,o≠ .cells c e f)→(setObj r o).run P w= .ok () {w with heap:=w.heap.setIfInBounds r o}:=by
  intro o _ _
  simp[setObj,Sem.run,E]
 have s: ∀o,Upd w r {w with heap:=w.heap.setIfInBounds r o}:=fun o=>⟨rfl,rfl,rfl,by simp,fun k A=>by simp only[Array.getElem?_setIfInBounds];rw[if_neg (by omega)]⟩
 have z: ∀o,({w with heap:=w.heap.setIfInBounds r o}:World).heap[r]? =some o:=fun o=>by simp[Array.getElem?_setIfInBounds,Z]
 unfold mapUpdate
 cases r' with
 | none=>
  rw[Ng (w':={w with heap:=w.heap.setIfInBounds r (.map (es.push {key:=S k,val:=v,born:=d}) (d+1))}) (by
   simp only[Instr.mapUpdate,Sem.run_bind,run_underlying tm.h,Result.andThen_ok,Instr.findKey,run_underlying A,J,B3 A,H,Sem.run_pure]
   exact l _ (.inr trivial) (by intros;simp))]
  refine h _ (s _) ⟨M,_,_,z _,?_,?_,?_⟩
  ·rw[q4 rfl];simp[U]
  ·simp only[Array.toList_push,List.map_append,List.map_cons,List.map_nil]
   rw[List.pairwise_append]
   refine ⟨O,by simp,?_⟩
   intro a ha b L
   simp at L;subst L
   obtain ⟨e,q,rfl⟩:=List.mem_map.1 ha
   exact C e q
  ·intro e q
   simp at q
   rcases q with q | rfl
   ·have:=C e (by simpa using q);omega
   ·simp
 | some p=>
  obtain ⟨j,u⟩:=p
  obtain ⟨z1,Y,N⟩:=W j u rfl
  obtain ⟨e,Q,e2⟩:=Y
  simp only[Nat.sub_zero] at Q N
  have g:((es.modify j fun e=>{e with key:=S k,val:=v}).toList.map (·.born))=es.toList.map (·.born):=by
   apply List.ext_getElem?
   intro i
   simp only[Array.toList_modify,List.getElem?_map,List.getElem?_modify]
   by_cases D:j=i<;>cases es.toList[i]? <;>simp[D]
  have n:(Instr.keyThatStays (S k) (S k)).run P w= .ok (S k) w:=by
   simp[Instr.keyThatStays,Instr.sameBits,Rm]
  rw[Ng (w':={w with heap:=w.heap.setIfInBounds r (.map (es.modify j fun e=>{e with key:=S k,val:=v}) d)}) (by
   simp only[Instr.mapUpdate,Sem.run_bind,run_underlying tm.h,Result.andThen_ok,Instr.findKey,run_underlying A,J,B3 A,H,Sem.run_pure]
   rw[show ((es[j]?).map (·.key)).getD (S k)=S k by rw[←Array.getElem?_toList,Q];simp[e2]]
   simp only[n,Result.andThen_ok]
   exact l _ (.inr trivial) (by intros;simp))]
  refine h _ (s _) ⟨M,_,_,z _,?_,?_,?_⟩
  ·simp only[Array.toList_modify];exact N v
  ·rw[g];exact O
  ·intro x hx
   have:x.born∈es.toList.map (·.born):=by rw[←g];exact List.mem_map.2 ⟨x,hx,rfl⟩
   obtain ⟨y,hy,e⟩:=List.mem_map.1 this
   rw[←e];exact C y hy
end Go.Emb

namespace Go.Emb
open Go.RowKit
variable {P : Program} {w w0 w1 w' w'' : World} {K : Value → World → Prop}
theorem Z3 {c b:Bool} {a:World→(Value→World→Prop)→Prop} (d:c=b→a w K) (e:c=(!b)→K undef w):Q0 (.bool c) b w a K:=by
 cases c<;>cases b
 ·rw[Uz];exact d rfl
 ·rw[Ub];exact e rfl
 ·rw[Pq];exact e rfl
 ·rw[I8];exact d rfl
theorem Q5 {c:Bool} {t e:Prop} (a:c=true→t) (b:c=false→e):X1 (.bool c) t e:=by
 cases c
 ·rw[Vf];exact b rfl
 ·rw[Nh];exact a rfl
theorem Q8 {α:Type} {R:Q4→α→List Value→Prop} {sz:Nat} {σ:Q4} {v:Value} {xs:List α} {a e t:TypeId} {cs:List Bool} [ts:TS P a e] (h:Sl sz R σ v xs) (b:K (I xs.length) w):X5 P .len [a] t cs [v] w K:=by
 rw[X1C h];exact b
structure Kpt (D : Nat → Prop) (w w' : World) : Prop where
  os : w'.os = w.os
  tape : w'.tape = w.tape
  output : w'.output = w.output
  size : w.heap.size ≤ w'.heap.size
  block : ∀ k, k < w.heap.size → ¬ D k → w'.heap[k]? = w.heap[k]?
theorem Kpt.refl {D:Nat→Prop}:Kpt D w w:=⟨rfl,rfl,rfl,Nat.le_refl _,fun _ _ _=>rfl⟩
theorem Kpt.trans {D:Nat→Prop} (h:Kpt D w w') (k:Kpt D w' w''):Kpt D w w'':=
 ⟨k.os.trans h.os,k.tape.trans h.tape,k.output.trans h.output,Nat.le_trans h.size k.size,fun i a b=>(k.block i (Nat.lt_of_lt_of_le a h.size) b).trans (h.block i a b)⟩
theorem Kpt.of_below {D:Nat→Prop} (h:Below w.heap.size w w'):Kpt D w w':=⟨h.os,h.tape,h.output,h.size,fun k a _=>h.block k a⟩
theorem Kpt.of_grown {D:Nat→Prop} {row:Option Nat} (h:w.grownBy w' row) (b: ∀k,row=some k→D k):Kpt D w w':=⟨h.os,h.tape,h.output,h.size,fun k c a=>h.block k c (fun e=>a (b k e.symm))⟩
theorem Kpt.of_upd {D:Nat→Prop} {b:Nat} (h:Upd w b w') (a:D b):Kpt D w w':=⟨h.os,h.tape,h.output,by rw[h.size];exact Nat.le_refl _,fun k d c=>h.block k (fun e=>c (e▸a))⟩
theorem Kpt.mono {D a:Nat→Prop} (h:Kpt D w w') (d: ∀k,k<w.heap.size→D k→a k):Kpt a w w':=⟨h.os,h.tape,h.output,h.size,fun k b c=>h.block k b (fun e=>c (d k b e))⟩
theorem Kpt.below {D:Nat→Prop} (h:Kpt D w w') (a: ∀k,¬D k):Below w.heap.size w w':=⟨h.os,h.tape,h.output,h.size,fun k b=>h.block k b (a k)⟩
theorem Stp.kp {σ0 σ:Q4} {D:Nat→Prop} (a:Stp w0 σ0 w σ) (b:Kpt D w w') (f: ∀k,D k→w0.heap.size≤k∧σ k=none):Stp w0 σ0 w' σ:=by
 refine ⟨⟨b.os.trans a.bel.os,b.tape.trans a.bel.tape,b.output.trans a.bel.output,Nat.le_trans a.bel.size b.size,fun k c=>?_⟩,?_,a.le,a.old⟩
 ·refine (b.block k (Nat.lt_of_lt_of_le c a.bel.size) ?_).trans (a.bel.block k c)
  intro e;have:=(f k e).1;omega
 ·intro k o d
  refine (b.block k (a.sat.lt d) ?_).trans (a.sat k o d)
  intro e;rw[(f k e).2] at d;cases d
theorem Z5.kp {σ:Q4} {D:Nat→Prop} {k:Nat} {cs:List Value} (h:Z5 σ w k cs) (f:Kpt D w w') (a: ¬D k):Z5 σ w' k cs:=by
 have d:=h.lt
 obtain ⟨b,e,c⟩:=h
 exact ⟨b,e,(f.block k d a).trans c⟩
theorem E2.kp {σ:Q4} {D:Nat→Prop} {r:Nat} {m:List (List UInt8×Value)} (h:E2 σ w r m) (b:Kpt D w w') (a: ¬D r):E2 σ w' r m:=
 ⟨h.1,(b.block r h.lt a).symm▸h.2⟩
theorem V8.kp {α:Type} {R:Q4→α→List Value→Prop} {B sz:Nat} {e:TypeId} {σ:Q4} {v:Value} {xs:List α} {D:Nat→Prop} (h:V8 B e sz R σ w v xs) (o:Kpt D w w') (c: ∀k,v.ownBlock=some k→ ¬D k):V8 B e sz R σ w' v xs:=by
 obtain ⟨cells,i,n,m⟩:=h
 refine ⟨cells,⟨i.1,?_⟩,n,m⟩
 rcases i.2 with j | ⟨g,d,b,rfl,l,f,a⟩
 ·exact .inl j
 ·refine .inr ⟨g,d,b,rfl,l,?_,a⟩
  rw[o.block g (Array.getElem?_eq_some_iff.1 f).1 (c g rfl)];exact f
theorem bt {w w1 b:World} (a:Below w.heap.size w w1) (c:Below w1.heap.size w1 b):Below w.heap.size w b:=a.trans (c.mono a.size)
abbrev J0:Nat:=140737488351232
def Y1 (_:Q4) (s:List UInt8) (cs:List Value):Prop:=cs=[S s]∧s.length≤J0
instance:Rep Y1:=⟨fun _ h=>h,fun h u hu=>by rw[h.1] at hu;simp at hu;subst hu;rfl⟩
def B5 (_:Q4) (n:Int) (cs:List Value):Prop:=cs=[I n]∧ -9223372036854775808≤n∧n≤9223372036854775807
instance:Rep B5:=⟨fun _ h=>h,fun h u hu=>by rw[h.1] at hu;simp at hu;subst hu;rfl⟩
def Q6S (_:Q4) (b:Bool) (cs:List Value):Prop:=cs=[.bool b]
instance:Rep Q6S:=⟨fun _ h=>h,fun h u hu=>by rw[h] at hu;simp at hu;subst hu;rfl⟩
def UpI (N:Nat) (a:Nat→World→Prop) (x:Value) (w:World):Prop:= ∃n:Nat,x=I n∧n≤N∧a n w
def UpM (N:Nat) (x:Value):Nat:=match x with | .int _ n=>N-n.toNat | _=>0
theorem J4 {A:(Value→World→Prop)→Value→(Nat→Value)→World→Prop} (N:Nat) (a:Nat→World→Prop) (f:a 0 w)
 (b: ∀n w d,n≤N→a n w→A (fun y w'=>UpI N a y w'∧UpM N y<UpM N (I n)) (I n) d w):lp (α:=Value) (.int .i64 0) w A:=by
 refine Jb (UpI N a) (fun x _=>UpM N x) ⟨0,rfl,Nat.zero_le _,f⟩ ?_
 rintro _ d w' ⟨n,rfl,c,e⟩
 exact b n w' d c e
theorem Y3 {N n:Nat} {a:Nat→World→Prop} (d:N≤9223372036854775807) (b:n<N) (c:a (n+1) w):UpI N a (.int .i64 (IntKind.i64.wrap (n+1))) w∧UpM N (.int .i64 (IntKind.i64.wrap (n+1)))<UpM N (I n):=by
 rw[C4 (by omega) (by omega)]
 exact ⟨⟨n+1,rfl,b,c⟩,by simp only[UpM];omega⟩
def Sx {α:Type} (N:Nat) (a:Nat→α→World→Prop) (x:α×Value) (w:World):Prop:= ∃n:Nat,x.2=I n∧n≤N∧a n x.1 w
def Wg {α:Type} (N:Nat) (x:α×Value):Nat:=UpM N x.2
theorem D5 {α:Type} {A:(α×Value→World→Prop)→α×Value→(Nat→Value)→World→Prop} {a:α} (N:Nat) (b:Nat→α→World→Prop) (h:b 0 a w)
 (c: ∀n a w d,n≤N→b n a w→A (fun y w'=>Sx N b y w'∧Wg N y<Wg N (a,I n)) (a,I n) d w):lp (α:=α×Value) (a, .int .i64 0) w A:=by
 refine Jb (Sx N b) (fun x _=>Wg N x) ⟨0,rfl,Nat.zero_le _,h⟩ ?_
 rintro ⟨a,x⟩ d w' ⟨n,f,g,e⟩
 simp only at f e
 subst f
 exact c n a w' d g e
theorem Z6 {α:Type} {a c:α} {N n:Nat} {b:Nat→α→World→Prop} (f:N≤9223372036854775807) (d:n<N) (e:b (n+1) c w):Sx N b (c, .int .i64 (IntKind.i64.wrap (n+1))) w∧Wg N (c, .int .i64 (IntKind.i64.wrap (n+1)))<Wg N (a,I n):=by
 rw[C4 (by omega) (by omega)]
 exact ⟨⟨n+1,rfl,d,e⟩,by simp only[Wg,UpM];omega⟩
theorem W6 {α:Type} {R:Q4→α→List Value→Prop} {sz:Nat} {σ:Q4} {v:Value} {xs:List α} {t e:TypeId} {by_:Nat} {z:Value} [TS P t e] [TZ P e sz by_ z] (h:Sl sz R σ v xs) {n:Nat} (b:n<xs.length)
 (g: ∀a cs,Z2 σ a cs→cs.length=sz→R σ xs[n] cs→K (.pointer (some a)) w):indexAddr P t v (I n) w K:=
 X2d h (by omega) (by simpa using b) (fun a cs d f c=>g a cs d f (by simpa using c))
theorem Y4 {t:TypeId} {sz by_:Nat} {z:Value} {A:Value→Value→World→Prop} [tz:TZ P t sz by_ z] {σ:Q4} {cs:List Value} (l:X4 w σ) (m:z.cells.size=sz) (k:cs.length=sz) (o: ∀u∈cs,u.oneCell'=true)
 (h: ∀a w' c,Stp w σ w' c→Z2 c a cs→A (.pointer (some a)) undef w'):W7 P t w (fun p w=>Z4 P t p (.agg cs.toArray) w (fun u w=>A p u w)):=by
 refine Ha l fun b w1 e r f=>?_
 refine sta f (by simpa using m) k (by rw[List.all_toArray];exact List.all_eq_true.2 o) fun n i d=>?_
 have q:Stp w σ n σ:=i.stp r e f.1
 obtain ⟨c,j,g,_⟩:=d.keep q e
 exact h _ _ _ j g
theorem U3 {t:TypeId} {by_:Nat} {z:Value} {A:Value→Value→World→Prop} [tz:TZ P t 1 by_ z] {σ:Q4} {v:Value} (n:X4 w σ) (o:z.cells.size=1) (m:v.cells= #[v]) (r:v.oneCell'=true)
 (h: ∀a w' d,Stp w σ w' d→Z2 d a [v]→A (.pointer (some a)) undef w'):W7 P t w (fun p w=>Z4 P t p v w (fun u w=>A p u w)):=by
 refine Ha n fun b w1 f y g=>?_
 have l:z.cells.toList.length=1:=by simpa using o
 refine st0 g (by omega) m r fun q j c=>?_
 have s:Stp w σ q σ:=j.stp y f g.1
 have e:z.cells.toList.set 0 v=[v]:=by
  match hzl:z.cells.toList,l with
  | [x],_=>rfl
 rw[e] at c
 obtain ⟨d,k,i,_⟩:=c.keep s f
 exact h _ _ _ k i
theorem M0 {α:Type} {xs:List α} {p:α→Bool} {n:Nat} (h:n<xs.length):(xs.take (n+1)).any p=((xs.take n).any p||p xs[n]):=by
 rw[List.take_add_one,List.getElem?_eq_getElem h,List.any_append];simp
theorem C5 {α:Type} {xs:List α} {p:α→Bool} {n:Nat} (h:n<xs.length) (a:p xs[n]=true):xs.any p=true:=List.any_eq_true.2 ⟨_,List.getElem_mem h,a⟩
theorem D3 {α:Type} {xs:List α} {p:α→Bool} {n:Nat} (h: ¬n<xs.length):(xs.take n).any p=xs.any p:=by rw[List.take_of_length_le (by omega)]
end Go.Emb

namespace Go.Hm
open Go.Kd
structure Fld where
  name : X0
  kind : X0
  tr : Bool
deriving DecidableEq
structure Ins where
  op : X0
  n : Int
  s : X0
deriving DecidableEq
structure Cat where
  frm : Int
  to : Int
  at_ : Int
  cls : X0
deriving DecidableEq
structure Met where
  name : X0
  params : List X0
  result : X0
  abs : Bool
  locals : Int
  code : List Ins
  catches : List Cat
deriving DecidableEq
structure Cla where
  name : X0
  super : X0
  like : List X0
  iface : Bool
  abs : Bool
  fin : Bool
  fields : List Fld
  methods : List Hm.Met
deriving DecidableEq
def Fld.zero:Fld:=⟨[],[],false⟩
def Met.zero:Hm.Met:=⟨[],[],[],false,0,[],[]⟩
def Cla.zero:Cla:=⟨[],[],[],false,false,false,[],[]⟩
end Go.Hm

namespace Go.Emb
open Go.RowKit Go.Hm
abbrev Et (n:Int):Prop:= -9223372036854775808≤n∧n≤9223372036854775807
def E5 (_:Q4) (f:Fld) (cs:List Value):Prop:=cs=[S f.name,S f.kind, .bool f.tr]∧f.name.length≤J0∧f.kind.length≤J0
def C9 (_:Q4) (i:Ins) (cs:List Value):Prop:=cs=[S i.op,I i.n,S i.s]∧i.op.length≤J0∧Et i.n∧i.s.length≤J0
def Zt (_:Q4) (c:Cat) (cs:List Value):Prop:=cs=[I c.frm,I c.to,I c.at_,S c.cls]∧Et c.frm∧Et c.to∧Et c.at_∧c.cls.length≤J0
def M6 (σ:Q4) (m:Hm.Met) (cs:List Value):Prop:= ∃pv b a,cs=[S m.name,pv,S m.result, .bool m.abs,I m.locals,b,a]∧Sl 1 Y1 σ pv m.params∧Sl 3 C9 σ b m.code∧Sl 4 Zt σ a m.catches∧m.name.length≤J0∧m.result.length≤J0∧Et m.locals
def U8 (σ:Q4) (c:Cla) (cs:List Value):Prop:= ∃b a mv,cs=[S c.name,S c.super,b, .bool c.iface, .bool c.abs, .bool c.fin,a,mv]∧Sl 1 Y1 σ b c.like∧Sl 3 E5 σ a c.fields∧Sl 7 M6 σ mv c.methods∧c.name.length≤J0∧c.super.length≤J0
theorem G5 {α:Type} {sz:Nat} {R:Q4→α→List Value→Prop} {σ:Q4} {v:Value} {xs:List α} (h:Sl sz R σ v xs):v.oneCell'=true:=by
 obtain ⟨a,b,rfl,_⟩:=h;rfl
instance:Rep E5:=⟨fun _ h=>h,fun h u hu=>by rw[h.1] at hu;simp at hu;rcases hu with rfl | rfl | rfl<;>rfl⟩
instance:Rep C9:=⟨fun _ h=>h,fun h u hu=>by rw[h.1] at hu;simp at hu;rcases hu with rfl | rfl | rfl<;>rfl⟩
instance:Rep Zt:=⟨fun _ h=>h,fun h u hu=>by rw[h.1] at hu;simp at hu;rcases hu with rfl | rfl | rfl | rfl<;>rfl⟩
instance:Rep M6:=⟨fun hk ⟨pv,cv,hv,h1,h2,h3,h4,h5⟩=>⟨pv,cv,hv,h1,h2.le hk,h3.le hk,h4.le hk,h5⟩,fun ⟨pv,cv,hv,h1,h2,h3,h4,h5⟩ u hu=>by
 rw[h1] at hu;simp at hu;rcases hu with rfl | rfl | rfl | rfl | rfl | rfl | rfl
 ·rfl
 ·exact G5 h2
 ·rfl
 ·rfl
 ·rfl
 ·exact G5 h3
 ·exact G5 h4⟩
instance:Rep U8:=⟨fun hk ⟨pv,cv,hv,h1,h2,h3,h4,h5⟩=>⟨pv,cv,hv,h1,h2.le hk,h3.le hk,h4.le hk,h5⟩,fun ⟨pv,cv,hv,h1,h2,h3,h4,h5⟩ u hu=>by
 rw[h1] at hu;simp at hu;rcases hu with rfl | rfl | rfl | rfl | rfl | rfl | rfl | rfl
 ·rfl
 ·rfl
 ·exact G5 h2
 ·rfl
 ·rfl
 ·rfl
 ·exact G5 h3
 ·exact G5 h4⟩
end Go.Emb

namespace Go.Proofs.YtfppjenblllfaaaGreatDoor
open Go.Emb
instance z_x:TZ P T.x 1 0 (.tuple #[]):=⟨by kernel_rfl⟩
instance g_x:TG P T.x false:=⟨by kernel_rfl⟩
instance z_int64:TZ P T.a6 1 8 (.int .i64 0):=⟨by kernel_rfl⟩
instance g_int64:TG P T.a6 false:=⟨by kernel_rfl⟩
instance z_int:TZ P T.e 1 8 (.int .i64 0):=⟨by kernel_rfl⟩
instance g_int:TG P T.e false:=⟨by kernel_rfl⟩
instance z_bool:TZ P T.n 1 1 (.bool false):=⟨by kernel_rfl⟩
instance g_bool:TG P T.n false:=⟨by kernel_rfl⟩
instance z_uint8:TZ P T.y 1 1 (.int .u8 0):=⟨by kernel_rfl⟩
instance g_uint8:TG P T.y false:=⟨by kernel_rfl⟩
instance z_string:TZ P T.b 1 16 (.string ⟨#[]⟩):=⟨by kernel_rfl⟩
instance g_string:TG P T.b false:=⟨by kernel_rfl⟩
instance z_uintptr:TZ P T.ao 1 8 (.int .u64 0):=⟨by kernel_rfl⟩
instance g_uintptr:TG P T.ao false:=⟨by kernel_rfl⟩
instance z_int32:TZ P T.ag 1 4 (.int .i32 0):=⟨by kernel_rfl⟩
instance g_int32:TG P T.ag false:=⟨by kernel_rfl⟩
instance z_S_string:TZ P T.d 1 24 (.slice none 0 0):=⟨by kernel_rfl⟩
instance g_S_string:TG P T.d false:=⟨by kernel_rfl⟩
instance s_S_string:TS P T.d 9:=⟨by kernel_rfl⟩
instance z_api_Shape:TZ P T.h 3 56 (.agg #[.bool false, .slice none 0 0, .slice none 0 0]):=⟨by kernel_rfl⟩
instance g_api_Shape:TG P T.h true:=⟨by kernel_rfl⟩
instance f_api_Shape_0:TF P T.h 0 0 4:=⟨by kernel_rfl⟩
instance f_api_Shape_1:TF P T.h 1 1 22:=⟨by kernel_rfl⟩
instance f_api_Shape_2:TF P T.h 2 2 22:=⟨by kernel_rfl⟩
instance z_P_hier_Table:TZ P T.r 1 8 (.pointer none):=⟨by kernel_rfl⟩
instance g_P_hier_Table:TG P T.r false:=⟨by kernel_rfl⟩
instance z_S_api_Class:TZ P T.g 1 24 (.slice none 0 0):=⟨by kernel_rfl⟩
instance g_S_api_Class:TG P T.g false:=⟨by kernel_rfl⟩
instance s_S_api_Class:TS P T.g 82:=⟨by kernel_rfl⟩
instance z_api_Errno:TZ P T.s 1 8 (.int .i64 0):=⟨by kernel_rfl⟩
instance g_api_Errno:TG P T.s false:=⟨by kernel_rfl⟩
instance z_S_api_Instr:TZ P T.k 1 24 (.slice none 0 0):=⟨by kernel_rfl⟩
instance g_S_api_Instr:TG P T.k false:=⟨by kernel_rfl⟩
instance s_S_api_Instr:TS P T.k 42:=⟨by kernel_rfl⟩
instance z_S_api_Catch:TZ P T.o 1 24 (.slice none 0 0):=⟨by kernel_rfl⟩
instance g_S_api_Catch:TG P T.o false:=⟨by kernel_rfl⟩
instance s_S_api_Catch:TS P T.o 159:=⟨by kernel_rfl⟩
instance z_api_Method:TZ P T.c 7 120 (.agg #[.string ⟨#[]⟩, .slice none 0 0, .string ⟨#[]⟩, .bool false, .int .i64 0, .slice none 0 0, .slice none 0 0]):=⟨by kernel_rfl⟩
instance g_api_Method:TG P T.c true:=⟨by kernel_rfl⟩
instance f_api_Method_0:TF P T.c 0 0 9:=⟨by kernel_rfl⟩
instance f_api_Method_1:TF P T.c 1 1 22:=⟨by kernel_rfl⟩
instance f_api_Method_2:TF P T.c 2 2 9:=⟨by kernel_rfl⟩
instance f_api_Method_3:TF P T.c 3 3 4:=⟨by kernel_rfl⟩
instance f_api_Method_4:TF P T.c 4 4 3:=⟨by kernel_rfl⟩
instance f_api_Method_5:TF P T.c 5 5 37:=⟨by kernel_rfl⟩
instance f_api_Method_6:TF P T.c 6 6 38:=⟨by kernel_rfl⟩
instance z_api_Instr:TZ P T.l 3 40 (.agg #[.string ⟨#[]⟩, .int .i64 0, .string ⟨#[]⟩]):=⟨by kernel_rfl⟩
instance g_api_Instr:TG P T.l true:=⟨by kernel_rfl⟩
instance f_api_Instr_0:TF P T.l 0 0 9:=⟨by kernel_rfl⟩
instance f_api_Instr_1:TF P T.l 1 1 2:=⟨by kernel_rfl⟩
instance f_api_Instr_2:TF P T.l 2 2 9:=⟨by kernel_rfl⟩
instance z_A2_api_Shape:TZ P T.al 6 112 (.agg #[.bool false, .slice none 0 0, .slice none 0 0, .bool false, .slice none 0 0, .slice none 0 0]):=⟨by kernel_rfl⟩
instance g_A2_api_Shape:TG P T.al true:=⟨by kernel_rfl⟩
instance a_A2_api_Shape:TA P T.al 2 24:=⟨by kernel_rfl⟩
instance z_func_string_bool:TZ P T.z 1 8 .nilFunc:=⟨by kernel_rfl⟩
instance g_func_string_bool:TG P T.z false:=⟨by kernel_rfl⟩
instance z_S_int:TZ P T.t 1 24 (.slice none 0 0):=⟨by kernel_rfl⟩
instance g_S_int:TG P T.t false:=⟨by kernel_rfl⟩
instance s_S_int:TS P T.t 3:=⟨by kernel_rfl⟩
instance z_step_doer:TZ P T.u 15 232 (.agg #[.pointer none, .string ⟨#[]⟩, .slice none 0 0, .string ⟨#[]⟩, .bool false, .int .i64 0, .slice none 0 0, .slice none 0 0, .string ⟨#[]⟩, .int .i64 0, .string ⟨#[]⟩, .bool false, .slice none 0 0, .slice none 0 0, .int .i64 0]):=⟨by kernel_rfl⟩
instance g_step_doer:TG P T.u true:=⟨by kernel_rfl⟩
instance f_step_doer_0:TF P T.u 0 0 25:=⟨by kernel_rfl⟩
instance f_step_doer_1:TF P T.u 1 1 40:=⟨by kernel_rfl⟩
instance f_step_doer_2:TF P T.u 2 8 42:=⟨by kernel_rfl⟩
instance f_step_doer_3:TF P T.u 3 11 24:=⟨by kernel_rfl⟩
instance f_step_doer_4:TF P T.u 4 14 31:=⟨by kernel_rfl⟩
instance z_M_string_funcP_step_doer:TZ P T.j 1 8 (.map none):=⟨by kernel_rfl⟩
instance g_M_string_funcP_step_doer:TG P T.j false:=⟨by kernel_rfl⟩
instance m_M_string_funcP_step_doer:TM P T.j 9 69:=⟨by kernel_rfl⟩
instance z_M_string_int:TZ P T.w 1 8 (.map none):=⟨by kernel_rfl⟩
instance g_M_string_int:TG P T.w false:=⟨by kernel_rfl⟩
instance m_M_string_int:TM P T.w 9 3:=⟨by kernel_rfl⟩
instance z_hier_Table:TZ P T.v 2 32 (.agg #[.slice none 0 0, .map none]):=⟨by kernel_rfl⟩
instance g_hier_Table:TG P T.v true:=⟨by kernel_rfl⟩
instance f_hier_Table_0:TF P T.v 0 0 26:=⟨by kernel_rfl⟩
instance f_hier_Table_1:TF P T.v 1 1 76:=⟨by kernel_rfl⟩
instance z_S_api_Field:TZ P T.i 1 24 (.slice none 0 0):=⟨by kernel_rfl⟩
instance g_S_api_Field:TG P T.i false:=⟨by kernel_rfl⟩
instance s_S_api_Field:TS P T.i 89:=⟨by kernel_rfl⟩
instance z_S_api_Method:TZ P T.f 1 24 (.slice none 0 0):=⟨by kernel_rfl⟩
instance g_S_api_Method:TG P T.f false:=⟨by kernel_rfl⟩
instance s_S_api_Method:TS P T.f 40:=⟨by kernel_rfl⟩
instance z_api_Class:TZ P T.a 8 112 (.agg #[.string ⟨#[]⟩, .string ⟨#[]⟩, .slice none 0 0, .bool false, .bool false, .bool false, .slice none 0 0, .slice none 0 0]):=⟨by kernel_rfl⟩
instance g_api_Class:TG P T.a true:=⟨by kernel_rfl⟩
instance f_api_Class_0:TF P T.a 0 0 9:=⟨by kernel_rfl⟩
instance f_api_Class_1:TF P T.a 1 1 9:=⟨by kernel_rfl⟩
instance f_api_Class_2:TF P T.a 2 2 22:=⟨by kernel_rfl⟩
instance f_api_Class_3:TF P T.a 3 3 4:=⟨by kernel_rfl⟩
instance f_api_Class_4:TF P T.a 4 4 4:=⟨by kernel_rfl⟩
instance f_api_Class_5:TF P T.a 5 5 4:=⟨by kernel_rfl⟩
instance f_api_Class_6:TF P T.a 6 6 79:=⟨by kernel_rfl⟩
instance f_api_Class_7:TF P T.a 7 7 80:=⟨by kernel_rfl⟩
instance z_api_Field:TZ P T.m 3 40 (.agg #[.string ⟨#[]⟩, .string ⟨#[]⟩, .bool false]):=⟨by kernel_rfl⟩
instance g_api_Field:TG P T.m true:=⟨by kernel_rfl⟩
instance f_api_Field_0:TF P T.m 0 0 9:=⟨by kernel_rfl⟩
instance f_api_Field_1:TF P T.m 1 1 9:=⟨by kernel_rfl⟩
instance f_api_Field_2:TF P T.m 2 2 4:=⟨by kernel_rfl⟩
instance z_S_S_bool:TZ P T.a1 1 24 (.slice none 0 0):=⟨by kernel_rfl⟩
instance g_S_S_bool:TG P T.a1 false:=⟨by kernel_rfl⟩
instance s_S_S_bool:TS P T.a1 94:=⟨by kernel_rfl⟩
instance z_S_bool:TZ P T.a0 1 24 (.slice none 0 0):=⟨by kernel_rfl⟩
instance g_S_bool:TG P T.a0 false:=⟨by kernel_rfl⟩
instance s_S_bool:TS P T.a0 4:=⟨by kernel_rfl⟩
instance z_A10_string:TZ P T.ai 10 160 (.agg #[.string ⟨#[]⟩, .string ⟨#[]⟩, .string ⟨#[]⟩, .string ⟨#[]⟩, .string ⟨#[]⟩, .string ⟨#[]⟩, .string ⟨#[]⟩, .string ⟨#[]⟩, .string ⟨#[]⟩, .string ⟨#[]⟩]):=⟨by kernel_rfl⟩
instance g_A10_string:TG P T.ai true:=⟨by kernel_rfl⟩
instance a_A10_string:TA P T.ai 10 9:=⟨by kernel_rfl⟩
instance g_strings_asciiSet:TG P T.a4 true:=⟨by kernel_rfl⟩
instance a_strings_asciiSet:TA P T.a4 256 4:=⟨by kernel_rfl⟩
instance z_A6_string:TZ P T.ah 6 96 (.agg #[.string ⟨#[]⟩, .string ⟨#[]⟩, .string ⟨#[]⟩, .string ⟨#[]⟩, .string ⟨#[]⟩, .string ⟨#[]⟩]):=⟨by kernel_rfl⟩
instance g_A6_string:TG P T.ah true:=⟨by kernel_rfl⟩
instance a_A6_string:TA P T.ah 6 9:=⟨by kernel_rfl⟩
instance z_func_int:TZ P T.aj 1 8 .nilFunc:=⟨by kernel_rfl⟩
instance g_func_int:TG P T.aj false:=⟨by kernel_rfl⟩
instance z_M_string_string:TZ P T.q 1 8 (.map none):=⟨by kernel_rfl⟩
instance g_M_string_string:TG P T.q false:=⟨by kernel_rfl⟩
instance m_M_string_string:TM P T.q 9 9:=⟨by kernel_rfl⟩
instance z_func_api_Method_string:TZ P T.a2 1 8 .nilFunc:=⟨by kernel_rfl⟩
instance g_func_api_Method_string:TG P T.a2 false:=⟨by kernel_rfl⟩
instance z_func_api_Method_bool:TZ P T.a8 1 8 .nilFunc:=⟨by kernel_rfl⟩
instance g_func_api_Method_bool:TG P T.a8 false:=⟨by kernel_rfl⟩
instance z_func_string_string:TZ P T.a5 1 8 .nilFunc:=⟨by kernel_rfl⟩
instance g_func_string_string:TG P T.a5 false:=⟨by kernel_rfl⟩
instance z_func_api_Field_string:TZ P T.a3 1 8 .nilFunc:=⟨by kernel_rfl⟩
instance g_func_api_Field_string:TG P T.a3 false:=⟨by kernel_rfl⟩
instance z_func_api_Field_bool:TZ P T.aa 1 8 .nilFunc:=⟨by kernel_rfl⟩
instance g_func_api_Field_bool:TG P T.aa false:=⟨by kernel_rfl⟩
instance z_api_Catch:TZ P T.p 4 40 (.agg #[.int .i64 0, .int .i64 0, .int .i64 0, .string ⟨#[]⟩]):=⟨by kernel_rfl⟩
instance g_api_Catch:TG P T.p true:=⟨by kernel_rfl⟩
instance f_api_Catch_0:TF P T.p 0 0 3:=⟨by kernel_rfl⟩
instance f_api_Catch_1:TF P T.p 1 1 3:=⟨by kernel_rfl⟩
instance f_api_Catch_2:TF P T.p 2 2 3:=⟨by kernel_rfl⟩
instance f_api_Catch_3:TF P T.p 3 3 9:=⟨by kernel_rfl⟩
instance z_func_api_Catch_bool:TZ P T.ab 1 8 .nilFunc:=⟨by kernel_rfl⟩
instance g_func_api_Catch_bool:TG P T.ab false:=⟨by kernel_rfl⟩
instance z_func_api_Instr_bool:TZ P T.ac 1 8 .nilFunc:=⟨by kernel_rfl⟩
instance g_func_api_Instr_bool:TG P T.ac false:=⟨by kernel_rfl⟩
instance z_S_uint8:TZ P T.am 1 24 (.slice none 0 0):=⟨by kernel_rfl⟩
instance g_S_uint8:TG P T.am false:=⟨by kernel_rfl⟩
instance s_S_uint8:TS P T.am 5:=⟨by kernel_rfl⟩
instance z_strings_Builder:TZ P T.ae 2 32 (.agg #[.pointer none, .slice none 0 0]):=⟨by kernel_rfl⟩
instance g_strings_Builder:TG P T.ae true:=⟨by kernel_rfl⟩
instance f_strings_Builder_0:TF P T.ae 0 0 185:=⟨by kernel_rfl⟩
instance f_strings_Builder_1:TF P T.ae 1 1 186:=⟨by kernel_rfl⟩
instance z_P_uint8:TZ P T.ap 1 8 (.pointer none):=⟨by kernel_rfl⟩
instance g_P_uint8:TG P T.ap false:=⟨by kernel_rfl⟩
instance g_A256_uint8:TG P T.an true:=⟨by kernel_rfl⟩
instance a_A256_uint8:TA P T.an 256 5:=⟨by kernel_rfl⟩
instance z_utf8_acceptRange:TZ P T.ad 2 2 (.agg #[.int .u8 0, .int .u8 0]):=⟨by kernel_rfl⟩
instance g_utf8_acceptRange:TG P T.ad true:=⟨by kernel_rfl⟩
instance f_utf8_acceptRange_0:TF P T.ad 0 0 5:=⟨by kernel_rfl⟩
instance f_utf8_acceptRange_1:TF P T.ad 1 1 5:=⟨by kernel_rfl⟩
instance z_A16_utf8_acceptRange:TZ P T.af 32 32 (.agg #[.int .u8 0, .int .u8 0, .int .u8 0, .int .u8 0, .int .u8 0, .int .u8 0, .int .u8 0, .int .u8 0, .int .u8 0, .int .u8 0, .int .u8 0, .int .u8 0, .int .u8 0, .int .u8 0, .int .u8 0, .int .u8 0, .int .u8 0, .int .u8 0, .int .u8 0, .int .u8 0, .int .u8 0, .int .u8 0, .int .u8 0, .int .u8 0, .int .u8 0, .int .u8 0, .int .u8 0, .int .u8 0, .int .u8 0, .int .u8 0, .int .u8 0, .int .u8 0]):=⟨by kernel_rfl⟩
instance g_A16_utf8_acceptRange:TG P T.af true:=⟨by kernel_rfl⟩
instance a_A16_utf8_acceptRange:TA P T.af 16 202:=⟨by kernel_rfl⟩
instance z_code_op:TZ P T.a7 3 24 (.agg #[.string ⟨#[]⟩, .bool false, .bool false]):=⟨by kernel_rfl⟩
instance g_code_op:TG P T.a7 true:=⟨by kernel_rfl⟩
instance f_code_op_0:TF P T.a7 0 0 9:=⟨by kernel_rfl⟩
instance f_code_op_1:TF P T.a7 1 1 4:=⟨by kernel_rfl⟩
instance f_code_op_2:TF P T.a7 2 2 4:=⟨by kernel_rfl⟩
instance g_A42_code_op:TG P T.a9 true:=⟨by kernel_rfl⟩
instance a_A42_code_op:TA P T.a9 42 206:=⟨by kernel_rfl⟩
instance z_S_code_op:TZ P T.ak 1 24 (.slice none 0 0):=⟨by kernel_rfl⟩
instance g_S_code_op:TG P T.ak false:=⟨by kernel_rfl⟩
instance s_S_code_op:TS P T.ak 206:=⟨by kernel_rfl⟩
instance z_uint32:TZ P T.aq 1 4 (.int .u32 0):=⟨by kernel_rfl⟩
instance g_uint32:TG P T.aq false:=⟨by kernel_rfl⟩
instance z_uint64:TZ P T.ar 1 8 (.int .u64 0):=⟨by kernel_rfl⟩
instance g_uint64:TG P T.ar false:=⟨by kernel_rfl⟩
end Go.Proofs.YtfppjenblllfaaaGreatDoor

namespace Go.Emb
theorem aS {p:Prop} (h:p:=by (first | assumption | exact Stp.sat (by assumption) | exact Hst.sat (by assumption))):p:=h
theorem aL {p:Prop} (h:p:=by (first | assumption | exact Sl.lift (by assumption) (by (repeat (first | exact SLe.refl _ | refine SLe.more ?_ (by assumption) | refine SLe.more ?_ (Nxt.le (by assumption)) | refine SLe.step ?_ (by assumption)))) | exact Z2.lift (by assumption) (by (repeat (first | exact SLe.refl _ | refine SLe.more ?_ (by assumption) | refine SLe.more ?_ (Nxt.le (by assumption)) | refine SLe.step ?_ (by assumption)))) | exact I9.lift (by assumption) (by (repeat (first | exact SLe.refl _ | refine SLe.more ?_ (by assumption) | refine SLe.more ?_ (Nxt.le (by assumption)) | refine SLe.step ?_ (by assumption)))) | exact RCl_lift (by assumption) (by (repeat (first | exact SLe.refl _ | refine SLe.more ?_ (by assumption) | refine SLe.more ?_ (Nxt.le (by assumption)) | refine SLe.step ?_ (by assumption)))) | exact RMe_lift (by assumption) (by (repeat (first | exact SLe.refl _ | refine SLe.more ?_ (by assumption) | refine SLe.more ?_ (Nxt.le (by assumption)) | refine SLe.step ?_ (by assumption)))) | exact Glb.lift (by assumption) (by (repeat (first | exact SLe.refl _ | refine SLe.more ?_ (by assumption) | refine SLe.more ?_ (Nxt.le (by assumption)) | refine SLe.step ?_ (by assumption)))) | exact Tab.lift (by assumption) (by (repeat (first | exact SLe.refl _ | refine SLe.more ?_ (by assumption) | refine SLe.more ?_ (Nxt.le (by assumption)) | refine SLe.step ?_ (by assumption)))) | exact RIn_any (by assumption) | exact RFd_any (by assumption) | exact RCa_any (by assumption))):p:=h
theorem aR {p:Prop} (h:p:=by with_unfolding_all rfl):p:=h
theorem aF {p:Prop} (a:p:=by (refine Eq.subst (motive:=fun b=>K b _) ?_ (h _ _ (by (repeat (first | exact Stp.refl (by (first | assumption | exact Stp.sat (by assumption) | exact Hst.sat (by assumption))) | assumption | refine Stp.trans ?_ (by first | assumption | exact Hst.stp (by assumption))))));clear h;(try clear hA);(try clear hB);(try clear hC);first | rfl | ((try simp only[Bool.not_eq_true',Bool.not_eq_false',Bool.not_true,Bool.not_false,Bool.not_eq_true] at*);simp only[*,Mb,reduceIte];done) | (simp[*];done) | simp_all)):p:=a
theorem au {p:Prop} (h:p:=by (first | assumption | (first | assumption | exact Stp.sat (by assumption) | exact Hst.sat (by assumption)) | (first | assumption | exact Sl.lift (by assumption) (by (repeat (first | exact SLe.refl _ | refine SLe.more ?_ (by assumption) | refine SLe.more ?_ (Nxt.le (by assumption)) | refine SLe.step ?_ (by assumption)))) | exact Z2.lift (by assumption) (by (repeat (first | exact SLe.refl _ | refine SLe.more ?_ (by assumption) | refine SLe.more ?_ (Nxt.le (by assumption)) | refine SLe.step ?_ (by assumption)))) | exact I9.lift (by assumption) (by (repeat (first | exact SLe.refl _ | refine SLe.more ?_ (by assumption) | refine SLe.more ?_ (Nxt.le (by assumption)) | refine SLe.step ?_ (by assumption)))) | exact RCl_lift (by assumption) (by (repeat (first | exact SLe.refl _ | refine SLe.more ?_ (by assumption) | refine SLe.more ?_ (Nxt.le (by assumption)) | refine SLe.step ?_ (by assumption)))) | exact RMe_lift (by assumption) (by (repeat (first | exact SLe.refl _ | refine SLe.more ?_ (by assumption) | refine SLe.more ?_ (Nxt.le (by assumption)) | refine SLe.step ?_ (by assumption)))) | exact Glb.lift (by assumption) (by (repeat (first | exact SLe.refl _ | refine SLe.more ?_ (by assumption) | refine SLe.more ?_ (Nxt.le (by assumption)) | refine SLe.step ?_ (by assumption)))) | exact Tab.lift (by assumption) (by (repeat (first | exact SLe.refl _ | refine SLe.more ?_ (by assumption) | refine SLe.more ?_ (Nxt.le (by assumption)) | refine SLe.step ?_ (by assumption)))) | exact RIn_any (by assumption) | exact RFd_any (by assumption) | exact RCa_any (by assumption)) | exact Nat.le_trans (by assumption) (by decide) | omega)):p:=h
end Go.Emb
namespace Go.Proofs.YtfppjenblllfaaaGreatDoor
open Go.Emb
theorem X2t {a:List UInt8} {cs:List Bool} {r:TypeId} {w:World} {K:Value→World→Prop}:X5 P .len [T.b] r cs [S a] w K=K (I a.length) w:=D6 X8
theorem Q6y {d c:Operand} {a b:Bool} {w:World} {K:Value→World→Prop}:Q3 P .eql T.n d c (.bool a) (.bool b) w K=K (.bool (a==b)) w:=Q4J Q1W
theorem Q9Y {d c:Operand} {a b:Bool} {w:World} {K:Value→World→Prop}:Q3 P .neq T.n d c (.bool a) (.bool b) w K=K (.bool (!(a==b))) w:=Q58 Q1W
def Mm:=And.intro @fa <| And.intro @E8 <| And.intro @Qs <| And.intro @X2t <| And.intro @Q6y @Q9Y
def M1:=And.intro Mm Mr
def M2:=And.intro Mm Mp
end Go.Proofs.YtfppjenblllfaaaGreatDoor
