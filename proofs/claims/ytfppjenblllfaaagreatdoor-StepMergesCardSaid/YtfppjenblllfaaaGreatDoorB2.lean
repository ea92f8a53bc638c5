/- Parts of a proof about the given program: its functions as texts of their own, what each computes, plain laws of that. The conditions of each stand in its statement. -/
import Derived.Test.YtfppjenblllfaaaGreatDoorB1
import Derived.Below
import Derived.Maps.AppendAt
set_option linter.unnecessarySimpa false
set_option linter.defProp false
set_option linter.unusedSectionVars false
set_option linter.unusedVariables false
set_option linter.unusedSimpArgs false
set_option maxRecDepth 100000
namespace Go.Proofs.YtfppjenblllfaaaGreatDoor
open Go.Emb
def Mf (d c:Value) (w:World) (K:Value→World→Prop):Prop:= Q3 P .eql T.b (.tmp 7) (.const (.string ⟨#[]⟩)) d (.string ⟨#[]⟩) w fun h w=>Q1 h false w (fun w J=>J c w) fun f w=>Q1 h false w (Q3 P .eql T.b (.tmp 10) (.const (.string ⟨#[]⟩)) f (.string ⟨#[]⟩)) fun p w=>pick P h (.bool true) p w fun l w=>X1 l (K d w) (X5 P .len [T.b] T.e [false] [c] w fun m w=>Q3 P .eql T.e (.tmp 15) (.const (.int .i64 1)) m (.int .i64 1) w fun b w=>Q1 b true w (fun w J=>J c w) fun j w=>Q1 b true w (E5 P T.b j (.int .i64 0)) fun i w=>Q1 b true w (Q3 P .lss T.w (.tmp 19) (.const (.int .u8 128)) i (.int .u8 128)) fun t w=>pick P b t (.bool false) w fun k w=>X1 k (E5 P T.b c (.int .i64 0) w fun r w=>Q0 P F.cP [d,r] w fun g w=>K g w) (Q0 P F.bS [c] w fun e w=>ext P e 0 w fun s w=>ext P e 1 w fun n w=>W4 P T.a4 w fun a w=>Z0 P T.a4 a s w fun _u w=>X1 n (Q0 P F.ai [d,a] w fun q w=>K q w) (Q0 P F.cK [d,c] w fun o w=>K o w)))
theorem Is {a b:Value} {w:World} {K:Value→World→Prop} (h:Mf a b w K):Q0 P F.bn [a,b] w K:=Q9 (List.replicate 12 none) Tryz.func38 rfl (by decide) (by kernel_rfl) h
def Md (l h:Value) (w:World) (K:Value→World→Prop):Prop:= Q3 P .eql T.b (.tmp 6) (.const (.string ⟨#[110,117,108,108]⟩)) h (.string ⟨#[110,117,108,108]⟩) w fun m w=>X1 m (K (.bool true) w) (Q0 P F.bn [h,(.string ⟨#[91,93]⟩)] w fun k w=>Q0 P F.a3 [h] w fun a w=>Q1 a true w (fun w J=>J k w) fun f w=>Q1 a true w (Q0 P F.af [f]) fun e w=>Q1 a true w (fun w J=>J e w) fun b w=>Q1 b false w (fun w J=>J l w) fun j w=>Q1 b false w (fun w J=>J k w) fun g w=>Q1 b false w (Q0 P F.k [j,g]) fun d w=>Q1 a true w (pick P b (.bool true) d) fun c w=>pick P a c (.bool false) w fun i w=>K i w)
theorem Ku {a b:Value} {w:World} {K:Value→World→Prop} (h:Md a b w K):Q0 P F.x [a,b] w K:=Q9 (List.replicate 6 none) Tryz.func20 rfl (by decide) (by kernel_rfl) h
def Zi (c d:Value) (w:World) (K:Value→World→Prop):Prop:= Q3 P .neq T.b (.tmp 4) (.const (.string ⟨#[110,117,108,108]⟩)) c (.string ⟨#[110,117,108,108]⟩) w fun a w=>Q1 a true w (Q2 P T.r d) fun g w=>Q1 a true w (fun w J=>J c w) fun f w=>Q1 a true w (Q0 P F.x [g,f]) fun e w=>pick P a e (.bool false) w fun b w=>K b w
theorem Ed {a b:Value} {w:World} {K:Value→World→Prop} (h:Zi a b w K):Q0 P F.aj [a,b] w K:=Q9 (List.replicate 2 none) Tryz.func105 rfl (by decide) (by kernel_rfl) h
def Zb (a b:Value) (w:World) (K:Value→World→Prop):Prop:= Q2 P T.y b w fun d w=>Z2 P d [a] w fun c w=>Z8 P .not c w fun e w=>K e w
theorem Dv {a b:Value} {w:World} {K:Value→World→Prop} (h:Zb a b w K):Q0 P F.ak [a,b] w K:=Q9 (List.replicate 2 none) Tryz.func106 rfl (by decide) (by kernel_rfl) h
def Tk (s:Value) (w:World) (K:Value→World→Prop):Prop:= box P T.d s w fun b w=>dr w fun a c=>Q7 a (fun e=> ∀w,c w→fieldAddr P T.d b 1 w (dk a e w)) fun e=>Q7 a (fun k=> ∀w,c w→fieldAddr P T.d b 2 w (dk a k w)) fun k=>Q7 a (fun j=> ∀h w,c w→e h w→Q2 P T.c h w (dk a j w)) fun j=>Q7 a (fun m=> ∀g w,c w→j g w→Q0 P F.cL [g,(.string ⟨#[44]⟩)] w (dk a m w)) fun m=>Q7 a (fun i=> ∀d w,c w→m d w→Q3 P .add T.b (.const (.string ⟨#[40]⟩)) (.tmp 5) (.string ⟨#[40]⟩) d w (dk a i w)) fun i=>Q7 a (fun p=> ∀l w,c w→i l w→Q3 P .add T.b (.tmp 6) (.const (.string ⟨#[41]⟩)) l (.string ⟨#[41]⟩) w (dk a p w)) fun p=>Q7 a (fun o=> ∀f w,c w→k f w→Q2 P T.b f w (dk a o w)) fun o=>∀h f g d l r q w,c w→e h w→k f w→j g w→m d w→i l w→p r w→o q w→ Q3 P .add T.b (.tmp 7) (.tmp 9) r q w fun n w=>K n w
theorem Q4N {a:Value} {w:World} {K:Value→World→Prop} (h:Tk a w K):Q0 P F.bT [a] w K:=Q9 (List.replicate 2 none) Tryz.func110 rfl (by decide) (by kernel_rfl) h
def Xp (Y X Z a3:Value) (w:World) (K:Value→World→Prop):Prop:= box P T.d Y w fun b w=>Q2 P T.q X w fun t9 w=>fieldAddr P T.d b 0 w fun L w=>Q2 P T.b L w fun R w=>lookup P T.q t9 R true w fun D w=>ext P D 0 w fun W w=>ext P D 1 w fun f w=>dr w fun a d=>Q7 a (fun l=> ∀w,d w→fieldAddr P T.d b 0 w (dk a l w)) fun l=>Q7 a (fun s=> ∀w,d w→fieldAddr P T.d b 0 w (dk a s w)) fun s=>Q7 a (fun m=> ∀w,d w→fieldAddr P T.a Z 0 w (dk a m w)) fun m=>Q7 a (fun e=> ∀w,d w→Q2 P T.q X w (dk a e w)) fun e=>Q7 a (fun o=> ∀p w,d w→l p w→Q2 P T.b p w (dk a o w)) fun o=>Q7 a (fun A=> ∀w,d w→Q2 P T.q a3 w (dk a A w)) fun A=>Q7 a (fun B=> ∀n w,d w→s n w→Q2 P T.b n w (dk a B w)) fun B=>Q7 a (fun v=> ∀w,d w→Q2 P T.d b w (dk a v w)) fun v=>Q7 a (fun h=> ∀r w,d w→v r w→Q0 P F.bT [r] w (dk a h w)) fun h=>Q7 a (fun z=> ∀y w,d w→m y w→Q2 P T.b y w (dk a z w)) fun z=>Q7 a (fun t=> ∀c u w,d w→e c w→o u w→mapEntry P T.q c u w (dk a t w)) fun t=>Q7 a (fun k=> ∀j w,d w→t j w→ext P j 1 w (dk a k w)) fun k=>Q7 a (fun g=> ∀c i q w,d w→e c w→k i w→h q w→entryStore P T.q c i q w (dk a g w)) fun g=>∀p n y c u C H r q E j i N w,d w→l p w→s n w→m y w→e c w→o u w→A C w→B H w→v r w→h q w→z E w→t j w→k i w→g N w→ mapUpdate P T.q C H E w fun _u w=>Q1 f true w (fun w J=>J W w) fun V w=>Q1 f true w (Q2 P T.d b) fun O w=>Q1 f true w (Q0 P F.bT [O]) fun M w=>Q1 f true w (Q3 P .neq T.b (.tmp 29) (.tmp 31) V M) fun Q w=>pick P f Q (.bool false) w fun U w=>K U w
theorem Om {b d a c:Value} {w:World} {K:Value→World→Prop} (h:Xp b d a c w K):Q0 P F.aD [b,d,a,c] w K:=Q9 (List.replicate 4 none) Tryz.func109 rfl (by decide) (by kernel_rfl) h
def Zg (d f b:Value) (w:World) (K:Value→World→Prop):Prop:= box P T.a d w fun a w=>fieldAddr P T.a a 7 w fun c w=>Q2 P T.g c w fun e w=>M7 P (.func F.aD) [] [f,a,b] w fun h w=>Q0 P F.a [e,h] w fun g w=>K g w
theorem Es {b c a:Value} {w:World} {K:Value→World→Prop} (h:Zg b c a w K):Q0 P F.aO [b,c,a] w K:=Q9 (List.replicate 2 none) Tryz.func107 rfl (by decide) (by kernel_rfl) h
def As (c e:Value) (w:World) (K:Value→World→Prop):Prop:= box P T.d c w fun a w=>fieldAddr P T.d a 0 w fun f w=>Q2 P T.b f w fun b w=>Q2 P T.b e w fun d w=>Q3 P .eql T.b (.tmp 5) (.tmp 6) b d w fun g w=>K g w
theorem Q4C {a b:Value} {w:World} {K:Value→World→Prop} (h:As a b w K):Q0 P F.cQ [a,b] w K:=Q9 (List.replicate 2 none) Tryz.func203 rfl (by decide) (by kernel_rfl) h
def Q23 (o m:Value) (w:World) (K:Value→World→Prop):Prop:= box P T.a o w fun b w=>box P T.b m w fun a w=>W4 P T.d w fun d w=>fieldAddr P T.a b 7 w fun q w=>Q2 P T.g q w fun n w=>M7 P (.func F.cQ) [] [a] w fun p w=>Q0 P F.g [n,p] w fun c w=>Q3 P .lss T.e (.tmp 11) (.const (.int .i64 0)) c (.int .i64 0) w fun h w=>X1 h (N4 P T.d [] w fun k w=>Z0 P T.d d k w fun _u w=>J8 P T.d d w fun j=>K (.tuple #[j,(.bool false)]) w) (fieldAddr P T.a b 7 w fun g w=>Q2 P T.g g w fun i w=>indexAddr P T.g i c w fun l w=>Q2 P T.d l w fun f w=>Q0 P F.bL [f] w fun e w=>Z0 P T.d d e w fun _u w=>J8 P T.d d w fun j=>K (.tuple #[j,(.bool true)]) w)
theorem Q7o {a b:Value} {w:World} {K:Value→World→Prop} (h:Q23 a b w K):Q0 P F.co [a,b] w K:=Q9 (List.replicate 6 none) Tryz.func168 rfl (by decide) (by kernel_rfl) h
def Kl:V4:=[none,none,none,some ([19],[6,8,10,11,12,13,14,15,19,20,21,22,23,24,25,26,27,28,29,30,31,32,33,34,35,36,37,38,39,40,41,42,43,44,45,46,47]),none,none,none,none,none,none,none,none,none,none,none,none]
def Mq (z M L:Value) (w:World) (K:Value→World→Prop):Prop:= box P T.a M w fun d w=>W4 P T.d w fun i w=>fieldAddr P T.a d 2 w fun A w=>Q2 P T.c A w fun o w=>X5 P .len [T.c] T.e [false] [o] w fun v w=>lp (α:=Value) (.int .i64 0) w fun c E N w=>Q3 P .lss T.e (.tmp 19) (.tmp 18) E v w fun J w=>X1 J (indexAddr P T.c o E w fun B w=>Q2 P T.b B w fun f w=>Q0 P F.h [z,f] w fun s w=>Q0 P F.co [s,L] w fun l w=>ext P l 0 w fun H w=>ext P l 1 w fun D w=>W4 P T.d w fun a w=>Z0 P T.d a H w fun _u w=>X1 D (dr w fun j k=>Q7 j (fun e=> ∀w,k w→Q2 P T.d a w (dk j e w)) fun e=>∀m w,k w→e m w→ Z0 P T.d i m w fun _u w=>J8 P T.d i w fun n=>K (.tuple #[f,n,(.bool true)]) w) (Q0 P F.h [z,f] w fun y w=>Q0 P F.aM [z,y,L] w fun g w=>ext P g 0 w fun r w=>ext P g 1 w fun u w=>ext P g 2 w fun t w=>W4 P T.d w fun b w=>Z0 P T.d b u w fun _u w=>X1 t (dr w fun j k=>Q7 j (fun h=> ∀w,k w→Q2 P T.d b w (dk j h w)) fun h=>∀p w,k w→h p w→ Z0 P T.d i p w fun _u w=>J8 P T.d i w fun n=>K (.tuple #[r,n,(.bool true)]) w) (Q3 P .add T.e (.tmp 19) (.const (.int .i64 1)) E (.int .i64 1) w fun C w=>c C w))) (N4 P T.d [] w fun q w=>Z0 P T.d i q w fun _u w=>J8 P T.d i w fun n=>K (.tuple #[(.string ⟨#[]⟩),n,(.bool false)]) w)
theorem Pb {b c a:Value} {w:World} {K:Value→World→Prop} (h:Mq b c a w K):Q0 P F.aM [b,c,a] w K:=Q9 Kl Tryz.func169 rfl (by decide) (by kernel_rfl) h
def Cl:V4:=[none,none,none,none,none,some ([26],[6,8,11,12,13,26,27,28,29,30,31,32,33,34,35,36,37,38,39,40]),none,none,none,none,none,none,none,none,none,some ([43],[6,8,15,16,17,18,43,44,45,46,47,48,49,50,51,52,53,54,55,56,57,58]),none,none,none,none,none,none,none,none]
def Uu (Y a1 Z:Value) (w:World) (K:Value→World→Prop):Prop:= W4 P T.d w fun q w=>Q0 P F.aL [Y,a1] w fun e w=>Q0 P F.p [e] w fun ac w=>X5 P .len [T.h] T.e [false] [e] w fun C w=>lp (α:=Value) (.int .i64 0) w fun i E d_ w=>Q3 P .lss T.e (.tmp 26) (.tmp 25) E C w fun D w=>X1 D (indexAddr P T.h e E w fun M w=>Q2 P T.a M w fun U w=>W4 P T.a w fun a w=>Z0 P T.a a U w fun _u w=>Q2 P T.a a w fun z w=>Q0 P F.co [z,Z] w fun u w=>ext P u 0 w fun L w=>ext P u 1 w fun O w=>W4 P T.d w fun b w=>Z0 P T.d b L w fun _u w=>X1 O (dr w fun h m=>Q7 h (fun g=> ∀w,m w→fieldAddr P T.a a 0 w (dk h g w)) fun g=>Q7 h (fun l=> ∀j w,m w→g j w→Q2 P T.b j w (dk h l w)) fun l=>Q7 h (fun k=> ∀w,m w→Q2 P T.d b w (dk h k w)) fun k=>∀j s r w,m w→g j w→l s w→k r w→ Z0 P T.d q r w fun _u w=>J8 P T.d q w fun v=>K (.tuple #[s,v,(.bool true)]) w) (Q3 P .add T.e (.tmp 26) (.const (.int .i64 1)) E (.int .i64 1) w fun N w=>i N w)) (X5 P .len [T.h] T.e [false] [e] w fun X w=>lp (α:=Value) (.int .i64 0) w fun f n d_ w=>Q3 P .lss T.e (.tmp 43) (.tmp 42) n X w fun y w=>X1 y (indexAddr P T.h e n w fun H w=>Q2 P T.a H w fun V w=>W4 P T.a w fun d w=>Z0 P T.a d V w fun _u w=>Q2 P T.a d w fun W w=>Q0 P F.aM [Y,W,Z] w fun p w=>ext P p 0 w fun Q w=>ext P p 1 w fun B w=>ext P p 2 w fun R w=>W4 P T.d w fun c w=>Z0 P T.d c B w fun _u w=>X1 R (dr w fun h m=>Q7 h (fun o=> ∀w,m w→Q2 P T.d c w (dk h o w)) fun o=>∀t w,m w→o t w→ Z0 P T.d q t w fun _u w=>J8 P T.d q w fun v=>K (.tuple #[Q,v,(.bool true)]) w) (Q3 P .add T.e (.tmp 43) (.const (.int .i64 1)) n (.int .i64 1) w fun J w=>f J w)) (N4 P T.d [] w fun A w=>Z0 P T.d q A w fun _u w=>J8 P T.d q w fun v=>K (.tuple #[(.string ⟨#[]⟩),v,(.bool false)]) w))
theorem Ca {b c a:Value} {w:World} {K:Value→World→Prop} (h:Uu b c a w K):Q0 P F.b1 [b,c,a] w K:=Q9 Cl Tryz.func111 rfl (by decide) (by kernel_rfl) h
def Se:V4:=[none,none,none,some ([21],[4,6,21,22,23,24,25,26,27,28,29,30,31,32]),none,none,none,none,none,none,none,none,none,some ([37],[4,9,37,38,39,40,41,42,43,44,45,46]),none,none,none,none,none,none,none,none,some ([50],[4,11,50,51,52,53,54,55,56,57,58,59,60,61,62,63,64,65,66,67,68,69,70]),none,none,none,none,none,none,none,none,none,none,none,none,none,none,none,some ([],[4,14,15,16,17,82,83,84,85,86,87,88,89,90,91,92,93,94,95,96,97,98,99,100]),none,none,none,none,none,none,none]
def Ud (a0 a1:Value) (w:World) (K:Value→World→Prop):Prop:= box P T.r a0 w fun v w=>box P T.a a1 w fun m w=>fieldAddr P T.a m 6 w fun az w=>Q2 P T.i az w fun r w=>X5 P .len [T.i] T.e [false] [r] w fun al w=>lp (α:=Value) (.int .i64 0) w fun f x3 d_ w=>Q3 P .lss T.e (.tmp 21) (.tmp 20) x3 al w fun V w=>X1 V (indexAddr P T.i r x3 w fun bn w=>Q2 P T.k bn w fun bj w=>W4 P T.k w fun t6 w=>Z0 P T.k t6 bj w fun _u w=>Q2 P T.r v w fun A w=>fieldAddr P T.a m 1 w fun y w=>Q2 P T.b y w fun ar w=>fieldAddr P T.k t6 0 w fun ba w=>Q2 P T.b ba w fun ac w=>Q0 P F.bd [A,ar,ac] w fun a8 w=>Q3 P .geq T.e (.tmp 30) (.const (.int .i64 0)) a8 (.int .i64 0) w fun z w=>X1 z (K (.int .i64 64) w) (Q3 P .add T.e (.tmp 21) (.const (.int .i64 1)) x3 (.int .i64 1) w fun Y w=>f Y w)) (M7 P (.func F.aj) [] [v] w fun bi w=>W4 P T.y w fun u w=>Z0 P T.y u bi w fun _u w=>fieldAddr P T.a m 6 w fun U w=>Q2 P T.i U w fun q w=>X5 P .len [T.i] T.e [false] [q] w fun W w=>lp (α:=Value) (.int .i64 0) w fun b h d_ w=>Q3 P .lss T.e (.tmp 37) (.tmp 36) h W w fun a2 w=>X1 a2 (indexAddr P T.i q h w fun ay w=>Q2 P T.k ay w fun bb w=>W4 P T.k w fun t9 w=>Z0 P T.k t9 bb w fun _u w=>Q2 P T.y u w fun ao w=>fieldAddr P T.k t9 1 w fun am w=>Q2 P T.b am w fun ap w=>Z2 P ao [ap] w fun an w=>Z8 P .not an w fun Q w=>X1 Q (K (.int .i64 65) w) (Q3 P .add T.e (.tmp 37) (.const (.int .i64 1)) h (.int .i64 1) w fun ae w=>b ae w)) (fieldAddr P T.a m 7 w fun a7 w=>Q2 P T.g a7 w fun n w=>X5 P .len [T.g] T.e [false] [n] w fun ah w=>lp (α:=Value) (.int .i64 0) w fun c k d_ w=>Q3 P .lss T.e (.tmp 50) (.tmp 49) k ah w fun ai w=>X1 ai (indexAddr P T.g n k w fun Z w=>Q2 P T.d Z w fun aq w=>W4 P T.d w fun g w=>Z0 P T.d g aq w fun _u w=>Q2 P T.y u w fun bg w=>fieldAddr P T.d g 2 w fun bh w=>Q2 P T.b bh w fun aw w=>Z2 P bg [aw] w fun R w=>Z8 P .not R w fun e w=>Q1 e true w (fieldAddr P T.d g 2) fun E w=>Q1 e true w (Q2 P T.b E) fun bd w=>Q1 e true w (Q3 P .neq T.b (.tmp 61) (.const (.string ⟨#[]⟩)) bd (.string ⟨#[]⟩)) fun bk w=>pick P e bk (.bool false) w fun d w=>Q1 d false w (fieldAddr P T.d g 1) fun a3 w=>Q1 d false w (Q2 P T.c a3) fun B w=>Q1 d false w (M7 P (.func F.ak) [] [u]) fun O w=>Q1 d false w (Q0 P F.d [B,O]) fun a4 w=>pick P d (.bool true) a4 w fun M w=>X1 M (K (.int .i64 65) w) (Q3 P .add T.e (.tmp 50) (.const (.int .i64 1)) k (.int .i64 1) w fun D w=>c D w)) (Hz P T.q none w fun aa w=>Hz P T.q none w fun av w=>W4 P T.q w fun p w=>W4 P T.q w fun j w=>Z0 P T.q p aa w fun _u w=>Z0 P T.q j av w fun _u w=>Q2 P T.r v w fun a6 w=>fieldAddr P T.a m 0 w fun J w=>Q2 P T.b J w fun C w=>M7 P (.func F.aO) [] [p,j] w fun a5 w=>Q0 P F.v [a6,C,a5] w fun a9 w=>X1 a9 (K (.int .i64 66) w) (fieldAddr P T.a m 4 w fun H w=>Q2 P T.m H w fun L w=>X1 L (K (.int .i64 0) w) (Q2 P T.q j w fun af w=>rng P T.q af w fun o w=>lp (α:=Unit) () w fun a bs d_ w=>J7 P o false T.x w fun ak w=>ext P ak 0 w fun ab w=>X1 ab (Q7x P o w fun aj w=>ext P aj 0 w fun be w=>Q2 P T.r v w fun N w=>fieldAddr P T.a m 0 w fun bc w=>Q2 P T.b bc w fun bm w=>Q0 P F.b1 [N,bm,be] w fun l w=>ext P l 0 w fun br w=>ext P l 1 w fun bl w=>ext P l 2 w fun X w=>W4 P T.d w fun s w=>Z0 P T.d s bl w fun _u w=>Z8 P .not X w fun i w=>Q1 i false w (fieldAddr P T.d s 3) fun ad w=>Q1 i false w (Q2 P T.m ad) fun ax w=>pick P i (.bool true) ax w fun t w=>X1 t (K (.int .i64 67) w) (a () w)) (K (.int .i64 0) w))))))
theorem Sg {a b:Value} {w:World} {K:Value→World→Prop} (h:Ud a b w K):Q0 P F.aU [a,b] w K:=Q9 Se Tryz.func51 rfl (by decide) (by kernel_rfl) h
def Q7b:V4:=[none,none,none,none,none,some ([30],[2,3,4,7,8,9,30,31,32,33,34,35,36,37,38,39,40,41,42,43,44,45,46,47,48,49,50,51,52]),none,none,none,none,none,none,none,none,none,none,some ([58],[2,3,4,10,11,58,59,60,61,62,63,64,65,66,67,68,69,70,71,72,73,74,75,76,77]),none,none,none,none,none,none,none,none,none,some ([85],[2,3,4,12,13,14,85,86,87,88,89,90,91,92,93,94,95,96,97]),none,none,none,none,none,none,none,none,none,none,none,none,none,some ([114],[2,3,4,17,18,114,115,116,117,118,119,120,121,122,123,124,125,126,127,128,129,130,131,132,133]),none,none,none,none,none,none,none,none]
def Q1Z (a0:Value) (w:World) (K:Value→World→Prop):Prop:= Q0 P F.cs [] w fun bl w=>Hz P T.v none w fun bh w=>N4 P T.u [(0,bl),(1,bh)] w fun bo w=>box P T.u bo w fun a w=>nilCheck P a w fun bx w=>fieldAddr P T.u bx 0 w fun aw w=>Q2 P T.h aw w fun ar w=>X5 P .len [T.h] T.e [false] [ar] w fun e w=>X5 P .len [T.h] T.e [false] [a0] w fun bb w=>lp (α:=Value) (.int .i64 0) w fun v x5 d_ w=>Q3 P .lss T.e (.tmp 30) (.tmp 29) x5 bb w fun av w=>X1 av (indexAddr P T.h a0 x5 w fun bw w=>Q2 P T.a bw w fun a4 w=>W4 P T.a w fun t8 w=>Z0 P T.a t8 a4 w fun _u w=>Q2 P T.a t8 w fun a9 w=>Q0 P F.cd [a9] w fun aa w=>Q3 P .neq T.s (.tmp 37) (.const (.int .i64 0)) aa (.int .i64 0) w fun bm w=>X1 bm (K (.tuple #[(.pointer none),x5,aa]) w) (dr w fun b c=>Q7 b (fun m=> ∀w,c w→nilCheck P a w (dk b m w)) fun m=>Q7 b (fun l=> ∀s w,c w→m s w→fieldAddr P T.u s 0 w (dk b l w)) fun l=>Q7 b (fun L=> ∀r w,c w→l r w→Q2 P T.h r w (dk b L w)) fun L=>Q7 b (fun p=> ∀w,c w→Q2 P T.a t8 w (dk b p w)) fun p=>Q7 b (fun j=> ∀o w,c w→p o w→Q0 P F.ce [o] w (dk b j w)) fun j=>Q7 b (fun H=> ∀y w,c w→j y w→buildSlice P T.h 1 [(0,y)] w (dk b H w)) fun H=>∀s r Y o y O w,c w→m s w→l r w→L Y w→p o w→j y w→H O w→ X5 P .append [T.h,T.h] T.h [false,false] [Y,O] w fun bf w=>nilCheck P a w fun a6 w=>fieldAddr P T.u a6 0 w fun bd w=>Z0 P T.h bd bf w fun _u w=>Q3 P .add T.e (.tmp 30) (.const (.int .i64 1)) x5 (.int .i64 1) w fun ba w=>v ba w)) (nilCheck P a w fun bu w=>fieldAddr P T.u bu 0 w fun bs w=>Q2 P T.h bs w fun ah w=>X5 P .len [T.h] T.e [false] [ah] w fun a3 w=>lp (α:=Value) (.int .i64 0) w fun h f d_ w=>Q3 P .lss T.e (.tmp 58) (.tmp 57) f a3 w fun bj w=>X1 bj (indexAddr P T.h ah f w fun br w=>Q2 P T.a br w fun bz w=>W4 P T.a w fun J w=>Z0 P T.a J bz w fun _u w=>fieldAddr P T.a J 0 w fun bv w=>Q2 P T.b bv w fun bn w=>Q0 P F.k [a,bn] w fun ax w=>X1 ax (Q3 P .sub T.e (.tmp 67) (.tmp 68) f e w fun a1 w=>K (.tuple #[(.pointer none),a1,(.int .i64 60)]) w) (dr w fun b c=>Q7 b (fun u=> ∀w,c w→nilCheck P a w (dk b u w)) fun u=>Q7 b (fun z=> ∀n w,c w→u n w→fieldAddr P T.u n 1 w (dk b z w)) fun z=>Q7 b (fun i=> ∀w,c w→fieldAddr P T.a J 0 w (dk b i w)) fun i=>Q7 b (fun N=> ∀t w,c w→z t w→Q2 P T.v t w (dk b N w)) fun N=>Q7 b (fun E=> ∀k w,c w→i k w→Q2 P T.b k w (dk b E w)) fun E=>∀n t k ak R w,c w→u n w→z t w→i k w→N ak w→E R w→ mapUpdate P T.v ak R f w fun _u w=>Q3 P .add T.e (.tmp 58) (.const (.int .i64 1)) f (.int .i64 1) w fun bp w=>h bp w)) (nilCheck P a w fun az w=>fieldAddr P T.u az 0 w fun bc w=>Q2 P T.h bc w fun a2 w=>H7 P T.h a2 (some e) none none w fun ac w=>X5 P .len [T.h] T.e [false] [ac] w fun bg w=>lp (α:=Value) (.int .i64 0) w fun d q d_ w=>Q3 P .lss T.e (.tmp 85) (.tmp 84) q bg w fun a7 w=>X1 a7 (indexAddr P T.h ac q w fun bq w=>Q2 P T.a bq w fun b0 w=>W4 P T.a w fun ad w=>Z0 P T.a ad b0 w fun _u w=>Q2 P T.a ad w fun bi w=>Q0 P F.aZ [a,bi] w fun ab w=>Q3 P .neq T.s (.tmp 93) (.const (.int .i64 0)) ab (.int .i64 0) w fun a8 w=>X1 a8 (K (.tuple #[(.pointer none),q,ab]) w) (Q3 P .add T.e (.tmp 85) (.const (.int .i64 1)) q (.int .i64 1) w fun a5 w=>d a5 w)) (nilCheck P a w fun bk w=>fieldAddr P T.u bk 0 w fun ap w=>Q2 P T.h ap w fun V w=>H7 P T.h V (some e) none none w fun af w=>M7 P (.func F.b8) [a] [] w fun U w=>Q0 P F.o [af,U] w fun A w=>Q3 P .geq T.e (.tmp 107) (.const (.int .i64 0)) A (.int .i64 0) w fun ai w=>X1 ai (K (.tuple #[(.pointer none),A,(.int .i64 63)]) w) (Q0 P F.b9 [a,e] w fun D w=>X5 P .len [T.a0] T.e [false] [D] w fun X w=>lp (α:=Value) (.int .i64 0) w fun g M d_ w=>Q3 P .lss T.e (.tmp 114) (.tmp 113) M X w fun ag w=>X1 ag (indexAddr P T.a0 D M w fun ao w=>Q2 P T.e ao w fun B w=>nilCheck P a w fun al w=>fieldAddr P T.u al 0 w fun Z w=>Q2 P T.h Z w fun W w=>indexAddr P T.h W B w fun an w=>Q2 P T.a an w fun aj w=>Q0 P F.aU [a,aj] w fun C w=>Q3 P .neq T.s (.tmp 127) (.const (.int .i64 0)) C (.int .i64 0) w fun ae w=>X1 ae (Q3 P .sub T.e (.tmp 129) (.tmp 130) B e w fun am w=>K (.tuple #[(.pointer none),am,C]) w) (Q3 P .add T.e (.tmp 114) (.const (.int .i64 1)) M (.int .i64 1) w fun Q w=>g Q w)) (K (.tuple #[a,(.int .i64 0),(.int .i64 0)]) w)))))
theorem Q6X {a:Value} {w:World} {K:Value→World→Prop} (h:Q1Z a w K):Q0 P F.cH [a] w K:=Q9 Q7b Tryz.func25 rfl (by decide) (by kernel_rfl) h
def Ju (w:World) (K:Value→World→Prop):Prop:= N4 P T.n [(0,(.string ⟨#[105,110,116]⟩)),(1,(.int .i64 1))] w fun s w=>N4 P T.n [(0,(.string ⟨#[114,101,116,117,114,110]⟩))] w fun q w=>buildSlice P T.l 2 [(0,s),(1,q)] w fun p w=>N4 P T.k [(0,(.string ⟨#[120]⟩)),(1,(.string ⟨#[105,110,116]⟩))] w fun n w=>N4 P T.k [(0,(.string ⟨#[110,101,120,116]⟩)),(1,(.string ⟨#[65]⟩))] w fun t w=>buildSlice P T.i 2 [(0,n),(1,t)] w fun r w=>buildSlice P T.c 2 [(0,(.string ⟨#[105,110,116]⟩)),(1,(.string ⟨#[65]⟩))] w fun o w=>N4 P T.d [(0,(.string ⟨#[102]⟩)),(1,o),(2,(.string ⟨#[105,110,116]⟩)),(4,(.int .i64 3)),(5,p)] w fun a w=>N4 P T.n [(0,(.string ⟨#[114,101,116,117,114,110]⟩))] w fun j w=>buildSlice P T.l 1 [(0,j)] w fun h w=>N4 P T.d [(0,(.string ⟨#[103]⟩)),(4,(.int .i64 1)),(5,h)] w fun k w=>buildSlice P T.g 2 [(0,a),(1,k)] w fun d w=>N4 P T.a [(0,(.string ⟨#[65]⟩)),(1,(.string ⟨#[79,98,106,101,99,116]⟩)),(6,r),(7,d)] w fun i w=>buildSlice P T.c 1 [(0,(.string ⟨#[73]⟩))] w fun e w=>N4 P T.k [(0,(.string ⟨#[108]⟩)),(1,(.string ⟨#[65,91,93]⟩))] w fun l w=>buildSlice P T.i 1 [(0,l)] w fun c w=>N4 P T.a [(0,(.string ⟨#[66]⟩)),(1,(.string ⟨#[65]⟩)),(2,e),(6,c)] w fun b w=>N4 P T.a [(0,(.string ⟨#[73]⟩)),(1,(.string ⟨#[79,98,106,101,99,116]⟩)),(3,(.bool true)),(4,(.bool true))] w fun m w=>N4 P T.a [(0,(.string ⟨#[68]⟩)),(1,(.string ⟨#[79,98,106,101,99,116]⟩)),(4,(.bool true))] w fun g w=>buildSlice P T.h 4 [(0,i),(1,b),(2,m),(3,g)] w fun f w=>K f w
theorem Sq {w:World} {K:Value→World→Prop} (h:Ju w K):Q0 P F.ax [] w K:=Q9 (List.replicate 3 none) Tryz.func26 rfl (by decide) (by kernel_rfl) h
def Fy:V4:=[none,none,none,none,none,some ([1,3],[1,3,10,11,12,13,14,15,16,17,18,19,20,21,22,23]),none,none,none,none]
def Ws (w:World) (K:Value→World→Prop):Prop:= N4 P T.a [(0,(.string ⟨#[79,98,106,101,99,116]⟩))] w fun n w=>N4 P T.k [(0,(.string ⟨#[119,104,97,116]⟩)),(1,(.string ⟨#[116,101,120,116]⟩))] w fun l w=>buildSlice P T.i 1 [(0,l)] w fun p w=>N4 P T.a [(0,(.string ⟨#[70,97,117,108,116]⟩)),(1,(.string ⟨#[79,98,106,101,99,116]⟩)),(6,p)] w fun o w=>buildSlice P T.h 2 [(0,n),(1,o)] w fun m w=>buildSlice P T.c 6 [(0,(.string ⟨#[78,117,108,108,70,97,117,108,116]⟩)),(1,(.string ⟨#[73,110,100,101,120,70,97,117,108,116]⟩)),(2,(.string ⟨#[67,97,115,116,70,97,117,108,116]⟩)),(3,(.string ⟨#[90,101,114,111,70,97,117,108,116]⟩)),(4,(.string ⟨#[82,111,111,109,70,97,117,108,116]⟩)),(5,(.string ⟨#[67,97,108,108,70,97,117,108,116]⟩))] w fun k w=>lp (α:=Value×Value) (m,(.int .i64 0)) w fun a b q w=>X5 P .len [T.c] T.e [false] [k] w fun f w=>Q3 P .lss T.e (.tmp 10) (.tmp 12) b.2 f w fun h w=>X1 h (indexAddr P T.c k b.2 w fun c w=>Q2 P T.b c w fun i w=>N4 P T.a [(0,i),(1,(.string ⟨#[70,97,117,108,116]⟩)),(5,(.bool true))] w fun e w=>buildSlice P T.h 1 [(0,e)] w fun d w=>X5 P .append [T.h,T.h] T.h [false,false] [b.1,d] w fun j w=>Q3 P .add T.e (.tmp 14) (.const (.int .i64 1)) b.2 (.int .i64 1) w fun g w=>a (j,g) w) (K b.1 w)
theorem Gj {w:World} {K:Value→World→Prop} (h:Ws w K):Q0 P F.ba [] w K:=Q9 Fy Tryz.func52 rfl (by decide) (by kernel_rfl) h
def Pd:V4:=[none,none,none,some ([3],[2,3,4,5,6,7,8,9,10,11,12,13,14,15,16,17,18,19,20,21,22,23,24,25,26,27,28,29,30,31,32,33,34,35,36,37]),none,none,none,none,none,none,none]
def Ml (Z:Value) (w:World) (K:Value→World→Prop):Prop:= box P T.a Z w fun b w=>lp (α:=Value) (.int .i64 0) w fun g L d_ w=>fieldAddr P T.a b 7 w fun t6 w=>Q2 P T.g t6 w fun t7 w=>X5 P .len [T.g] T.e [false] [t7] w fun Y w=>Q3 P .lss T.e (.tmp 5) (.tmp 8) L Y w fun t9 w=>X1 t9 (fieldAddr P T.a b 7 w fun z w=>Q2 P T.g z w fun Q w=>indexAddr P T.g Q L w fun A w=>Q2 P T.d A w fun t w=>W4 P T.d w fun a w=>Z0 P T.d a t w fun _u w=>fieldAddr P T.d a 1 w fun R w=>Q2 P T.c R w fun p w=>X5 P .len [T.c] T.e [false] [p] w fun n w=>Q3 P .gtr T.e (.tmp 19) (.const (.int .i64 32)) n (.int .i64 32) w fun f w=>Q1 f false w (fieldAddr P T.d a 6) fun v w=>Q1 f false w (Q2 P T.o v) fun X w=>Q1 f false w (X5 P .len [T.o] T.e [false] [X]) fun N w=>Q1 f false w (Q3 P .gtr T.e (.tmp 24) (.const (.int .i64 32)) N (.int .i64 32)) fun m w=>pick P f (.bool true) m w fun d w=>Q1 d false w (fieldAddr P T.d a 5) fun D w=>Q1 d false w (Q2 P T.l D) fun O w=>Q1 d false w (X5 P .len [T.l] T.e [false] [O]) fun B w=>Q1 d false w (Q3 P .gtr T.e (.tmp 30) (.const (.int .i64 200)) B (.int .i64 200)) fun k w=>pick P d (.bool true) k w fun h w=>Q1 h false w (fieldAddr P T.d a 4) fun u w=>Q1 h false w (Q2 P T.e u) fun H w=>Q1 h false w (Q3 P .gtr T.e (.tmp 35) (.const (.int .i64 64)) H (.int .i64 64)) fun C w=>pick P h (.bool true) C w fun s w=>X1 s (K (.bool true) w) (Q3 P .add T.e (.tmp 10) (.const (.int .i64 1)) L (.int .i64 1) w fun M w=>g M w)) (fieldAddr P T.a b 2 w fun q w=>Q2 P T.c q w fun o w=>X5 P .len [T.c] T.e [false] [o] w fun E w=>Q3 P .gtr T.e (.tmp 40) (.const (.int .i64 32)) E (.int .i64 32) w fun c w=>Q1 c false w (fieldAddr P T.a b 6) fun j w=>Q1 c false w (Q2 P T.i j) fun i w=>Q1 c false w (X5 P .len [T.i] T.e [false] [i]) fun r w=>Q1 c false w (Q3 P .gtr T.e (.tmp 45) (.const (.int .i64 32)) r (.int .i64 32)) fun U w=>pick P c (.bool true) U w fun e w=>Q1 e false w (fieldAddr P T.a b 7) fun V w=>Q1 e false w (Q2 P T.g V) fun y w=>Q1 e false w (X5 P .len [T.g] T.e [false] [y]) fun W w=>Q1 e false w (Q3 P .gtr T.e (.tmp 51) (.const (.int .i64 32)) W (.int .i64 32)) fun J w=>pick P e (.bool true) J w fun l w=>K l w)
theorem Ks {a:Value} {w:World} {K:Value→World→Prop} (h:Ml a w K):Q0 P F.bo [a] w K:=Q9 Pd Tryz.func112 rfl (by decide) (by kernel_rfl) h
def Gm:V4:=[none,none,none,some ([4],[4,5,6,7]),none,none,none,none]
def Vs (a:Value) (w:World) (K:Value→World→Prop):Prop:= jn (α:=Value) w (fun b w=>Q3 P .eql T.b (.tmp 3) (.const (.string ⟨#[105,110,116]⟩)) a (.string ⟨#[105,110,116]⟩) w fun c w=>X1 c (b c w) (Q3 P .eql T.b (.tmp 3) (.const (.string ⟨#[98,111,111,108]⟩)) a (.string ⟨#[98,111,111,108]⟩) w fun d w=>X1 d (b d w) (Q3 P .eql T.b (.tmp 3) (.const (.string ⟨#[116,101,120,116]⟩)) a (.string ⟨#[116,101,120,116]⟩) w fun f w=>b f w))) fun e g w=>X1 e (K (.bool true) w) (K (.bool false) w)
theorem Fp {a:Value} {w:World} {K:Value→World→Prop} (h:Vs a w K):Q0 P F.n [a] w K:=Q9 Gm Tryz.func62 rfl (by decide) (by kernel_rfl) h
def Kh:V4:=[none,none,none,some ([3],[2,3,4,5,6,7,8,9,10,11,12,13,14,15,16,17,18,19,20,21,22,23,24,25,26,27,28,29,30,31,32,33,34,35,36,37,38,39,40,41,42,43,44,45,46,47,48,49,50]),none,none,none,none,none,none,none]
def Mw (h:Value) (w:World) (K:Value→World→Prop):Prop:= lp (α:=Value) (.int .i64 0) w fun i j d_ w=>X5 P .len [T.b] T.e [false] [h] w fun t7 w=>Q3 P .lss T.e (.tmp 5) (.tmp 7) j t7 w fun t8 w=>X1 t8 (E5 P T.b h j w fun W w=>Q3 P .geq T.w (.tmp 13) (.const (.int .u8 97)) W (.int .u8 97) w fun f w=>Q1 f true w (fun w J=>J h w) fun z w=>Q1 f true w (fun w J=>J j w) fun X w=>Q1 f true w (E5 P T.b z X) fun u w=>Q1 f true w (Q3 P .leq T.w (.tmp 18) (.const (.int .u8 122)) u (.int .u8 122)) fun s w=>pick P f s (.bool false) w fun b w=>Q1 b false w (fun w J=>J h w) fun C w=>Q1 b false w (fun w J=>J j w) fun ab w=>Q1 b false w (E5 P T.b C ab) fun U w=>Q1 b false w (Q3 P .geq T.w (.tmp 24) (.const (.int .u8 65)) U (.int .u8 65)) fun p w=>Q1 b false w (fun w J=>J p w) fun d w=>Q1 d true w (fun w J=>J h w) fun q w=>Q1 d true w (fun w J=>J j w) fun M w=>Q1 d true w (E5 P T.b q M) fun V w=>Q1 d true w (Q3 P .leq T.w (.tmp 29) (.const (.int .u8 90)) V (.int .u8 90)) fun H w=>Q1 b false w (pick P d H (.bool false)) fun o w=>pick P b (.bool true) o w fun N w=>Z8 P .not N w fun a w=>Q1 a true w (fun w J=>J j w) fun L w=>Q1 a true w (Q3 P .eql T.e (.tmp 36) (.const (.int .i64 0)) L (.int .i64 0)) fun y w=>Q1 a true w (fun w J=>J y w) fun e w=>Q1 e false w (fun w J=>J h w) fun t w=>Q1 e false w (fun w J=>J j w) fun O w=>Q1 e false w (E5 P T.b t O) fun l w=>Q1 e false w (Q3 P .lss T.w (.tmp 41) (.const (.int .u8 48)) l (.int .u8 48)) fun aa w=>Q1 a true w (pick P e (.bool true) aa) fun m w=>Q1 a true w (fun w J=>J m w) fun c w=>Q1 c false w (fun w J=>J h w) fun v w=>Q1 c false w (fun w J=>J j w) fun Y w=>Q1 c false w (E5 P T.b v Y) fun E w=>Q1 c false w (Q3 P .gtr T.w (.tmp 47) (.const (.int .u8 57)) E (.int .u8 57)) fun k w=>Q1 a true w (pick P c (.bool true) k) fun Z w=>pick P a Z (.bool false) w fun D w=>X1 D (K (.bool false) w) (Q3 P .add T.e (.tmp 9) (.const (.int .i64 1)) j (.int .i64 1) w fun n w=>i n w)) (X5 P .len [T.b] T.e [false] [h] w fun Q w=>Q3 P .geq T.e (.tmp 52) (.const (.int .i64 1)) Q (.int .i64 1) w fun g w=>Q1 g true w (fun w J=>J h w) fun R w=>Q1 g true w (X5 P .len [T.b] T.e [false] [R]) fun r w=>Q1 g true w (Q3 P .leq T.e (.tmp 56) (.const (.int .i64 32)) r (.int .i64 32)) fun A w=>pick P g A (.bool false) w fun B w=>K B w)
theorem Pf {a:Value} {w:World} {K:Value→World→Prop} (h:Mw a w K):Q0 P F.aN [a] w K:=Q9 Kh Tryz.func204 rfl (by decide) (by kernel_rfl) h
def Vu (b:Value) (w:World) (K:Value→World→Prop):Prop:= Q0 P F.aN [b] w fun a w=>Q1 a true w (fun w J=>J b w) fun c w=>Q1 a true w (E5 P T.b c (.int .i64 0)) fun f w=>Q1 a true w (Q3 P .leq T.w (.tmp 7) (.const (.int .u8 90)) f (.int .u8 90)) fun e w=>pick P a e (.bool false) w fun d w=>K d w
theorem Ga {a:Value} {w:World} {K:Value→World→Prop} (h:Vu a w K):Q0 P F.e [a] w K:=Q9 (List.replicate 2 none) Tryz.func170 rfl (by decide) (by kernel_rfl) h
def Kc:V4:=[none,none,none,some ([0,3],[0,3,4,5,6,7,8,9,10,11,12,13,14,15,16,17,18,19,20,21]),none,none,none,none]
def Mz (o:Value) (w:World) (K:Value→World→Prop):Prop:= lp (α:=Value×Value) (o,(.int .i64 0)) w fun a b q w=>X5 P .len [T.b] T.e [false] [b.1] w fun m w=>Q3 P .geq T.e (.tmp 5) (.const (.int .i64 2)) m (.int .i64 2) w fun c w=>Q1 c true w (fun w J=>J b.1 w) fun n w=>Q1 c true w (fun w J=>J b.1 w) fun p w=>Q1 c true w (X5 P .len [T.b] T.e [false] [p]) fun d w=>Q1 c true w (Q3 P .sub T.e (.tmp 10) (.const (.int .i64 2)) d (.int .i64 2)) fun j w=>Q1 c true w (H7 P T.b n (some j) none none) fun i w=>Q1 c true w (Q3 P .eql T.b (.tmp 12) (.const (.string ⟨#[91,93]⟩)) i (.string ⟨#[91,93]⟩)) fun k w=>pick P c k (.bool false) w fun f w=>X1 f (Q3 P .add T.e (.tmp 15) (.const (.int .i64 1)) b.2 (.int .i64 1) w fun g w=>X5 P .len [T.b] T.e [false] [b.1] w fun e w=>Q3 P .sub T.e (.tmp 19) (.const (.int .i64 2)) e (.int .i64 2) w fun l w=>H7 P T.b b.1 none (some l) none w fun h w=>a (h,g) w) (K b.2 w)
theorem Pg {a:Value} {w:World} {K:Value→World→Prop} (h:Mz a w K):Q0 P F.an [a] w K:=Q9 Kc Tryz.func177 rfl (by decide) (by kernel_rfl) h
def Vy (h:Value) (w:World) (K:Value→World→Prop):Prop:= Q0 P F.an [h] w fun m w=>X5 P .len [T.b] T.e [false] [h] w fun n w=>Q3 P .mul T.e (.const (.int .i64 2)) (.tmp 10) (.int .i64 2) m w fun k w=>Q3 P .sub T.e (.tmp 9) (.tmp 11) n k w fun g w=>H7 P T.b h none (some g) none w fun c w=>Q3 P .leq T.e (.tmp 14) (.const (.int .i64 3)) m (.int .i64 3) w fun a w=>Q1 a true w (fun w J=>J c w) fun i w=>Q1 a true w (Q0 P F.n [i]) fun f w=>Q1 a true w (fun w J=>J f w) fun b w=>Q1 b false w (fun w J=>J c w) fun j w=>Q1 b false w (Q0 P F.e [j]) fun e w=>Q1 a true w (pick P b (.bool true) e) fun d w=>pick P a d (.bool false) w fun l w=>K l w
theorem Fw {a:Value} {w:World} {K:Value→World→Prop} (h:Vy a w K):Q0 P F.i [a] w K:=Q9 (List.replicate 4 none) Tryz.func120 rfl (by decide) (by kernel_rfl) h
def Uw (b:Value) (w:World) (K:Value→World→Prop):Prop:= Q0 P F.aN [b] w fun a w=>Q1 a true w (fun w J=>J b w) fun c w=>Q1 a true w (E5 P T.b c (.int .i64 0)) fun f w=>Q1 a true w (Q3 P .geq T.w (.tmp 7) (.const (.int .u8 97)) f (.int .u8 97)) fun e w=>pick P a e (.bool false) w fun d w=>K d w
theorem Ci {a:Value} {w:World} {K:Value→World→Prop} (h:Uw a w K):Q0 P F.t [a] w K:=Q9 (List.replicate 2 none) Tryz.func171 rfl (by decide) (by kernel_rfl) h
end Go.Proofs.YtfppjenblllfaaaGreatDoor

set_option maxRecDepth 100000
namespace Go.Proofs.YtfppjenblllfaaaGreatDoor
open Go.Emb
def Of (w:World) (K:Value→World→Prop):Prop:= buildSlice P T.c 42 [(0,(.string ⟨#[105,110,116]⟩)),(1,(.string ⟨#[116,114,117,101]⟩)),(2,(.string ⟨#[102,97,108,115,101]⟩)),(3,(.string ⟨#[119,111,114,100]⟩)),(4,(.string ⟨#[110,117,108,108]⟩)),(5,(.string ⟨#[108,111,97,100]⟩)),(6,(.string ⟨#[115,116,111,114,101]⟩)),(7,(.string ⟨#[112,111,112]⟩)),(8,(.string ⟨#[100,117,112]⟩)),(9,(.string ⟨#[115,119,97,112]⟩)),(10,(.string ⟨#[97,100,100]⟩)),(11,(.string ⟨#[115,117,98]⟩)),(12,(.string ⟨#[109,117,108]⟩)),(13,(.string ⟨#[100,105,118]⟩)),(14,(.string ⟨#[114,101,109]⟩)),(15,(.string ⟨#[110,101,103]⟩)),(16,(.string ⟨#[108,101,115,115]⟩)),(17,(.string ⟨#[115,97,109,101]⟩)),(18,(.string ⟨#[110,111,116]⟩)),(19,(.string ⟨#[98,111,116,104]⟩)),(20,(.string ⟨#[106,111,105,110]⟩)),(21,(.string ⟨#[115,105,122,101]⟩)),(22,(.string ⟨#[106,117,109,112]⟩)),(23,(.string ⟨#[98,114,97,110,99,104]⟩)),(24,(.string ⟨#[110,101,119]⟩)),(25,(.string ⟨#[103,101,116]⟩)),(26,(.string ⟨#[112,117,116]⟩)),(27,(.string ⟨#[99,97,108,108]⟩)),(28,(.string ⟨#[97,114,114,97,121]⟩)),(29,(.string ⟨#[97,116]⟩)),(30,(.string ⟨#[115,101,116]⟩)),(31,(.string ⟨#[105,115]⟩)),(32,(.string ⟨#[99,97,115,116]⟩)),(33,(.string ⟨#[114,101,116,117,114,110]⟩)),(34,(.string ⟨#[116,104,114,111,119]⟩)),(35,(.string ⟨#[111,117,116]⟩)),(36,(.string ⟨#[101,113,117,97,108]⟩)),(37,(.string ⟨#[97,110,100]⟩)),(38,(.string ⟨#[111,114]⟩)),(39,(.string ⟨#[120,111,114]⟩)),(40,(.string ⟨#[115,104,108]⟩)),(41,(.string ⟨#[115,104,114]⟩))] w fun a w=>K a w
theorem Am {w:World} {K:Value→World→Prop} (h:Of w K):Q0 P F.bw [] w K:=Q9 (List.replicate 2 none) Tryz.func63 rfl (by decide) (by kernel_rfl) h
def Be:V4:=[none,none,none,none,some ([4],[2,4,6,7,8,9,10,11,12,13,14,15,16,17,18]),none,none,none,none,none,none]
def Ve (h:Value) (w:World) (K:Value→World→Prop):Prop:= Q0 P F.bw [] w fun g w=>lp (α:=Value) (.int .i64 0) w fun a b k w=>X5 P .len [T.c] T.e [false] [g] w fun j w=>Q3 P .lss T.e (.tmp 6) (.tmp 8) b j w fun i w=>X1 i (indexAddr P T.c g b w fun d w=>Q2 P T.b d w fun c w=>Q3 P .eql T.b (.tmp 15) (.tmp 16) c h w fun e w=>X1 e (K b w) (Q3 P .add T.e (.tmp 10) (.const (.int .i64 1)) b (.int .i64 1) w fun f w=>a f w)) (K (.int .i64 (-1)) w)
theorem Ch {a:Value} {w:World} {K:Value→World→Prop} (h:Ve a w K):Q0 P F.aY [a] w K:=Q9 Be Tryz.func34 rfl (by decide) (by kernel_rfl) h
def Bp:V4:=[none,none,none,some ([4],[4,5,6,7,8,9]),none,none,none,none,none,some ([10],[10,11,12,13,14,15,16,17,18]),none,none,none,none,none,none,none,none,none,none,none,none]
def Wn (a:Value) (w:World) (K:Value→World→Prop):Prop:= jn (α:=Value) w (fun d w=>Q3 P .eql T.b (.tmp 3) (.const (.string ⟨#[105,110,116]⟩)) a (.string ⟨#[105,110,116]⟩) w fun n w=>X1 n (d n w) (Q3 P .eql T.b (.tmp 3) (.const (.string ⟨#[108,111,97,100]⟩)) a (.string ⟨#[108,111,97,100]⟩) w fun q w=>X1 q (d q w) (Q3 P .eql T.b (.tmp 3) (.const (.string ⟨#[115,116,111,114,101]⟩)) a (.string ⟨#[115,116,111,114,101]⟩) w fun p w=>X1 p (d p w) (Q3 P .eql T.b (.tmp 3) (.const (.string ⟨#[106,117,109,112]⟩)) a (.string ⟨#[106,117,109,112]⟩) w fun o w=>X1 o (d o w) (Q3 P .eql T.b (.tmp 3) (.const (.string ⟨#[98,114,97,110,99,104]⟩)) a (.string ⟨#[98,114,97,110,99,104]⟩) w fun t w=>d t w))))) fun r u w=>X1 r (K (.int .i64 1) w) (jn (α:=Value) w (fun b w=>Q3 P .eql T.b (.tmp 3) (.const (.string ⟨#[119,111,114,100]⟩)) a (.string ⟨#[119,111,114,100]⟩) w fun h w=>X1 h (b h w) (Q3 P .eql T.b (.tmp 3) (.const (.string ⟨#[110,101,119]⟩)) a (.string ⟨#[110,101,119]⟩) w fun f w=>X1 f (b f w) (Q3 P .eql T.b (.tmp 3) (.const (.string ⟨#[103,101,116]⟩)) a (.string ⟨#[103,101,116]⟩) w fun i w=>X1 i (b i w) (Q3 P .eql T.b (.tmp 3) (.const (.string ⟨#[112,117,116]⟩)) a (.string ⟨#[112,117,116]⟩) w fun c w=>X1 c (b c w) (Q3 P .eql T.b (.tmp 3) (.const (.string ⟨#[99,97,108,108]⟩)) a (.string ⟨#[99,97,108,108]⟩) w fun g w=>X1 g (b g w) (Q3 P .eql T.b (.tmp 3) (.const (.string ⟨#[97,114,114,97,121]⟩)) a (.string ⟨#[97,114,114,97,121]⟩) w fun e w=>X1 e (b e w) (Q3 P .eql T.b (.tmp 3) (.const (.string ⟨#[105,115]⟩)) a (.string ⟨#[105,115]⟩) w fun j w=>X1 j (b j w) (Q3 P .eql T.b (.tmp 3) (.const (.string ⟨#[99,97,115,116]⟩)) a (.string ⟨#[99,97,115,116]⟩) w fun k w=>b k w)))))))) fun s u w=>X1 s (K (.int .i64 2) w) (Q0 P F.aY [a] w fun m w=>Q3 P .lss T.e (.tmp 20) (.const (.int .i64 0)) m (.int .i64 0) w fun l w=>X1 l (K (.int .i64 (-1)) w) (K (.int .i64 0) w)))
theorem Bu {a:Value} {w:World} {K:Value→World→Prop} (h:Wn a w K):Q0 P F.b7 [a] w K:=Q9 Bp Tryz.func18 rfl (by decide) (by kernel_rfl) h
def Lk (g j:Value) (w:World) (K:Value→World→Prop):Prop:= X5 P .len [T.b] T.e [false] [g] w fun n w=>Q3 P .lss T.e (.tmp 5) (.tmp 7) j n w fun b w=>Q1 b true w (fun w J=>J g w) fun e w=>Q1 b true w (fun w J=>J j w) fun m w=>Q1 b true w (E5 P T.b e m) fun f w=>Q1 b true w (Q3 P .geq T.w (.tmp 12) (.const (.int .u8 128)) f (.int .u8 128)) fun h w=>pick P b h (.bool false) w fun a w=>Q1 a true w (fun w J=>J g w) fun l w=>Q1 a true w (fun w J=>J j w) fun i w=>Q1 a true w (E5 P T.b l i) fun d w=>Q1 a true w (Q3 P .lss T.w (.tmp 18) (.const (.int .u8 192)) d (.int .u8 192)) fun c w=>pick P a c (.bool false) w fun k w=>K k w
theorem Fe {a b:Value} {w:World} {K:Value→World→Prop} (h:Lk a b w K):Q0 P F.q [a,b] w K:=Q9 (List.replicate 2 none) Tryz.func242 rfl (by decide) (by kernel_rfl) h
def Kr:V4:=[none,none,some ([],[2,4,5,9,10,11,12,13,14,15,16,17,18,19,20,21,22,23,24,25,26,27,28,29,30,31,32,33,34,35,36,37,38,39,40,41,42,43,44,45,46,47,48,49,50,51,52,53,54,55,56,57,58,59,60,61,62,63,64,65,66,67,68,69,70,71,72,73,74,75,76,77,78,79,80,81,82,83,84,85,86,87,88,89,90,91,92,93,94,95,96,97,98,99,100,101,102,103,104,105,106]),none,none,none,none,none,none,none,none,none,none,none,none,none]
def Ms (c:Value) (w:World) (K:Value→World→Prop):Prop:= E5 P T.b c (.int .i64 0) w fun t7 w=>conv P T.w T.e t7 w fun i w=>jn (α:=Unit) w (fun J2 w=>Q3 P .lss T.e (.tmp 10) (.const (.int .i64 128)) i (.int .i64 128) w fun bn w=>X1 bn (K (.int .i64 1) w) (Q3 P .geq T.e (.tmp 13) (.const (.int .i64 194)) i (.int .i64 194) w fun ai w=>Q1 ai true w (fun w J=>J i w) fun bw w=>Q1 ai true w (Q3 P .lss T.e (.tmp 16) (.const (.int .i64 224)) bw (.int .i64 224)) fun bo w=>pick P ai bo (.bool false) w fun aq w=>Q1 aq true w (fun w J=>J c w) fun bq w=>Q1 aq true w (Q0 P F.q [bq,(.int .i64 1)]) fun bx w=>pick P aq bx (.bool false) w fun bh w=>X1 bh (K (.int .i64 2) w) (Q3 P .geq T.e (.tmp 24) (.const (.int .i64 224)) i (.int .i64 224) w fun ah w=>Q1 ah true w (fun w J=>J i w) fun bs w=>Q1 ah true w (Q3 P .lss T.e (.tmp 27) (.const (.int .i64 240)) bs (.int .i64 240)) fun bz w=>pick P ah bz (.bool false) w fun am w=>Q1 am true w (fun w J=>J c w) fun a7 w=>Q1 am true w (Q0 P F.q [a7,(.int .i64 1)]) fun bj w=>pick P am bj (.bool false) w fun ay w=>Q1 ay true w (fun w J=>J c w) fun bk w=>Q1 ay true w (Q0 P F.q [bk,(.int .i64 2)]) fun bi w=>pick P ay bi (.bool false) w fun bv w=>X1 bv (dr w fun a b=>Q7 a (fun g=> ∀w,b w→Q3 P .rem T.e (.tmp 38) (.const (.int .i64 16)) i (.int .i64 16) w (dk a g w)) fun g=>Q7 a (fun h=> ∀R w,b w→g R w→Q3 P .mul T.e (.tmp 39) (.const (.int .i64 4096)) R (.int .i64 4096) w (dk a h w)) fun h=>Q7 a (fun y=> ∀w,b w→E5 P T.b c (.int .i64 1) w (dk a y w)) fun y=>Q7 a (fun m=> ∀H w,b w→y H w→Q3 P .rem T.w (.tmp 42) (.const (.int .u8 64)) H (.int .u8 64) w (dk a m w)) fun m=>Q7 a (fun p=> ∀w,b w→E5 P T.b c (.int .i64 2) w (dk a p w)) fun p=>Q7 a (fun u=> ∀f w,b w→p f w→Q3 P .rem T.w (.tmp 48) (.const (.int .u8 64)) f (.int .u8 64) w (dk a u w)) fun u=>Q7 a (fun l=> ∀N w,b w→m N w→conv P T.w T.e N w (dk a l w)) fun l=>Q7 a (fun L=> ∀M w,b w→l M w→Q3 P .mul T.e (.tmp 44) (.const (.int .i64 64)) M (.int .i64 64) w (dk a L w)) fun L=>Q7 a (fun ao=> ∀Z o w,b w→h Z w→L o w→Q3 P .add T.e (.tmp 40) (.tmp 45) Z o w (dk a ao w)) fun ao=>Q7 a (fun al=> ∀D w,b w→u D w→conv P T.w T.e D w (dk a al w)) fun al=>∀R Z H N f D M o a3 a1 w,b w→g R w→h Z w→y H w→m N w→p f w→u D w→l M w→L o w→ao a3 w→al a1 w→ Q3 P .add T.e (.tmp 46) (.tmp 50) a3 a1 w fun an w=>Q3 P .geq T.e (.tmp 52) (.const (.int .i64 2048)) an (.int .i64 2048) w fun e w=>Q1 e true w (fun w J=>J an w) fun b1 w=>Q1 e true w (Q3 P .lss T.e (.tmp 55) (.const (.int .i64 55296)) b1 (.int .i64 55296)) fun bu w=>Q1 e true w (fun w J=>J bu w) fun ak w=>Q1 ak false w (fun w J=>J an w) fun bg w=>Q1 ak false w (Q3 P .gtr T.e (.tmp 58) (.const (.int .i64 57343)) bg (.int .i64 57343)) fun br w=>Q1 e true w (pick P ak (.bool true) br) fun bb w=>pick P e bb (.bool false) w fun b0 w=>X1 b0 (K (.int .i64 3) w) (J2 () w)) (Q3 P .geq T.e (.tmp 63) (.const (.int .i64 240)) i (.int .i64 240) w fun ax w=>Q1 ax true w (fun w J=>J i w) fun a8 w=>Q1 ax true w (Q3 P .lss T.e (.tmp 66) (.const (.int .i64 245)) a8 (.int .i64 245)) fun bf w=>pick P ax bf (.bool false) w fun ar w=>Q1 ar true w (fun w J=>J c w) fun ba w=>Q1 ar true w (Q0 P F.q [ba,(.int .i64 1)]) fun bm w=>pick P ar bm (.bool false) w fun ap w=>Q1 ap true w (fun w J=>J c w) fun bd w=>Q1 ap true w (Q0 P F.q [bd,(.int .i64 2)]) fun a9 w=>pick P ap a9 (.bool false) w fun av w=>Q1 av true w (fun w J=>J c w) fun bc w=>Q1 av true w (Q0 P F.q [bc,(.int .i64 3)]) fun be w=>pick P av be (.bool false) w fun bp w=>X1 bp (dr w fun a b=>Q7 a (fun W=> ∀w,b w→Q3 P .rem T.e (.tmp 81) (.const (.int .i64 8)) i (.int .i64 8) w (dk a W w)) fun W=>Q7 a (fun V=> ∀E w,b w→W E w→Q3 P .mul T.e (.tmp 82) (.const (.int .i64 262144)) E (.int .i64 262144) w (dk a V w)) fun V=>Q7 a (fun A=> ∀w,b w→E5 P T.b c (.int .i64 1) w (dk a A w)) fun A=>Q7 a (fun C=> ∀ab w,b w→A ab w→Q3 P .rem T.w (.tmp 85) (.const (.int .u8 64)) ab (.int .u8 64) w (dk a C w)) fun C=>Q7 a (fun Y=> ∀w,b w→E5 P T.b c (.int .i64 2) w (dk a Y w)) fun Y=>Q7 a (fun k=> ∀O w,b w→Y O w→Q3 P .rem T.w (.tmp 91) (.const (.int .u8 64)) O (.int .u8 64) w (dk a k w)) fun k=>Q7 a (fun U=> ∀w,b w→E5 P T.b c (.int .i64 3) w (dk a U w)) fun U=>Q7 a (fun ad=> ∀q w,b w→U q w→Q3 P .rem T.w (.tmp 97) (.const (.int .u8 64)) q (.int .u8 64) w (dk a ad w)) fun ad=>Q7 a (fun X=> ∀s w,b w→C s w→conv P T.w T.e s w (dk a X w)) fun X=>Q7 a (fun j=> ∀n w,b w→X n w→Q3 P .mul T.e (.tmp 87) (.const (.int .i64 4096)) n (.int .i64 4096) w (dk a j w)) fun j=>Q7 a (fun Q=> ∀z aa w,b w→V z w→j aa w→Q3 P .add T.e (.tmp 83) (.tmp 88) z aa w (dk a Q w)) fun Q=>Q7 a (fun r=> ∀v w,b w→k v w→conv P T.w T.e v w (dk a r w)) fun r=>Q7 a (fun ac=> ∀ae w,b w→r ae w→Q3 P .mul T.e (.tmp 93) (.const (.int .i64 64)) ae (.int .i64 64) w (dk a ac w)) fun ac=>Q7 a (fun aj=> ∀af t w,b w→Q af w→ac t w→Q3 P .add T.e (.tmp 89) (.tmp 94) af t w (dk a aj w)) fun aj=>Q7 a (fun aw=> ∀B w,b w→ad B w→conv P T.w T.e B w (dk a aw w)) fun aw=>∀E z ab s O v q B n aa af ae t a4 a5 w,b w→W E w→V z w→A ab w→C s w→Y O w→k v w→U q w→ad B w→X n w→j aa w→Q af w→r ae w→ac t w→aj a4 w→aw a5 w→ Q3 P .add T.e (.tmp 95) (.tmp 99) a4 a5 w fun ag w=>Q3 P .geq T.e (.tmp 101) (.const (.int .i64 65536)) ag (.int .i64 65536) w fun d w=>Q1 d true w (fun w J=>J ag w) fun a6 w=>Q1 d true w (Q3 P .leq T.e (.tmp 104) (.const (.int .i64 1114111)) a6 (.int .i64 1114111)) fun az w=>pick P d az (.bool false) w fun a2 w=>X1 a2 (K (.int .i64 4) w) (J2 () w)) (J2 () w))))) fun z2 d_ w=>K (.int .i64 0) w
theorem Ke {a:Value} {w:World} {K:Value→World→Prop} (h:Ms a w K):Q0 P F.bt [a] w K:=Q9 Kr Tryz.func240 rfl (by decide) (by kernel_rfl) h
def Bi:V4:=[none,none,some ([0],[0,2,3,4,5,6,7,8,9,10,11,12]),none,none,none,none,none,none,none]
def Ld (f:Value) (w:World) (K:Value→World→Prop):Prop:= lp (α:=Value) f w fun a c h w=>Q3 P .neq T.b (.tmp 4) (.const (.string ⟨#[]⟩)) c (.string ⟨#[]⟩) w fun e w=>X1 e (Q0 P F.bt [c] w fun d w=>Q3 P .eql T.e (.tmp 8) (.const (.int .i64 0)) d (.int .i64 0) w fun g w=>X1 g (K (.bool false) w) (H7 P T.b c (some d) none none w fun b w=>a b w)) (K (.bool true) w)
theorem Fg {a:Value} {w:World} {K:Value→World→Prop} (h:Ld a w K):Q0 P F.bk [a] w K:=Q9 Bi Tryz.func232 rfl (by decide) (by kernel_rfl) h
def Bl:V4:=[none,none,none,some ([5],[2,3,4,5,6,7,8,9,10,11,12,13,14,15,16,17,18,19,20,21,22,23,24,25,26,27,28,29,30,31,32,33]),none,none,none,none,none,none]
def Wl (z:Value) (w:World) (K:Value→World→Prop):Prop:= lp (α:=Value) (.int .i64 0) w fun j y N w=>X5 P .len [T.b] T.e [false] [z] w fun L w=>Q3 P .lss T.e (.tmp 6) (.tmp 8) y L w fun M w=>X1 M (E5 P T.b z y w fun D w=>Q3 P .eql T.w (.tmp 14) (.const (.int .u8 46)) D (.int .u8 46) w fun E w=>X1 E (dr w fun b d=>Q7 b (fun v=> ∀w,d w→H7 P T.b z none (some y) none w (dk b v w)) fun v=>Q7 b (fun s=> ∀w,d w→Q3 P .add T.e (.tmp 20) (.const (.int .i64 1)) y (.int .i64 1) w (dk b s w)) fun s=>Q7 b (fun t=> ∀k w,d w→s k w→H7 P T.b z (some k) none none w (dk b t w)) fun t=>Q7 b (fun q=> ∀w,d w→H7 P T.b z none (some y) none w (dk b q w)) fun q=>Q7 b (fun c=> ∀g w,d w→q g w→Q0 P F.e [g] w (dk b c w)) fun c=>Q7 b (fun i=> ∀a w,d w→c a w→Q1 a true w (fun w J=>J z w) (dk b i w)) fun i=>Q7 b (fun m=> ∀a w,d w→c a w→Q1 a true w (fun w J=>J y w) (dk b m w)) fun m=>Q7 b (fun r=> ∀a p w,d w→c a w→m p w→Q1 a true w (Q3 P .add T.e (.tmp 29) (.const (.int .i64 1)) p (.int .i64 1)) (dk b r w)) fun r=>Q7 b (fun h=> ∀a n l w,d w→c a w→i n w→r l w→Q1 a true w (H7 P T.b n (some l) none none) (dk b h w)) fun h=>Q7 b (fun e=> ∀a f w,d w→c a w→h f w→Q1 a true w (Q0 P F.t [f]) (dk b e w)) fun e=>Q7 b (fun u=> ∀a o w,d w→c a w→e o w→pick P a o (.bool false) w (dk b u w)) fun u=>∀A k B g a n p l f o C w,d w→v A w→s k w→t B w→q g w→c a w→i n w→m p w→r l w→h f w→e o w→u C w→ K (.tuple #[A,B,C]) w) (Q3 P .add T.e (.tmp 10) (.const (.int .i64 1)) y (.int .i64 1) w fun H w=>j H w)) (K (.tuple #[(.string ⟨#[]⟩),(.string ⟨#[]⟩),(.bool false)]) w)
theorem Bw {a:Value} {w:World} {K:Value→World→Prop} (h:Wl a w K):Q0 P F.bl [a] w K:=Q9 Bl Tryz.func233 rfl (by decide) (by kernel_rfl) h
def Bm:V4:=[none,none,none,none,none,none,some ([4],[4,5,6,7,8,30,31,32,33,34,35,36,37,38,39,40,41,42,43,44,45,46,47,48,49,50,51,52,53,54,55,56,57,58,59,60,61,62,63,64,65,66,67,68,69,70,71,72,73,74,75,76,77,78,79,80,81,82,83,84,85,86,87,88,89,90,91,92,93,94,95,96,97,98,99,100,101,102,103,104,105,106,107,108,109,110]),none,none,none,none,none,some ([4,5],[4,5,59,60,61,62,63,64,65,66,67,68,69,70,71,72,73]),none,none,none,none,some ([82],[82,83,84]),none,none,none,none,none,none,none]
def Wg (a0:Value) (w:World) (K:Value→World→Prop):Prop:= box P T.n a0 w fun d w=>fieldAddr P T.n d 0 w fun t9 w=>Q2 P T.b t9 w fun C w=>Q0 P F.b7 [C] w fun i w=>Q3 P .lss T.e (.tmp 12) (.const (.int .i64 0)) i (.int .i64 0) w fun ai w=>X1 ai (K (.int .i64 40) w) (Q3 P .eql T.e (.tmp 14) (.const (.int .i64 1)) i (.int .i64 1) w fun k w=>Q1 k false w (fieldAddr P T.n d 1) fun aj w=>Q1 k false w (Q2 P T.al aj) fun a1 w=>Q1 k false w (Q3 P .eql T.al (.tmp 18) (.const (.int .i64 0)) a1 (.int .i64 0)) fun az w=>pick P k (.bool true) az w fun f w=>Q1 f true w (fun w J=>J i w) fun X w=>Q1 f true w (Q3 P .eql T.e (.tmp 22) (.const (.int .i64 2)) X (.int .i64 2)) fun be w=>Q1 f true w (fun w J=>J be w) fun l w=>Q1 l false w (fieldAddr P T.n d 2) fun E w=>Q1 l false w (Q2 P T.b E) fun B w=>Q1 l false w (Q3 P .eql T.b (.tmp 26) (.const (.string ⟨#[]⟩)) B (.string ⟨#[]⟩)) fun aw w=>Q1 f true w (pick P l (.bool true) aw) fun a5 w=>pick P f a5 (.bool false) w fun a w=>jn (α:=Value) w (fun n w=>Q3 P .eql T.e (.tmp 30) (.const (.int .i64 2)) i (.int .i64 2) w fun D w=>X1 D (fieldAddr P T.n d 0 w fun ac w=>Q2 P T.b ac w fun h w=>Q3 P .eql T.b (.tmp 33) (.const (.string ⟨#[119,111,114,100]⟩)) h (.string ⟨#[119,111,114,100]⟩) w fun ak w=>X1 ak (Q1 a true w (fieldAddr P T.n d 2) fun am w=>Q1 a true w (Q2 P T.b am) fun Y w=>Q1 a true w (X5 P .len [T.b] T.e [false] [Y]) fun an w=>Q1 a true w (Q3 P .leq T.e (.tmp 51) (.const (.int .i64 64)) an (.int .i64 64)) fun ad w=>pick P a ad (.bool false) w fun j w=>Q1 j true w (fieldAddr P T.n d 2) fun a9 w=>Q1 j true w (Q2 P T.b a9) fun ay w=>Q1 j true w (Q0 P F.bk [ay]) fun W w=>pick P j W (.bool false) w fun V w=>lp (α:=Value×Value) (V,(.int .i64 0)) w fun g b d_ w=>fieldAddr P T.n d 2 w fun M w=>Q2 P T.b M w fun a8 w=>X5 P .len [T.b] T.e [false] [a8] w fun ba w=>Q3 P .lss T.e (.tmp 59) (.tmp 62) b.2 ba w fun bc w=>X1 bc (Q1 b.1 true w (fieldAddr P T.n d 2) fun a3 w=>Q1 b.1 true w (Q2 P T.b a3) fun Q w=>Q1 b.1 true w (fun w J=>J b.2 w) fun L w=>Q1 b.1 true w (E5 P T.b Q L) fun af w=>Q1 b.1 true w (Q3 P .neq T.w (.tmp 71) (.const (.int .u8 10)) af (.int .u8 10)) fun ax w=>pick P b.1 ax (.bool false) w fun a4 w=>Q3 P .add T.e (.tmp 64) (.const (.int .i64 1)) b.2 (.int .i64 1) w fun a2 w=>g (a4,a2) w) (n b.1 w)) (Q3 P .eql T.b (.tmp 33) (.const (.string ⟨#[110,101,119]⟩)) h (.string ⟨#[110,101,119]⟩) w fun H w=>X1 H (Q1 a true w (fieldAddr P T.n d 2) fun N w=>Q1 a true w (Q2 P T.b N) fun O w=>Q1 a true w (Q0 P F.e [O]) fun al w=>pick P a al (.bool false) w fun R w=>n R w) (jn (α:=Value) w (fun z w=>Q3 P .eql T.b (.tmp 33) (.const (.string ⟨#[105,115]⟩)) h (.string ⟨#[105,115]⟩) w fun t w=>X1 t (z t w) (Q3 P .eql T.b (.tmp 33) (.const (.string ⟨#[99,97,115,116]⟩)) h (.string ⟨#[99,97,115,116]⟩) w fun ao w=>z ao w)) fun ap d_ w=>X1 ap (Q1 a true w (fieldAddr P T.n d 2) fun U w=>Q1 a true w (Q2 P T.b U) fun a7 w=>Q1 a true w (Q0 P F.i [a7]) fun bd w=>pick P a bd (.bool false) w fun e w=>Q1 e true w (fieldAddr P T.n d 2) fun ag w=>Q1 e true w (Q2 P T.b ag) fun bb w=>Q1 e true w (Q0 P F.n [bb]) fun ab w=>Q1 e true w (Z8 P .not ab) fun av w=>pick P e av (.bool false) w fun Z w=>n Z w) (Q3 P .eql T.b (.tmp 33) (.const (.string ⟨#[97,114,114,97,121]⟩)) h (.string ⟨#[97,114,114,97,121]⟩) w fun ah w=>X1 ah (Q1 a true w (fieldAddr P T.n d 2) fun q w=>Q1 a true w (Q2 P T.b q) fun o w=>Q1 a true w (Q0 P F.i [o]) fun u w=>pick P a u (.bool false) w fun c w=>Q1 c true w (fieldAddr P T.n d 2) fun s w=>Q1 c true w (Q2 P T.b s) fun y w=>Q1 c true w (Q0 P F.an [y]) fun v w=>Q1 c true w (Q3 P .lss T.e (.tmp 108) (.const (.int .i64 3)) v (.int .i64 3)) fun r w=>pick P c r (.bool false) w fun p w=>n p w) (fieldAddr P T.n d 2 w fun ae w=>Q2 P T.b ae w fun aa w=>Q0 P F.bl [aa] w fun m w=>ext P m 0 w fun bi w=>ext P m 1 w fun bh w=>ext P m 2 w fun a6 w=>Q1 a true w (fun w J=>J a6 w) fun ar w=>pick P a ar (.bool false) w fun aq w=>n aq w))))) (n a w)) fun z6 d_ w=>Z8 P .not z6 w fun A w=>X1 A (K (.int .i64 41) w) (K (.int .i64 0) w))
theorem Gn {a:Value} {w:World} {K:Value→World→Prop} (h:Wg a w K):Q0 P F.bj [a] w K:=Q9 Bm Tryz.func221 rfl (by decide) (by kernel_rfl) h
def Tx:V4:=[none,none,none,some ([3],[2,3,4,5,6,7,8,9,10,11,12,13,14,15,16,17,18]),none,none,none,none,none,none,none]
def Ol (h:Value) (w:World) (K:Value→World→Prop):Prop:= lp (α:=Value) (.int .i64 0) w fun a g k w=>X5 P .len [T.l] T.e [false] [h] w fun j w=>Q3 P .lss T.e (.tmp 5) (.tmp 7) g j w fun i w=>X1 i (indexAddr P T.l h g w fun e w=>Q2 P T.n e w fun d w=>Q0 P F.bj [d] w fun b w=>Q3 P .neq T.s (.tmp 16) (.const (.int .i64 0)) b (.int .i64 0) w fun f w=>X1 f (K b w) (Q3 P .add T.e (.tmp 9) (.const (.int .i64 1)) g (.int .i64 1) w fun c w=>a c w)) (K (.int .i64 0) w)
theorem Af {a:Value} {w:World} {K:Value→World→Prop} (h:Ol a w K):Q0 P F.aS [a] w K:=Q9 Tx Tryz.func205 rfl (by decide) (by kernel_rfl) h
def Cx:V4:=[none,none,none,none,some ([3,4],[3,4,21,22,23,24,25,26,27,28,29,30,31,32,33,34,35,36]),none,none,none,none,none,none,none,none,none,some ([3,6],[3,6,7,60,61,62,63,64,65,66,67,68,69,70,71,72,73,74,75,76,77,78,79,80,81,82,83,84,85,86,87,88,89,90,91,92,93,94,95,96,97,98,99,100,101,102,103,104,105,106]),none,none,none,none,none]
def Ux (a0:Value) (w:World) (K:Value→World→Prop):Prop:= box P T.d a0 w fun e w=>fieldAddr P T.d e 0 w fun t8 w=>Q2 P T.b t8 w fun t9 w=>Q0 P F.t [t9] w fun g w=>Q1 g true w (fieldAddr P T.d e 2) fun am w=>Q1 g true w (Q2 P T.b am) fun az w=>Q1 g true w (Q3 P .eql T.b (.tmp 13) (.const (.string ⟨#[]⟩)) az (.string ⟨#[]⟩)) fun ac w=>Q1 g true w (fun w J=>J ac w) fun p w=>Q1 p false w (fieldAddr P T.d e 2) fun bi w=>Q1 p false w (Q2 P T.b bi) fun a1 w=>Q1 p false w (Q0 P F.i [a1]) fun bf w=>Q1 g true w (pick P p (.bool true) bf) fun be w=>pick P g be (.bool false) w fun a6 w=>lp (α:=Value×Value) (a6,(.int .i64 0)) w fun o d d_ w=>fieldAddr P T.d e 1 w fun aj w=>Q2 P T.c aj w fun b0 w=>X5 P .len [T.c] T.e [false] [b0] w fun bu w=>Q3 P .lss T.e (.tmp 21) (.tmp 24) d.2 bu w fun W w=>X1 W (Q1 d.1 true w (fieldAddr P T.d e 1) fun bl w=>Q1 d.1 true w (Q2 P T.c bl) fun V w=>Q1 d.1 true w (fun w J=>J d.2 w) fun ap w=>Q1 d.1 true w (indexAddr P T.c V ap) fun bs w=>Q1 d.1 true w (Q2 P T.b bs) fun ai w=>Q1 d.1 true w (Q0 P F.i [ai]) fun aq w=>pick P d.1 aq (.bool false) w fun an w=>Q3 P .add T.e (.tmp 26) (.const (.int .i64 1)) d.2 (.int .i64 1) w fun bb w=>o (an,bb) w) (fieldAddr P T.d e 3 w fun bh w=>Q2 P T.m bh w fun bg w=>X1 bg (Q1 d.1 true w (fieldAddr P T.d e 4) fun a8 w=>Q1 d.1 true w (Q2 P T.e a8) fun a7 w=>Q1 d.1 true w (Q3 P .eql T.e (.tmp 42) (.const (.int .i64 0)) a7 (.int .i64 0)) fun a9 w=>pick P d.1 a9 (.bool false) w fun k w=>Q1 k true w (fieldAddr P T.d e 5) fun a2 w=>Q1 k true w (Q2 P T.l a2) fun bm w=>Q1 k true w (X5 P .len [T.l] T.e [false] [bm]) fun U w=>Q1 k true w (Q3 P .eql T.e (.tmp 48) (.const (.int .i64 0)) U (.int .i64 0)) fun a4 w=>pick P k a4 (.bool false) w fun i w=>Q1 i true w (fieldAddr P T.d e 6) fun ar w=>Q1 i true w (Q2 P T.o ar) fun ba w=>Q1 i true w (X5 P .len [T.o] T.e [false] [ba]) fun bq w=>Q1 i true w (Q3 P .eql T.e (.tmp 54) (.const (.int .i64 0)) bq (.int .i64 0)) fun bp w=>pick P i bp (.bool false) w fun bc w=>K bc w) (fieldAddr P T.d e 5 w fun ah w=>Q2 P T.l ah w fun ag w=>X5 P .len [T.l] T.e [false] [ag] w fun r w=>lp (α:=Value×Value) (d.1,(.int .i64 0)) w fun m b d_ w=>fieldAddr P T.d e 6 w fun bo w=>Q2 P T.o bo w fun bv w=>X5 P .len [T.o] T.e [false] [bv] w fun bx w=>Q3 P .lss T.e (.tmp 60) (.tmp 63) b.2 bx w fun br w=>X1 br (fieldAddr P T.d e 6 w fun af w=>Q2 P T.o af w fun bj w=>indexAddr P T.o bj b.2 w fun Z w=>Q2 P T.p Z w fun av w=>W4 P T.p w fun q w=>Z0 P T.p q av w fun _u w=>Q1 b.1 true w (fieldAddr P T.p q 0) fun aa w=>Q1 b.1 true w (Q2 P T.e aa) fun Y w=>Q1 b.1 true w (Q3 P .geq T.e (.tmp 75) (.const (.int .i64 0)) Y (.int .i64 0)) fun bk w=>pick P b.1 bk (.bool false) w fun h w=>Q1 h true w (fieldAddr P T.p q 0) fun ab w=>Q1 h true w (Q2 P T.e ab) fun a3 w=>Q1 h true w (fieldAddr P T.p q 1) fun ad w=>Q1 h true w (Q2 P T.e ad) fun a5 w=>Q1 h true w (Q3 P .lss T.e (.tmp 80) (.tmp 82) a3 a5) fun ax w=>pick P h ax (.bool false) w fun j w=>Q1 j true w (fieldAddr P T.p q 1) fun al w=>Q1 j true w (Q2 P T.e al) fun ae w=>Q1 j true w (fun w J=>J r w) fun bn w=>Q1 j true w (Q3 P .leq T.e (.tmp 87) (.tmp 88) ae bn) fun bz w=>pick P j bz (.bool false) w fun n w=>Q1 n true w (fieldAddr P T.p q 2) fun aw w=>Q1 n true w (Q2 P T.e aw) fun bw w=>Q1 n true w (Q3 P .geq T.e (.tmp 93) (.const (.int .i64 0)) bw (.int .i64 0)) fun ao w=>pick P n ao (.bool false) w fun l w=>Q1 l true w (fieldAddr P T.p q 2) fun ak w=>Q1 l true w (Q2 P T.e ak) fun ay w=>Q1 l true w (fun w J=>J r w) fun bd w=>Q1 l true w (Q3 P .lss T.e (.tmp 98) (.tmp 99) ay bd) fun Q w=>pick P l Q (.bool false) w fun f w=>Q1 f true w (fieldAddr P T.p q 3) fun C w=>Q1 f true w (Q2 P T.b C) fun O w=>Q1 f true w (Q0 P F.e [O]) fun t w=>pick P f t (.bool false) w fun A w=>Q3 P .add T.e (.tmp 65) (.const (.int .i64 1)) b.2 (.int .i64 1) w fun X w=>m (A,X) w) (Q1 b.1 true w (fun w J=>J r w) fun z w=>Q1 b.1 true w (Q3 P .gtr T.e (.tmp 109) (.const (.int .i64 0)) z (.int .i64 0)) fun s w=>pick P b.1 s (.bool false) w fun a w=>Q1 a true w (fieldAddr P T.d e 4) fun v w=>Q1 a true w (Q2 P T.e v) fun R w=>Q1 a true w (fieldAddr P T.d e 1) fun D w=>Q1 a true w (Q2 P T.c D) fun N w=>Q1 a true w (X5 P .len [T.c] T.e [false] [N]) fun L w=>Q1 a true w (Q3 P .gtr T.e (.tmp 114) (.tmp 117) R L) fun E w=>pick P a E (.bool false) w fun c w=>Q1 c true w (fieldAddr P T.d e 5) fun y w=>Q1 c true w (Q2 P T.l y) fun u w=>Q1 c true w (Q0 P F.aS [u]) fun B w=>Q1 c true w (Q3 P .eql T.s (.tmp 123) (.const (.int .i64 0)) B (.int .i64 0)) fun M w=>pick P c M (.bool false) w fun H w=>K H w)))
theorem Ck {a:Value} {w:World} {K:Value→World→Prop} (h:Ux a w K):Q0 P F.y [a] w K:=Q9 Cx Tryz.func172 rfl (by decide) (by kernel_rfl) h
def Fa:V4:=[none,none,none,none,some ([3,4],[3,4,5,26,27,28,29,30,31,32,33,34,35,36,37,38,39,40,41,42,43,44,45,46,47,48,49,50,51,52,53,54,55,56,57,58,59,60,61,62,63,64,65,66,67,68,69,70]),none,none,none,none,none,some ([3,5],[3,5,52,53,54,55,56,57,58,59,60,61,62,63,64,65,66,67,68,69,70]),none,none,none,none,none,some ([3,6],[3,6,7,71,72,73,74,75,76,77,78,79,80,81,82,83,84,85,86,87,88,89,90,91,92,93,94,95,96,97,98,99,100,101,102,103,104,105,106,107,108,109,110,111,112,113,114,115,116,117,118,119,120,121,122]),none,none,none,none,none,some ([3,7],[3,7,102,103,104,105,106,107,108,109,110,111,112,113,114,115,116,117,118,119,120,121,122]),none,none,none,none,none,some ([3,8],[3,8,9,10,123,124,125,126,127,128,129,130,131,132,133,134,135,136,137,138,139,140,141,142,143,144,145,146,147,148,149,150,151,152,153,154,155,156,157,158,159,160,161,162,163,164,165,166,167,168,169,170,171,172,173,174]),none,none,none,none,none,none,some ([3,10],[3,10,158,159,160,161,162,163,164,165,166,167,168,169,170,171,172,173,174]),none,none,none,none]
def Vz (a0:Value) (w:World) (K:Value→World→Prop):Prop:= box P T.a a0 w fun i w=>fieldAddr P T.a i 0 w fun et w=>Q2 P T.b et w fun d5 w=>Q0 P F.e [d5] w fun ba w=>Q1 ba true w (fieldAddr P T.a i 1) fun ee w=>Q1 ba true w (Q2 P T.b ee) fun e4 w=>Q1 ba true w (Q0 P F.e [e4]) fun d8 w=>pick P ba d8 (.bool false) w fun ah w=>Q1 ah true w (fieldAddr P T.a i 0) fun e0 w=>Q1 ah true w (Q2 P T.b e0) fun ed w=>Q1 ah true w (fieldAddr P T.a i 1) fun d4 w=>Q1 ah true w (Q2 P T.b d4) fun ek w=>Q1 ah true w (Q3 P .neq T.b (.tmp 21) (.tmp 23) ed ek) fun e8 w=>pick P ah e8 (.bool false) w fun el w=>lp (α:=Value×Value) (el,(.int .i64 0)) w fun a9 v d_ w=>fieldAddr P T.a i 2 w fun eb w=>Q2 P T.c eb w fun e7 w=>X5 P .len [T.c] T.e [false] [e7] w fun ew w=>Q3 P .lss T.e (.tmp 26) (.tmp 29) v.2 ew w fun ef w=>X1 ef (dr w fun a b=>Q7 a (fun be=> ∀w,b w→Q1 v.1 true w (fieldAddr P T.a i 2) (dk a be w)) fun be=>Q7 a (fun bs=> ∀w,b w→Q1 v.1 true w (fun w J=>J v.2 w) (dk a bs w)) fun bs=>Q7 a (fun bw=> ∀a8 w,b w→be a8 w→Q1 v.1 true w (Q2 P T.c a8) (dk a bw w)) fun bw=>Q7 a (fun bg=> ∀bn b1 w,b w→bw bn w→bs b1 w→Q1 v.1 true w (indexAddr P T.c bn b1) (dk a bg w)) fun bg=>Q7 a (fun bk=> ∀bz w,b w→bg bz w→Q1 v.1 true w (Q2 P T.b bz) (dk a bk w)) fun bk=>Q7 a (fun bl=> ∀bx w,b w→bk bx w→Q1 v.1 true w (Q0 P F.e [bx]) (dk a bl w)) fun bl=>Q7 a (fun j=> ∀bh w,b w→bl bh w→pick P v.1 bh (.bool false) w (dk a j w)) fun j=>Q7 a (fun a2=> ∀c w,b w→j c w→Q1 c true w (fieldAddr P T.a i 2) (dk a a2 w)) fun a2=>Q7 a (fun bq=> ∀c w,b w→j c w→Q1 c true w (fun w J=>J v.2 w) (dk a bq w)) fun bq=>Q7 a (fun a6=> ∀c w,b w→j c w→Q1 c true w (fieldAddr P T.a i 0) (dk a a6 w)) fun a6=>Q7 a (fun a1=> ∀c bu w,b w→j c w→a2 bu w→Q1 c true w (Q2 P T.c bu) (dk a a1 w)) fun a1=>Q7 a (fun bp=> ∀c bc bm w,b w→j c w→a1 bc w→bq bm w→Q1 c true w (indexAddr P T.c bc bm) (dk a bp w)) fun bp=>Q7 a (fun b9=> ∀c bb w,b w→j c w→bp bb w→Q1 c true w (Q2 P T.b bb) (dk a b9 w)) fun b9=>Q7 a (fun ca=> ∀c ax w,b w→j c w→a6 ax w→Q1 c true w (Q2 P T.b ax) (dk a ca w)) fun ca=>∀a8 b1 bn bz bx bh c bu bm ax bc bb dw cq w,b w→be a8 w→bs b1 w→bw bn w→bg bz w→bk bx w→bl bh w→j c w→a2 bu w→bq bm w→a6 ax w→a1 bc w→bp bb w→b9 dw w→ca cq w→ Q1 c true w (Q3 P .neq T.b (.tmp 47) (.tmp 49) dw cq) fun eq w=>pick P c eq (.bool false) w fun ey w=>lp (α:=Value×Value) (ey,(.int .i64 0)) w fun an e d_ w=>Q3 P .lss T.e (.tmp 52) (.tmp 53) e.2 v.2 w fun eh w=>X1 eh (dr w fun a b=>Q7 a (fun bo=> ∀w,b w→Q1 e.1 true w (fieldAddr P T.a i 2) (dk a bo w)) fun bo=>Q7 a (fun bf=> ∀w,b w→Q1 e.1 true w (fun w J=>J e.2 w) (dk a bf w)) fun bf=>Q7 a (fun bj=> ∀w,b w→Q1 e.1 true w (fieldAddr P T.a i 2) (dk a bj w)) fun bj=>Q7 a (fun a4=> ∀w,b w→Q1 e.1 true w (fun w J=>J v.2 w) (dk a a4 w)) fun a4=>Q7 a (fun b3=> ∀bv w,b w→bo bv w→Q1 e.1 true w (Q2 P T.c bv) (dk a b3 w)) fun b3=>Q7 a (fun br=> ∀az b2 w,b w→b3 az w→bf b2 w→Q1 e.1 true w (indexAddr P T.c az b2) (dk a br w)) fun br=>Q7 a (fun cb=> ∀b4 w,b w→br b4 w→Q1 e.1 true w (Q2 P T.b b4) (dk a cb w)) fun cb=>Q7 a (fun a3=> ∀bi w,b w→bj bi w→Q1 e.1 true w (Q2 P T.c bi) (dk a a3 w)) fun a3=>Q7 a (fun bd=> ∀b0 ay w,b w→a3 b0 w→a4 ay w→Q1 e.1 true w (indexAddr P T.c b0 ay) (dk a bd w)) fun bd=>Q7 a (fun cc=> ∀a5 w,b w→bd a5 w→Q1 e.1 true w (Q2 P T.b a5) (dk a cc w)) fun cc=>∀bv b2 bi ay az b4 c9 b0 a5 c0 w,b w→bo bv w→bf b2 w→bj bi w→a4 ay w→b3 az w→br b4 w→cb c9 w→a3 b0 w→bd a5 w→cc c0 w→ Q1 e.1 true w (Q3 P .neq T.b (.tmp 63) (.tmp 68) c9 c0) fun ep w=>pick P e.1 ep (.bool false) w fun d1 w=>Q3 P .add T.e (.tmp 55) (.const (.int .i64 1)) e.2 (.int .i64 1) w fun e3 w=>an (d1,e3) w) (Q3 P .add T.e (.tmp 31) (.const (.int .i64 1)) v.2 (.int .i64 1) w fun es w=>a9 (e.1,es) w)) (lp (α:=Value×Value) (v.1,(.int .i64 0)) w fun aw f d_ w=>fieldAddr P T.a i 6 w fun ec w=>Q2 P T.i ec w fun e5 w=>X5 P .len [T.i] T.e [false] [e5] w fun eo w=>Q3 P .lss T.e (.tmp 71) (.tmp 74) f.2 eo w fun em w=>X1 em (Q1 f.1 true w (fieldAddr P T.a i 6) fun d9 w=>Q1 f.1 true w (Q2 P T.i d9) fun d3 w=>Q1 f.1 true w (fun w J=>J f.2 w) fun ea w=>Q1 f.1 true w (indexAddr P T.i d3 ea) fun eu w=>Q1 f.1 true w (fieldAddr P T.k eu 0) fun ez w=>Q1 f.1 true w (Q2 P T.b ez) fun eg w=>Q1 f.1 true w (Q0 P F.t [eg]) fun er w=>pick P f.1 er (.bool false) w fun o w=>Q1 o true w (fieldAddr P T.a i 6) fun ej w=>Q1 o true w (Q2 P T.i ej) fun d2 w=>Q1 o true w (fun w J=>J f.2 w) fun e1 w=>Q1 o true w (indexAddr P T.i d2 e1) fun d7 w=>Q1 o true w (fieldAddr P T.k d7 1) fun ei w=>Q1 o true w (Q2 P T.b ei) fun d6 w=>Q1 o true w (Q0 P F.i [d6]) fun e2 w=>pick P o e2 (.bool false) w fun a7 w=>Q1 a7 true w (fieldAddr P T.a i 3) fun ex w=>Q1 a7 true w (Q2 P T.m ex) fun e9 w=>Q1 a7 true w (Z8 P .not e9) fun c7 w=>pick P a7 c7 (.bool false) w fun dg w=>lp (α:=Value×Value) (dg,(.int .i64 0)) w fun av d d_ w=>Q3 P .lss T.e (.tmp 102) (.tmp 103) d.2 f.2 w fun c6 w=>X1 c6 (dr w fun a b=>Q7 a (fun Z=> ∀w,b w→Q1 d.1 true w (fieldAddr P T.a i 6) (dk a Z w)) fun Z=>Q7 a (fun H=> ∀w,b w→Q1 d.1 true w (fun w J=>J d.2 w) (dk a H w)) fun H=>Q7 a (fun y=> ∀w,b w→Q1 d.1 true w (fieldAddr P T.a i 6) (dk a y w)) fun y=>Q7 a (fun Y=> ∀w,b w→Q1 d.1 true w (fun w J=>J f.2 w) (dk a Y w)) fun Y=>Q7 a (fun W=> ∀u w,b w→Z u w→Q1 d.1 true w (Q2 P T.i u) (dk a W w)) fun W=>Q7 a (fun R=> ∀q z w,b w→W q w→H z w→Q1 d.1 true w (indexAddr P T.i q z) (dk a R w)) fun R=>Q7 a (fun A=> ∀N w,b w→R N w→Q1 d.1 true w (fieldAddr P T.k N 0) (dk a A w)) fun A=>Q7 a (fun ar=> ∀t w,b w→A t w→Q1 d.1 true w (Q2 P T.b t) (dk a ar w)) fun ar=>Q7 a (fun D=> ∀aa w,b w→y aa w→Q1 d.1 true w (Q2 P T.i aa) (dk a D w)) fun D=>Q7 a (fun U=> ∀O af w,b w→D O w→Y af w→Q1 d.1 true w (indexAddr P T.i O af) (dk a U w)) fun U=>Q7 a (fun ae=> ∀ad w,b w→U ad w→Q1 d.1 true w (fieldAddr P T.k ad 0) (dk a ae w)) fun ae=>Q7 a (fun ap=> ∀X w,b w→ae X w→Q1 d.1 true w (Q2 P T.b X) (dk a ap w)) fun ap=>∀u z aa af q N t b8 O ad X b5 w,b w→Z u w→H z w→y aa w→Y af w→W q w→R N w→A t w→ar b8 w→D O w→U ad w→ae X w→ap b5 w→ Q1 d.1 true w (Q3 P .neq T.b (.tmp 114) (.tmp 120) b8 b5) fun dl w=>pick P d.1 dl (.bool false) w fun dj w=>Q3 P .add T.e (.tmp 105) (.const (.int .i64 1)) d.2 (.int .i64 1) w fun cn w=>av (dj,cn) w) (Q3 P .add T.e (.tmp 76) (.const (.int .i64 1)) f.2 (.int .i64 1) w fun e6 w=>aw (d.1,e6) w)) (lp (α:=Value×Value) (f.1,(.int .i64 0)) w fun ao h d_ w=>fieldAddr P T.a i 7 w fun c5 w=>Q2 P T.g c5 w fun cz w=>X5 P .len [T.g] T.e [false] [cz] w fun c3 w=>Q3 P .lss T.e (.tmp 123) (.tmp 126) h.2 c3 w fun cg w=>X1 cg (fieldAddr P T.a i 7 w fun cl w=>Q2 P T.g cl w fun c4 w=>indexAddr P T.g c4 h.2 w fun cf w=>Q2 P T.d cf w fun cy w=>W4 P T.d w fun t9 w=>Z0 P T.d t9 cy w fun _u w=>Q1 h.1 true w (Q2 P T.d t9) fun dn w=>Q1 h.1 true w (Q0 P F.y [dn]) fun db w=>pick P h.1 db (.bool false) w fun m w=>Q1 m true w (fieldAddr P T.d t9 3) fun cs w=>Q1 m true w (Q2 P T.m cs) fun da w=>Q1 m true w (Z8 P .not da) fun cd w=>Q1 m true w (fun w J=>J cd w) fun aj w=>Q1 aj false w (fieldAddr P T.a i 4) fun df w=>Q1 aj false w (Q2 P T.m df) fun dx w=>Q1 m true w (pick P aj (.bool true) dx) fun dm w=>pick P m dm (.bool false) w fun l w=>Q1 l true w (fieldAddr P T.a i 3) fun cr w=>Q1 l true w (Q2 P T.m cr) fun de w=>Q1 l true w (Z8 P .not de) fun cj w=>Q1 l true w (fun w J=>J cj w) fun al w=>Q1 al false w (fieldAddr P T.d t9 3) fun c2 w=>Q1 al false w (Q2 P T.m c2) fun dv w=>Q1 l true w (pick P al (.bool true) dv) fun c8 w=>pick P l c8 (.bool false) w fun dt w=>lp (α:=Value×Value) (dt,(.int .i64 0)) w fun ak g d_ w=>Q3 P .lss T.e (.tmp 158) (.tmp 159) g.2 h.2 w fun cx w=>X1 cx (dr w fun a b=>Q7 a (fun s=> ∀w,b w→Q1 g.1 true w (fieldAddr P T.a i 7) (dk a s w)) fun s=>Q7 a (fun Q=> ∀w,b w→Q1 g.1 true w (fun w J=>J g.2 w) (dk a Q w)) fun Q=>Q7 a (fun M=> ∀w,b w→Q1 g.1 true w (fieldAddr P T.d t9 0) (dk a M w)) fun M=>Q7 a (fun p=> ∀ag w,b w→s ag w→Q1 g.1 true w (Q2 P T.g ag) (dk a p w)) fun p=>Q7 a (fun E=> ∀r B w,b w→p r w→Q B w→Q1 g.1 true w (indexAddr P T.g r B) (dk a E w)) fun E=>Q7 a (fun L=> ∀C w,b w→E C w→Q1 g.1 true w (fieldAddr P T.d C 0) (dk a L w)) fun L=>Q7 a (fun ai=> ∀ab w,b w→L ab w→Q1 g.1 true w (Q2 P T.b ab) (dk a ai w)) fun ai=>Q7 a (fun aq=> ∀ac w,b w→M ac w→Q1 g.1 true w (Q2 P T.b ac) (dk a aq w)) fun aq=>∀ag B ac r C ab b6 b7 w,b w→s ag w→Q B w→M ac w→p r w→E C w→L ab w→ai b6 w→aq b7 w→ Q1 g.1 true w (Q3 P .neq T.b (.tmp 170) (.tmp 172) b6 b7) fun di w=>pick P g.1 di (.bool false) w fun ck w=>Q3 P .add T.e (.tmp 161) (.const (.int .i64 1)) g.2 (.int .i64 1) w fun dh w=>ak (ck,dh) w) (Q3 P .add T.e (.tmp 128) (.const (.int .i64 1)) h.2 (.int .i64 1) w fun du w=>ao (g.1,du) w)) (Q1 h.1 true w (fieldAddr P T.a i 3) fun dc w=>Q1 h.1 true w (Q2 P T.m dc) fun cv w=>Q1 h.1 true w (Z8 P .not cv) fun ds w=>Q1 h.1 true w (fun w J=>J ds w) fun n w=>Q1 n false w (fieldAddr P T.a i 4) fun d0 w=>Q1 n false w (Q2 P T.m d0) fun dy w=>Q1 n false w (fun w J=>J dy w) fun V w=>Q1 V true w (fieldAddr P T.a i 1) fun dq w=>Q1 V true w (Q2 P T.b dq) fun ct w=>Q1 V true w (Q3 P .eql T.b (.tmp 185) (.const (.string ⟨#[79,98,106,101,99,116]⟩)) ct (.string ⟨#[79,98,106,101,99,116]⟩)) fun ci w=>Q1 n false w (pick P V ci (.bool false)) fun dd w=>Q1 h.1 true w (pick P n (.bool true) dd) fun ch w=>pick P h.1 ch (.bool false) w fun k w=>Q1 k true w (fieldAddr P T.a i 4) fun dp w=>Q1 k true w (Q2 P T.m dp) fun cu w=>Q1 k true w (fun w J=>J cu w) fun am w=>Q1 am true w (fieldAddr P T.a i 5) fun cm w=>Q1 am true w (Q2 P T.m cm) fun cw w=>Q1 k true w (pick P am cw (.bool false)) fun c1 w=>Q1 k true w (Z8 P .not c1) fun ce w=>pick P k ce (.bool false) w fun cp w=>K cp w)))
theorem Gc {a:Value} {w:World} {K:Value→World→Prop} (h:Vz a w K):Q0 P F.be [a] w K:=Q9 Fa Tryz.func113 rfl (by decide) (by kernel_rfl) h
def Vv (d:Value) (w:World) (K:Value→World→Prop):Prop:= box P T.a d w fun a w=>Q2 P T.a a w fun b w=>Q0 P F.bo [b] w fun f w=>X1 f (K (.int .i64 51) w) (Q2 P T.a a w fun c w=>Q0 P F.be [c] w fun e w=>Z8 P .not e w fun g w=>X1 g (K (.int .i64 50) w) (K (.int .i64 0) w))
theorem Gy {a:Value} {w:World} {K:Value→World→Prop} (h:Vv a w K):Q0 P F.bb [a] w K:=Q9 (List.replicate 8 none) Tryz.func53 rfl (by decide) (by kernel_rfl) h
def Iu:V4:=[none,none,none,some ([5],[4,5,6,7,8,9,10,11,12,13,14,15,16,17,18,19]),none,none,none,none,none,none]
def Mj (h i:Value) (w:World) (K:Value→World→Prop):Prop:= lp (α:=Value) (.int .i64 0) w fun a b l w=>X5 P .len [T.h] T.e [false] [h] w fun k w=>Q3 P .lss T.e (.tmp 6) (.tmp 8) b k w fun j w=>X1 j (indexAddr P T.h h b w fun e w=>fieldAddr P T.a e 0 w fun d w=>Q2 P T.b d w fun f w=>Q3 P .eql T.b (.tmp 16) (.tmp 17) f i w fun c w=>X1 c (K b w) (Q3 P .add T.e (.tmp 10) (.const (.int .i64 1)) b (.int .i64 1) w fun g w=>a g w)) (K (.int .i64 (-1)) w)
theorem Kf {a b:Value} {w:World} {K:Value→World→Prop} (h:Mj a b w K):Q0 P F.c [a,b] w K:=Q9 Iu Tryz.func54 rfl (by decide) (by kernel_rfl) h
def St:V4:=[none,none,none,none,none,none,none,some ([6],[4,6,7,28,29,30,31,32,33,34,35,36,37,38,39,40,41,42,43,44,45,46,47,48,49,50,51]),none,none,none,none,none,none,none]
def Vk (h V:Value) (w:World) (K:Value→World→Prop):Prop:= box P T.a V w fun b w=>fieldAddr P T.a b 1 w fun W w=>Q2 P T.b W w fun k w=>Q0 P F.c [h,k] w fun f w=>Q3 P .lss T.e (.tmp 12) (.const (.int .i64 0)) f (.int .i64 0) w fun c w=>Q1 c false w (fun w J=>J h w) fun A w=>Q1 c false w (fun w J=>J f w) fun u w=>Q1 c false w (indexAddr P T.h A u) fun N w=>Q1 c false w (fieldAddr P T.a N 3) fun q w=>Q1 c false w (Q2 P T.m q) fun o w=>pick P c (.bool true) o w fun d w=>Q1 d false w (fun w J=>J h w) fun y w=>Q1 d false w (fun w J=>J f w) fun U w=>Q1 d false w (indexAddr P T.h y U) fun L w=>Q1 d false w (fieldAddr P T.a L 5) fun m w=>Q1 d false w (Q2 P T.m m) fun j w=>pick P d (.bool true) j w fun n w=>X1 n (K (.int .i64 61) w) (lp (α:=Value) (.int .i64 0) w fun e p X w=>fieldAddr P T.a b 2 w fun M w=>Q2 P T.c M w fun C w=>X5 P .len [T.c] T.e [false] [C] w fun l w=>Q3 P .lss T.e (.tmp 28) (.tmp 31) p l w fun E w=>X1 E (fieldAddr P T.a b 2 w fun D w=>Q2 P T.c D w fun t w=>indexAddr P T.c t p w fun r w=>Q2 P T.b r w fun H w=>Q0 P F.c [h,H] w fun g w=>Q3 P .lss T.e (.tmp 42) (.const (.int .i64 0)) g (.int .i64 0) w fun a w=>Q1 a false w (fun w J=>J h w) fun s w=>Q1 a false w (fun w J=>J g w) fun O w=>Q1 a false w (indexAddr P T.h s O) fun B w=>Q1 a false w (fieldAddr P T.a B 3) fun i w=>Q1 a false w (Q2 P T.m i) fun R w=>Q1 a false w (Z8 P .not R) fun z w=>pick P a (.bool true) z w fun Q w=>X1 Q (K (.int .i64 62) w) (Q3 P .add T.e (.tmp 33) (.const (.int .i64 1)) p (.int .i64 1) w fun v w=>e v w)) (K (.int .i64 0) w))
theorem Bb {a b:Value} {w:World} {K:Value→World→Prop} (h:Vk a b w K):Q0 P F.b0 [a,b] w K:=Q9 St Tryz.func55 rfl (by decide) (by kernel_rfl) h
def Fc:V4:=[none,none,none,none,some ([3,4],[3,4,5,6,7,8,13,14,15,16,17,18,19,20,21,22,23,24,25,26,27,28,29,30,31,32,33,34,35,36,37,38,39,40,41,42,43,44,45,46,47,48,49,50,51,52,53,54]),none,none,none,none,none,none,none,some ([7],[7,8,34,35,36,37,38,39,40,41,42,43,44,45,46,47,48,49,50]),none,none,some ([],[8,40,41,42,43,44,45,46,47,48,49,50]),none,none,none,none,some ([9],[9,10,11,55,56,57,58,59,60,61,62,63,64,65,66,67,68,69,70,71,72,73,74,75,76,77,78,79,80,81,82,83,84,85,86,87,88,89,90,91,92,93,94,95,96,97,98,99,100,101,102,103]),none,none,none,none,some ([10],[10,11,61,62,63,64,65,66,67,68,69,70,71,72,73,74,75,76,77,78,79,80,81,82,83,84,85,86,87,88,89,90,91,92,93,94,95,96,97,98,99,100,101,102,103]),none,none,none,none,some ([11],[11,67,68,69,70,71,72,73,74,75,76,77,78,79,80,81,82,83,84,85,86,87,88,89,90,91,92,93,94,95,96,97,98,99,100,101,102,103]),none,none,none,none]
def Vr (a0:Value) (w:World) (K:Value→World→Prop):Prop:= buildSlice P T.a1 0 [] w fun bn w=>lp (α:=Value×Value) (bn,(.int .i64 0)) w fun Y r d_ w=>X5 P .len [T.h] T.e [false] [a0] w fun bz w=>Q3 P .lss T.e (.tmp 13) (.tmp 15) r.2 bz w fun bx w=>X1 bx (X5 P .len [T.h] T.e [false] [a0] w fun a9 w=>Nl P T.z a9 a9 w fun bd w=>dr w fun b d=>Q7 b (fun B=> ∀w,d w→indexAddr P T.h a0 r.2 w (dk b B w)) fun B=>Q7 b (fun ax=> ∀aw w,d w→B aw w→fieldAddr P T.a aw 1 w (dk b ax w)) fun ax=>Q7 b (fun ac=> ∀w,d w→indexAddr P T.h a0 r.2 w (dk b ac w)) fun ac=>Q7 b (fun ai=> ∀an w,d w→ac an w→fieldAddr P T.a an 2 w (dk b ai w)) fun ai=>Q7 b (fun ag=> ∀v w,d w→ax v w→Q2 P T.b v w (dk b ag w)) fun ag=>Q7 b (fun a3=> ∀s w,d w→ag s w→buildSlice P T.c 1 [(0,s)] w (dk b a3 w)) fun a3=>Q7 b (fun a2=> ∀t w,d w→ai t w→Q2 P T.c t w (dk b a2 w)) fun a2=>∀aw v an t s bb a7 w,d w→B aw w→ax v w→ac an w→ai t w→ag s w→a3 bb w→a2 a7 w→ X5 P .append [T.c,T.c] T.c [false,false] [bb,a7] w fun bf w=>lp (α:=Value) (.int .i64 0) w fun o a4 d_ w=>X5 P .len [T.c] T.e [false] [bf] w fun bo w=>Q3 P .lss T.e (.tmp 34) (.tmp 36) a4 bo w fun bw w=>X1 bw (jn (α:=Unit) w (fun bc w=>indexAddr P T.c bf a4 w fun bq w=>Q2 P T.b bq w fun bp w=>Q0 P F.c [a0,bp] w fun a6 w=>Q3 P .geq T.e (.tmp 46) (.const (.int .i64 0)) a6 (.int .i64 0) w fun b0 w=>X1 b0 (indexAddr P T.z bd a6 w fun bm w=>Z0 P T.m bm (.bool true) w fun _u w=>bc () w) (bc () w)) fun b4 d_ w=>Q3 P .add T.e (.tmp 38) (.const (.int .i64 1)) a4 (.int .i64 1) w fun bu w=>o bu w) (buildSlice P T.a1 1 [(0,bd)] w fun br w=>X5 P .append [T.a1,T.a1] T.a1 [false,false] [r.1,br] w fun b1 w=>Q3 P .add T.e (.tmp 17) (.const (.int .i64 1)) r.2 (.int .i64 1) w fun bv w=>Y (b1,bv) w)) (lp (α:=Value) (.int .i64 0) w fun k N d_ w=>X5 P .len [T.h] T.e [false] [a0] w fun bl w=>Q3 P .lss T.e (.tmp 55) (.tmp 57) N bl w fun bk w=>X1 bk (lp (α:=Value) (.int .i64 0) w fun q l d_ w=>X5 P .len [T.h] T.e [false] [a0] w fun b3 w=>Q3 P .lss T.e (.tmp 61) (.tmp 63) l b3 w fun b2 w=>X1 b2 (lp (α:=Value) (.int .i64 0) w fun p m d_ w=>X5 P .len [T.h] T.e [false] [a0] w fun bj w=>Q3 P .lss T.e (.tmp 67) (.tmp 69) m bj w fun bh w=>X1 bh (dr w fun b d=>Q7 b (fun u=> ∀w,d w→indexAddr P T.a1 r.1 l w (dk b u w)) fun u=>Q7 b (fun aq=> ∀w,d w→indexAddr P T.a1 r.1 l w (dk b aq w)) fun aq=>Q7 b (fun a5=> ∀y w,d w→u y w→Q2 P T.z y w (dk b a5 w)) fun a5=>Q7 b (fun V=> ∀ab w,d w→aq ab w→Q2 P T.z ab w (dk b V w)) fun V=>Q7 b (fun ak=> ∀D w,d w→V D w→indexAddr P T.z D m w (dk b ak w)) fun ak=>Q7 b (fun e=> ∀X w,d w→ak X w→Q2 P T.m X w (dk b e w)) fun e=>Q7 b (fun aa=> ∀a w,d w→e a w→Q1 a false w (fun w J=>J r.1 w) (dk b aa w)) fun aa=>Q7 b (fun al=> ∀a w,d w→e a w→Q1 a false w (fun w J=>J l w) (dk b al w)) fun al=>Q7 b (fun A=> ∀a Q E w,d w→e a w→aa Q w→al E w→Q1 a false w (indexAddr P T.a1 Q E) (dk b A w)) fun A=>Q7 b (fun L=> ∀a w,d w→e a w→Q1 a false w (fun w J=>J N w) (dk b L w)) fun L=>Q7 b (fun ae=> ∀a ao w,d w→e a w→A ao w→Q1 a false w (Q2 P T.z ao) (dk b ae w)) fun ae=>Q7 b (fun am=> ∀a ay z w,d w→e a w→ae ay w→L z w→Q1 a false w (indexAddr P T.z ay z) (dk b am w)) fun am=>Q7 b (fun C=> ∀a ad w,d w→e a w→am ad w→Q1 a false w (Q2 P T.m ad) (dk b C w)) fun C=>Q7 b (fun f=> ∀a W w,d w→e a w→C W w→Q1 a false w (fun w J=>J W w) (dk b f w)) fun f=>Q7 b (fun ar=> ∀c w,d w→f c w→Q1 c true w (fun w J=>J r.1 w) (dk b ar w)) fun ar=>Q7 b (fun H=> ∀c w,d w→f c w→Q1 c true w (fun w J=>J N w) (dk b H w)) fun H=>Q7 b (fun O=> ∀c U af w,d w→f c w→ar U w→H af w→Q1 c true w (indexAddr P T.a1 U af) (dk b O w)) fun O=>Q7 b (fun av=> ∀c w,d w→f c w→Q1 c true w (fun w J=>J m w) (dk b av w)) fun av=>Q7 b (fun aj=> ∀c R w,d w→f c w→O R w→Q1 c true w (Q2 P T.z R) (dk b aj w)) fun aj=>Q7 b (fun ap=> ∀c M Z w,d w→f c w→aj M w→av Z w→Q1 c true w (indexAddr P T.z M Z) (dk b ap w)) fun ap=>Q7 b (fun i=> ∀c ah w,d w→f c w→ap ah w→Q1 c true w (Q2 P T.m ah) (dk b i w)) fun i=>Q7 b (fun h=> ∀a c j w,d w→e a w→f c w→i j w→Q1 a false w (pick P c j (.bool false)) (dk b h w)) fun h=>Q7 b (fun n=> ∀a g w,d w→e a w→h g w→pick P a (.bool true) g w (dk b n w)) fun n=>∀y ab be D X a Q E ao z ay ad W c U af R Z M ah j g az w,d w→u y w→aq ab w→a5 be w→V D w→ak X w→e a w→aa Q w→al E w→A ao w→L z w→ae ay w→am ad w→C W w→f c w→ar U w→H af w→O R w→av Z w→aj M w→ap ah w→i j w→h g w→n az w→ indexAddr P T.z be m w fun ba w=>Z0 P T.m ba az w fun _u w=>Q3 P .add T.e (.tmp 71) (.const (.int .i64 1)) m (.int .i64 1) w fun bs w=>p bs w) (Q3 P .add T.e (.tmp 65) (.const (.int .i64 1)) l (.int .i64 1) w fun bg w=>q bg w)) (Q3 P .add T.e (.tmp 59) (.const (.int .i64 1)) N (.int .i64 1) w fun bi w=>k bi w)) (K r.1 w))
theorem Bq {a:Value} {w:World} {K:Value→World→Prop} (h:Vr a w K):Q0 P F.ag [a] w K:=Q9 Fc Tryz.func56 rfl (by decide) (by kernel_rfl) h
def Ph:V4:=[none,none,none,none,none,none,some ([9],[8,9,16,17,18,19,20,21,22,23,24,25,26,27,28]),none,none,none,none,none,none,none,none,some ([1,11],[1,11,41,42,43,44,45,46,47,48,49,50,51,52,53,54,55,56]),none,none,none,none]
def Nx (y r X u:Value) (w:World) (K:Value→World→Prop):Prop:= Q3 P .lss T.e (.tmp 12) (.tmp 13) u X w fun N w=>X1 N (K r w) (lp (α:=Value) (.int .i64 0) w fun n O Y w=>X5 P .len [T.a0] T.e [false] [r] w fun M w=>Q3 P .lss T.e (.tmp 16) (.tmp 18) O M w fun L w=>X1 L (indexAddr P T.a0 r O w fun V w=>Q2 P T.e V w fun D w=>Q3 P .eql T.e (.tmp 25) (.tmp 26) D u w fun E w=>X1 E (K r w) (Q3 P .add T.e (.tmp 20) (.const (.int .i64 1)) O (.int .i64 1) w fun Q w=>n Q w)) (dr w fun a o=>Q7 a (fun h=> ∀w,o w→indexAddr P T.h y u w (dk a h w)) fun h=>Q7 a (fun e=> ∀f w,o w→h f w→fieldAddr P T.a f 1 w (dk a e w)) fun e=>Q7 a (fun d=> ∀w,o w→indexAddr P T.h y u w (dk a d w)) fun d=>Q7 a (fun g=> ∀k w,o w→d k w→fieldAddr P T.a k 2 w (dk a g w)) fun g=>Q7 a (fun j=> ∀l w,o w→e l w→Q2 P T.b l w (dk a j w)) fun j=>Q7 a (fun q=> ∀m w,o w→j m w→buildSlice P T.c 1 [(0,m)] w (dk a q w)) fun q=>Q7 a (fun p=> ∀i w,o w→g i w→Q2 P T.c i w (dk a p w)) fun p=>∀f l k i m t s w,o w→h f w→e l w→d k w→g i w→j m w→q t w→p s w→ X5 P .append [T.c,T.c] T.c [false,false] [t,s] w fun v w=>lp (α:=Value×Value) (r,(.int .i64 0)) w fun c b Y w=>X5 P .len [T.c] T.e [false] [v] w fun A w=>Q3 P .lss T.e (.tmp 41) (.tmp 43) b.2 A w fun z w=>X1 z (indexAddr P T.c v b.2 w fun B w=>Q2 P T.b B w fun U w=>Q0 P F.c [y,U] w fun R w=>Q0 P F.aQ [y,b.1,X,R] w fun H w=>Q3 P .add T.e (.tmp 45) (.const (.int .i64 1)) b.2 (.int .i64 1) w fun W w=>c (H,W) w) (buildSlice P T.a0 1 [(0,u)] w fun C w=>X5 P .append [T.a0,T.a0] T.a0 [false,false] [b.1,C] w fun J w=>K J w)))
theorem Ar {b d a c:Value} {w:World} {K:Value→World→Prop} (h:Nx b d a c w K):Q0 P F.aQ [b,d,a,c] w K:=Q9 Ph Tryz.func57 rfl (by decide) (by kernel_rfl) h
end Go.Proofs.YtfppjenblllfaaaGreatDoor

set_option maxRecDepth 100000
namespace Go.Proofs.YtfppjenblllfaaaGreatDoor
open Go.Emb
def Qj (u A:Value) (w:World) (K:Value→World→Prop):Prop:= Q0 P F.c [u,A] w fun z w=>Q3 P .lss T.e (.tmp 9) (.const (.int .i64 0)) z (.int .i64 0) w fun v w=>X1 v (K (.slice none 0 0) w) (dr w fun a b=>Q7 a (fun e=> ∀w,b w→indexAddr P T.h u z w (dk a e w)) fun e=>Q7 a (fun f=> ∀m w,b w→e m w→fieldAddr P T.a m 1 w (dk a f w)) fun f=>Q7 a (fun d=> ∀w,b w→indexAddr P T.h u z w (dk a d w)) fun d=>Q7 a (fun g=> ∀l w,b w→d l w→fieldAddr P T.a l 6 w (dk a g w)) fun g=>Q7 a (fun c=> ∀w,b w→buildSlice P T.i 0 [] w (dk a c w)) fun c=>Q7 a (fun i=> ∀j w,b w→f j w→Q2 P T.b j w (dk a i w)) fun i=>Q7 a (fun k=> ∀o w,b w→i o w→Q0 P F.z [u,o] w (dk a k w)) fun k=>Q7 a (fun r=> ∀n h w,b w→c n w→k h w→X5 P .append [T.i,T.i] T.i [false,false] [n,h] w (dk a r w)) fun r=>Q7 a (fun q=> ∀p w,b w→g p w→Q2 P T.i p w (dk a q w)) fun q=>∀m j l p n o h s t w,b w→e m w→f j w→d l w→g p w→c n w→i o w→k h w→r s w→q t w→ X5 P .append [T.i,T.i] T.i [false,false] [s,t] w fun y w=>K y w)
theorem Vh {a b:Value} {w:World} {K:Value→World→Prop} (h:Qj a b w K):Q0 P F.z [a,b] w K:=Q9 (List.replicate 6 none) Tryz.func173 rfl (by decide) (by kernel_rfl) h
def Ff:V4:=[none,none,none,none,some ([8],[6,8,12,13,14,15,16,17,18,19,20,21,22,23,24,25]),none,none,none,none,none,none]
def Wa (l m k:Value) (w:World) (K:Value→World→Prop):Prop:= Q0 P F.z [l,m] w fun b w=>lp (α:=Value) (.int .i64 0) w fun a c n w=>X5 P .len [T.i] T.e [false] [b] w fun h w=>Q3 P .lss T.e (.tmp 12) (.tmp 14) c h w fun g w=>X1 g (indexAddr P T.i b c w fun j w=>fieldAddr P T.k j 0 w fun e w=>Q2 P T.b e w fun d w=>Q3 P .eql T.b (.tmp 22) (.tmp 23) d k w fun f w=>X1 f (K c w) (Q3 P .add T.e (.tmp 16) (.const (.int .i64 1)) c (.int .i64 1) w fun i w=>a i w)) (K (.int .i64 (-1)) w)
theorem Gt {b c a:Value} {w:World} {K:Value→World→Prop} (h:Wa b c a w K):Q0 P F.bf [b,c,a] w K:=Q9 Ff Tryz.func114 rfl (by decide) (by kernel_rfl) h
def Ma (b:Value) (w:World) (K:Value→World→Prop):Prop:= X5 P .len [T.b] T.e [false] [b] w fun c w=>Q0 P F.an [b] w fun f w=>Q3 P .mul T.e (.const (.int .i64 2)) (.tmp 7) (.int .i64 2) f w fun e w=>Q3 P .sub T.e (.tmp 5) (.tmp 8) c e w fun d w=>H7 P T.b b none (some d) none w fun a w=>K a w
theorem Iy {a:Value} {w:World} {K:Value→World→Prop} (h:Ma a w K):Q0 P F.aJ [a] w K:=Q9 (List.replicate 2 none) Tryz.func121 rfl (by decide) (by kernel_rfl) h
def Mo (q d:Value) (w:World) (K:Value→World→Prop):Prop:= Q3 P .eql T.b (.tmp 5) (.const (.string ⟨#[110,117,108,108]⟩)) d (.string ⟨#[110,117,108,108]⟩) w fun c w=>Q1 c false w (fun w J=>J d w) fun p w=>Q1 c false w (Q0 P F.i [p]) fun r w=>Q1 c false w (fun w J=>J r w) fun a w=>Q1 a true w (fun w J=>J d w) fun l w=>Q1 a true w (Q0 P F.aJ [l]) fun j w=>Q1 a true w (Q0 P F.n [j]) fun m w=>Q1 a true w (fun w J=>J m w) fun b w=>Q1 b false w (fun w J=>J q w) fun k w=>Q1 b false w (fun w J=>J d w) fun g w=>Q1 b false w (Q0 P F.aJ [g]) fun n w=>Q1 b false w (Q0 P F.c [k,n]) fun f w=>Q1 b false w (Q3 P .geq T.e (.tmp 18) (.const (.int .i64 0)) f (.int .i64 0)) fun e w=>Q1 a true w (pick P b (.bool true) e) fun o w=>Q1 c false w (pick P a o (.bool false)) fun i w=>pick P c (.bool true) i w fun h w=>K h w
theorem Kt {a b:Value} {w:World} {K:Value→World→Prop} (h:Mo a b w K):Q0 P F.r [a,b] w K:=Q9 (List.replicate 2 none) Tryz.func61 rfl (by decide) (by kernel_rfl) h
def Wq (e d:Value) (w:World) (K:Value→World→Prop):Prop:= Q3 P .neq T.b (.tmp 5) (.const (.string ⟨#[110,117,108,108]⟩)) d (.string ⟨#[110,117,108,108]⟩) w fun a w=>Q1 a true w (fun w J=>J e w) fun g w=>Q1 a true w (fun w J=>J d w) fun f w=>Q1 a true w (Q0 P F.r [g,f]) fun b w=>pick P a b (.bool false) w fun c w=>K c w
theorem Gq {a b:Value} {w:World} {K:Value→World→Prop} (h:Wq a b w K):Q0 P F.bg [a,b] w K:=Q9 (List.replicate 2 none) Tryz.func115 rfl (by decide) (by kernel_rfl) h
def Ix:V4:=[none,none,none,none,some ([3,4],[3,4,5,6,7,8,9,10,11,12,13,14,15,16,17,18,19,20,21,22]),none,none,none,some ([3],[3,12,13,14,15]),none,none]
def Mx (r:Value) (w:World) (K:Value→World→Prop):Prop:= box P T.d r w fun a w=>lp (α:=Value×Value) ((.string ⟨#[40]⟩),(.int .i64 0)) w fun b c y w=>fieldAddr P T.d a 1 w fun v w=>Q2 P T.c v w fun u w=>X5 P .len [T.c] T.e [false] [u] w fun q w=>Q3 P .lss T.e (.tmp 5) (.tmp 8) c.2 q w fun t w=>X1 t (jn (α:=Value) w (fun p w=>Q3 P .gtr T.e (.tmp 12) (.const (.int .i64 0)) c.2 (.int .i64 0) w fun m w=>X1 m (Q3 P .add T.b (.tmp 14) (.const (.string ⟨#[44]⟩)) c.1 (.string ⟨#[44]⟩) w fun j w=>p j w) (p c.1 w)) fun s y w=>fieldAddr P T.d a 1 w fun n w=>Q2 P T.c n w fun g w=>indexAddr P T.c g c.2 w fun o w=>Q2 P T.b o w fun i w=>Q3 P .add T.b (.tmp 16) (.tmp 21) s i w fun h w=>Q3 P .add T.e (.tmp 10) (.const (.int .i64 1)) c.2 (.int .i64 1) w fun k w=>b (h,k) w) (Q3 P .add T.b (.tmp 23) (.const (.string ⟨#[41]⟩)) c.1 (.string ⟨#[41]⟩) w fun l w=>fieldAddr P T.d a 2 w fun e w=>Q2 P T.b e w fun d w=>Q3 P .add T.b (.tmp 24) (.tmp 26) l d w fun f w=>K f w)
theorem Kk {a:Value} {w:World} {K:Value→World→Prop} (h:Mx a w K):Q0 P F.aI [a] w K:=Q9 Ix Tryz.func116 rfl (by decide) (by kernel_rfl) h
def Tu:V4:=[none,none,none,some ([5],[4,5,6,7,8,9,10,11,12,13,14,15,16,17,18,19,20,21]),none,none,none,none,none,none]
def Nv (n l:Value) (w:World) (K:Value→World→Prop):Prop:= box P T.a n w fun a w=>lp (α:=Value) (.int .i64 0) w fun b c q w=>fieldAddr P T.a a 7 w fun p w=>Q2 P T.g p w fun m w=>X5 P .len [T.g] T.e [false] [m] w fun o w=>Q3 P .lss T.e (.tmp 6) (.tmp 9) c o w fun d w=>X1 d (fieldAddr P T.a a 7 w fun i w=>Q2 P T.g i w fun f w=>indexAddr P T.g f c w fun g w=>fieldAddr P T.d g 0 w fun j w=>Q2 P T.b j w fun e w=>Q3 P .eql T.b (.tmp 18) (.tmp 19) e l w fun k w=>X1 k (K c w) (Q3 P .add T.e (.tmp 11) (.const (.int .i64 1)) c (.int .i64 1) w fun h w=>b h w)) (K (.int .i64 (-1)) w)
theorem Tt {a b:Value} {w:World} {K:Value→World→Prop} (h:Nv a b w K):Q0 P F.aR [a,b] w K:=Q9 Tu Tryz.func174 rfl (by decide) (by kernel_rfl) h
def Fk:V4:=[none,none,none,some ([9],[6,8,9,10,11,12,13,14,15,16,17,18,19,20,21,22,23,24,25,26,27,28,29,30,31,32,33,34,35,36,37,38,39,40,41,42,43,44,45,46,47,48,49,50,51,52,53,54]),none,none,none,none,none,none,none,none,none,none,none,none]
def Wr (H a1 a2:Value) (w:World) (K:Value→World→Prop):Prop:= box P T.a a1 w fun d w=>W4 P T.d w fun s w=>lp (α:=Value) (.int .i64 0) w fun k U d_ w=>fieldAddr P T.a d 2 w fun J w=>Q2 P T.c J w fun Y w=>X5 P .len [T.c] T.e [false] [Y] w fun E w=>Q3 P .lss T.e (.tmp 15) (.tmp 18) U E w fun D w=>X1 D (fieldAddr P T.a d 2 w fun W w=>Q2 P T.c W w fun B w=>indexAddr P T.c B U w fun C w=>Q2 P T.b C w fun Q w=>Q0 P F.c [H,Q] w fun X w=>indexAddr P T.h H X w fun N w=>Q2 P T.a N w fun A w=>W4 P T.a w fun a w=>Z0 P T.a a A w fun _u w=>Q2 P T.a a w fun R w=>Q0 P F.aR [R,a2] w fun v w=>Q3 P .geq T.e (.tmp 35) (.const (.int .i64 0)) v (.int .i64 0) w fun O w=>X1 O (dr w fun b e=>Q7 b (fun f=> ∀w,e w→fieldAddr P T.a a 0 w (dk b f w)) fun f=>Q7 b (fun g=> ∀w,e w→fieldAddr P T.a a 7 w (dk b g w)) fun g=>Q7 b (fun p=> ∀j w,e w→f j w→Q2 P T.b j w (dk b p w)) fun p=>Q7 b (fun h=> ∀i w,e w→g i w→Q2 P T.g i w (dk b h w)) fun h=>Q7 b (fun m=> ∀l w,e w→h l w→indexAddr P T.g l v w (dk b m w)) fun m=>Q7 b (fun r=> ∀n w,e w→m n w→Q2 P T.d n w (dk b r w)) fun r=>∀j i u l n t w,e w→f j w→g i w→p u w→h l w→m n w→r t w→ Z0 P T.d s t w fun _u w=>J8 P T.d s w fun z=>K (.tuple #[u,z,(.bool true)]) w) (Q2 P T.a a w fun Z w=>Q0 P F.aE [H,Z,a2] w fun o w=>ext P o 0 w fun ab w=>ext P o 1 w fun L w=>ext P o 2 w fun aa w=>W4 P T.d w fun c w=>Z0 P T.d c L w fun _u w=>X1 aa (dr w fun b e=>Q7 b (fun q=> ∀w,e w→Q2 P T.d c w (dk b q w)) fun q=>∀y w,e w→q y w→ Z0 P T.d s y w fun _u w=>J8 P T.d s w fun z=>K (.tuple #[ab,z,(.bool true)]) w) (Q3 P .add T.e (.tmp 20) (.const (.int .i64 1)) U (.int .i64 1) w fun M w=>k M w))) (N4 P T.d [] w fun V w=>Z0 P T.d s V w fun _u w=>J8 P T.d s w fun z=>K (.tuple #[(.string ⟨#[]⟩),z,(.bool false)]) w)
theorem Bo {b c a:Value} {w:World} {K:Value→World→Prop} (h:Wr b c a w K):Q0 P F.aE [b,c,a] w K:=Q9 Fk Tryz.func175 rfl (by decide) (by kernel_rfl) h
def Cc:V4:=[none,none,none,some ([9],[6,8,9,10,18,19,20,21,22,23,24,25,26,27,28,29,30,31,32,33,34,35,36,37,38,39,40,41,42,43,44,45,46,47]),none,none,none,none,none,none,none,none,some ([11],[6,8,11,12,13,14,51,52,53,54,55,56,57,58,59,60,61,62,63,64,65,66,67,68,69,70,71,72,73]),none,none,none,none,none,none,none]
def Vm (d a1 a2:Value) (w:World) (K:Value→World→Prop):Prop:= W4 P T.d w fun y w=>Q0 P F.c [d,a1] w fun ag w=>lp (α:=Value) ag w fun m D d_ w=>Q3 P .geq T.e (.tmp 18) (.const (.int .i64 0)) D (.int .i64 0) w fun Q w=>X1 Q (indexAddr P T.h d D w fun af w=>Q2 P T.a af w fun ab w=>Q0 P F.aR [ab,a2] w fun C w=>Q3 P .geq T.e (.tmp 33) (.const (.int .i64 0)) C (.int .i64 0) w fun Y w=>X1 Y (dr w fun a b=>Q7 a (fun f=> ∀w,b w→indexAddr P T.h d D w (dk a f w)) fun f=>Q7 a (fun h=> ∀l w,b w→f l w→fieldAddr P T.a l 0 w (dk a h w)) fun h=>Q7 a (fun n=> ∀w,b w→indexAddr P T.h d D w (dk a n w)) fun n=>Q7 a (fun k=> ∀q w,b w→n q w→fieldAddr P T.a q 7 w (dk a k w)) fun k=>Q7 a (fun r=> ∀i w,b w→h i w→Q2 P T.b i w (dk a r w)) fun r=>Q7 a (fun j=> ∀g w,b w→k g w→Q2 P T.g g w (dk a j w)) fun j=>Q7 a (fun p=> ∀e w,b w→j e w→indexAddr P T.g e C w (dk a p w)) fun p=>Q7 a (fun s=> ∀o w,b w→p o w→Q2 P T.d o w (dk a s w)) fun s=>∀l i q g z e o B w,b w→f l w→h i w→n q w→k g w→r z w→j e w→p o w→s B w→ Z0 P T.d y B w fun _u w=>J8 P T.d y w fun E=>K (.tuple #[z,E,(.bool true)]) w) (indexAddr P T.h d D w fun ah w=>fieldAddr P T.a ah 1 w fun ae w=>Q2 P T.b ae w fun M w=>Q0 P F.c [d,M] w fun J w=>m J w)) (Q0 P F.c [d,a1] w fun Z w=>lp (α:=Value) Z w fun c u d_ w=>Q3 P .geq T.e (.tmp 51) (.const (.int .i64 0)) u (.int .i64 0) w fun ac w=>X1 ac (indexAddr P T.h d u w fun ad w=>Q2 P T.a ad w fun V w=>Q0 P F.aE [d,V,a2] w fun t w=>ext P t 0 w fun aa w=>ext P t 1 w fun U w=>ext P t 2 w fun N w=>W4 P T.d w fun H w=>Z0 P T.d H U w fun _u w=>X1 N (dr w fun a b=>Q7 a (fun v=> ∀w,b w→Q2 P T.d H w (dk a v w)) fun v=>∀A w,b w→v A w→ Z0 P T.d y A w fun _u w=>J8 P T.d y w fun E=>K (.tuple #[aa,E,(.bool true)]) w) (indexAddr P T.h d u w fun O w=>fieldAddr P T.a O 1 w fun X w=>Q2 P T.b X w fun W w=>Q0 P F.c [d,W] w fun L w=>c L w)) (N4 P T.d [] w fun R w=>Z0 P T.d y R w fun _u w=>J8 P T.d y w fun E=>K (.tuple #[(.string ⟨#[]⟩),E,(.bool false)]) w))
theorem Bd {b c a:Value} {w:World} {K:Value→World→Prop} (h:Vm b c a w K):Q0 P F.b2 [b,c,a] w K:=Q9 Cc Tryz.func117 rfl (by decide) (by kernel_rfl) h
def Sf:V4:=[none,none,none,none,some ([6],[4,6,24,25,26,27,28,29,30,31,32,33,34,35,36,37,38,39,40,41]),none,none,none,none,none,none,none,none,some ([7,8],[7,8,43,44,45,46,47,48,49,50,51,52,53,54,55,56,57,58]),none,none,none,none,none,some ([7,9],[7,9,59,60,61,62,63,64,65,66,67,68,69,70,71,72,73,74,75,76,77,78,79,80,81,82,83,84,85,86,87,88,89]),none,none,some ([7],[7,66,67,68,69,70,71,72,73,74,75,76,77,78,79,80,81,82,83,84,85,86,87,88,89]),none,none,none,none,some ([10],[4,10,90,91,92,93,94,95,96,97,98,99,100,101,102]),none,none,none,none,none,none,none,none,none,some ([12,13],[12,13,106,107,108,109,110,111,112,113,114,115,116,117,118,119,120,121,122,123,124,125,126,127,128,129,130]),none,none,some ([12],[12,112,113,114,115,116,117,118,119,120,121,122,123,124,125,126,127,128,129,130]),none,none,none,some ([14],[4,14,15,131,132,133,134,135,136,137,138,139,140,141,142,143,144,145,146,147,148,149,150,151,152,153,154,155,156,157,158,159,160,161,162,163,164,165]),none,none,none,none,some ([15],[4,15,137,138,139,140,141,142,143,144,145,146,147,148,149,150,151,152,153,154,155,156,157,158,159,160,161,162,163,164,165]),none,none,none,none,none,none,none,some ([16],[4,16,17,18,19,166,167,168,169,170,171,172,173,174,175,176,177,178,179,180,181,182,183,184,185,186,187,188,189,190,191,192,193,194,195]),none,none,none,none,none,none,none]
def Uh (a0 a1:Value) (w:World) (K:Value→World→Prop):Prop:= indexAddr P T.h a0 a1 w fun c1 w=>Q2 P T.a c1 w fun ds w=>W4 P T.a w fun t5 w=>Z0 P T.a t5 ds w fun _u w=>lp (α:=Value) (.int .i64 0) w fun a5 x4 d_ w=>fieldAddr P T.a t5 6 w fun du w=>Q2 P T.i du w fun dt w=>X5 P .len [T.i] T.e [false] [dt] w fun dc w=>Q3 P .lss T.e (.tmp 24) (.tmp 27) x4 dc w fun ed w=>X1 ed (dr w fun b c=>Q7 b (fun a2=> ∀w,c w→fieldAddr P T.a t5 1 w (dk b a2 w)) fun a2=>Q7 b (fun a7=> ∀w,c w→fieldAddr P T.a t5 6 w (dk b a7 w)) fun a7=>Q7 b (fun bj=> ∀bc w,c w→a2 bc w→Q2 P T.b bc w (dk b bj w)) fun bj=>Q7 b (fun a8=> ∀a3 w,c w→a7 a3 w→Q2 P T.i a3 w (dk b a8 w)) fun a8=>Q7 b (fun bd=> ∀a4 w,c w→a8 a4 w→indexAddr P T.i a4 x4 w (dk b bd w)) fun bd=>Q7 b (fun a9=> ∀bf w,c w→bd bf w→fieldAddr P T.k bf 0 w (dk b a9 w)) fun a9=>Q7 b (fun bk=> ∀be w,c w→a9 be w→Q2 P T.b be w (dk b bk w)) fun bk=>∀bc a3 cv a4 bf be cp w,c w→a2 bc w→a7 a3 w→bj cv w→a8 a4 w→bd bf w→a9 be w→bk cp w→ Q0 P F.bf [a0,cv,cp] w fun di w=>Q3 P .geq T.e (.tmp 40) (.const (.int .i64 0)) di (.int .i64 0) w fun d7 w=>X1 d7 (K (.int .i64 64) w) (Q3 P .add T.e (.tmp 29) (.const (.int .i64 1)) x4 (.int .i64 1) w fun dg w=>a5 dg w)) (buildSlice P T.c 0 [] w fun da w=>lp (α:=Value×Value) (da,(.int .i64 0)) w fun ai aq d_ w=>fieldAddr P T.a t5 6 w fun db w=>Q2 P T.i db w fun d1 w=>X5 P .len [T.i] T.e [false] [d1] w fun c6 w=>Q3 P .lss T.e (.tmp 43) (.tmp 46) aq.2 c6 w fun eb w=>X1 eb (fieldAddr P T.a t5 6 w fun d6 w=>Q2 P T.i d6 w fun c3 w=>indexAddr P T.i c3 aq.2 w fun dm w=>fieldAddr P T.k dm 1 w fun ef w=>Q2 P T.b ef w fun d9 w=>buildSlice P T.c 1 [(0,d9)] w fun d3 w=>X5 P .append [T.c,T.c] T.c [false,false] [aq.1,d3] w fun d2 w=>Q3 P .add T.e (.tmp 48) (.const (.int .i64 1)) aq.2 (.int .i64 1) w fun c8 w=>ai (d2,c8) w) (lp (α:=Value×Value) (aq.1,(.int .i64 0)) w fun ap j d_ w=>fieldAddr P T.a t5 7 w fun cz w=>Q2 P T.g cz w fun ee w=>X5 P .len [T.g] T.e [false] [ee] w fun eg w=>Q3 P .lss T.e (.tmp 59) (.tmp 62) j.2 eg w fun dp w=>X1 dp (jn (α:=Value) w (fun cm w=>fieldAddr P T.a t5 7 w fun c0 w=>Q2 P T.g c0 w fun df w=>indexAddr P T.g df j.2 w fun cy w=>fieldAddr P T.d cy 1 w fun c4 w=>Q2 P T.c c4 w fun dd w=>X5 P .append [T.c,T.c] T.c [false,false] [j.1,dd] w fun cs w=>fieldAddr P T.a t5 7 w fun dx w=>Q2 P T.g dx w fun dv w=>indexAddr P T.g dv j.2 w fun ec w=>fieldAddr P T.d ec 2 w fun dw w=>Q2 P T.b dw w fun dy w=>Q3 P .neq T.b (.tmp 79) (.const (.string ⟨#[]⟩)) dy (.string ⟨#[]⟩) w fun c7 w=>X1 c7 (fieldAddr P T.a t5 7 w fun c9 w=>Q2 P T.g c9 w fun d5 w=>indexAddr P T.g d5 j.2 w fun dl w=>fieldAddr P T.d dl 2 w fun d4 w=>Q2 P T.b d4 w fun d0 w=>buildSlice P T.c 1 [(0,d0)] w fun dj w=>X5 P .append [T.c,T.c] T.c [false,false] [cs,dj] w fun dq w=>cm dq w) (cm cs w)) fun dz d_ w=>Q3 P .add T.e (.tmp 64) (.const (.int .i64 1)) j.2 (.int .i64 1) w fun ea w=>ap (dz,ea) w) (lp (α:=Value) (.int .i64 0) w fun az bl d_ w=>X5 P .len [T.c] T.e [false] [j.1] w fun c5 w=>Q3 P .lss T.e (.tmp 90) (.tmp 92) bl c5 w fun dn w=>X1 dn (indexAddr P T.c j.1 bl w fun eh w=>Q2 P T.b eh w fun cb w=>Q0 P F.bg [a0,cb] w fun cg w=>Z8 P .not cg w fun cc w=>X1 cc (K (.int .i64 65) w) (Q3 P .add T.e (.tmp 94) (.const (.int .i64 1)) bl (.int .i64 1) w fun d8 w=>az d8 w)) (Q0 P F.ag [a0] w fun ca w=>buildSlice P T.g 0 [] w fun bs w=>lp (α:=Value×Value) (bs,(.int .i64 0)) w fun am f d_ w=>X5 P .len [T.h] T.e [false] [a0] w fun b5 w=>Q3 P .lss T.e (.tmp 106) (.tmp 108) f.2 b5 w fun bw w=>X1 bw (jn (α:=Value) w (fun b2 w=>Q3 P .eql T.e (.tmp 112) (.tmp 113) f.2 a1 w fun g w=>Q1 g false w (fun w J=>J ca w) fun b9 w=>Q1 g false w (fun w J=>J a1 w) fun ct w=>Q1 g false w (indexAddr P T.a1 b9 ct) fun cq w=>Q1 g false w (Q2 P T.z cq) fun ck w=>Q1 g false w (fun w J=>J f.2 w) fun b8 w=>Q1 g false w (indexAddr P T.z ck b8) fun cj w=>Q1 g false w (Q2 P T.m cj) fun ci w=>pick P g (.bool true) ci w fun b4 w=>X1 b4 (indexAddr P T.h a0 f.2 w fun bp w=>fieldAddr P T.a bp 7 w fun b1 w=>Q2 P T.g b1 w fun cr w=>X5 P .append [T.g,T.g] T.g [false,false] [f.1,cr] w fun br w=>b2 br w) (b2 f.1 w)) fun de d_ w=>Q3 P .add T.e (.tmp 110) (.const (.int .i64 1)) f.2 (.int .i64 1) w fun bz w=>am (de,bz) w) (lp (α:=Value) (.int .i64 0) w fun ay ao d_ w=>X5 P .len [T.g] T.e [false] [f.1] w fun bo w=>Q3 P .lss T.e (.tmp 131) (.tmp 133) ao bo w fun b7 w=>X1 b7 (lp (α:=Value) (.int .i64 0) w fun aj ba d_ w=>Q3 P .lss T.e (.tmp 137) (.tmp 138) ba ao w fun cn w=>X1 cn (dr w fun b c=>Q7 b (fun af=> ∀w,c w→indexAddr P T.g f.1 ao w (dk b af w)) fun af=>Q7 b (fun O=> ∀l w,c w→af l w→fieldAddr P T.d l 0 w (dk b O w)) fun O=>Q7 b (fun r=> ∀w,c w→indexAddr P T.g f.1 ba w (dk b r w)) fun r=>Q7 b (fun n=> ∀X w,c w→r X w→fieldAddr P T.d X 0 w (dk b n w)) fun n=>Q7 b (fun o=> ∀M w,c w→O M w→Q2 P T.b M w (dk b o w)) fun o=>Q7 b (fun H=> ∀s w,c w→n s w→Q2 P T.b s w (dk b H w)) fun H=>Q7 b (fun d=> ∀ab L w,c w→o ab w→H L w→Q3 P .eql T.b (.tmp 146) (.tmp 151) ab L w (dk b d w)) fun d=>Q7 b (fun ad=> ∀a w,c w→d a w→Q1 a true w (fun w J=>J f.1 w) (dk b ad w)) fun ad=>Q7 b (fun p=> ∀a w,c w→d a w→Q1 a true w (fun w J=>J ao w) (dk b p w)) fun p=>Q7 b (fun Q=> ∀a B aa w,c w→d a w→ad B w→p aa w→Q1 a true w (indexAddr P T.g B aa) (dk b Q w)) fun Q=>Q7 b (fun m=> ∀a w,c w→d a w→Q1 a true w (fun w J=>J f.1 w) (dk b m w)) fun m=>Q7 b (fun ag=> ∀a w,c w→d a w→Q1 a true w (fun w J=>J ba w) (dk b ag w)) fun ag=>Q7 b (fun A=> ∀a ac z w,c w→d a w→m ac w→ag z w→Q1 a true w (indexAddr P T.g ac z) (dk b A w)) fun A=>Q7 b (fun t=> ∀a D w,c w→d a w→Q D w→Q1 a true w (Q2 P T.d D) (dk b t w)) fun t=>Q7 b (fun an=> ∀a W w,c w→d a w→t W w→Q1 a true w (Q0 P F.aI [W]) (dk b an w)) fun an=>Q7 b (fun aw=> ∀a ae w,c w→d a w→A ae w→Q1 a true w (Q2 P T.d ae) (dk b aw w)) fun aw=>∀l M X s ab L a B aa D ac z ae W bh bi w,c w→af l w→O M w→r X w→n s w→o ab w→H L w→d a w→ad B w→p aa w→Q D w→m ac w→ag z w→A ae w→t W w→an bh w→aw bi w→ Q1 a true w (Q0 P F.aI [bi]) fun cu w=>Q1 a true w (Q3 P .neq T.b (.tmp 158) (.tmp 163) bh cu) fun ce w=>pick P a ce (.bool false) w fun cw w=>X1 cw (K (.int .i64 66) w) (Q3 P .add T.e (.tmp 140) (.const (.int .i64 1)) ba (.int .i64 1) w fun b3 w=>aj b3 w)) (Q3 P .add T.e (.tmp 135) (.const (.int .i64 1)) ao (.int .i64 1) w fun bv w=>ay bv w)) (lp (α:=Value) (.int .i64 0) w fun ar bn d_ w=>X5 P .len [T.g] T.e [false] [f.1] w fun b0 w=>Q3 P .lss T.e (.tmp 166) (.tmp 168) bn b0 w fun V w=>Q1 V true w (fieldAddr P T.a t5 4) fun co w=>Q1 V true w (Q2 P T.m co) fun cl w=>Q1 V true w (Z8 P .not cl) fun ch w=>pick P V ch (.bool false) w fun bq w=>X1 bq (dr w fun b c=>Q7 b (fun q=> ∀w,c w→fieldAddr P T.a t5 0 w (dk b q w)) fun q=>Q7 b (fun v=> ∀w,c w→indexAddr P T.g f.1 bn w (dk b v w)) fun v=>Q7 b (fun N=> ∀E w,c w→v E w→fieldAddr P T.d E 0 w (dk b N w)) fun N=>Q7 b (fun Y=> ∀U w,c w→q U w→Q2 P T.b U w (dk b Y w)) fun Y=>Q7 b (fun y=> ∀R w,c w→N R w→Q2 P T.b R w (dk b y w)) fun y=>Q7 b (fun i=> ∀C u w,c w→Y C w→y u w→Q0 P F.b2 [a0,C,u] w (dk b i w)) fun i=>Q7 b (fun ak=> ∀e w,c w→i e w→ext P e 0 w (dk b ak w)) fun ak=>Q7 b (fun Z=> ∀e w,c w→i e w→ext P e 1 w (dk b Z w)) fun Z=>Q7 b (fun av=> ∀e w,c w→i e w→ext P e 2 w (dk b av w)) fun av=>Q7 b (fun bb=> ∀w,c w→W4 P T.d w (dk b bb w)) fun bb=>Q1a b (fun al=> ∀k h w,c w→bb k w→Z h w→Z0 P T.d k h w (dk b (al [k,h]) w)) fun al=>∀U E R C u e cf h bg k dh w,c w→q U w→v E w→N R w→Y C w→y u w→i e w→ak cf w→Z h w→av bg w→bb k w→al [k,h] dh w→ Z8 P .not bg w fun ax w=>Q1 ax false w (fieldAddr P T.d k 3) fun bx w=>Q1 ax false w (Q2 P T.m bx) fun bu w=>pick P ax (.bool true) bu w fun b6 w=>X1 b6 (K (.int .i64 67) w) (Q3 P .add T.e (.tmp 175) (.const (.int .i64 1)) bn (.int .i64 1) w fun cd w=>ar cd w)) (K (.int .i64 0) w)))))))
theorem Si {a b:Value} {w:World} {K:Value→World→Prop} (h:Uh a b w K):Q0 P F.aV [a,b] w K:=Q9 Sf Tryz.func58 rfl (by decide) (by kernel_rfl) h
def Pz:V4:=[none,none,none,none,none,some ([5,7],[2,3,4,5,7,8,21,22,23,24,25,26,27,28,29,30,31,32,33,34,35,36,37,38,39,40,41,42]),none,none,none,none,none,none,none,none,none,some ([9],[2,3,4,9,43,44,45,46,47,48,49,50,51,52,53,54,55,56,57,58,59,60]),none,none,none,none,none,none,none,some ([10],[2,3,4,10,11,61,62,63,64,65,66,67,68,69,70,71,72,73,74,75,76]),none,none,none,none,none,none,none,none,none,some ([13],[2,3,4,13,79,80,81,82,83,84,85,86,87,88,89,90,91,92,93,94,95,96]),none,none,none,none,none,none,none,none,some ([14,15],[14,15,98,99,100,101,102,103,104,105,106,107,108,109,110]),none,none,none,none,none,some ([16],[2,3,4,16,17,111,112,113,114,115,116,117,118,119,120,121,122,123,124,125,126,127,128,129,130,131]),none,none,none,none,none,none,none]
def Oh (m:Value) (w:World) (K:Value→World→Prop):Prop:= Q0 P F.ba [] w fun v w=>X5 P .len [T.h] T.e [false] [v] w fun b w=>lp (α:=Value×Value) (v,(.int .i64 0)) w fun l c J w=>X5 P .len [T.h] T.e [false] [m] w fun a4 w=>Q3 P .lss T.e (.tmp 21) (.tmp 23) c.2 a4 w fun aw w=>X1 aw (indexAddr P T.h m c.2 w fun ay w=>Q2 P T.a ay w fun aj w=>Q0 P F.bb [aj] w fun r w=>Q3 P .neq T.s (.tmp 32) (.const (.int .i64 0)) r (.int .i64 0) w fun av w=>X1 av (K (.tuple #[(.slice none 0 0),c.2,r]) w) (indexAddr P T.h m c.2 w fun ac w=>Q2 P T.a ac w fun ak w=>buildSlice P T.h 1 [(0,ak)] w fun Q w=>X5 P .append [T.h,T.h] T.h [false,false] [c.1,Q] w fun Y w=>Q3 P .add T.e (.tmp 25) (.const (.int .i64 1)) c.2 (.int .i64 1) w fun R w=>l (Y,R) w)) (lp (α:=Value) (.int .i64 0) w fun g i J w=>X5 P .len [T.h] T.e [false] [m] w fun ag w=>Q3 P .lss T.e (.tmp 43) (.tmp 45) i ag w fun az w=>X1 az (indexAddr P T.h m i w fun am w=>fieldAddr P T.a am 0 w fun U w=>Q2 P T.b U w fun aq w=>Q0 P F.c [c.1,aq] w fun ap w=>Q3 P .add T.e (.tmp 56) (.tmp 57) b i w fun ah w=>Q3 P .neq T.e (.tmp 55) (.tmp 58) ap ah w fun V w=>X1 V (K (.tuple #[(.slice none 0 0),i,(.int .i64 60)]) w) (Q3 P .add T.e (.tmp 47) (.const (.int .i64 1)) i (.int .i64 1) w fun O w=>g O w)) (lp (α:=Value) (.int .i64 0) w fun d o J w=>X5 P .len [T.h] T.e [false] [m] w fun a3 w=>Q3 P .lss T.e (.tmp 61) (.tmp 63) o a3 w fun ar w=>X1 ar (indexAddr P T.h m o w fun aa w=>Q2 P T.a aa w fun ao w=>Q0 P F.b0 [c.1,ao] w fun t w=>Q3 P .neq T.s (.tmp 73) (.const (.int .i64 0)) t (.int .i64 0) w fun ad w=>X1 ad (K (.tuple #[(.slice none 0 0),o,t]) w) (Q3 P .add T.e (.tmp 65) (.const (.int .i64 1)) o (.int .i64 1) w fun Z w=>d Z w)) (Q0 P F.ag [c.1] w fun ab w=>lp (α:=Value) (.int .i64 0) w fun e k J w=>X5 P .len [T.h] T.e [false] [m] w fun af w=>Q3 P .lss T.e (.tmp 79) (.tmp 81) k af w fun ax w=>X1 ax (Q3 P .add T.e (.tmp 86) (.tmp 87) b k w fun al w=>indexAddr P T.a1 ab al w fun X w=>Q2 P T.z X w fun ae w=>Q3 P .add T.e (.tmp 91) (.tmp 92) b k w fun a2 w=>indexAddr P T.z ae a2 w fun an w=>Q2 P T.m an w fun W w=>X1 W (K (.tuple #[(.slice none 0 0),k,(.int .i64 63)]) w) (Q3 P .add T.e (.tmp 83) (.const (.int .i64 1)) k (.int .i64 1) w fun a1 w=>e a1 w)) (buildSlice P T.a0 0 [] w fun ai w=>lp (α:=Value×Value) (ai,(.int .i64 0)) w fun j a J w=>X5 P .len [T.h] T.e [false] [m] w fun M w=>Q3 P .lss T.e (.tmp 98) (.tmp 100) a.2 M w fun z w=>X1 z (Q3 P .add T.e (.tmp 107) (.tmp 108) b a.2 w fun C w=>Q0 P F.aQ [c.1,a.1,b,C] w fun u w=>Q3 P .add T.e (.tmp 102) (.const (.int .i64 1)) a.2 (.int .i64 1) w fun s w=>j (u,s) w) (lp (α:=Value) (.int .i64 0) w fun f n J w=>X5 P .len [T.a0] T.e [false] [a.1] w fun A w=>Q3 P .lss T.e (.tmp 111) (.tmp 113) n A w fun N w=>X1 N (indexAddr P T.a0 a.1 n w fun D w=>Q2 P T.e D w fun B w=>Q0 P F.aV [c.1,B] w fun q w=>Q3 P .neq T.s (.tmp 123) (.const (.int .i64 0)) q (.int .i64 0) w fun E w=>X1 E (dr w fun Tr Br=>Q7 Tr (fun h=> ∀w,Br w→indexAddr P T.a0 a.1 n w (dk Tr h w)) fun h=>∀p w,Br w→h p w→ Q2 P T.e p w fun L w=>Q3 P .sub T.e (.tmp 128) (.tmp 129) L b w fun y w=>K (.tuple #[(.slice none 0 0),y,q]) w) (Q3 P .add T.e (.tmp 115) (.const (.int .i64 1)) n (.int .i64 1) w fun H w=>f H w)) (K (.tuple #[c.1,(.int .i64 0),(.int .i64 0)]) w))))))
theorem Pv {a:Value} {w:World} {K:Value→World→Prop} (h:Oh a w K):Q0 P F.bv [a] w K:=Q9 Pz Tryz.func27 rfl (by decide) (by kernel_rfl) h
def Vf (w:World) (K:Value→World→Prop):Prop:= Q0 P F.ax [] w fun q w=>Q0 P F.cH [q] w fun a w=>ext P a 0 w fun e w=>ext P a 1 w fun p w=>ext P a 2 w fun l w=>Q0 P F.ax [] w fun h w=>Q0 P F.bv [h] w fun c w=>ext P c 0 w fun m w=>ext P c 1 w fun o w=>ext P c 2 w fun g w=>Q3 P .neq T.s (.tmp 20) (.const (.int .i64 0)) l (.int .i64 0) w fun d w=>Q1 d false w (fun w J=>J g w) fun n w=>Q1 d false w (Q3 P .neq T.s (.tmp 23) (.const (.int .i64 0)) n (.int .i64 0)) fun j w=>pick P d (.bool true) j w fun b w=>Q1 b false w (fun w J=>J e w) fun f w=>Q1 b false w (Q3 P .eql T.r (.tmp 27) (.const (.pointer none)) f (.pointer none)) fun i w=>pick P b (.bool true) i w fun k w=>X1 k (K (.tuple #[(.pointer none),(.slice none 0 0)]) w) (K (.tuple #[e,m]) w)
theorem Cb {w:World} {K:Value→World→Prop} (h:Vf w K):Q0 P F.aA [] w K:=Q9 (List.replicate 7 none) Tryz.func10 rfl (by decide) (by kernel_rfl) h
def Iq (u:Value) (w:World) (K:Value→World→Prop):Prop:= box P T.f u w fun a w=>W4 P T.f w fun t w=>dr w fun b c=>Q7 b (fun d=> ∀w,c w→fieldAddr P T.f a 1 w (dk b d w)) fun d=>Q7 b (fun g=> ∀w,c w→fieldAddr P T.f a 2 w (dk b g w)) fun g=>Q7 b (fun h=> ∀f w,c w→d f w→Q2 P T.c f w (dk b h w)) fun h=>Q7 b (fun o=> ∀e w,c w→h e w→Q0 P F.b [e] w (dk b o w)) fun o=>Q7 b (fun k=> ∀j w,c w→g j w→Q2 P T.c j w (dk b k w)) fun k=>Q7 b (fun p=> ∀w,c w→fieldAddr P T.f a 1 w (dk b p w)) fun p=>Q7 b (fun m=> ∀i w,c w→k i w→Q0 P F.b [i] w (dk b m w)) fun m=>∀f j e q i s r w,c w→d f w→g j w→h e w→o q w→k i w→p s w→m r w→ Z0 P T.c s q w fun _u w=>fieldAddr P T.f a 2 w fun l w=>Z0 P T.c l r w fun _u w=>Q2 P T.f a w fun n w=>Z0 P T.f t n w fun _u w=>J8 P T.f t w fun v=>K v w
theorem Q3C {a:Value} {w:World} {K:Value→World→Prop} (h:Iq a w K):Q0 P F.bK [a] w K:=Q9 (List.replicate 3 none) Tryz.func28 rfl (by decide) (by kernel_rfl) h
def Je (a f:Value) (w:World) (K:Value→World→Prop):Prop:= Q0 P F.a7 [a,f] w fun h w=>Z8 P .not h w fun g w=>X1 g (K (.tuple #[a,(.bool false)]) w) (X5 P .len [T.b] T.e [false] [a] w fun c w=>X5 P .len [T.b] T.e [false] [f] w fun b w=>Q3 P .sub T.e (.tmp 13) (.tmp 15) c b w fun e w=>H7 P T.b a none (some e) none w fun d w=>K (.tuple #[d,(.bool true)]) w)
theorem Hw {a b:Value} {w:World} {K:Value→World→Prop} (h:Je a b w K):Q0 P F.bR [a,b] w K:=Q9 (List.replicate 5 none) Tryz.func206 rfl (by decide) (by kernel_rfl) h
def Ly (c d:Value) (w:World) (K:Value→World→Prop):Prop:= Q0 P F.bR [c,d] w fun b w=>ext P b 0 w fun e w=>ext P b 1 w fun a w=>K (.tuple #[e,a]) w
theorem Kg {a b:Value} {w:World} {K:Value→World→Prop} (h:Ly a b w K):Q0 P F.br [a,b] w K:=Q9 (List.replicate 2 none) Tryz.func176 rfl (by decide) (by kernel_rfl) h
def Q0N (f:Value) (w:World) (K:Value→World→Prop):Prop:= Q0 P F.br [f,(.string ⟨#[91,93]⟩)] w fun g w=>ext P g 0 w fun i w=>ext P g 1 w fun h w=>Z8 P .not h w fun a w=>Q1 a false w (fun w J=>J f w) fun d w=>Q1 a false w (Q0 P F.a3 [d]) fun c w=>Q1 a false w (Z8 P .not c) fun b w=>pick P a (.bool true) b w fun e w=>X1 e (K (.string ⟨#[]⟩) w) (K i w)
theorem Q61 {a:Value} {w:World} {K:Value→World→Prop} (h:Q0N a w K):Q0 P F.cD [a] w K:=Q9 (List.replicate 6 none) Tryz.func118 rfl (by decide) (by kernel_rfl) h
def Lp (c d:Value) (w:World) (K:Value→World→Prop):Prop:= box P T.a c w fun a w=>fieldAddr P T.a a 0 w fun f w=>Q2 P T.b f w fun b w=>Q2 P T.b d w fun e w=>Q3 P .eql T.b (.tmp 5) (.tmp 6) b e w fun g w=>K g w
theorem Gr {a b:Value} {w:World} {K:Value→World→Prop} (h:Lp a b w K):Q0 P F.bh [a,b] w K:=Q9 (List.replicate 2 none) Tryz.func119 rfl (by decide) (by kernel_rfl) h
def Nq (j d z:Value) (w:World) (K:Value→World→Prop):Prop:= box P T.b z w fun a w=>Q0 P F.x [j,d] w fun g w=>Z8 P .not g w fun b w=>Q1 b false w (fun w J=>J j w) fun u w=>Q1 b false w (Q2 P T.b a) fun k w=>Q1 b false w (Q0 P F.x [u,k]) fun p w=>Q1 b false w (Z8 P .not p) fun m w=>pick P b (.bool true) m w fun v w=>X1 v (K (.bool false) w) (Q2 P T.b a w fun y w=>Q3 P .eql T.b (.tmp 19) (.tmp 20) d y w fun o w=>X1 o (K (.bool true) w) (Q0 P F.af [d] w fun c w=>Q1 c false w (Q2 P T.b a) fun f w=>Q1 c false w (Q0 P F.af [f]) fun i w=>pick P c (.bool true) i w fun r w=>X1 r (K (.bool false) w) (Q3 P .eql T.b (.tmp 30) (.const (.string ⟨#[110,117,108,108]⟩)) d (.string ⟨#[110,117,108,108]⟩) w fun h w=>X1 h (K (.bool true) w) (Q0 P F.cD [d] w fun n w=>Q3 P .neq T.b (.tmp 34) (.const (.string ⟨#[]⟩)) n (.string ⟨#[]⟩) w fun t w=>X1 t (Q2 P T.b a w fun q w=>Q3 P .eql T.b (.tmp 36) (.const (.string ⟨#[79,98,106,101,99,116]⟩)) q (.string ⟨#[79,98,106,101,99,116]⟩) w fun l w=>K l w) (M7 P (.func F.bh) [] [a] w fun s w=>Q0 P F.v [j,d,s] w fun e w=>K e w)))))
theorem Ax {b c a:Value} {w:World} {K:Value→World→Prop} (h:Nq b c a w K):Q0 P F.ac [b,c,a] w K:=Q9 (List.replicate 13 none) Tryz.func59 rfl (by decide) (by kernel_rfl) h
def Kq:V4:=[none,none,none,none,none,none,none,none,none,none,some ([7],[6,7,40,41,42,43,44,45,46,47,48,49,50,51]),none,none,none,none,none,none]
def My (d g h:Value) (w:World) (K:Value→World→Prop):Prop:= Q0 P F.ac [d,g,h] w fun p w=>X1 p (K h w) (Q0 P F.ac [d,h,g] w fun l w=>X1 l (K g w) (Q0 P F.x [d,g] w fun z w=>Z8 P .not z w fun b w=>Q1 b false w (fun w J=>J d w) fun i w=>Q1 b false w (fun w J=>J h w) fun j w=>Q1 b false w (Q0 P F.x [i,j]) fun r w=>Q1 b false w (Z8 P .not r) fun u w=>pick P b (.bool true) u w fun f w=>Q1 f false w (fun w J=>J g w) fun s w=>Q1 f false w (Q0 P F.af [s]) fun t w=>pick P f (.bool true) t w fun e w=>Q1 e false w (fun w J=>J h w) fun q w=>Q1 e false w (Q0 P F.af [q]) fun n w=>pick P e (.bool true) n w fun k w=>X1 k (K (.string ⟨#[]⟩) w) (lp (α:=Value) g w fun a c A w=>Q0 P F.k [d,c] w fun y w=>X1 y (Q0 P F.ac [d,h,c] w fun o w=>X1 o (K c w) (Q0 P F.h [d,c] w fun m w=>Ut P T.a m 1 w fun v w=>a v w)) (K (.string ⟨#[79,98,106,101,99,116]⟩) w))))
theorem Iw {b c a:Value} {w:World} {K:Value→World→Prop} (h:My b c a w K):Q0 P F.aF [b,c,a] w K:=Q9 Kq Tryz.func29 rfl (by decide) (by kernel_rfl) h
def Q4a:V4:=[none,none,none,none,none,none,none,none,none,none,none,some ([49],[7,9,10,11,49,50,51,52,53,54,55,56,57,58,59,60,61,62,63,64,65,66,67,68,69,70,71]),none,none,none,none,none,none,none,none,none,none,some ([75],[12,13,14,75,76,77,78,79,80,81,82,83,84,85,86,87,88,89,90,91,92,93,94,95,96,97,98,99,100,101,102,103,104]),none,none,none,none,none,some ([14],[14,80,81,82,83,84,85,86,87,88,89,90,91,92,93,94,95,96,97]),none,none]
def Q04 (a0 a1 a2:Value) (w:World) (K:Value→World→Prop):Prop:= box P T.f a1 w fun j w=>box P T.f a2 w fun i w=>W4 P T.f w fun f w=>fieldAddr P T.f j 0 w fun a6 w=>Q2 P T.m a6 w fun ag w=>Z8 P .not ag w fun az w=>X1 az (Q2 P T.f i w fun ax w=>Q0 P F.bK [ax] w fun aj w=>Z0 P T.f f aj w fun _u w=>J8 P T.f f w fun h=>K (.tuple #[h,(.int .i64 0)]) w) (fieldAddr P T.f i 0 w fun R w=>Q2 P T.m R w fun bk w=>Z8 P .not bk w fun bg w=>X1 bg (Q2 P T.f j w fun A w=>Q0 P F.bK [A] w fun y w=>Z0 P T.f f y w fun _u w=>J8 P T.f f w fun h=>K (.tuple #[h,(.int .i64 0)]) w) (fieldAddr P T.f j 1 w fun ba w=>Q2 P T.c ba w fun ae w=>X5 P .len [T.c] T.e [false] [ae] w fun a9 w=>fieldAddr P T.f i 1 w fun z w=>Q2 P T.c z w fun Z w=>X5 P .len [T.c] T.e [false] [Z] w fun bf w=>Q3 P .neq T.e (.tmp 30) (.tmp 33) a9 bf w fun a w=>Q1 a false w (fieldAddr P T.f j 2) fun Y w=>Q1 a false w (Q2 P T.c Y) fun a5 w=>Q1 a false w (X5 P .len [T.c] T.e [false] [a5]) fun a3 w=>Q1 a false w (fieldAddr P T.f i 2) fun ay w=>Q1 a false w (Q2 P T.c ay) fun bb w=>Q1 a false w (X5 P .len [T.c] T.e [false] [bb]) fun am w=>Q1 a false w (Q3 P .neq T.e (.tmp 38) (.tmp 41) a3 am) fun ak w=>pick P a (.bool true) ak w fun an w=>X1 an (N4 P T.f [] w fun al w=>Z0 P T.f f al w fun _u w=>J8 P T.f f w fun h=>K (.tuple #[h,(.int .i64 75)]) w) (N4 P T.f [(0,(.bool true))] w fun O w=>W4 P T.f w fun k w=>Z0 P T.f k O w fun _u w=>fieldAddr P T.f j 1 w fun ah w=>Q2 P T.c ah w fun s w=>X5 P .len [T.c] T.e [false] [s] w fun v w=>lp (α:=Value) (.int .i64 0) w fun c g d_ w=>Q3 P .lss T.e (.tmp 49) (.tmp 48) g v w fun U w=>X1 U (indexAddr P T.c s g w fun aa w=>Q2 P T.b aa w fun ao w=>fieldAddr P T.f i 1 w fun av w=>Q2 P T.c av w fun Q w=>indexAddr P T.c Q g w fun ap w=>Q2 P T.b ap w fun D w=>Q0 P F.aF [a0,ao,D] w fun t w=>Q3 P .eql T.b (.tmp 62) (.const (.string ⟨#[]⟩)) t (.string ⟨#[]⟩) w fun bi w=>X1 bi (N4 P T.f [] w fun be w=>Z0 P T.f f be w fun _u w=>J8 P T.f f w fun h=>K (.tuple #[h,(.int .i64 75)]) w) (fieldAddr P T.f k 1 w fun a4 w=>Q2 P T.c a4 w fun B w=>buildSlice P T.c 1 [(0,t)] w fun a7 w=>X5 P .append [T.c,T.c] T.c [false,false] [B,a7] w fun L w=>fieldAddr P T.f k 1 w fun C w=>Z0 P T.c C L w fun _u w=>Q3 P .add T.e (.tmp 49) (.const (.int .i64 1)) g (.int .i64 1) w fun ab w=>c ab w)) (fieldAddr P T.f j 2 w fun ar w=>Q2 P T.c ar w fun r w=>X5 P .len [T.c] T.e [false] [r] w fun H w=>lp (α:=Value) (.int .i64 0) w fun e d d_ w=>Q3 P .lss T.e (.tmp 75) (.tmp 74) d H w fun a8 w=>X1 a8 (indexAddr P T.c r d w fun E w=>Q2 P T.b E w fun n w=>jn (α:=Value) w (fun p w=>Q3 P .neq T.b (.tmp 80) (.const (.string ⟨#[]⟩)) n (.string ⟨#[]⟩) w fun b w=>Q1 b true w (fieldAddr P T.f i 2) fun ad w=>Q1 b true w (Q2 P T.c ad) fun ai w=>Q1 b true w (fun w J=>J d w) fun bd w=>Q1 b true w (indexAddr P T.c ai bd) fun W w=>Q1 b true w (Q2 P T.b W) fun N w=>Q1 b true w (Q3 P .neq T.b (.tmp 87) (.const (.string ⟨#[]⟩)) N (.string ⟨#[]⟩)) fun bc w=>pick P b bc (.bool false) w fun bj w=>X1 bj (fieldAddr P T.f i 2 w fun ac w=>Q2 P T.c ac w fun bh w=>indexAddr P T.c bh d w fun aq w=>Q2 P T.b aq w fun X w=>Q0 P F.aF [a0,n,X] w fun V w=>p V w) (p (.string ⟨#[]⟩) w)) fun M d_ w=>fieldAddr P T.f k 2 w fun af w=>Q2 P T.c af w fun aw w=>buildSlice P T.c 1 [(0,M)] w fun o w=>X5 P .append [T.c,T.c] T.c [false,false] [aw,o] w fun l w=>fieldAddr P T.f k 2 w fun q w=>Z0 P T.c q l w fun _u w=>Q3 P .add T.e (.tmp 75) (.const (.int .i64 1)) d (.int .i64 1) w fun u w=>e u w) (Q2 P T.f k w fun m w=>Z0 P T.f f m w fun _u w=>J8 P T.f f w fun h=>K (.tuple #[h,(.int .i64 0)]) w)))))
theorem Q4u {b c a:Value} {w:World} {K:Value→World→Prop} (h:Q04 b c a w K):Q0 P F.bu [b,c,a] w K:=Q9 Q4a Tryz.func13 rfl (by decide) (by kernel_rfl) h
def Kz:V4:=[none,none,none,none,none,none,some ([5],[4,5,11,12,13,14,15,16,17,18,19,20,21,22,23,24,25]),none,none,none,none,none,none]
def Me (o s:Value) (w:World) (K:Value→World→Prop):Prop:= X5 P .len [T.c] T.e [false] [o] w fun u w=>X5 P .len [T.c] T.e [false] [s] w fun t w=>Q3 P .neq T.e (.tmp 7) (.tmp 9) u t w fun m w=>X1 m (K (.bool false) w) (lp (α:=Value) (.int .i64 0) w fun d l v w=>X5 P .len [T.c] T.e [false] [o] w fun r w=>Q3 P .lss T.e (.tmp 11) (.tmp 13) l r w fun p w=>X1 p (dr w fun f i=>Q7 f (fun c=> ∀w,i w→indexAddr P T.c o l w (dk f c w)) fun c=>Q7 f (fun a=> ∀w,i w→indexAddr P T.c s l w (dk f a w)) fun a=>Q7 f (fun h=> ∀b w,i w→c b w→Q2 P T.b b w (dk f h w)) fun h=>Q7 f (fun g=> ∀e w,i w→a e w→Q2 P T.b e w (dk f g w)) fun g=>∀b e k j w,i w→c b w→a e w→h k w→g j w→ Q3 P .neq T.b (.tmp 20) (.tmp 24) k j w fun n w=>X1 n (K (.bool false) w) (Q3 P .add T.e (.tmp 15) (.const (.int .i64 1)) l (.int .i64 1) w fun q w=>d q w)) (K (.bool true) w))
theorem Pa {a b:Value} {w:World} {K:Value→World→Prop} (h:Me a b w K):Q0 P F.aH [a,b] w K:=Q9 Kz Tryz.func31 rfl (by decide) (by kernel_rfl) h
def Mh (s q:Value) (w:World) (K:Value→World→Prop):Prop:= box P T.f s w fun a w=>box P T.f q w fun b w=>fieldAddr P T.f a 0 w fun p w=>Q2 P T.m p w fun u w=>fieldAddr P T.f b 0 w fun t w=>Q2 P T.m t w fun r w=>Q3 P .eql T.m (.tmp 6) (.tmp 8) u r w fun d w=>Q1 d true w (fieldAddr P T.f a 1) fun l w=>Q1 d true w (Q2 P T.c l) fun j w=>Q1 d true w (fieldAddr P T.f b 1) fun m w=>Q1 d true w (Q2 P T.c m) fun g w=>Q1 d true w (Q0 P F.aH [j,g]) fun k w=>pick P d k (.bool false) w fun c w=>Q1 c true w (fieldAddr P T.f a 2) fun f w=>Q1 c true w (Q2 P T.c f) fun e w=>Q1 c true w (fieldAddr P T.f b 2) fun n w=>Q1 c true w (Q2 P T.c n) fun i w=>Q1 c true w (Q0 P F.aH [e,i]) fun h w=>pick P c h (.bool false) w fun o w=>K o w
theorem Km {a b:Value} {w:World} {K:Value→World→Prop} (h:Mh a b w K):Q0 P F.a8 [a,b] w K:=Q9 (List.replicate 2 none) Tryz.func15 rfl (by decide) (by kernel_rfl) h
def Wz:V4:=[none,none,none,none,none,none,some ([13],[4,5,13,14,15,16,17,18,19,20,21,22,23,24,25]),none,none,none,none,none,none,none]
def P4 (o s:Value) (w:World) (K:Value→World→Prop):Prop:= X5 P .len [T.c] T.e [false] [o] w fun u w=>X5 P .len [T.c] T.e [false] [s] w fun t w=>Q3 P .neq T.e (.tmp 7) (.tmp 9) u t w fun m w=>X1 m (K (.bool false) w) (X5 P .len [T.c] T.e [false] [o] w fun q w=>lp (α:=Value) (.int .i64 0) w fun e l v w=>Q3 P .lss T.e (.tmp 13) (.tmp 12) l q w fun p w=>X1 p (dr w fun f j=>Q7 f (fun c=> ∀w,j w→indexAddr P T.c o l w (dk f c w)) fun c=>Q7 f (fun a=> ∀w,j w→indexAddr P T.c s l w (dk f a w)) fun a=>Q7 f (fun h=> ∀b w,j w→c b w→Q2 P T.b b w (dk f h w)) fun h=>Q7 f (fun g=> ∀d w,j w→a d w→Q2 P T.b d w (dk f g w)) fun g=>∀b d i k w,j w→c b w→a d w→h i w→g k w→ Q3 P .neq T.b (.tmp 19) (.tmp 23) i k w fun r w=>X1 r (K (.bool false) w) (Q3 P .add T.e (.tmp 13) (.const (.int .i64 1)) l (.int .i64 1) w fun n w=>e n w)) (K (.bool true) w))
theorem Wu {a b:Value} {w:World} {K:Value→World→Prop} (h:P4 a b w K):Q0 P F.a2 [a,b] w K:=Q9 Wz Tryz.func32 rfl (by decide) (by kernel_rfl) h
def Q0V (s q:Value) (w:World) (K:Value→World→Prop):Prop:= box P T.f s w fun a w=>box P T.f q w fun b w=>fieldAddr P T.f a 0 w fun p w=>Q2 P T.m p w fun u w=>fieldAddr P T.f b 0 w fun t w=>Q2 P T.m t w fun r w=>Q3 P .eql T.m (.tmp 6) (.tmp 8) u r w fun d w=>Q1 d true w (fieldAddr P T.f a 1) fun l w=>Q1 d true w (Q2 P T.c l) fun j w=>Q1 d true w (fieldAddr P T.f b 1) fun m w=>Q1 d true w (Q2 P T.c m) fun g w=>Q1 d true w (Q0 P F.a2 [j,g]) fun k w=>pick P d k (.bool false) w fun c w=>Q1 c true w (fieldAddr P T.f a 2) fun f w=>Q1 c true w (Q2 P T.c f) fun e w=>Q1 c true w (fieldAddr P T.f b 2) fun n w=>Q1 c true w (Q2 P T.c n) fun i w=>Q1 c true w (Q0 P F.a2 [e,i]) fun h w=>pick P c h (.bool false) w fun o w=>K o w
theorem Q63 {a b:Value} {w:World} {K:Value→World→Prop} (h:Q0V a b w K):Q0 P F.c6 [a,b] w K:=Q9 (List.replicate 2 none) Tryz.func16 rfl (by decide) (by kernel_rfl) h
def Ox (d l:Value) (w:World) (K:Value→World→Prop):Prop:= nilCheck P d w fun j w=>fieldAddr P T.t j 4 w fun k w=>Q2 P T.s k w fun n w=>Q3 P .eql T.s (.tmp 7) (.const (.int .i64 0)) n (.int .i64 0) w fun m w=>X1 m (nilCheck P d w fun i w=>fieldAddr P T.t i 3 w fun c w=>fieldAddr P T.f c 1 w fun f w=>Q2 P T.c f w fun e w=>X5 P .append [T.c,T.c] T.c [false,false] [e,l] w fun h w=>nilCheck P d w fun g w=>fieldAddr P T.t g 3 w fun b w=>fieldAddr P T.f b 1 w fun a w=>Z0 P T.c a h w fun _u w=>K (.tuple #[]) w) (K (.tuple #[]) w)
theorem Q0v {a b:Value} {w:World} {K:Value→World→Prop} (h:Ox a b w K):Q0 P F.bI [a,b] w K:=Q9 (List.replicate 1 none) Tryz.func123 rfl (by decide) (by kernel_rfl) h
def Q0S (c:Value) (w:World) (K:Value→World→Prop):Prop:= box P T.b c w fun a w=>M7 P (.func F.cM) [] [a] w fun b w=>K b w
theorem Q5B {a:Value} {w:World} {K:Value→World→Prop} (h:Q0S a w K):Q0 P F.aT [a] w K:=Q9 (List.replicate 2 none) Tryz.func64 rfl (by decide) (by kernel_rfl) h
def Ir:V4:=[none,some ([],[7,8,9,10,11,12,13,14,15,16,17,18,19]),none,none]
def Mc (e p q:Value) (w:World) (K:Value→World→Prop):Prop:= jn (α:=Unit) w (fun o w=>Z8 P .not p w fun a w=>Q1 a true w (fun w J=>J e w) fun b w=>Q1 a true w (nilCheck P b) fun k w=>Q1 a true w (fieldAddr P T.t k 4) fun i w=>Q1 a true w (Q2 P T.s i) fun m w=>Q1 a true w (Q3 P .eql T.s (.tmp 13) (.const (.int .i64 0)) m (.int .i64 0)) fun f w=>pick P a f (.bool false) w fun j w=>X1 j (nilCheck P e w fun d w=>fieldAddr P T.t d 4 w fun c w=>Z0 P T.s c q w fun _u w=>o () w) (o () w)) fun s r w=>nilCheck P e w fun h w=>fieldAddr P T.t h 4 w fun g w=>Q2 P T.s g w fun n w=>Q3 P .eql T.s (.tmp 23) (.const (.int .i64 0)) n (.int .i64 0) w fun l w=>K l w
theorem Ka {b c a:Value} {w:World} {K:Value→World→Prop} (h:Mc b c a w K):Q0 P F.am [b,c,a] w K:=Q9 Ir Tryz.func37 rfl (by decide) (by kernel_rfl) h
end Go.Proofs.YtfppjenblllfaaaGreatDoor

set_option maxRecDepth 100000
namespace Go.Proofs.YtfppjenblllfaaaGreatDoor
open Go.Emb
def Ob (b c:Value) (w:World) (K:Value→World→Prop):Prop:= nilCheck P b w fun J w=>fieldAddr P T.t J 3 w fun f w=>fieldAddr P T.f f 1 w fun z w=>Q2 P T.c z w fun q w=>X5 P .len [T.c] T.e [false] [q] w fun C w=>Q3 P .geq T.e (.tmp 13) (.tmp 14) C c w fun r w=>Q0 P F.am [b,r,(.int .i64 72)] w fun m w=>Z8 P .not m w fun D w=>X1 D (Nl P T.c c c w fun i w=>K i w) (nilCheck P b w fun p w=>fieldAddr P T.t p 3 w fun o w=>fieldAddr P T.f o 1 w fun H w=>Q2 P T.c H w fun A w=>X5 P .len [T.c] T.e [false] [A] w fun h w=>Q3 P .sub T.e (.tmp 25) (.tmp 26) h c w fun a w=>nilCheck P b w fun B w=>fieldAddr P T.t B 3 w fun t w=>fieldAddr P T.f t 1 w fun g w=>Q2 P T.c g w fun u w=>H7 P T.c u (some a) none none w fun n w=>Q0 P F.b [n] w fun y w=>nilCheck P b w fun k w=>fieldAddr P T.t k 3 w fun j w=>fieldAddr P T.f j 1 w fun v w=>Q2 P T.c v w fun d w=>H7 P T.c d none (some a) (some a) w fun e w=>nilCheck P b w fun l w=>fieldAddr P T.t l 3 w fun E w=>fieldAddr P T.f E 1 w fun s w=>Z0 P T.c s e w fun _u w=>K y w)
theorem Aj {a b:Value} {w:World} {K:Value→World→Prop} (h:Ob a b w K):Q0 P F.bx [a,b] w K:=Q9 (List.replicate 8 none) Tryz.func70 rfl (by decide) (by kernel_rfl) h
def Mi (c f d:Value) (w:World) (K:Value→World→Prop):Prop:= nilCheck P c w fun h w=>fieldAddr P T.t h 0 w fun g w=>Q2 P T.r g w fun a w=>Q0 P F.ac [a,f,d] w fun b w=>Q0 P F.am [c,b,(.int .i64 73)] w fun e w=>K (.tuple #[]) w
theorem Pe {b c a:Value} {w:World} {K:Value→World→Prop} (h:Mi b c a w K):Q0 P F.bp [b,c,a] w K:=Q9 [] Tryz.func132 rfl (by decide) (by kernel_rfl) h
def Q0A:V4:=[none,none,none,some ([7],[7,15,16,17,18,19,20,21,22,23,24,25,26,27,28]),none,none,none,none]
def Ou (p v y:Value) (w:World) (K:Value→World→Prop):Prop:= X5 P .len [T.c] T.e [false] [y] w fun n w=>Q0 P F.bx [p,n] w fun k w=>X5 P .len [T.c] T.e [false] [k] w fun u w=>Q3 P .sub T.e (.tmp 13) (.const (.int .i64 1)) u (.int .i64 1) w fun q w=>lp (α:=Value) q w fun e m B w=>Q3 P .geq T.e (.tmp 15) (.const (.int .i64 0)) m (.int .i64 0) w fun r w=>X1 r (dr w fun f j=>Q7 f (fun a=> ∀w,j w→indexAddr P T.c k m w (dk f a w)) fun a=>Q7 f (fun c=> ∀w,j w→indexAddr P T.c y m w (dk f c w)) fun c=>Q7 f (fun h=> ∀d w,j w→a d w→Q2 P T.b d w (dk f h w)) fun h=>Q7 f (fun g=> ∀b w,j w→c b w→Q2 P T.b b w (dk f g w)) fun g=>∀d b l i w,j w→a d w→c b w→h l w→g i w→ Q0 P F.bp [p,l,i] w fun A w=>Q3 P .sub T.e (.tmp 17) (.const (.int .i64 1)) m (.int .i64 1) w fun o w=>e o w) (Q3 P .neq T.b (.tmp 29) (.const (.string ⟨#[]⟩)) v (.string ⟨#[]⟩) w fun s w=>X1 s (buildSlice P T.c 1 [(0,v)] w fun t w=>Q0 P F.bI [p,t] w fun z w=>K (.tuple #[]) w) (K (.tuple #[]) w))
theorem Q0x {b c a:Value} {w:World} {K:Value→World→Prop} (h:Ou b c a w K):Q0 P F.a6 [b,c,a] w K:=Q9 Q0A Tryz.func126 rfl (by decide) (by kernel_rfl) h
def Cf (c e a:Value) (w:World) (K:Value→World→Prop):Prop:= Q2 P T.b e w fun b w=>Q2 P T.c a w fun d w=>Q0 P F.a6 [c,b,d] w fun f w=>K (.tuple #[]) w
theorem Q2e {b c a:Value} {w:World} {K:Value→World→Prop} (h:Cf b c a w K):Q0 P F.c9 [b,c,a] w K:=Q9 [] Tryz.func125 rfl (by decide) (by kernel_rfl) h
def Ps (d e:Value) (w:World) (K:Value→World→Prop):Prop:= box P T.b d w fun b w=>box P T.c e w fun a w=>M7 P (.func F.c9) [] [b,a] w fun c w=>K c w
theorem Q5c {a b:Value} {w:World} {K:Value→World→Prop} (h:Ps a b w K):Q0 P F.a4 [a,b] w K:=Q9 (List.replicate 2 none) Tryz.func71 rfl (by decide) (by kernel_rfl) h
def Vc (b:Value) (w:World) (K:Value→World→Prop):Prop:= buildSlice P T.c 2 [(0,(.string ⟨#[105,110,116]⟩)),(1,(.string ⟨#[105,110,116]⟩))] w fun a w=>Q0 P F.a6 [b,(.string ⟨#[98,111,111,108]⟩),a] w fun c w=>K (.tuple #[]) w
theorem Ba {a:Value} {w:World} {K:Value→World→Prop} (h:Vc a w K):Q0 P F.aB [a] w K:=Q9 [] Tryz.func72 rfl (by decide) (by kernel_rfl) h
def We (b:Value) (w:World) (K:Value→World→Prop):Prop:= buildSlice P T.c 2 [(0,(.string ⟨#[105,110,116]⟩)),(1,(.string ⟨#[105,110,116]⟩))] w fun a w=>Q0 P F.a6 [b,(.string ⟨#[105,110,116]⟩),a] w fun c w=>K (.tuple #[]) w
theorem Fq {a:Value} {w:World} {K:Value→World→Prop} (h:We a w K):Q0 P F.bc [a] w K:=Q9 [] Tryz.func86 rfl (by decide) (by kernel_rfl) h
def Q5a:V4:=[none,none,none,none,some ([26],[3,26,27,28,29,30,31]),none,none,none,none,none]
def Td (w:World) (K:Value→World→Prop):Prop:= Hz P T.j none w fun a w=>Q0 P F.aT [(.string ⟨#[105,110,116]⟩)] w fun v w=>mapUpdate P T.j a (.string ⟨#[105,110,116]⟩) v w fun _u w=>Q0 P F.aT [(.string ⟨#[98,111,111,108]⟩)] w fun B w=>mapUpdate P T.j a (.string ⟨#[116,114,117,101]⟩) B w fun _u w=>Q0 P F.aT [(.string ⟨#[98,111,111,108]⟩)] w fun A w=>mapUpdate P T.j a (.string ⟨#[102,97,108,115,101]⟩) A w fun _u w=>Q0 P F.aT [(.string ⟨#[116,101,120,116]⟩)] w fun y w=>mapUpdate P T.j a (.string ⟨#[119,111,114,100]⟩) y w fun _u w=>Q0 P F.aT [(.string ⟨#[110,117,108,108]⟩)] w fun z w=>mapUpdate P T.j a (.string ⟨#[110,117,108,108]⟩) z w fun _u w=>mapUpdate P T.j a (.string ⟨#[108,111,97,100]⟩) (.func (.func F.ch) #[] #[]) w fun _u w=>mapUpdate P T.j a (.string ⟨#[115,116,111,114,101]⟩) (.func (.func F.ca) #[] #[]) w fun _u w=>mapUpdate P T.j a (.string ⟨#[100,117,112]⟩) (.func (.func F.ct) #[] #[]) w fun _u w=>mapUpdate P T.j a (.string ⟨#[115,119,97,112]⟩) (.func (.func F.ci) #[] #[]) w fun _u w=>mapUpdate P T.j a (.string ⟨#[112,111,112]⟩) (.func (.func F.cI) #[] #[]) w fun _u w=>buildSlice P T.c 1 [(0,(.string ⟨#[105,110,116]⟩))] w fun c w=>Q0 P F.a4 [(.string ⟨#[105,110,116]⟩),c] w fun q w=>mapUpdate P T.j a (.string ⟨#[110,101,103]⟩) q w fun _u w=>buildSlice P T.c 1 [(0,(.string ⟨#[98,111,111,108]⟩))] w fun m w=>Q0 P F.a4 [(.string ⟨#[98,111,111,108]⟩),m] w fun r w=>mapUpdate P T.j a (.string ⟨#[110,111,116]⟩) r w fun _u w=>buildSlice P T.c 2 [(0,(.string ⟨#[98,111,111,108]⟩)),(1,(.string ⟨#[98,111,111,108]⟩))] w fun i w=>Q0 P F.a4 [(.string ⟨#[98,111,111,108]⟩),i] w fun n w=>mapUpdate P T.j a (.string ⟨#[98,111,116,104]⟩) n w fun _u w=>buildSlice P T.c 2 [(0,(.string ⟨#[116,101,120,116]⟩)),(1,(.string ⟨#[116,101,120,116]⟩))] w fun j w=>Q0 P F.a4 [(.string ⟨#[116,101,120,116]⟩),j] w fun s w=>mapUpdate P T.j a (.string ⟨#[106,111,105,110]⟩) s w fun _u w=>mapUpdate P T.j a (.string ⟨#[108,101,115,115]⟩) (.func (.func F.aB) #[] #[]) w fun _u w=>mapUpdate P T.j a (.string ⟨#[115,97,109,101]⟩) (.func (.func F.aB) #[] #[]) w fun _u w=>mapUpdate P T.j a (.string ⟨#[115,105,122,101]⟩) (.func (.func F.cj) #[] #[]) w fun _u w=>mapUpdate P T.j a (.string ⟨#[106,117,109,112]⟩) (.func (.func F.cJ) #[] #[]) w fun _u w=>buildSlice P T.c 1 [(0,(.string ⟨#[98,111,111,108]⟩))] w fun h w=>Q0 P F.a4 [(.string ⟨#[]⟩),h] w fun g w=>mapUpdate P T.j a (.string ⟨#[98,114,97,110,99,104]⟩) g w fun _u w=>mapUpdate P T.j a (.string ⟨#[110,101,119]⟩) (.func (.func F.c7) #[] #[]) w fun _u w=>mapUpdate P T.j a (.string ⟨#[103,101,116]⟩) (.func (.func F.cu) #[] #[]) w fun _u w=>mapUpdate P T.j a (.string ⟨#[112,117,116]⟩) (.func (.func F.ck) #[] #[]) w fun _u w=>mapUpdate P T.j a (.string ⟨#[99,97,108,108]⟩) (.func (.func F.cl) #[] #[]) w fun _u w=>mapUpdate P T.j a (.string ⟨#[97,114,114,97,121]⟩) (.func (.func F.cb) #[] #[]) w fun _u w=>mapUpdate P T.j a (.string ⟨#[97,116]⟩) (.func (.func F.cB) #[] #[]) w fun _u w=>mapUpdate P T.j a (.string ⟨#[115,101,116]⟩) (.func (.func F.cv) #[] #[]) w fun _u w=>mapUpdate P T.j a (.string ⟨#[105,115]⟩) (.func (.func F.cC) #[] #[]) w fun _u w=>mapUpdate P T.j a (.string ⟨#[99,97,115,116]⟩) (.func (.func F.cm) #[] #[]) w fun _u w=>mapUpdate P T.j a (.string ⟨#[114,101,116,117,114,110]⟩) (.func (.func F.cn) #[] #[]) w fun _u w=>buildSlice P T.c 1 [(0,(.string ⟨#[70,97,117,108,116]⟩))] w fun t w=>Q0 P F.a4 [(.string ⟨#[]⟩),t] w fun l w=>mapUpdate P T.j a (.string ⟨#[116,104,114,111,119]⟩) l w fun _u w=>buildSlice P T.c 1 [(0,(.string ⟨#[105,110,116]⟩))] w fun k w=>Q0 P F.a4 [(.string ⟨#[]⟩),k] w fun u w=>mapUpdate P T.j a (.string ⟨#[111,117,116]⟩) u w fun _u w=>mapUpdate P T.j a (.string ⟨#[101,113,117,97,108]⟩) (.func (.func F.cc) #[] #[]) w fun _u w=>N4 P T.ah [(0,(.string ⟨#[97,100,100]⟩)),(1,(.string ⟨#[115,117,98]⟩)),(2,(.string ⟨#[109,117,108]⟩)),(3,(.string ⟨#[100,105,118]⟩)),(4,(.string ⟨#[114,101,109]⟩)),(5,(.string ⟨#[97,110,100]⟩)),(6,(.string ⟨#[111,114]⟩)),(7,(.string ⟨#[120,111,114]⟩)),(8,(.string ⟨#[115,104,108]⟩)),(9,(.string ⟨#[115,104,114]⟩))] w fun e w=>lp (α:=Value) (.int .i64 0) w fun b o C w=>Q3 P .lss T.e (.tmp 26) (.const (.int .i64 10)) o (.int .i64 10) w fun f w=>X1 f (E5 P T.ah e o w fun p w=>mapUpdate P T.j a p (.func (.func F.bc) #[] #[]) w fun _u w=>Q3 P .add T.e (.tmp 26) (.const (.int .i64 1)) o (.int .i64 1) w fun d w=>b d w) (K a w)
theorem Q4I {w:World} {K:Value→World→Prop} (h:Td w K):Q0 P F.cr [] w K:=Q9 Q5a Tryz.func36 rfl (by decide) (by kernel_rfl) h
def Q31 (a0 a1 a2 a3:Value) (w:World) (K:Value→World→Prop):Prop:= box P T.d a1 w fun R w=>box P T.n a2 w fun i w=>box P T.f a3 w fun g w=>W4 P T.f w fun X w=>drR w fun a b=>Q7 a (fun o=> ∀c,Ap c→ ∀w,b w→fieldAddr P T.f g 1 w (dk a o w)) fun o=>Q7 a (fun D=> ∀c,Ap c→ ∀w,b w→fieldAddr P T.f g 2 w (dk a D w)) fun D=>Q7 a (fun Q=> ∀c,Ap c→ ∀w,b w→Q2 P T.d R w (dk a Q w)) fun Q=>Q7 a (fun N=> ∀c,Ap c→ ∀w,b w→Q2 P T.n i w (dk a N w)) fun N=>Q7 a (fun t=> ∀u c,Ap c→ ∀w,b w→o u w→Q2 P T.c u w (dk a t w)) fun t=>Q2B a (fun y=> ∀H c,Ap c→ ∀w,b w→t H w→Q0 P F.b [H] w (dkR a y w)) fun y=>Q7 a (fun E=> ∀p c,Ap c→ ∀w,b w→D p w→Q2 P T.c p w (dk a E w)) fun E=>Q2B a (fun L=> ∀J c,Ap c→ ∀w,b w→E J w→Q0 P F.b [J] w (dkR a L w)) fun L=>Q7 a (fun M=> ∀r z c,Ap c→ ∀w,b w→y (c 6) r w→L (c 8) z w→N4 P T.f [(0,(.bool true)),(1,r),(2,z)] w (dk a M w)) fun M=>∀u p aa ac H r J z ab c,Ap c→ ∀w,b w→o u w→D p w→Q aa w→N ac w→t H w→y (c 6) r w→E J w→L (c 8) z w→M ab w→ N4 P T.t [(0,a0),(1,aa),(2,ac),(3,ab)] w fun ax w=>box P T.t ax w fun f w=>dr w fun a b=>Q7 a (fun k=> ∀w,b w→fieldAddr P T.n i 0 w (dk a k w)) fun k=>Q7 a (fun l=> ∀w,b w→Q0 P F.cr [] w (dk a l w)) fun l=>Q7 a (fun s=> ∀n w,b w→k n w→Q2 P T.b n w (dk a s w)) fun s=>Q7 a (fun h=> ∀j A w,b w→l j w→s A w→lookup P T.j j A true w (dk a h w)) fun h=>Q7 a (fun V=> ∀d w,b w→h d w→ext P d 0 w (dk a V w)) fun V=>Q7 a (fun O=> ∀d w,b w→h d w→ext P d 1 w (dk a O w)) fun O=>∀n j A d ad Y w,b w→k n w→l j w→s A w→h d w→V ad w→O Y w→ Z8 P .not Y w fun aq w=>X1 aq (N4 P T.f [] w fun an w=>Z0 P T.f X an w fun _u w=>J8 P T.f X w fun r0=>K (.tuple #[r0,(.int .i64 76)]) w) (Z2 P ad [f] w fun a4 w=>nilCheck P f w fun ap w=>fieldAddr P T.t ap 3 w fun ag w=>fieldAddr P T.f ag 1 w fun aw w=>Q2 P T.c aw w fun ai w=>X5 P .len [T.c] T.e [false] [ai] w fun ah w=>Q3 P .leq T.e (.tmp 44) (.const (.int .i64 24)) ah (.int .i64 24) w fun al w=>Q0 P F.am [f,al,(.int .i64 72)] w fun a8 w=>nilCheck P f w fun af w=>fieldAddr P T.t af 4 w fun av w=>Q2 P T.s av w fun ao w=>Q3 P .neq T.s (.tmp 50) (.const (.int .i64 0)) ao (.int .i64 0) w fun ar w=>X1 ar (dr w fun a b=>Q7 a (fun q=> ∀w,b w→nilCheck P f w (dk a q w)) fun q=>Q7 a (fun v=> ∀C w,b w→q C w→fieldAddr P T.t C 4 w (dk a v w)) fun v=>Q7 a (fun m=> ∀w,b w→N4 P T.f [] w (dk a m w)) fun m=>Q7 a (fun W=> ∀B w,b w→v B w→Q2 P T.s B w (dk a W w)) fun W=>Q1a a (fun U=> ∀e w,b w→m e w→Z0 P T.f X e w (dk a (U [e]) w)) fun U=>∀C B e Z u5 w,b w→q C w→v B w→m e w→W Z w→U [e] u5 w→ J8 P T.f X w fun r0=>K (.tuple #[r0,Z]) w) (nilCheck P f w fun am w=>fieldAddr P T.t am 3 w fun aj w=>Q2 P T.f aj w fun ak w=>Z0 P T.f X ak w fun _u w=>J8 P T.f X w fun r0=>K (.tuple #[r0,(.int .i64 0)]) w))
theorem Q7U {b d a c:Value} {w:World} {K:Value→World→Prop} (h:Q31 b d a c w K):Q0 P F.cO [b,d,a,c] w K:=Q9 (List.replicate 12 none) Tryz.func19 rfl (by decide) (by kernel_rfl) h
def Wh (w:World) (K:Value→World→Prop):Prop:= Q0 P F.aA [] w fun t8 w=>ext P t8 0 w fun O w=>ext P t8 1 w fun m w=>Q3 P .eql T.r (.tmp 11) (.const (.pointer none)) O (.pointer none) w fun e w=>Q1 e false w (fun w J=>J m w) fun r w=>Q1 e false w (X5 P .len [T.h] T.e [false] [r]) fun C w=>Q1 e false w (Q3 P .eql T.e (.tmp 15) (.const (.int .i64 0)) C (.int .i64 0)) fun v w=>pick P e (.bool true) v w fun U w=>X1 U (K (.bool false) w) (N4 P T.d [] w fun X w=>N4 P T.n [(0,(.string ⟨#[97,100,100]⟩))] w fun B w=>buildSlice P T.c 2 [(0,(.string ⟨#[105,110,116]⟩)),(1,(.string ⟨#[105,110,116]⟩))] w fun A w=>N4 P T.f [(0,(.bool true)),(1,A)] w fun Z w=>Q0 P F.cO [O,X,B,Z] w fun i w=>ext P i 0 w fun o w=>ext P i 1 w fun l w=>W4 P T.f w fun a w=>Z0 P T.f a o w fun _u w=>buildSlice P T.c 1 [(0,(.string ⟨#[110,117,108,108]⟩))] w fun R w=>N4 P T.f [(0,(.bool true)),(1,R)] w fun E w=>buildSlice P T.c 1 [(0,(.string ⟨#[116,101,120,116,91,93]⟩))] w fun n w=>N4 P T.f [(0,(.bool true)),(1,n)] w fun L w=>Q0 P F.bu [O,E,L] w fun h w=>ext P h 0 w fun y w=>ext P h 1 w fun M w=>W4 P T.f w fun c w=>Z0 P T.f c y w fun _u w=>Q2 P T.f a w fun H w=>buildSlice P T.c 1 [(0,(.string ⟨#[105,110,116]⟩))] w fun t w=>N4 P T.f [(0,(.bool true)),(1,t)] w fun q w=>Q0 P F.a8 [H,q] w fun f w=>Q1 f true w (fun w J=>J l w) fun k w=>Q1 f true w (Q3 P .eql T.s (.tmp 41) (.const (.int .i64 0)) k (.int .i64 0)) fun Y w=>pick P f Y (.bool false) w fun b w=>Q1 b true w (Q2 P T.f c) fun s w=>Q1 b true w (buildSlice P T.c 1 [(0,(.string ⟨#[116,101,120,116,91,93]⟩))]) fun V w=>Q1 b true w (N4 P T.f [(0,(.bool true)),(1,V)]) fun D w=>Q1 b true w (Q0 P F.a8 [s,D]) fun j w=>pick P b j (.bool false) w fun g w=>Q1 g true w (fun w J=>J M w) fun W w=>Q1 g true w (Q3 P .eql T.s (.tmp 51) (.const (.int .i64 0)) W (.int .i64 0)) fun N w=>pick P g N (.bool false) w fun d w=>Q1 d true w (Q2 P T.f a) fun Q w=>Q1 d true w (Q2 P T.f a) fun p w=>Q1 d true w (Q0 P F.c6 [Q,p]) fun u w=>pick P d u (.bool false) w fun z w=>K z w)
theorem Gl {w:World} {K:Value→World→Prop} (h:Wh w K):Q0 P F.ae [] w K:=Q9 (List.replicate 8 none) Tryz.func11 rfl (by decide) (by kernel_rfl) h
def Px:V4:=[none,none,none,none,none,none,some ([3],[2,3,15,16,17,18,19,20,21,22,23,24,25,26,27,28]),none,none,none,none,none,none,none,some ([4],[2,4,29,30,31,32,33,34,35,36,37,38,39,40,41,42]),none,none,none,none,none,none]
def Oc (O:Value) (w:World) (K:Value→World→Prop):Prop:= box P T.f O w fun a w=>fieldAddr P T.f a 1 w fun N w=>Q2 P T.c N w fun R w=>X5 P .len [T.c] T.e [false] [R] w fun Q w=>Q3 P .gtr T.e (.tmp 7) (.const (.int .i64 40)) Q (.int .i64 40) w fun e w=>Q1 e false w (fieldAddr P T.f a 2) fun h w=>Q1 e false w (Q2 P T.c h) fun D w=>Q1 e false w (X5 P .len [T.c] T.e [false] [D]) fun u w=>Q1 e false w (Q3 P .gtr T.e (.tmp 12) (.const (.int .i64 40)) u (.int .i64 40)) fun H w=>pick P e (.bool true) H w fun o w=>X1 o (K (.bool false) w) (lp (α:=Value) (.int .i64 0) w fun c p U w=>fieldAddr P T.f a 1 w fun r w=>Q2 P T.c r w fun J w=>X5 P .len [T.c] T.e [false] [J] w fun n w=>Q3 P .lss T.e (.tmp 15) (.tmp 18) p n w fun l w=>X1 l (fieldAddr P T.f a 1 w fun s w=>Q2 P T.c s w fun M w=>indexAddr P T.c M p w fun j w=>Q2 P T.b j w fun g w=>X5 P .len [T.b] T.e [false] [g] w fun k w=>Q3 P .gtr T.e (.tmp 27) (.const (.int .i64 100)) k (.int .i64 100) w fun z w=>X1 z (K (.bool false) w) (Q3 P .add T.e (.tmp 20) (.const (.int .i64 1)) p (.int .i64 1) w fun t w=>c t w)) (lp (α:=Value) (.int .i64 0) w fun b d U w=>fieldAddr P T.f a 2 w fun v w=>Q2 P T.c v w fun i w=>X5 P .len [T.c] T.e [false] [i] w fun A w=>Q3 P .lss T.e (.tmp 29) (.tmp 32) d A w fun E w=>X1 E (fieldAddr P T.f a 2 w fun y w=>Q2 P T.c y w fun q w=>indexAddr P T.c q d w fun m w=>Q2 P T.b m w fun B w=>X5 P .len [T.b] T.e [false] [B] w fun f w=>Q3 P .gtr T.e (.tmp 41) (.const (.int .i64 100)) f (.int .i64 100) w fun L w=>X1 L (K (.bool false) w) (Q3 P .add T.e (.tmp 34) (.const (.int .i64 1)) d (.int .i64 1) w fun C w=>b C w)) (K (.bool true) w)))
theorem Pr {a:Value} {w:World} {K:Value→World→Prop} (h:Oc a w K):Q0 P F.aP [a] w K:=Q9 Px Tryz.func12 rfl (by decide) (by kernel_rfl) h
def Oi (k f h:Value) (w:World) (K:Value→World→Prop):Prop:= Q0 P F.r [k,f] w fun U w=>Z8 P .not U w fun b w=>Q1 b false w (fun w J=>J k w) fun s w=>Q1 b false w (fun w J=>J h w) fun E w=>Q1 b false w (Q0 P F.r [s,E]) fun z w=>Q1 b false w (Z8 P .not z) fun X w=>pick P b (.bool true) X w fun d w=>Q1 d false w (fun w J=>J f w) fun aa w=>Q1 d false w (fun w J=>J h w) fun C w=>Q1 d false w (Q3 P .eql T.b (.tmp 20) (.tmp 21) aa C) fun B w=>pick P d (.bool true) B w fun ac w=>X1 ac (Q3 P .eql T.b (.tmp 24) (.tmp 25) f h w fun c w=>Q1 c true w (fun w J=>J k w) fun N w=>Q1 c true w (fun w J=>J f w) fun W w=>Q1 c true w (Q0 P F.r [N,W]) fun L w=>pick P c L (.bool false) w fun o w=>K o w) (Q0 P F.n [f] w fun j w=>Q1 j false w (fun w J=>J h w) fun Q w=>Q1 j false w (Q0 P F.n [Q]) fun M w=>pick P j (.bool true) M w fun g w=>Q1 g false w (fun w J=>J h w) fun q w=>Q1 g false w (Q3 P .eql T.b (.tmp 39) (.const (.string ⟨#[110,117,108,108]⟩)) q (.string ⟨#[110,117,108,108]⟩)) fun O w=>pick P g (.bool true) O w fun n w=>X1 n (K (.bool false) w) (Q3 P .eql T.b (.tmp 42) (.const (.string ⟨#[110,117,108,108]⟩)) f (.string ⟨#[110,117,108,108]⟩) w fun e w=>Q1 e false w (fun w J=>J h w) fun u w=>Q1 e false w (Q3 P .eql T.b (.tmp 45) (.const (.string ⟨#[79,98,106,101,99,116]⟩)) u (.string ⟨#[79,98,106,101,99,116]⟩)) fun Y w=>pick P e (.bool true) Y w fun H w=>X1 H (K (.bool true) w) (Q0 P F.c [k,f] w fun m w=>Q0 P F.c [k,h] w fun l w=>Q3 P .geq T.e (.tmp 54) (.const (.int .i64 0)) m (.int .i64 0) w fun i w=>Q1 i true w (fun w J=>J l w) fun y w=>Q1 i true w (Q3 P .geq T.e (.tmp 57) (.const (.int .i64 0)) y (.int .i64 0)) fun v w=>pick P i v (.bool false) w fun a w=>Q1 a true w (fun w J=>J k w) fun R w=>Q1 a true w (Q0 P F.ag [R]) fun Z w=>Q1 a true w (fun w J=>J m w) fun ab w=>Q1 a true w (indexAddr P T.a1 Z ab) fun V w=>Q1 a true w (Q2 P T.z V) fun A w=>Q1 a true w (fun w J=>J l w) fun p w=>Q1 a true w (indexAddr P T.z A p) fun t w=>Q1 a true w (Q2 P T.m t) fun D w=>pick P a D (.bool false) w fun r w=>K r w)))
theorem Tn {b c a:Value} {w:World} {K:Value→World→Prop} (h:Oi b c a w K):Q0 P F.ay [b,c,a] w K:=Q9 (List.replicate 12 none) Tryz.func33 rfl (by decide) (by kernel_rfl) h
def Kp:V4:=[none,none,none,none,none,none,none,none,none,none,none,none,some ([7],[6,7,39,40,41,42,43,44,45,46,47,48,49,50,51,52,53,54,55,56,57,58,59,60]),none,none,none,none,none,none]
def Lz (c g h:Value) (w:World) (K:Value→World→Prop):Prop:= Q0 P F.ay [c,g,h] w fun C w=>X1 C (K h w) (Q0 P F.ay [c,h,g] w fun r w=>X1 r (K g w) (Q0 P F.r [c,g] w fun M w=>Z8 P .not M w fun b w=>Q1 b false w (fun w J=>J c w) fun N w=>Q1 b false w (fun w J=>J h w) fun E w=>Q1 b false w (Q0 P F.r [N,E]) fun m w=>Q1 b false w (Z8 P .not m) fun j w=>pick P b (.bool true) j w fun f w=>Q1 f false w (fun w J=>J g w) fun H w=>Q1 f false w (Q0 P F.n [H]) fun u w=>pick P f (.bool true) u w fun e w=>Q1 e false w (fun w J=>J h w) fun D w=>Q1 e false w (Q0 P F.n [D]) fun s w=>pick P e (.bool true) s w fun y w=>X1 y (K (.string ⟨#[]⟩) w) (Q0 P F.c [c,g] w fun o w=>lp (α:=Value) o w fun a d O w=>Q3 P .geq T.e (.tmp 39) (.const (.int .i64 0)) d (.int .i64 0) w fun v w=>X1 v (indexAddr P T.h c d w fun z w=>fieldAddr P T.a z 0 w fun k w=>Q2 P T.b k w fun B w=>Q0 P F.ay [c,h,B] w fun A w=>X1 A (indexAddr P T.h c d w fun q w=>fieldAddr P T.a q 0 w fun l w=>Q2 P T.b l w fun n w=>K n w) (indexAddr P T.h c d w fun i w=>fieldAddr P T.a i 1 w fun p w=>Q2 P T.b p w fun L w=>Q0 P F.c [c,L] w fun t w=>a t w)) (K (.string ⟨#[79,98,106,101,99,116]⟩) w))))
theorem Ky {b c a:Value} {w:World} {K:Value→World→Prop} (h:Lz b c a w K):Q0 P F.aG [b,c,a] w K:=Q9 Kp Tryz.func30 rfl (by decide) (by kernel_rfl) h
def Gg:V4:=[none,none,none,none,none,none,none,none,none,none,none,none,none,some ([9],[7,9,10,38,39,40,41,42,43,44,45,46,47,48,49,50,51,52,53,54,55,56,57,58,59,60,61,62,63,64,65]),none,none,none,none,none,none,none,none,none,some ([11],[11,66,67,68,69,70,71,72,73,74,75,76,77,78,79,80,81,82,83,84,85,86,87,88,89]),none,none,none,none]
def Wv (a0 a1 a2:Value) (w:World) (K:Value→World→Prop):Prop:= box P T.f a1 w fun Y w=>box P T.f a2 w fun t5 w=>W4 P T.f w fun f w=>fieldAddr P T.f Y 0 w fun ay w=>Q2 P T.m ay w fun a6 w=>Z8 P .not a6 w fun aq w=>X1 aq (Q2 P T.f t5 w fun bm w=>Z0 P T.f f bm w fun _u w=>J8 P T.f f w fun n=>K (.tuple #[n,(.int .i64 0)]) w) (fieldAddr P T.f t5 0 w fun bj w=>Q2 P T.m bj w fun a7 w=>Z8 P .not a7 w fun bg w=>X1 bg (Q2 P T.f Y w fun be w=>Z0 P T.f f be w fun _u w=>J8 P T.f f w fun n=>K (.tuple #[n,(.int .i64 0)]) w) (fieldAddr P T.f Y 1 w fun a8 w=>Q2 P T.c a8 w fun bk w=>X5 P .len [T.c] T.e [false] [bk] w fun ax w=>fieldAddr P T.f t5 1 w fun bz w=>Q2 P T.c bz w fun bv w=>X5 P .len [T.c] T.e [false] [bv] w fun al w=>Q3 P .neq T.e (.tmp 22) (.tmp 25) ax al w fun c w=>Q1 c false w (fieldAddr P T.f Y 2) fun bq w=>Q1 c false w (Q2 P T.c bq) fun a5 w=>Q1 c false w (X5 P .len [T.c] T.e [false] [a5]) fun bn w=>Q1 c false w (fieldAddr P T.f t5 2) fun ak w=>Q1 c false w (Q2 P T.c ak) fun a3 w=>Q1 c false w (X5 P .len [T.c] T.e [false] [a3]) fun bu w=>Q1 c false w (Q3 P .neq T.e (.tmp 30) (.tmp 33) bn bu) fun aw w=>pick P c (.bool true) aw w fun a4 w=>X1 a4 (N4 P T.f [] w fun az w=>Z0 P T.f f az w fun _u w=>J8 P T.f f w fun n=>K (.tuple #[n,(.int .i64 75)]) w) (N4 P T.f [(0,(.bool true))] w fun bi w=>W4 P T.f w fun t8 w=>Z0 P T.f t8 bi w fun _u w=>lp (α:=Value) (.int .i64 0) w fun d i d_ w=>fieldAddr P T.f Y 1 w fun bf w=>Q2 P T.c bf w fun bo w=>X5 P .len [T.c] T.e [false] [bo] w fun bb w=>Q3 P .lss T.e (.tmp 38) (.tmp 41) i bb w fun a9 w=>X1 a9 (dr w fun a b=>Q7 a (fun A=> ∀w,b w→fieldAddr P T.f Y 1 w (dk a A w)) fun A=>Q7 a (fun m=> ∀w,b w→fieldAddr P T.f t5 1 w (dk a m w)) fun m=>Q7 a (fun h=> ∀t w,b w→A t w→Q2 P T.c t w (dk a h w)) fun h=>Q7 a (fun o=> ∀N w,b w→h N w→indexAddr P T.c N i w (dk a o w)) fun o=>Q7 a (fun aa=> ∀u w,b w→o u w→Q2 P T.b u w (dk a aa w)) fun aa=>Q7 a (fun C=> ∀y w,b w→m y w→Q2 P T.c y w (dk a C w)) fun C=>Q7 a (fun D=> ∀q w,b w→C q w→indexAddr P T.c q i w (dk a D w)) fun D=>Q7 a (fun ab=> ∀V w,b w→D V w→Q2 P T.b V w (dk a ab w)) fun ab=>∀t y N u ah q V aj w,b w→A t w→m y w→h N w→o u w→aa ah w→C q w→D V w→ab aj w→ Q0 P F.aG [a0,ah,aj] w fun ai w=>Q3 P .eql T.b (.tmp 57) (.const (.string ⟨#[]⟩)) ai (.string ⟨#[]⟩) w fun av w=>X1 av (N4 P T.f [] w fun bc w=>Z0 P T.f f bc w fun _u w=>J8 P T.f f w fun n=>K (.tuple #[n,(.int .i64 75)]) w) (fieldAddr P T.f t8 1 w fun an w=>Q2 P T.c an w fun br w=>buildSlice P T.c 1 [(0,ai)] w fun bw w=>X5 P .append [T.c,T.c] T.c [false,false] [br,bw] w fun bs w=>fieldAddr P T.f t8 1 w fun bh w=>Z0 P T.c bh bs w fun _u w=>Q3 P .add T.e (.tmp 43) (.const (.int .i64 1)) i (.int .i64 1) w fun ba w=>d ba w)) (lp (α:=Value) (.int .i64 0) w fun e H d_ w=>fieldAddr P T.f Y 2 w fun ar w=>Q2 P T.c ar w fun bl w=>X5 P .len [T.c] T.e [false] [bl] w fun ap w=>Q3 P .lss T.e (.tmp 66) (.tmp 69) H ap w fun am w=>X1 am (dr w fun a b=>Q7 a (fun X=> ∀w,b w→fieldAddr P T.f t8 2 w (dk a X w)) fun X=>Q7 a (fun R=> ∀w,b w→fieldAddr P T.f Y 2 w (dk a R w)) fun R=>Q7 a (fun p=> ∀w,b w→fieldAddr P T.f t5 2 w (dk a p w)) fun p=>Q7 a (fun Z=> ∀M w,b w→X M w→Q2 P T.c M w (dk a Z w)) fun Z=>Q7 a (fun L=> ∀J w,b w→R J w→Q2 P T.c J w (dk a L w)) fun L=>Q7 a (fun Q=> ∀O w,b w→L O w→indexAddr P T.c O H w (dk a Q w)) fun Q=>Q7 a (fun W=> ∀j w,b w→Q j w→Q2 P T.b j w (dk a W w)) fun W=>Q7 a (fun E=> ∀k w,b w→p k w→Q2 P T.c k w (dk a E w)) fun E=>Q7 a (fun g=> ∀B w,b w→E B w→indexAddr P T.c B H w (dk a g w)) fun g=>Q7 a (fun r=> ∀z w,b w→g z w→Q2 P T.b z w (dk a r w)) fun r=>Q7 a (fun s=> ∀v U w,b w→W v w→r U w→Q0 P F.aG [a0,v,U] w (dk a s w)) fun s=>Q7 a (fun ac=> ∀l w,b w→s l w→buildSlice P T.c 1 [(0,l)] w (dk a ac w)) fun ac=>∀M J k af O j v B z U l ag w,b w→X M w→R J w→p k w→Z af w→L O w→Q j w→W v w→E B w→g z w→r U w→s l w→ac ag w→ X5 P .append [T.c,T.c] T.c [false,false] [af,ag] w fun bp w=>fieldAddr P T.f t8 2 w fun bx w=>Z0 P T.c bx bp w fun _u w=>Q3 P .add T.e (.tmp 71) (.const (.int .i64 1)) H (.int .i64 1) w fun bd w=>e bd w) (Q2 P T.f t8 w fun ao w=>Z0 P T.f f ao w fun _u w=>J8 P T.f f w fun n=>K (.tuple #[n,(.int .i64 0)]) w)))))
theorem Bz {b c a:Value} {w:World} {K:Value→World→Prop} (h:Wv b c a w K):Q0 P F.b6 [b,c,a] w K:=Q9 Gg Tryz.func14 rfl (by decide) (by kernel_rfl) h
def Yi (a0 a1:Value) (w:World) (K:Value→World→Prop):Prop:= box P T.f a0 w fun d w=>box P T.f a1 w fun e w=>Q0 P F.aA [] w fun M w=>ext P M 0 w fun am w=>ext P M 1 w fun ac w=>Q0 P F.ae [] w fun ah w=>Z8 P .not ah w fun p w=>Q1 p false w (Q2 P T.f d) fun aa w=>Q1 p false w (Q0 P F.aP [aa]) fun Z w=>Q1 p false w (Z8 P .not Z) fun an w=>pick P p (.bool true) an w fun q w=>Q1 q false w (Q2 P T.f e) fun ao w=>Q1 q false w (Q0 P F.aP [ao]) fun al w=>Q1 q false w (Z8 P .not al) fun W w=>pick P q (.bool true) W w fun U w=>X1 U (Q0 P F.ae [] w fun X w=>K X w) (Q2 P T.f d w fun ai w=>Q2 P T.f e w fun V w=>Q0 P F.bu [am,ai,V] w fun N w=>ext P N 0 w fun ak w=>ext P N 1 w fun ag w=>W4 P T.f w fun i w=>Z0 P T.f i ak w fun _u w=>Q2 P T.f d w fun ad w=>Q2 P T.f e w fun ab w=>Q0 P F.b6 [ac,ad,ab] w fun L w=>ext P L 0 w fun aj w=>ext P L 1 w fun R w=>W4 P T.f w fun j w=>Z0 P T.f j aj w fun _u w=>dr w fun c h=>Q7 c (fun v=> ∀w,h w→Q2 P T.f i w (dk c v w)) fun v=>Q7 c (fun o=> ∀w,h w→Q2 P T.f j w (dk c o w)) fun o=>Q7 c (fun g=> ∀B l w,h w→v B w→o l w→Q0 P F.a8 [B,l] w (dk c g w)) fun g=>Q7 c (fun A=> ∀b w,h w→g b w→Q1 b true w (fun w J=>J ag w) (dk c A w)) fun A=>Q7 c (fun m=> ∀b w,h w→g b w→Q1 b true w (fun w J=>J R w) (dk c m w)) fun m=>Q7 c (fun r=> ∀b y s w,h w→g b w→A y w→m s w→Q1 b true w (Q3 P .eql T.s (.tmp 46) (.tmp 47) y s) (dk c r w)) fun r=>Q7 c (fun f=> ∀b k w,h w→g b w→r k w→pick P b k (.bool false) w (dk c f w)) fun f=>Q7 c (fun t=> ∀a w,h w→f a w→Q1 a true w (Q2 P T.f d) (dk c t w)) fun t=>Q7 c (fun n=> ∀a w,h w→f a w→Q1 a true w (Q2 P T.f e) (dk c n w)) fun n=>Q7 c (fun E=> ∀a z u w,h w→f a w→t z w→n u w→Q1 a true w (Q0 P F.c6 [z,u]) (dk c E w)) fun E=>Q7 c (fun C=> ∀a w,h w→f a w→Q1 a true w (Q2 P T.f d) (dk c C w)) fun C=>Q7 c (fun D=> ∀a w,h w→f a w→Q1 a true w (Q2 P T.f e) (dk c D w)) fun D=>∀B l b y s k a z u H Q O w,h w→v B w→o l w→g b w→A y w→m s w→r k w→f a w→t z w→n u w→E H w→C Q w→D O w→ Q1 a true w (Q0 P F.a8 [Q,O]) fun Y w=>Q1 a true w (Q3 P .eql T.m (.tmp 53) (.tmp 56) H Y) fun ae w=>pick P a ae (.bool false) w fun af w=>K af w)
theorem Dm {a b:Value} {w:World} {K:Value→World→Prop} (h:Yi a b w K):Q0 P F.bC [a,b] w K:=Q9 (List.replicate 8 none) Tryz.func3 rfl (by decide) (by kernel_rfl) h
end Go.Proofs.YtfppjenblllfaaaGreatDoor

set_option maxRecDepth 100000
namespace Go.Proofs.YtfppjenblllfaaaGreatDoor
open Go.Emb
end Go.Proofs.YtfppjenblllfaaaGreatDoor


namespace Go.Emb
open Go.RowKit (Below)
variable {P : Program} {w w' : World} {K : Value → World → Prop}
theorem Y0 {s:Sem Value} {v:Value} (h:s.run P w= .ok v w'):op P (sv s) w K=K v w':=by
 rw[Xc];unfold T7 sv;simp[h]
theorem Na {s:Sem Unit} (h:s.run P w= .ok () w'):op P (su s) w K=K undef w':=by
 rw[Xc];unfold T7 su;simp[h]
abbrev S (l:List UInt8):Value:= .string ⟨l.toArray⟩
abbrev I (n:Int):Value:= .int .i64 n
theorem Nr {b:Bool} {x y:Value}:pick P (.bool b) x y w K=K (if b then x else y) w:=by
 unfold pick;rw[Xc];unfold T7;cases b<;>simp[asBool]
theorem Rq {x y:Value}:pick P (.bool true) x y w K=K x w:=by rw[Nr];rfl
theorem Dh {x y:Value}:pick P (.bool false) x y w K=K y w:=by rw[Nr];rfl
theorem Q98 {a b:Bool} {u:Value}:pick P (.bool a) (if a=true then .bool b else u) (.bool false) w K=K (.bool (a&&b)) w:=by
 rw[Nr];cases a<;>rfl
theorem X1n {a b:Bool} {u:Value}:pick P (.bool a) (.bool true) (if a=false then .bool b else u) w K=K (.bool (a||b)) w:=by
 rw[Nr];cases a<;>rfl
theorem I3 {c:World→(Value→World→Prop)→Prop}:Q1 (.bool true) true w c K=c w K:=by rw[Oe];simp[La]
theorem Vi {c:World→(Value→World→Prop)→Prop}:Q1 (.bool false) false w c K=c w K:=by rw[Oe];simp[La]
theorem Ta {c:World→(Value→World→Prop)→Prop}:Q1 (.bool true) false w c K=K undef w:=by rw[Oe];simp[La]
theorem Uc {c:World→(Value→World→Prop)→Prop}:Q1 (.bool false) true w c K=K undef w:=by rw[Oe];simp[La]
theorem Q00 {b:Bool} {c:World→(Value→World→Prop)→Prop}:Q1 undef b w c K=K undef w:=by rw[Oe];rfl
theorem Q97 {a b:Bool} {v:Value}:Q1 (.bool a) b w (fun w J=>J v w) K=K (if a=b then v else undef) w:=by
 rw[Oe];unfold La;by_cases h:a=b<;>simp[h]
theorem Q59 {b:Bool} {t e:Prop}:X1 (.bool b) t e=if b=true then t else e:=by rw[Q4g];cases b<;>rfl
theorem Nh {t e:Prop}:X1 (.bool true) t e=t:=by rw[Q59];simp
theorem Uz {t e:Prop}:X1 (.bool false) t e=e:=by rw[Q59];simp
section ints
variable {k : IntKind} {t : TypeId} {ox oy : Operand} {a b : Int}
theorem Cy:Q3 P .add t ox oy (.int k a) (.int k b) w K=K (.int k (k.wrap (a+b))) w:=Y0 (by simp[eqGuard,Go.binOp,Op.intArith])
theorem Q0a:Q3 P .sub t ox oy (.int k a) (.int k b) w K=K (.int k (k.wrap (a-b))) w:=Y0 (by simp[eqGuard,Go.binOp,Op.intArith])
theorem Q6r:Q3 P .mul t ox oy (.int k a) (.int k b) w K=K (.int k (k.wrap (a*b))) w:=Y0 (by simp[eqGuard,Go.binOp,Op.intArith])
theorem Q2h:Q3 P .lss t ox oy (.int k a) (.int k b) w K=K (.bool (decide (a<b))) w:=Y0 (by simp[eqGuard,Go.binOp,Op.intCmp])
theorem Q2v:Q3 P .leq t ox oy (.int k a) (.int k b) w K=K (.bool (decide (a≤b))) w:=Y0 (by simp[eqGuard,Go.binOp,Op.intCmp])
theorem Q2j:Q3 P .gtr t ox oy (.int k a) (.int k b) w K=K (.bool (decide (b<a))) w:=Y0 (by simp[eqGuard,Go.binOp,Op.intCmp])
theorem Q0s:Q3 P .geq t ox oy (.int k a) (.int k b) w K=K (.bool (decide (b≤a))) w:=Y0 (by simp[eqGuard,Go.binOp,Op.intCmp])
theorem Q07:Q3 P .eql t ox oy (.int k a) (.int k b) w K=K (.bool (decide (a=b))) w:=Y0 (by
 simp[eqGuard,Go.binOp,Op.intCmp];rfl)
theorem Q2A:Q3 P .neq t ox oy (.int k a) (.int k b) w K=K (.bool (!decide (a=b))) w:=Y0 (by
 simp[eqGuard,Go.binOp,Op.intCmp];rfl)
end ints
theorem Q2q {b:Bool}:Z8 P .not (.bool b) w K=K (.bool (!b)) w:=Y0 (by simp[Op.unary])
section bools
variable {t : TypeId} {ox oy : Operand} {a b : Bool}
theorem Q1i (d:Nat) (h:P.underlying t=some .bool):(Op.equalIn (d+1) t (.bool a) (.bool b)).run P w= .ok (a==b) w:=by
 simp[Op.equalIn,run_underlying h]
theorem Cr (h:P.underlying t=some .bool):(Op.equal t (.bool a) (.bool b)).run P w= .ok (a==b) w:=Q1i 9999 h
theorem Q4H (h:P.underlying t=some .bool):Q3 P .eql t ox oy (.bool a) (.bool b) w K=K (.bool (a==b)) w:=Y0 (by
 simp[eqGuard,Go.binOp,Cr h])
theorem Q3W (h:P.underlying t=some .bool):Q3 P .neq t ox oy (.bool a) (.bool b) w K=K (.bool (!(a==b))) w:=Y0 (by
 simp[eqGuard,Go.binOp,Cr h])
end bools
theorem Zd {vs:List Value} {i:Nat} {v:Value} (h:vs[i]? =some v):ext P (.tuple vs.toArray) i w K=K v w:=Y0 (by
 simp[Instr.extract,h])
theorem X23 {a b:Value}:ext P (.tuple #[a,b]) 0 w K=K a w:=Zd (vs:=[a,b]) rfl
theorem X1Q {a b:Value}:ext P (.tuple #[a,b]) 1 w K=K b w:=Zd (vs:=[a,b]) rfl
theorem X00 {a b c:Value}:ext P (.tuple #[a,b,c]) 0 w K=K a w:=Zd (vs:=[a,b,c]) rfl
theorem X0s {a b c:Value}:ext P (.tuple #[a,b,c]) 1 w K=K b w:=Zd (vs:=[a,b,c]) rfl
theorem X06 {a b c:Value}:ext P (.tuple #[a,b,c]) 2 w K=K c w:=Zd (vs:=[a,b,c]) rfl
theorem F4 {n:Int} (e: -9223372036854775808≤n) (d:n≤9223372036854775807):IntKind.i64.wrap n=n:=by
 have c:n % 18446744073709551616=n∨n % 18446744073709551616=n+18446744073709551616:=by omega
 show (if (true&&decide (n % 18446744073709551616≥9223372036854775808))=true then n % 18446744073709551616-18446744073709551616 else n % 18446744073709551616)=n
 simp only[Bool.true_and,decide_eq_true_eq]
 split<;>omega
theorem w32 {n:Int} (d: -2147483648≤n) (c:n≤2147483647):IntKind.i32.wrap n=n:=by
 show (if (true&&decide (n % 4294967296≥2147483648))=true then n % 4294967296-4294967296 else n % 4294967296)=n
 simp only[Bool.true_and,decide_eq_true_eq]
 split<;>omega
section strs
variable {t : TypeId} {ox oy : Operand} {a b : List UInt8}
theorem Q2E (a b:List UInt8):(a==b)=decide (a=b):=by rw[Bool.eq_iff_iff];simp
theorem Rx:Q3 P .eql t ox oy (S a) (S b) w K=K (.bool (decide (a=b))) w:=Y0 (by
 simp[eqGuard,Go.binOp,Op.stringOp,Q2E])
theorem Rz:Q3 P .neq t ox oy (S a) (S b) w K=K (.bool (!decide (a=b))) w:=Y0 (by
 simp[eqGuard,Go.binOp,Op.stringOp,Q2E])
theorem B2 (l:List UInt8):(ByteArray.mk l.toArray).size=l.length:=by simp[ByteArray.size]
theorem Q7L (a b:List UInt8):ByteArray.mk a.toArray++ByteArray.mk b.toArray=ByteArray.mk (a++b).toArray:=by
 apply ByteArray.ext;simp
theorem X2w:IntKind.i64.max=9223372036854775807:=by decide
theorem Q5u (h:a.length+b.length≤9223372036854775807):Q3 P .add t ox oy (S a) (S b) w K=K (S (a++b)) w:=Y0 (by
 have c: ¬(((a.length+b.length:Nat):Int)>IntKind.i64.max):=by rw[X2w];omega
 simp only[eqGuard,Go.binOp,Op.stringOp,B2,Q7L]
 simp only[if_neg c]
 simp)
theorem D7 {cs:List Bool} {r:TypeId} (c:P.underlying t=some .string):X5 P .len [t] r cs [S a] w K=K (I a.length) w:=by
 have h:(Builtin.len_ #[t] r #[S a]).run P w= .ok (I a.length) w:=by
  simp[Builtin.len_,run_underlying c,B2,goInt]
 exact Y0 h
theorem Qk {i:Int} (c:P.underlying t=some .string) (d:0≤i) (h:i.toNat<a.length):E5 P t (S a) (I i) w K=K (.int .u8 (a[i.toNat]'h).toNat) w:=Y0 (by
 simp only[Instr.index,asIntOf,Sem.run_bind,Sem.run_pure,Result.andThen_ok,run_underlying c,d,if_true]
 have:(ByteArray.mk a.toArray)[i.toNat]? =some (a[i.toNat]'h):=by
  rw[getElem?_pos _ _ (by rw[B2];exact h)]
  rfl
 rw[this];simp)
theorem Q1z (l:List UInt8) (i j:Nat):(ByteArray.mk l.toArray).extract i j=ByteArray.mk ((l.take j).drop i).toArray:=by
 apply ByteArray.ext
 apply Array.ext'
 simp[List.drop_take]
theorem Ls {i:Int} (c:P.underlying t=some .string) (d:0≤i) (h:i≤a.length):H7 P t (S a) (some (I i)) none none w K=K (S (a.drop i.toNat)) w:=Y0 (by
 simp[Instr.sliceAt,Instr.slice,Instr.sliceBounds,Instr.sliceBound,asIntOf,run_underlying c,d,h,B2,Q1z])
theorem K2 {i:Int} (c:P.underlying t=some .string) (d:0≤i) (h:i≤a.length):H7 P t (S a) none (some (I i)) none w K=K (S (a.take i.toNat)) w:=Y0 (by
 simp[Instr.sliceAt,Instr.slice,Instr.sliceBounds,Instr.sliceBound,asIntOf,run_underlying c,d,h,B2,Q1z])
end strs
theorem Q15 {s d:TypeId} {k j:IntKind} {n:Int} {ds:TypeDesc} (c:P.underlying s=some ds) (e:P.underlying d=some (.int k)):conv P s d (.int j n) w K=K (.int k (k.wrap n)) w:=Y0 (by
 simp[Go.convert,run_underlying c,run_underlying e,Conv.intToInt])
def Ae (w:World) (r:Nat) (o:Obj):World:={w with heap:=w.heap.setIfInBounds r o}
theorem Q2R {B r:Nat} {a w:World} {o:Obj} (h:Below B a w) (d:B≤r):Below B a (Ae w r o):=
 h.trans ⟨rfl,rfl,rfl,by simp[Ae],fun k c=>by simp only[Ae];rw[Array.getElem?_setIfInBounds_ne (by omega)]⟩
theorem Q6g {w:World} {r:Nat} {o:Obj} (h:r<w.heap.size):(Ae w r o).heap[r]? =some o:=by
 simp only[Ae];rw[Array.getElem?_setIfInBounds_self_of_lt h]
theorem X0I {t:TypeId} {a:List UInt8} (c:P.underlying t=some .string):rng P t (S a) w K=K (.pointer (some ⟨w.heap.size,0,none⟩)) (w.alloc (.stringIter ⟨a.toArray⟩ 0)):=Y0 (by
 simp[Instr.range,run_underlying c])
theorem X1f {t:TypeId} {r pos:Nat} {s:ByteArray} (h:w.heap[r]? =some (.stringIter s pos)) (c:pos<s.size):
 J7 P (.pointer (some ⟨r,0,none⟩)) true t w K=K (.tuple #[.bool true,I pos, .int .i32 (Utf8.decode s pos).1]) (Ae w r (.stringIter s (pos+(Utf8.decode s pos).2))):=Y0 (by
 have e: ∀(k:Obj→Sem Value),(getObj r>>=k).run P w=(k (.stringIter s pos)).run P w:=by
  intro k;rw[Sem.run_bind];simp[getObj,Sem.run,h]
 have d: ∀o,(setObj r o).run P w= .ok () (Ae w r o):=by intro o;simp[setObj,Sem.run,h,Ae]
 unfold Instr.next
 simp only[e,c,if_true]
 simp[d,goInt])
theorem Q5v {t:TypeId} {r pos:Nat} {s:ByteArray} (h:w.heap[r]? =some (.stringIter s pos)) (c: ¬pos<s.size):
 J7 P (.pointer (some ⟨r,0,none⟩)) true t w K=K (.tuple #[.bool false]) w:=Y0 (by
 have d: ∀(k:Obj→Sem Value),(getObj r>>=k).run P w=(k (.stringIter s pos)).run P w:=by
  intro k;rw[Sem.run_bind];simp[getObj,Sem.run,h]
 unfold Instr.next
 simp only[d,c,if_false]
 simp)
theorem X0w {a:Value}:ext P (.tuple #[a]) 0 w K=K a w:=Zd (vs:=[a]) rfl
theorem Q6G {s:ByteArray} {i:Nat} (h:(s.get! i).toNat<128):Utf8.decode s i=((s.get! i).toNat,1):=by
 unfold Utf8.decode
 simp only[Nat.add_zero]
 rw[if_pos h]
theorem Q5W {s:ByteArray} {i:Nat} (h: ¬(s.get! i).toNat<128):128≤(Utf8.decode s i).1:=by
 unfold Utf8.decode
 simp only[Nat.add_zero]
 rw[if_neg h]
 repeat' split
 all_goals (simp only[Utf8.runeError] at*;try omega)
 all_goals (simp only[Bool.and_eq_true,decide_eq_true_eq,ge_iff_le] at*;omega)
theorem Q4x {s:ByteArray} {i:Nat}:1≤(Utf8.decode s i).2:=by
 unfold Utf8.decode
 simp only
 repeat' split
 all_goals simp
def By (p:Int→Bool) (s:ByteArray):Nat→Nat→Bool
 | 0,_=>true
 | n+1,i=>if i<s.size then p (Utf8.decode s i).1&&By p s n (i+(Utf8.decode s i).2) else true
theorem Q2L {a:List UInt8} {i:Nat} (h:i<a.length):(ByteArray.mk a.toArray).get! i=a[i]:=by
 show (ByteArray.mk a.toArray).data[i]! =a[i]
 simp[h]
theorem Q6O (p:Int→Bool) (e: ∀c:Int,128≤c→p c=false) (a:List UInt8): ∀(n i:Nat),a.length-i≤n→By p ⟨a.toArray⟩ n i=(a.drop i).all (fun b=>p b.toNat):=by
 intro n
 induction n with
 | zero=>intro i h;rw[List.drop_eq_nil_of_le (by omega)];rfl
 | succ n g=>
  intro i h
  simp only[By,B2]
  split
  ·rename_i d
   rw[List.drop_eq_getElem_cons d,List.all_cons]
   by_cases f:a[i].toNat<128
   ·rw[Q6G (by rw[Q2L d];exact f),Q2L d]
    simp only
    rw[g (i+1) (by omega)]
   ·have j:=Q5W (s:=⟨a.toArray⟩) (i:=i) (by rw[Q2L d];exact f)
    rw[e _ (by omega),e _ (by omega)];rfl
  ·rename_i d;rw[List.drop_eq_nil_of_le (by omega)];rfl
theorem V8 {α:Type} {A:(α→World→Prop)→World→Prop} {B:α→(Nat→Value)→World→Prop} (h:A (fun x w=> ∀d,B x d w) w):jn w A B:=Zz _ h (fun _ d _ c=>c d)
theorem X2 {d:World→World→Prop} {A c:(Value→World→Prop)→Prop} (V:Value) (h:A (fun v _=>v=V)) (e:c (fun v _=>v=V)):Q7 d A c:=
 W6 _ (fun _ _ _ h _=>h) h e
theorem Ni {w w0:World} {A:(World→World→Prop)→(World→Prop)→Prop} (e:Below w0.heap.size w0 w)
 (h:A (fun w w'=>Below w.heap.size w w') (fun w'=>Below w0.heap.size w0 w')):dr w A:=
 Q0c _ _ e.drew (fun _ _ c d=>c.trans (d.mono c.size)) h
theorem Q1W {w w':World} {v V:Value} (c:Below w.heap.size w w') (h:v=V):dk (fun w w'=>Below w.heap.size w w') (fun v _=>v=V) w v w':=⟨c,h⟩
theorem X6 {w:World} {v V:Value} (h:v=V):dk (fun w w'=>Below w.heap.size w w') (fun v _=>v=V) w v w:=⟨Below.refl _ _,h⟩
theorem Q5E {n:Nat} {fn:Func} {e:Array Value→Sem Value} {xs:List Value} {v:Value} (m:P.funcs[n]? =some fn) (j:(fn.name== "runtime.NumGoroutine")=false) (o:fn.body.isNone=true)
 (l:(Extern.findNext fn).isNone=true) (i:Extern.find fn=some e) (g:(e xs.toArray).run P w= .ok v w) (h:K v w):Q0 P n xs w K:=by
 have f:Extern.findNext fn=none:=by simpa using l
 have d: ¬fn.name= "runtime.NumGoroutine":=by simpa using j
 have c:fn.body=none:=by simpa using o
 unfold Q0
 rw[Xc]
 unfold T7 callFunc
 simp[m,d,c,f,i,g,h]
theorem Q1P {α:Type} (p:α→Bool) (c:Nat→Bool): ∀(l:List α),(∀i (h:i<l.length),c i=p l[i])→(List.range l.length).find? c=l.findIdx? p
 | [],_=>rfl
 | x::l,h=>by
  rw[List.length_cons,List.range_succ_eq_map,List.find?_cons,List.findIdx?_cons]
  have e:c 0=p x:=h 0 (by simp)
  rw[e]
  cases p x
  ·simp only[Bool.false_eq_true,if_false]
   rw[List.find?_map]
   have:=Q1P p (c ∘ Nat.succ) l (fun i d=>h (i+1) (by simpa using d))
   rw[this]
  ·rfl
def Mr:=And.intro @Rq <| And.intro @Dh <| And.intro @Q00 <| And.intro @Cy <| And.intro @Q0a <| And.intro @Q6r <| And.intro @Q2h <| And.intro @Q2v <| And.intro @Q2j <| And.intro @Q0s <| And.intro @Q07 <| And.intro @Q2A <| And.intro @Q2q <| And.intro @Rx <| And.intro @Rz <| And.intro @X23 <| And.intro @X1Q <| And.intro @X00 <| And.intro @X0s <| And.intro @X06 <| And.intro @X0w <| And.intro @Q98 <| And.intro @X1n <| And.intro @I3 <| And.intro @Vi <| And.intro @Ta <| And.intro @Uc <| And.intro @Q97 <| And.intro @Nh <| @Uz
def Mp:=And.intro @Rq <| And.intro @Dh <| And.intro @Q00 <| And.intro @Cy <| And.intro @Q0a <| And.intro @Q6r <| And.intro @Q2h <| And.intro @Q2v <| And.intro @Q2j <| And.intro @Q0s <| And.intro @Q07 <| And.intro @Q2A <| And.intro @Q2q <| And.intro @Rx <| And.intro @Rz <| And.intro @X23 <| And.intro @X1Q <| And.intro @X00 <| And.intro @X0s <| And.intro @X06 <| And.intro @X0w <| And.intro @I3 <| And.intro @Vi <| And.intro @Ta <| And.intro @Uc <| And.intro @Nh <| @Uz
def Mb:=And.intro @Bool.true_eq_false <| And.intro @Bool.false_eq_true <| And.intro @Bool.not_true <| And.intro @Bool.not_false <| And.intro @Bool.and_true <| And.intro @Bool.true_and <| And.intro @Bool.and_false <| And.intro @Bool.false_and <| And.intro @Bool.or_true <| And.intro @Bool.true_or <| And.intro @Bool.or_false <| @Bool.false_or
end Go.Emb

namespace Go.Kd
abbrev X0:=List UInt8
def Qa (c:Int):Bool:=decide (65≤c)&&decide (c≤90)
def I7 (c:Int):Bool:=decide (97≤c)&&decide (c≤122)
def R3 (c:Int):Bool:=decide (48≤c)&&decide (c≤57)
def E3 (c:Int):Bool:=Qa c||I7 c||R3 c
def name (s:X0):Bool:=match s with
 | []=>false
 | c::_=>decide (s.length≤32)&& !R3 c.toNat&&s.all (fun b=>E3 b.toNat)
def W7 (s:X0):Bool:=match s with
 | []=>false
 | c::_=>name s&&Qa c.toNat
def L9 (s:X0):Bool:=match s with
 | []=>false
 | c::_=>name s&&I7 c.toNat
def plain (s:X0):Bool:=decide (s=[105,110,116])||decide (s=[98,111,111,108])||decide (s=[116,101,120,116])
def D6 (s:X0):Bool:=decide (2≤s.length)&&decide (s.drop (s.length-2)=[91,93])
def cutA (s:X0):X0:=s.take (s.length-2)
def Xh:Nat→X0→X0×Nat
 | 0,s=>(s,0)
 | n+1,s=>if D6 s then ((Xh n (cutA s)).1,(Xh n (cutA s)).2+1) else (s,0)
def base (s:X0):X0×Nat:=Xh s.length s
def right (s:X0):Bool:=decide ((base s).2≤3)&&(plain (base s).1||W7 (base s).1)
def elem (s:X0):X0:=if D6 s&&right s then cutA s else []
def Q19 (s:X0):Nat:=if right s then (base s).2 else 0
def T0 (s:X0):X0×X0×Bool:=match s with
 | []=>([],[],false)
 | c::r=>if c=46 then ([],r,true) else ((c::(T0 r).1),(T0 r).2.1,(T0 r).2.2)
def Xw (s:X0):Bool:=(T0 s).2.2&&W7 (T0 s).1&&L9 (T0 s).2.1
def Q0e (c:UInt8) (s:X0):Int:=match s.findIdx? (fun b=>decide (b=c)) with
 | some i=>i
 | none=> -1
def Q1I (s:X0) (o:Option Nat):X0×X0×Bool:=match o with
 | some i=>(s.take i,s.drop (i+1),true)
 | none=>(s,[],false)
theorem Fv (s:X0):T0 s=Q1I s (s.findIdx? (fun b=>decide (b=46))):=by
 induction s with
 | nil=>rfl
 | cons c r a=>
  rw[List.findIdx?_cons]
  simp only[T0]
  by_cases h:c=46
  ·simp[h,Q1I]
  ·simp only[h,if_false,decide_false,Bool.false_eq_true]
   rw[a]
   cases r.findIdx? (fun b=>decide (b=46)) with
   | none=>simp[Q1I]
   | some i=>simp[Q1I]
end Go.Kd

namespace Go.Proofs.YtfppjenblllfaaaGreatDoor
open Go.Emb Go.RowKit Go.Kd
variable {w : World} {K : Value → World → Prop}
theorem X7:P.underlying T.b=some .string:=by kernel_rfl
theorem X2f:P.underlying T.e=some (.int .i64):=by kernel_rfl
theorem Q01:P.underlying T.m=some .bool:=by kernel_rfl
theorem Q2i:P.underlying T.w=some (.int .u8):=by kernel_rfl
theorem Q6a:P.underlying T.af=some (.int .i32):=by kernel_rfl
theorem Q65 (c:Int) (h:K (.bool (Qa c)) w):Q0 P F.bU [.int .i32 c] w K:=Q45 (by
 unfold Ao
 (try simp only[↓Mr,Mr,Mb,reduceIte])
 cases a:decide (65≤c)<;>simp only[a,↓Mr,Mr,Mb,reduceIte]<;>simpa [Qa,a] using h)
theorem Q6i (c:Int) (h:K (.bool (I7 c)) w):Q0 P F.bW [.int .i32 c] w K:=Q3T (by
 unfold Q06
 (try simp only[↓Mr,Mr,Mb,reduceIte])
 cases a:decide (97≤c)<;>simp only[a,↓Mr,Mr,Mb,reduceIte]<;>simpa [I7,a] using h)
theorem X0Z (c:Int) (h:K (.bool (E3 c)) w):Q0 P F.bP [.int .i32 c] w K:=Q3B (by
 unfold Il
 refine Q65 c ?_
 cases a:Qa c
 ·(try simp only[↓Mr,Mr,Mb,reduceIte])
  refine Q6i c ?_
  cases b:I7 c
  ·(try simp only[↓Mr,Mr,Mb,reduceIte])
   cases d:decide (48≤c)
   ·(try simp only[↓Mr,Mr,Mb,reduceIte])
    simpa [E3,R3,a,b,d] using h
   ·(try simp only[↓Mr,Mr,Mb,reduceIte])
    simpa [E3,R3,a,b,d] using h
  ·(try simp only[↓Mr,Mr,Mb,reduceIte])
   simpa [E3,a,b] using h
 ·(try simp only[↓Mr,Mr,Mb,reduceIte])
  simpa [E3,a] using h)
theorem X2p (a:List UInt8) (f:Value) (p:Int→Bool) (l: ∀(c:Int) (w:World) (K:Value→World→Prop),K (.bool (p c)) w→Z2 P f [.int .i32 c] w K)
 (h: ∀w',Below w.heap.size w w'→K (.bool (By p ⟨a.toArray⟩ a.length 0)) w'):Q0 P F.cp [S a,f] w K:=Q6W (by
 unfold Q1D
 rw[X0I X7]
 refine Zw (fun _ w'=> ∃pos n:Nat,a.length-pos≤n∧By p ⟨a.toArray⟩ a.length 0=By p ⟨a.toArray⟩ n pos∧Below w.heap.size w w'∧w'.heap[w.heap.size]? =some (.stringIter ⟨a.toArray⟩ pos))
  (fun _ w'=>match w'.heap[w.heap.size]? with | some (.stringIter _ pos)=>a.length-pos | _=>0) ⟨0,a.length,by omega,rfl,(Below.refl _ _).alloc (Nat.le_refl _) _,heap_alloc_new w _⟩ ?_
 rintro _ _ w1 ⟨pos,n,r,b,j,e⟩
 by_cases g:pos<a.length
 ·rw[X1f e (by rw[B2];exact g)]
  (try simp only[↓Mr,Mr,Mb,reduceIte])
  refine l _ _ _ ?_
  obtain ⟨n,rfl⟩: ∃m,n=m+1:=⟨n-1,by omega⟩
  simp only[By,B2,g,if_true] at b
  have q:=Q4x (s:=⟨a.toArray⟩) (i:=pos)
  have d:w.heap.size<w1.heap.size:=(Array.getElem?_eq_some_iff.1 e).1
  cases k:p (Utf8.decode ⟨a.toArray⟩ pos).1
  ·(try simp only[↓Mr,Mr,Mb,reduceIte])
   rw[k] at b
   have:=h _ (Q2R (o:= .stringIter ⟨a.toArray⟩ (pos+(Utf8.decode ⟨a.toArray⟩ pos).2)) j (Nat.le_refl _))
   rw[b] at this
   exact this
  ·(try simp only[↓Mr,Mr,Mb,reduceIte])
   rw[k] at b
   refine ⟨⟨_,n,?_,b,Q2R j (Nat.le_refl _),Q6g d⟩,?_⟩
   ·omega
   ·simp only[Q6g d,e];omega
 ·rw[Q5v e (by rw[B2];exact g)]
  (try simp only[↓Mr,Mr,Mb,reduceIte])
  have:By p ⟨a.toArray⟩ n pos=true:=by
   cases n with
   | zero=>rfl
   | succ n=>simp only[By,B2,g,if_false]
  rw[←this,←b]
  exact h _ j)
theorem Q7f (c:Int) (h:128≤c):E3 c=false:=by
 simp[E3,Qa,I7,R3];omega
theorem Q5f (a:List UInt8) (n:a.length≤140737488355328) (h: ∀w',Below w.heap.size w w'→K (.bool (name a)) w'):Q0 P F.bJ [S a] w K:=Q5V (by
 unfold Q0O
 have d: ∀c r,a=c::r→(decide (a.length≤32)&& !R3 c.toNat)=true→Q0 P F.cp [S a,(.func (.func F.bP) #[] #[])] w K:=by
  intro c r l b
  refine X2p a _ E3 (fun c w K h=>Y8 (first:=[]) (caps:=[]) (X0Z c h)) fun w' m=>?_
  rw[Q6O _ Q7f a _ _ (by omega)]
  have:=h w' m
  rw[l] at this b⊢
  simp only[name] at this
  rw[b,Bool.true_and] at this
  simpa using this
 cases a with
 | nil=>
  simp only[↓Mr,Mr,Mb,reduceIte,decide_true]
  exact h w (Below.refl _ _)
 | cons c r=>
  have g:decide (c::r=[])=false:=by simp
  simp only[↓Mr,Mr,Mb,reduceIte,g,D7 X7]
  by_cases j:(c::r).length≤32
  ·have e:r.length≤31:=by simpa using j
   have b:decide ((32:Int)<((c::r).length:Int))=false:=by simp only[decide_eq_false_iff_not];omega
   simp only[↓Mr,Mr,Mb,reduceIte,b]
   rw[Qk X7 (by omega) (by simp)]
   (try simp only[↓Mr,Mr,Mb,reduceIte])
   have i:(c::r)[(0:Int).toNat]'(by simp)=c:=rfl
   simp only[i]
   cases f:decide ((48:Int)≤(c.toNat:Int))
   ·(try simp only[↓Mr,Mr,Mb,reduceIte])
    exact d c r rfl (by simp[R3,e,f])
   ·(try simp only[↓Mr,Mr,Mb,reduceIte])
    rw[Qk X7 (by omega) (by simp)]
    simp only[↓Mr,Mr,Mb,reduceIte,i]
    cases k:decide ((c.toNat:Int)≤57)
    ·(try simp only[↓Mr,Mr,Mb,reduceIte])
     exact d c r rfl (by simp only[R3,f,k];simp[e])
    ·(try simp only[↓Mr,Mr,Mb,reduceIte])
     have:name (c::r)=false:=by simp only[name,R3,f,k];simp
     rw[←this];exact h w (Below.refl _ _)
  ·have b:decide ((32:Int)<((c::r).length:Int))=true:=by simp only[decide_eq_true_eq];omega
   simp only[↓Mr,Mr,Mb,reduceIte,b]
   have:name (c::r)=false:=by simp only[name];rw[decide_eq_false j];rfl
   rw[←this];exact h w (Below.refl _ _))
theorem Dq (a:List UInt8) (f:a.length≤140737488355328) (h: ∀w',Below w.heap.size w w'→K (.bool (W7 a)) w'):Q0 P F.ah [S a] w K:=Q4w (by
 unfold Tl
 refine Q5f a f fun w1 b=>?_
 cases a with
 | nil=>
  simp only[name,↓Mr,Mr,Mb,reduceIte]
  exact h w1 b
 | cons c r=>
  cases d:name (c::r)
  ·(try simp only[↓Mr,Mr,Mb,reduceIte])
   have:=h w1 b
   simp only[W7,d] at this
   simpa using this
  ·(try simp only[↓Mr,Mr,Mb,reduceIte])
   rw[Qk X7 (by omega) (by simp)]
   have e:(c::r)[(0:Int).toNat]'(by simp)=c:=rfl
   simp only[e]
   rw[Q15 Q2i Q6a,w32 (by omega) (by have:=c.toNat_lt;omega)]
   refine Q65 _ ?_
   (try simp only[↓Mr,Mr,Mb,reduceIte])
   have:=h w1 b
   simp only[W7,d] at this
   simpa using this)
theorem Vj (a:List UInt8) (h:K (.bool (plain a)) w):Q0 P F.af [S a] w K:=Q4J (by
 unfold Av
 (try simp only[↓Mr,Mr,Mb,reduceIte])
 cases b:decide (a=[105,110,116])<;>(try simp only[↓Mr,Mr,Mb,reduceIte])
 ·cases c:decide (a=[98,111,111,108])<;>(try simp only[↓Mr,Mr,Mb,reduceIte])<;>simpa [plain,b,c] using h
 ·simpa [plain,b] using h)
def Yz (a b:List UInt8):Bool:=decide (b.length≤a.length)&&decide (a.drop (a.length-b.length)=b)
theorem Ng (a b:List UInt8) (e:a.length≤140737488355328) (f:b.length≤140737488355328) (h:K (.bool (Yz a b)) w):Q0 P F.a7 [S a,S b] w K:=Hv (by
 unfold Ji
 rw[D7 X7,D7 X7]
 (try simp only[↓Mr,Mr,Mb,reduceIte])
 by_cases d:b.length≤a.length
 ·have c:decide ((b.length:Int)≤a.length)=true:=by simp only[decide_eq_true_eq];omega
  simp only[↓Mr,Mr,Mb,reduceIte,c,D7 X7]
  rw[F4 (by omega) (by omega),Ls X7 (by omega) (by omega)]
  (try simp only[↓Mr,Mr,Mb,reduceIte])
  rw[show ((a.length:Int)-b.length).toNat=a.length-b.length from by omega]
  simpa [Yz,d] using h
 ·have c:decide ((b.length:Int)≤a.length)=false:=by simp only[decide_eq_false_iff_not];omega
  simp only[↓Mr,Mr,Mb,reduceIte,c]
  simpa [Yz,d] using h)
theorem Q5J (a b:List UInt8) (c:a.length≤140737488355328) (d:b.length≤140737488355328) (h:K (.bool (Yz a b)) w):Q0 P F.bq [S a,S b] w K:=Pc (by
 unfold Mv
 exact Ng a b c d h)
def Nc (a b:List UInt8):List UInt8:=if Yz a b then a.take (a.length-b.length) else a
theorem Q30 {a b:List UInt8} (h:Yz a b=true):b.length≤a.length:=by
 simp only[Yz,Bool.and_eq_true,decide_eq_true_eq] at h;exact h.1
theorem Q4r (a b:List UInt8) (d:a.length≤140737488355328) (e:b.length≤140737488355328) (h:K (S (Nc a b)) w):Q0 P F.bi [S a,S b] w K:=Bn (by
 unfold Wp
 refine Ho ?_
 unfold Yy
 refine Ng a b d e ?_
 cases c:Yz a b
 ·(try simp only[↓Mr,Mr,Mb,reduceIte])
  simpa [Nc,c] using h
 ·have f:=Q30 c
  simp only[↓Mr,Mr,Mb,reduceIte,D7 X7]
  rw[F4 (by omega) (by omega),K2 X7 (by omega) (by omega)]
  rw[show ((a.length:Int)-b.length).toNat=a.length-b.length from by omega]
  simpa [Nc,c] using h)
theorem Q5D (a b:List UInt8) (d:a.length≤140737488355328) (e:b.length≤140737488355328) (h:K (.tuple #[S (Nc a b), .bool (Yz a b)]) w):Q0 P F.br [S a,S b] w K:=Kg (by
 unfold Ly
 refine Hw ?_
 unfold Je
 refine Ng a b d e ?_
 cases c:Yz a b
 ·(try simp only[↓Mr,Mr,Mb,reduceIte])
  simpa [Nc,c] using h
 ·have f:=Q30 c
  simp only[↓Mr,Mr,Mb,reduceIte,D7 X7]
  rw[F4 (by omega) (by omega),K2 X7 (by omega) (by omega)]
  rw[show ((a.length:Int)-b.length).toNat=a.length-b.length from by omega]
  (try simp only[↓Mr,Mr,Mb,reduceIte])
  simpa [Nc,c] using h)
theorem Q1T (a:List UInt8):Yz a [91,93]=D6 a:=rfl
theorem Q0Z (a:List UInt8):Nc a [91,93]=if D6 a then Kd.cutA a else a:=rfl
theorem B6 {a:List UInt8} (h:D6 a=true):(Kd.cutA a).length+2=a.length:=by
 simp only[D6,Bool.and_eq_true,decide_eq_true_eq] at h
 simp only[Kd.cutA,List.length_take];omega
theorem Q1Y: ∀(n m:Nat) (a:List UInt8),a.length≤n→a.length≤m→Xh n a=Xh m a
 | 0,0,a,_,_=>rfl
 | 0,m+1,a,h,_=>by
  have:a=[]:=List.eq_nil_of_length_eq_zero (by omega)
  subst this;rfl
 | n+1,0,a,_,h=>by
  have:a=[]:=List.eq_nil_of_length_eq_zero (by omega)
  subst this;rfl
 | n+1,m+1,a,c,b=>by
  simp only[Xh]
  split
  ·rename_i h
   have:=B6 h
   rw[Q1Y n m (Kd.cutA a) (by omega) (by omega)]
  ·rfl
theorem Xy (a:List UInt8):base a=if D6 a then ((base (Kd.cutA a)).1,(base (Kd.cutA a)).2+1) else (a,0):=by
 unfold base
 cases b:a.length with
 | zero=>
  have:a=[]:=List.eq_nil_of_length_eq_zero b
  subst this;rfl
 | succ n=>
  simp only[Xh]
  split
  ·rename_i h
   have:=B6 h
   rw[Q1Y n (Kd.cutA a).length (Kd.cutA a) (by omega) (Nat.le_refl _)]
  ·rfl
theorem Q09 (a:List UInt8):(base a).1.length+2*(base a).2=a.length:=by
 have key: ∀n (a:List UInt8),(Xh n a).1.length+2*(Xh n a).2=a.length:=by
  intro n
  induction n with
  | zero=>intro a;simp[Xh]
  | succ n b=>
   intro a
   simp only[Xh]
   split
   ·rename_i h
    have:=B6 h
    have:=b (Kd.cutA a)
    simp only;omega
   ·simp
 exact key _ a
theorem Q83 (a:List UInt8) (f:a.length≤140737488355328) (h:K (.tuple #[S (base a).1,I (base a).2]) w):Q0 P F.c8 [S a] w K:=Q5Z (by
 unfold Q0J
 refine Zw (fun x w'=>w'=w∧ ∃(b:List UInt8) (n:Nat),x=(S b,I n)∧b.length+2*n=a.length∧base a=((base b).1,(base b).2+n)) (fun x _=>match x.1 with | .string s=>s.size | _=>0)
  ⟨rfl,a,0,rfl,by omega,rfl⟩ ?_
 rintro _ _ _ ⟨rfl,b,n,rfl,e,c⟩
 refine Q5J b _ (by omega) (by simp) ?_
 rw[Q1T]
 cases d:D6 b
 ·(try simp only[↓Mr,Mr,Mb,reduceIte])
  rw[Xy b,d] at c
  simp only[Bool.false_eq_true,if_false,Nat.zero_add] at c
  rw[c] at h;exact h
 ·(try simp only[↓Mr,Mr,Mb,reduceIte])
  refine Q4r b _ (by omega) (by simp) ?_
  rw[Q0Z,d]
  simp only[↓Mr,Mr,Mb,reduceIte,if_true]
  have g:=B6 d
  rw[F4 (by omega) (by omega)]
  refine ⟨⟨by first | rfl | trivial,Kd.cutA b,n+1,by simp,by omega,?_⟩,?_⟩
  ·rw[c,Xy b,d];simp;omega
  ·simp only[B2];omega)
theorem Ja (a:List UInt8) (e:a.length≤140737488355328) (h: ∀w',Below w.heap.size w w'→K (.bool (right a)) w'):Q0 P F.a3 [S a] w K:=Q4q (by
 unfold Pj
 have f:=Q09 a
 refine Q83 a e ?_
 (try simp only[↓Mr,Mr,Mb,reduceIte])
 by_cases b:(base a).2≤3
 ·have c:decide (((base a).2:Int)≤3)=true:=by simp only[decide_eq_true_eq];omega
  simp only[↓Mr,Mr,Mb,reduceIte,c]
  refine Vj _ ?_
  cases d:plain (base a).1
  ·(try simp only[↓Mr,Mr,Mb,reduceIte])
   refine Dq _ (by omega) fun w1 g=>?_
   (try simp only[↓Mr,Mr,Mb,reduceIte])
   have:=h w1 g
   simp only[right,b,d] at this
   simpa using this
  ·(try simp only[↓Mr,Mr,Mb,reduceIte])
   have:=h w (Below.refl _ _)
   simp only[right,b,d] at this
   simpa using this
 ·have c:decide (((base a).2:Int)≤3)=false:=by simp only[decide_eq_false_iff_not];omega
  simp only[↓Mr,Mr,Mb,reduceIte,c]
  have:=h w (Below.refl _ _)
  simp only[right,b] at this
  simpa using this)
theorem X1y (a:List UInt8) (c:a.length≤140737488355328) (h: ∀w',Below w.heap.size w w'→K (S (elem a)) w'):Q0 P F.cD [S a] w K:=Q61 (by
 unfold Q0N
 refine Q5D a _ c (by simp) ?_
 rw[Q1T,Q0Z]
 (try simp only[↓Mr,Mr,Mb,reduceIte])
 cases b:D6 a
 ·(try simp only[↓Mr,Mr,Mb,reduceIte])
  have:=h w (Below.refl _ _)
  simp only[elem,b] at this
  exact this
 ·(try simp only[↓Mr,Mr,Mb,reduceIte])
  refine Ja a c fun w1 e=>?_
  have:=h w1 e
  cases d:right a
  ·(try simp only[↓Mr,Mr,Mb,reduceIte])
   simp only[elem,b,d] at this
   exact this
  ·simp only[↓Mr,Mr,Mb,reduceIte,if_true]
   simp only[elem,b,d] at this
   exact this)
theorem X1x (a:List UInt8) (b:a.length≤140737488355328) (h: ∀w',Below w.heap.size w w'→K (I (Q19 a)) w'):Q0 P F.cG [S a] w K:=Q5T (by
 unfold Q0E
 refine Q83 a b ?_
 (try simp only[↓Mr,Mr,Mb,reduceIte])
 refine Ja a b fun w1 c=>?_
 have:=h w1 c
 cases d:right a<;>(try simp only[↓Mr,Mr,Mb,reduceIte])<;>simpa [Q19,d] using this)
end Go.Proofs.YtfppjenblllfaaaGreatDoor

namespace Go.Proofs.YtfppjenblllfaaaGreatDoor
open Go.Emb Go.RowKit Go.Kd
variable {w : World} {K : Value → World → Prop}
theorem Q0u (a:List UInt8) (c:UInt8) (h:K (I (Q0e c a)) w):Q0 P F.bH [S a, .int .u8 c.toNat] w K:=by
 refine Q5E (e:=Extern.BytealgIndexByte.indexByte) Tryz.func235 (by decide) rfl (by kernel_rfl) (by kernel_rfl) ?_ h
 have g:((List.range (ByteArray.mk a.toArray).size).find? fun i=>(ByteArray.mk a.toArray)[i]! ==c)=a.findIdx? (fun b=>decide (b=c)):=by
  rw[B2]
  refine Q1P _ _ a fun i d=>?_
  have:(ByteArray.mk a.toArray)[i]! =a[i]:=by
   rw[getElem!_pos _ _ (by rw[B2];exact d)];rfl
  rw[this,Bool.eq_iff_iff];simp
 have f:((c.toNat:Int).toNat.toUInt8)=c:=by simp
 have:=run_indexByte_string (P:=P) ⟨a.toArray⟩ c.toNat w
 rw[f] at this
 refine this.trans ?_
 unfold firstIdx Q0e
 rw[g]
 cases a.findIdx? (fun b=>decide (b=c))<;>rfl
theorem Q9D (a:List UInt8) (c:UInt8) (h:K (I (Q0e c a)) w):Q0 P F.bs [S a,S [c]] w K:=Kb (by
 unfold Mu
 simp only[D7 X7]
 have f:decide ((([c]:List UInt8).length:Int)=0)=false:=rfl
 have g:decide ((([c]:List UInt8).length:Int)=1)=true:=rfl
 simp only[Q07,f,g]
 simp only[↓Mr,Mr,Mb,reduceIte]
 have e:E5 P T.b (S [c]) (I 0) w fun b w=>Q0 P F.av [S a,b] w fun d w=>K d w:=by
  rw[Qk X7 (by omega) (by simp)]
  refine Ht ?_
  unfold Jl
  exact Q0u a c h
 cases j:decide ([c]=a)
 ·(try simp only[↓Mr,Mr,Mb,reduceIte])
  exact e
 ·(try simp only[↓Mr,Mr,Mb,reduceIte])
  have i:[c]=a:=by simpa using j
  have:Q0e c a=0:=by rw[←i];simp[Q0e,List.findIdx?_cons]
  rw[this] at h;exact h)
theorem Q96 {c:UInt8} {a:List UInt8} {i:Nat} (h:a.findIdx? (fun b=>decide (b=c))=some i):i<a.length:=by
 have:=List.findIdx?_eq_some_iff_getElem.1 h
 exact this.1
theorem X2j (a:List UInt8) (g:a.length≤140737488355328) (h: ∀w',Below w.heap.size w w'→K (.tuple #[S (T0 a).1,S (T0 a).2.1, .bool (T0 a).2.2]) w'):Q0 P F.cg [S a,S [46]] w K:=Q3x (by
 unfold Ii
 refine Q0y ?_
 unfold Ov
 refine Q9D a 46 ?_
 rw[Fv] at h
 unfold Q0e
 cases c:a.findIdx? (fun b=>decide (b=46)) with
 | none=>
  simp only[↓Mr,Mr,Mb,reduceIte,show decide ((0:Int)≤ -1)=false from rfl]
  have:=h w (Below.refl _ _)
  rw[c] at this;exact this
 | some i=>
  have f:=Q96 c
  have d:decide ((0:Int)≤(i:Int))=true:=by simp
  simp only[Q0s,d]
  simp only[↓Mr,Mr,Mb,reduceIte]
  refine Ni (Below.refl _ w) ?_
  refine X2 (S (a.take i)) (fun w1 _=>?_) ?_
  ·rw[K2 X7 (by omega) (by omega)];exact X6 (by simp)
  refine X2 (I 1) (fun w1 _=>?_) ?_
  ·rw[D7 X7];exact X6 rfl
  refine X2 (I (i+1)) ?_ ?_
  ·rintro _ w1 _ rfl
   rw[Cy,F4 (by omega) (by omega)];exact X6 rfl
  refine X2 (S (a.drop (i+1))) ?_ ?_
  ·rintro _ w1 _ rfl
   rw[Ls X7 (by omega) (by omega)];exact X6 (by simp)
  rintro _ _ _ _ w1 e rfl rfl rfl rfl
  (try simp only[↓Mr,Mr,Mb,reduceIte])
  have:=h w1 e
  rw[c] at this;exact this)
theorem X0H (a:List UInt8) (u:a.length≤140737488355328) (h: ∀w',Below w.heap.size w w'→K (if Xw a then .tuple #[S (T0 a).1,S (T0 a).2.1,I 0] else .tuple #[S [],S [],I 30]) w'):Q0 P F.cx [S a] w K:=Q53 (by
 unfold Pp
 refine X2j a u fun w1 e=>?_
 have o:(T0 a).1.length≤a.length∧(T0 a).2.1.length≤a.length:=by
  rw[Fv]
  cases a.findIdx? (fun b=>decide (b=46))<;>simp[Q1I]
  omega
 generalize z:(T0 a).1=p at h o
 generalize v:(T0 a).2.1=q at h o
 have i:Xw a=((T0 a).2.2&&W7 p&&L9 q):=by rw[Xw,z,v]
 cases l:(T0 a).2.2
 ·simp only[↓Mr,Mr,Mb,reduceIte]
  have:=h w1 e
  rw[i,l] at this;simpa using this
 ·simp only[↓Mr,Mr,Mb,reduceIte]
  refine Dq p (by omega) fun t m=>?_
  have d:=e.trans (m.mono e.size)
  cases s:W7 p
  ·(try simp only[↓Mr,Mr,Mb,reduceIte])
   have:=h t d
   rw[i,l,s] at this;simpa using this
  ·(try simp only[↓Mr,Mr,Mb,reduceIte])
   refine Q5f q (by omega) fun A k=>?_
   have f:=d.trans (k.mono d.size)
   have:=h A f
   rw[i,l,s] at this
   cases n:name q
   ·(try simp only[↓Mr,Mr,Mb,reduceIte])
    have g:L9 q=false:=by cases q with | nil=>rfl | cons c r=>simp[L9,n]
    rw[g] at this;simpa using this
   ·(try simp only[↓Mr,Mr,Mb,reduceIte])
    cases q with
    | nil=>simp[name] at n
    | cons c r=>
     rw[Qk X7 (by omega) (by simp)]
     have j:(c::r)[(0:Int).toNat]'(by simp)=c:=rfl
     (try simp only[↓Mr,Mr,Mb,reduceIte])
     rw[j,Q15 Q2i Q6a,w32 (by omega) (by have:=c.toNat_lt;omega)]
     refine Q6i _ ?_
     have g:L9 (c::r)=I7 c.toNat:=by simp[L9,n]
     rw[g] at this
     cases y:I7 c.toNat<;>(try simp only[↓Mr,Mr,Mb,reduceIte])<;>rw[y] at this<;>simpa using this)
theorem Zt (a:List UInt8) (h:K (.bool (plain a)) w):Q0 P F.n [S a] w K:=Fp (by
 unfold Vs
 refine V8 ?_
 (try simp only[↓Mr,Mr,Mb,reduceIte])
 cases b:decide (a=[105,110,116])
 ·cases c:decide (a=[98,111,111,108])
  ·cases d:decide (a=[116,101,120,116])<;>(try simp only[↓Mr,Mr,Mb,reduceIte])<;>intro _<;>(try simp only[↓Mr,Mr,Mb,reduceIte])<;>simpa [plain,b,c,d] using h
  ·(try simp only[↓Mr,Mr,Mb,reduceIte])
   intro _
   (try simp only[↓Mr,Mr,Mb,reduceIte])
   simpa [plain,b,c] using h
 ·(try simp only[↓Mr,Mr,Mb,reduceIte])
  intro _
  (try simp only[↓Mr,Mr,Mb,reduceIte])
  simpa [plain,b] using h)
def X0n (a:List UInt8) (w:World) (x:Value) (w':World):Prop:=
 w=w'∧ ∃i:Nat,x=I i∧i≤a.length∧(0<i→(a.head?.map fun c=>R3 c.toNat)=some false)∧(a.take i).all (fun b=>E3 b.toNat)=true
def Q3K (a:List UInt8) (x:Value):Nat:=match x with | .int _ i=>a.length-i.toNat | _=>0
theorem Q4X (a:List UInt8) (Q:a.length≤140737488355328) (h:K (.bool (name a)) w):Q0 P F.aN [S a] w K:=Pf (by
 unfold Mw
 refine Zw (X0n a w) (fun x _=>Q3K a x) ⟨rfl,0,rfl,by omega,by omega,by simp⟩ ?_
 rintro _ _ _ ⟨rfl,i,rfl,O,L,k⟩
 rw[D7 X7]
 (try simp only[↓Mr,Mr,Mb,reduceIte])
 by_cases l:i<a.length
 ·have D:decide ((i:Int)<a.length)=true:=by simp only[decide_eq_true_eq];omega
  simp only[D,↓Mr,Mr,Mb,reduceIte]
  have d: ∀B:Value→World→Prop,E5 P T.b (S a) (I i) w B=B (.int .u8 (a[i]'l).toNat) w:=fun B=>by
   rw[Qk X7 (by omega) (by simpa using l)];simp
  generalize p:a[i]=c at d
  have e:E3 c.toNat=false∨(i=0∧R3 c.toNat=true)→name a=false:=by
   intro s
   cases a with
   | nil=>rfl
   | cons M r=>
    simp only[name]
    rcases s with s | ⟨rfl,s⟩
    ·have:(M::r).all (fun b=>E3 b.toNat)=false:=by
      rw[List.all_eq_false]
      exact ⟨c,by rw[←p];exact List.getElem_mem _,by simp[s]⟩
     rw[this];simp
    ·simp only[List.getElem_cons_zero] at p
     rw[p,s];simp
  have f:E3 c.toNat=true→(i=0→R3 c.toNat=false)→X0n a w (I (IntKind.i64.wrap ((i:Int)+1))) w∧Q3K a (I (IntKind.i64.wrap ((i:Int)+1)))<Q3K a (I i):=by
   intro J A
   rw[F4 (by omega) (by omega)]
   refine ⟨⟨rfl,i+1,by simp,by omega,fun _=>?_,?_⟩,by simp only[Q3K];omega⟩
   ·by_cases q:0<i
    ·exact L q
    ·obtain rfl:i=0:=by omega
     cases a with
     | nil=>simp at l
     | cons M r=>simp only[List.getElem_cons_zero] at p;subst p;simp[A rfl]
   ·rw[List.take_add_one,List.getElem?_eq_getElem l,p]
    simp[k,J]
  have E:=c.toNat_lt
  have u:decide ((i:Int)=0)=decide (i=0):=by rw[Bool.eq_iff_iff];simp
  by_cases o:97≤(c.toNat:Int)
  ·by_cases z:(c.toNat:Int)≤122
   ·simp only[d,decide_eq_true o,decide_eq_true z,↓Mr,Mr,Mb,reduceIte]
    exact f (by simp[E3,I7,o,z]) (fun _=>by simp[R3];omega)
   ·have n:(65:Int)≤c.toNat:=by omega
    have y: ¬(c.toNat:Int)≤90:=by omega
    have g: ¬(c.toNat:Int)<48:=by omega
    have j:(57:Int)<c.toNat:=by omega
    simp only[d,decide_eq_true o,decide_eq_false z,decide_eq_true n,decide_eq_false y,decide_eq_false g,decide_eq_true j,u,↓Mr,Mr,Mb,reduceIte]
    have m:=e (.inl (by simp[E3,Qa,I7,R3];omega))
    rw[m] at h
    cases decide (i=0)<;>(try simp only[d,decide_eq_false g,decide_eq_true j,↓Mr,Mr,Mb,reduceIte])<;>exact h
  ·by_cases n:(65:Int)≤c.toNat
   ·by_cases y:(c.toNat:Int)≤90
    ·simp only[d,decide_eq_false o,decide_eq_true n,decide_eq_true y,↓Mr,Mr,Mb,reduceIte]
     exact f (by simp[E3,Qa,n,y]) (fun _=>by simp[R3];omega)
    ·have g: ¬(c.toNat:Int)<48:=by omega
     have j:(57:Int)<c.toNat:=by omega
     simp only[d,decide_eq_false o,decide_eq_true n,decide_eq_false y,decide_eq_false g,decide_eq_true j,u,↓Mr,Mr,Mb,reduceIte]
     have m:=e (.inl (by simp[E3,Qa,I7,R3];omega))
     rw[m] at h
     cases decide (i=0)<;>(try simp only[d,decide_eq_false g,decide_eq_true j,↓Mr,Mr,Mb,reduceIte])<;>exact h
   ·by_cases g:(c.toNat:Int)<48
    ·simp only[d,decide_eq_false o,decide_eq_false n,decide_eq_true g,u,↓Mr,Mr,Mb,reduceIte]
     have m:=e (.inl (by simp[E3,Qa,I7,R3];omega))
     rw[m] at h
     cases decide (i=0)<;>(try simp only[d,decide_eq_true g,↓Mr,Mr,Mb,reduceIte])<;>exact h
    ·by_cases j:(57:Int)<c.toNat
     ·simp only[d,decide_eq_false o,decide_eq_false n,decide_eq_false g,decide_eq_true j,u,↓Mr,Mr,Mb,reduceIte]
      have m:=e (.inl (by simp[E3,Qa,I7,R3];omega))
      rw[m] at h
      cases decide (i=0)<;>(try simp only[d,decide_eq_false g,decide_eq_true j,↓Mr,Mr,Mb,reduceIte])<;>exact h
     ·have v:R3 c.toNat=true:=by simp[R3];omega
      simp only[d,decide_eq_false o,decide_eq_false n,decide_eq_false g,decide_eq_false j,u,↓Mr,Mr,Mb,reduceIte]
      by_cases q:i=0
      ·have m:=e (.inr ⟨q,v⟩)
       rw[m] at h
       simp only[decide_eq_true q,d,decide_eq_false g,decide_eq_false j,↓Mr,Mr,Mb,reduceIte]
       exact h
      ·simp only[decide_eq_false q,d,decide_eq_false g,decide_eq_false j,↓Mr,Mr,Mb,reduceIte]
       exact f (by simp[E3,v]) (fun h=>absurd h q)
 ·have D:decide ((i:Int)<a.length)=false:=by simp only[decide_eq_false_iff_not];omega
  obtain rfl:i=a.length:=by omega
  simp only[D,↓Mr,Mr,Mb,reduceIte]
  rw[D7 X7]
  cases a with
  | nil=>
   have C:decide ((1:Int)≤(([]:List UInt8).length:Int))=false:=rfl
   simp only[C,↓Mr,Mr,Mb,reduceIte];exact h
  | cons c r=>
   have C:decide ((1:Int)≤((c::r).length:Int))=true:=by simp only[decide_eq_true_eq,List.length_cons];omega
   have t:=L (by simp)
   simp only[List.head?_cons,Option.map_some,Option.some.injEq] at t
   simp only[List.take_length] at k
   have H:name (c::r)=decide ((c::r).length≤32):=by simp only[name,t,k];simp
   have N:decide (((c::r).length:Int)≤32)=decide ((c::r).length≤32):=by rw[Bool.eq_iff_iff];simp only[decide_eq_true_eq];omega
   simp only[C,D7 X7,N,↓Mr,Mr,Mb,reduceIte]
   rw[←H];exact h)
theorem Gz {c:UInt8} {r:List UInt8} (h:name (c::r)=true):E3 c.toNat=true∧R3 c.toNat=false:=by
 simp only[name,Bool.and_eq_true,List.all_cons,Bool.not_eq_true'] at h
 exact ⟨h.2.1,h.1.2⟩
theorem Qs (a:List UInt8) (f:a.length≤140737488355328) (h:K (.bool (W7 a)) w):Q0 P F.e [S a] w K:=Ga (by
 unfold Vu
 refine Q4X a f ?_
 cases a with
 | nil=>simp only[name,↓Mr,Mr,Mb,reduceIte];exact h
 | cons c r=>
  cases d:name (c::r)
  ·(try simp only[↓Mr,Mr,Mb,reduceIte])
   simpa [W7,d] using h
  ·(try simp only[↓Mr,Mr,Mb,reduceIte])
   rw[Qk X7 (by omega) (by simp)]
   have b:(c::r)[(0:Int).toNat]'(by simp)=c:=rfl
   (try simp only[↓Mr,Mr,Mb,reduceIte])
   rw[b]
   obtain ⟨g,e⟩:=Gz d
   have:decide ((c.toNat:Int)≤90)=Qa c.toNat:=by
    simp only[E3,Qa,I7,R3,Bool.or_eq_true,Bool.and_eq_true,Bool.and_eq_false_iff,decide_eq_true_eq,decide_eq_false_iff_not] at g e⊢
    rw[Bool.eq_iff_iff];simp only[Bool.and_eq_true,decide_eq_true_eq];omega
   rw[this]
   simpa [W7,d] using h)
theorem Bh (a:List UInt8) (f:a.length≤140737488355328) (h:K (.bool (L9 a)) w):Q0 P F.t [S a] w K:=Ci (by
 unfold Uw
 refine Q4X a f ?_
 cases a with
 | nil=>simp only[name,↓Mr,Mr,Mb,reduceIte];exact h
 | cons c r=>
  cases d:name (c::r)
  ·(try simp only[↓Mr,Mr,Mb,reduceIte])
   simpa [L9,d] using h
  ·(try simp only[↓Mr,Mr,Mb,reduceIte])
   rw[Qk X7 (by omega) (by simp)]
   have b:(c::r)[(0:Int).toNat]'(by simp)=c:=rfl
   (try simp only[↓Mr,Mr,Mb,reduceIte])
   rw[b]
   obtain ⟨g,e⟩:=Gz d
   have:decide ((97:Int)≤c.toNat)=I7 c.toNat:=by
    simp only[E3,Qa,I7,R3,Bool.or_eq_true,Bool.and_eq_true,Bool.and_eq_false_iff,decide_eq_true_eq,decide_eq_false_iff_not] at g e⊢
    rw[Bool.eq_iff_iff];simp only[Bool.and_eq_true,decide_eq_true_eq];omega
   rw[this]
   simpa [L9,d] using h)
def X2y (a:List UInt8) (w:World) (x:Value×Value) (w':World):Prop:=
 w=w'∧ ∃(b:List UInt8) (n:Nat),x=(S b,I n)∧b.length+2*n=a.length∧(base a).2=(base b).2+n
def X0A (x:Value×Value):Nat:=match x.1 with | .string s=>s.size | _=>0
theorem Q1f (a:List UInt8) (k:a.length≤140737488355328) (h:K (I (base a).2) w):Q0 P F.an [S a] w K:=Pg (by
 unfold Mz
 refine Zw (X2y a w) (fun x _=>X0A x) ⟨rfl,a,0,rfl,by omega,rfl⟩ ?_
 rintro _ _ _ ⟨rfl,b,n,rfl,j,c⟩
 rw[D7 X7]
 (try simp only[↓Mr,Mr,Mb,reduceIte])
 by_cases f:2≤b.length
 ·have e:decide ((2:Int)≤b.length)=true:=by simp only[decide_eq_true_eq];omega
  simp only[e,D7 X7,↓Mr,Mr,Mb,reduceIte]
  rw[F4 (by omega) (by omega),Ls X7 (by omega) (by omega)]
  rw[show ((b.length:Int)-2).toNat=b.length-2 from by omega]
  have i:decide (b.drop (b.length-2)=[91,93])=D6 b:=by simp[D6,f]
  simp only[i,↓Mr,Mr,Mb,reduceIte]
  cases d:D6 b
  ·(try simp only[↓Mr,Mr,Mb,reduceIte])
   rw[Xy b,d] at c
   simp only[Bool.false_eq_true,if_false,Nat.zero_add] at c
   rw[c] at h;exact h
  ·(try simp only[D7 X7,↓Mr,Mr,Mb,reduceIte])
   rw[K2 X7 (by omega) (by omega)]
   rw[show ((b.length:Int)-2).toNat=b.length-2 from by omega]
   have g:=B6 d
   refine ⟨⟨rfl,Kd.cutA b,n+1,?_,by omega,?_⟩,?_⟩
   ·simp only[Kd.cutA,Prod.mk.injEq,true_and]
    first | rfl | (rw[F4 (by omega) (by omega)];rfl)
   ·rw[c,Xy b,d];simp;omega
   ·simp only[X0A,B2,List.length_take];omega
 ·have e:decide ((2:Int)≤b.length)=false:=by simp only[decide_eq_false_iff_not];omega
  simp only[e,↓Mr,Mr,Mb,reduceIte]
  have d:D6 b=false:=by simp[D6,f]
  rw[Xy b,d] at c
  simp only[Bool.false_eq_true,if_false,Nat.zero_add] at c
  rw[c] at h;exact h)
theorem Q2S (a:List UInt8):a.take (a.length-2*(base a).2)=(base a).1:=by
 have key: ∀n (a:List UInt8),a.take (a.length-2*(Xh n a).2)=(Xh n a).1:=by
  intro n
  induction n with
  | zero=>intro a;simp[Xh]
  | succ n b=>
   intro a
   simp only[Xh]
   split
   ·rename_i h
    have c:=B6 h
    simp only
    rw[←b (Kd.cutA a)]
    rw[Kd.cutA,List.take_take,List.length_take]
    congr 1
    omega
   ·simp
 exact key _ a
theorem Vb (a:List UInt8) (e:a.length≤140737488355328) (h:K (.bool (right a)) w):Q0 P F.i [S a] w K:=Fw (by
 unfold Vy
 have f:=Q09 a
 refine Q1f a e ?_
 rw[D7 X7]
 (try simp only[↓Mr,Mr,Mb,reduceIte])
 rw[F4 (n:=2*((base a).2:Int)) (by omega) (by omega),F4 (by omega) (by omega),K2 X7 (by omega) (by omega)]
 rw[show ((a.length:Int)-2*((base a).2:Int)).toNat=a.length-2*(base a).2 from by omega,Q2S]
 (try simp only[↓Mr,Mr,Mb,reduceIte])
 by_cases b:(base a).2≤3
 ·have c:decide (((base a).2:Int)≤3)=true:=by simp only[decide_eq_true_eq];omega
  simp only[c,↓Mr,Mr,Mb,reduceIte]
  refine Zt _ ?_
  cases d:plain (base a).1
  ·(try simp only[↓Mr,Mr,Mb,reduceIte])
   refine Qs _ (by omega) ?_
   (try simp only[↓Mr,Mr,Mb,reduceIte])
   simpa [right,b,d] using h
  ·(try simp only[↓Mr,Mr,Mb,reduceIte])
   simpa [right,b,d] using h
 ·have c:decide (((base a).2:Int)≤3)=false:=by simp only[decide_eq_false_iff_not];omega
  simp only[c,↓Mr,Mr,Mb,reduceIte]
  simpa [right,b] using h)
theorem X0Y {a:List UInt8} (h:D6 a=true):2≤a.length:=by simp only[D6,Bool.and_eq_true,decide_eq_true_eq] at h;exact h.1
theorem Q7R {a:List UInt8} (h:D6 a=true) (c:right a=true):3≤a.length:=by
 have d:=X0Y h
 refine Nat.lt_of_le_of_ne d fun e=>?_
 have f:=B6 h
 have b:Kd.cutA a=[]:=List.eq_nil_of_length_eq_zero (by omega)
 simp only[right,Xy a,h,if_true,b] at c
 revert c;decide
def X1F (a:List UInt8) (w:World) (x:Value) (w':World):Prop:=
 w=w'∧ ∃n:Nat,x=I n∧n≤a.length∧(∀i,(h:i<n)→(b:i<a.length)→a[i]≠46)
def Q8x (a:List UInt8) (x:Value):Nat:=match x with | .int _ n=>(a.length-n).toNat | _=>0
theorem Q3a (a:List UInt8) (L:a.length≤140737488355328) (h: ∀w',Below w.heap.size w w'→K (if (T0 a).2.2 then .tuple #[S (T0 a).1,S (T0 a).2.1, .bool (Xw a)] else .tuple #[S [],S [], .bool false]) w'):Q0 P F.bl [S a] w K:=Bw (by
 unfold Wl
 refine Zw (X1F a w) (fun x _=>Q8x a x) ⟨rfl,0,rfl,by omega,by omega⟩ ?_
 rintro _ _ _ ⟨rfl,n,rfl,M,y⟩
 rw[D7 X7]
 (try simp only[↓Mr,Mr,Mb,reduceIte])
 by_cases D:n<a.length
 ·have r:decide ((n:Int)<a.length)=true:=by simp only[decide_eq_true_eq];omega
  simp only[r,↓Mr,Mr,Mb,reduceIte]
  rw[Qk X7 (by omega) (by omega)]
  (try simp only[↓Mr,Mr,Mb,reduceIte])
  simp only[Int.toNat_natCast]
  have C:decide (((a[n]).toNat:Int)=46)=decide (a[n]=46):=by
   rw[Bool.eq_iff_iff];simp only[decide_eq_true_eq]
   constructor
   ·intro e;exact UInt8.toNat_inj.1 (by have:(46:UInt8).toNat=46:=rfl;omega)
   ·intro e;rw[e];rfl
  rw[C]
  by_cases l:a[n]=46
  ·simp only[l,decide_true,↓Mr,Mr,Mb,reduceIte]
   have m:T0 a=(a.take n,a.drop (n+1),true):=by
    have:a.findIdx? (fun b=>decide (b=46))=some n:=by
     rw[List.findIdx?_eq_some_iff_getElem]
     exact ⟨D,by simpa using l,fun j E=>by simpa using y j E (by omega)⟩
    rw[Fv,this];rfl
   have v:Xw a=(W7 (a.take n)&&L9 (a.drop (n+1))):=by simp[Xw,m]
   rw[m,v] at h
   have u:((n:Int)+1).toNat=n+1:=by omega
   have o:(a.take n).length≤140737488355328:=by simp only[List.length_take];omega
   have q:(a.drop (n+1)).length≤140737488355328:=by simp only[List.length_drop];omega
   have A: ∀{w:World} {K:Value→World→Prop},K (S (a.take n)) w→H7 P T.b (S a) none (some (I n)) none w K:=by
    intro w K h
    rw[K2 X7 (by omega) (by omega),show ((n:Int)).toNat=n from by omega];exact h
   have B: ∀{w:World} {K:Value→World→Prop},K (S (a.drop (n+1))) w→H7 P T.b (S a) (some (I (n+1))) none none w K:=by
    intro w K h
    rw[Ls X7 (by omega) (by omega),u];exact h
   refine Ni (Below.refl _ _) ?_
   refine X2 (S (a.take n)) (fun w c=>A (X6 rfl)) ?_
   refine X2 (I (n+1)) (fun w c=>X6 (by rw[F4 (by omega) (by omega)])) ?_
   refine X2 (S (a.drop (n+1))) (fun t w c e=>by rw[e];exact B (X6 rfl)) ?_
   refine X2 (S (a.take n)) (fun w c=>A (X6 rfl)) ?_
   refine X2 (.bool (W7 (a.take n))) (fun t w c e=>by rw[e];exact Qs _ o (X6 rfl)) ?_
   cases g:W7 (a.take n)
   ·refine X2 undef (fun t w c e=>by rw[e,Uc];exact X6 rfl) ?_
    refine X2 undef (fun t w c e=>by rw[e,Uc];exact X6 rfl) ?_
    refine X2 undef (fun t f w c e d=>by rw[e,Uc];exact X6 rfl) ?_
    refine X2 undef (fun t f p w c e d k=>by rw[e,Uc];exact X6 rfl) ?_
    refine X2 undef (fun t f w c e d=>by rw[e,Uc];exact X6 rfl) ?_
    refine X2 (.bool false) (fun t f w c e d=>by rw[e,Dh];exact X6 rfl) ?_
    rintro _ _ _ _ _ _ _ _ _ _ _ w1 c rfl rfl rfl rfl rfl rfl rfl rfl rfl rfl rfl
    rw[g] at h
    exact h w1 (by simpa using c)
   ·refine X2 (S a) (fun t w c e=>by rw[e,I3];exact X6 rfl) ?_
    refine X2 (I n) (fun t w c e=>by rw[e,I3];exact X6 rfl) ?_
    refine X2 (I (n+1)) (fun t f w c e d=>by rw[e,d,I3];simp only[↓Mr,Mr,Mb,reduceIte];exact X6 (by rw[F4 (by omega) (by omega)])) ?_
    refine X2 (S (a.drop (n+1))) (fun t f p w c e d k=>by rw[e,d,k,I3];exact B (X6 rfl)) ?_
    refine X2 (.bool (L9 (a.drop (n+1)))) (fun t f w c e d=>by rw[e,d,I3];exact Bh _ q (X6 rfl)) ?_
    refine X2 (.bool (L9 (a.drop (n+1)))) (fun t f w c e d=>by rw[e,d,Rq];exact X6 rfl) ?_
    rintro _ _ _ _ _ _ _ _ _ _ _ w1 c rfl rfl rfl rfl rfl rfl rfl rfl rfl rfl rfl
    rw[g] at h
    exact h w1 (by simpa using c)
  ·simp only[l,decide_false,↓Mr,Mr,Mb,reduceIte]
   rw[F4 (by omega) (by omega)]
   refine ⟨⟨rfl,n+1,rfl,by omega,fun i z H=>?_⟩,?_⟩
   ·by_cases s:i=n
    ·subst s;exact l
    ·exact y i (by omega) H
   ·simp only[Q8x];omega
 ·have r:decide ((n:Int)<a.length)=false:=by simp only[decide_eq_false_iff_not];omega
  simp only[r,↓Mr,Mr,Mb,reduceIte]
  have m:(T0 a).2.2=false∧(T0 a).1=a∧(T0 a).2.1=[]:=by
   have:a.findIdx? (fun b=>decide (b=46))=none:=by
    rw[List.findIdx?_eq_none_iff]
    intro x J
    obtain ⟨i,z,rfl⟩:=List.getElem_of_mem J
    simpa using y i (by omega) z
   rw[Fv,this];exact ⟨rfl,rfl,rfl⟩
  rw[m.1] at h
  exact h w (Below.refl _ _))
end Go.Proofs.YtfppjenblllfaaaGreatDoor

namespace Go.Emb
open Go.RowKit
class TZ (P : Program) (t : TypeId) (sz b : outParam Nat) (z : outParam Value) : Prop where
  h : (P.info? t).map (fun i => (i.size, i.bytes, i.zero)) = some (sz, b, some z)
def Q7J:Option TypeDesc→Bool
 | some (.struct _)=>true
 | some (.array _ _)=>true
 | none=>true
 | _=>false
class TG (P : Program) (t : TypeId) (g : outParam Bool) : Prop where
  h : (Q7J (P.underlying t), (P.underlying t).isSome) = (g, true)
class TS (P : Program) (t : TypeId) (e : outParam TypeId) : Prop where
  h : P.underlying t = some (.slice e)
class TA (P : Program) (t : TypeId) (n : outParam Nat) (e : outParam TypeId) : Prop where
  h : P.underlying t = some (.array n e)
class TM (P : Program) (t : TypeId) (k e : outParam TypeId) : Prop where
  h : P.underlying t = some (.map k e)
def Q2G (d:Option TypeDesc) (k:Nat):Option (Nat×TypeId):=match d with
 | some (.struct a)=>(a[k]?).map fun f=>(f.offset,f.type)
 | _=>none
class TF (P : Program) (t : TypeId) (k : Nat) (off : outParam Nat) (ft : outParam TypeId) : Prop where
  h : Q2G (P.underlying t) k = some (off, ft)
variable {P : Program} {w w0 w1 w' w'' : World} {K : Value → World → Prop}
theorem TZ.info {t:TypeId} {sz b:Nat} {z:Value} (h:TZ P t sz b z): ∃i,P.info? t=some i∧i.size=sz∧i.bytes=b∧i.zero=some z:=by
 obtain ⟨i,a,e⟩:=Option.map_eq_some_iff.1 h.h
 simp only[Prod.mk.injEq] at e
 exact ⟨i,a,e.1,e.2.1,e.2.2⟩
theorem W5 {t:TypeId} {sz b:Nat} {z:Value} (h:TZ P t sz b z) (w:World):(sizeOf t).run P w= .ok sz w:=by
 obtain ⟨i,a,rfl,_⟩:=h.info
 simp[sizeOf,typeInfo,a]
theorem Xu {t:TypeId} {sz b:Nat} {z:Value} (h:TZ P t sz b z) (w:World):(zeroValue t).run P w= .ok z w:=by
 obtain ⟨i,a,_,_,c⟩:=h.info
 simp[zeroValue,typeInfo,a,c]
theorem Za {t:TypeId} {g:Bool} (h:TG P t g) (w:World):(isAgg t).run P w= .ok g w:=by
 have hh:=h.h
 simp only[Prod.mk.injEq] at hh
 obtain ⟨c,b⟩:=hh
 cases a:P.underlying t with
 | none=>rw[a] at b;cases b
 | some d=>
  rw[a] at c
  have:=run_underlying (P:=P) (w:=w) a
  simp only[isAgg,Sem.run_bind,this,Result.andThen_ok]
  cases d<;>simp_all [Q7J]
theorem Sx (a:Addr) (i j:Nat):(a.add i).add j=a.add (i+j):=by
 unfold Addr.add
 by_cases b:i=0
 ·simp[b]
 ·by_cases c:j=0
  ·simp[c]
  ·simp[b,c,Nat.add_assoc]
theorem add_zero (a:Addr):a.add 0=a:=by simp[Addr.add]
theorem C3 (a:Addr) (i:Nat):(a.add i).block=a.block:=by unfold Addr.add;split<;>rfl
theorem Xv (a:Addr) (i:Nat):(a.add i).off=a.off+i:=by unfold Addr.add;split<;>simp_all
theorem I1 {a:Addr} (h:a.spot=none) (i:Nat):(a.add i).spot=none:=by unfold Addr.add;split<;>simp_all
abbrev Q5:=Nat→Option Obj
def X4 (w:World) (σ:Q5):Prop:= ∀b o,σ b=some o→w.heap[b]? =some o
structure Stp (w : World) (σ : Q5) (w' : World) (σ' : Q5) : Prop where
  bel : Below w.heap.size w w'
  sat : X4 w' σ'
  le : ∀ b o, σ b = some o → σ' b = some o
  old : ∀ b, b < w.heap.size → σ' b = σ b
theorem X4.lt {σ:Q5} (h:X4 w σ) {b:Nat} {o:Obj} (a:σ b=some o):b<w.heap.size:=(Array.getElem?_eq_some_iff.1 (h b o a)).1
theorem X4.below {σ:Q5} (h:X4 w σ) (a:Below w.heap.size w w'):X4 w' σ:=fun b o e=>(a.block b (h.lt e)).trans (h b o e)
theorem Stp.refl {σ:Q5} (h:X4 w σ):Stp w σ w σ:=⟨Below.refl _ _,h,fun _ _ e=>e,fun _ _=>rfl⟩
theorem Stp.trans {σ0 σ1 a:Q5} (h:Stp w σ0 w' σ1) (k:Stp w' σ1 w'' a):Stp w σ0 w'' a:=
 ⟨h.bel.trans (k.bel.mono h.bel.size),k.sat,fun b o e=>k.le b o (h.le b o e),fun b c=>(k.old b (Nat.lt_of_lt_of_le c h.bel.size)).trans (h.old b c)⟩
theorem Stp.of_below {σ:Q5} (h:X4 w σ) (a:Below w.heap.size w w'):Stp w σ w' σ:=⟨a,h.below a,fun _ _ e=>e,fun _ _=>rfl⟩
def Q5.put (σ:Q5) (b:Nat) (o:Obj):Q5:=fun k=>if k=b then some o else σ k
theorem X4.none {σ:Q5} (h:X4 w σ) {b:Nat} (a:w.heap.size≤b):σ b=none:=by
 cases e:σ b with
 | none=>rfl
 | some o=>have:=h.lt e;omega
theorem Stp.alloc {σ:Q5} (h:X4 w σ) (o:Obj):Stp w σ (w.alloc o) (σ.put w.heap.size o):=by
 refine ⟨(Below.refl _ _).alloc (Nat.le_refl _) o,?_,?_,?_⟩
 ·intro b p e
  by_cases a:b=w.heap.size
  ·subst a
   simp only[Q5.put,if_true] at e
   cases e
   exact heap_alloc_new w o
  ·simp only[Q5.put,if_neg a] at e
   rw[Below.heap_alloc w o b (h.lt e)];exact h b p e
 ·intro b p e
  have:=h.lt e
  simp only[Q5.put];rw[if_neg (by omega)];exact e
 ·intro b a
  simp only[Q5.put];rw[if_neg (by omega)]
theorem Stp.own {σ:Q5} (h:X4 w σ) (o:Obj):Stp w σ (w.alloc o) σ:=Stp.of_below h ((Below.refl _ _).alloc (Nat.le_refl _) o)
def Z3 (σ:Q5) (a:Addr) (cs:List Value):Prop:=a.spot=none∧ ∃D6 e b,σ a.block=some (.cells D6 e b)∧ ∀i v,cs[i]? =some v→D6[a.off+i]? =some v
theorem Z3.up {σ σ':Q5} {a:Addr} {cs:List Value} (h:Z3 σ a cs) (b:Stp w σ w' σ'):Z3 σ' a cs:=by
 obtain ⟨f,D6,e,d,c,g⟩:=h
 exact ⟨f,D6,e,d,b.le _ _ c,g⟩
theorem Z3.cell {σ:Q5} {a:Addr} {cs:List Value} (h:Z3 σ a cs) (b:X4 w σ) {i:Nat} {v:Value} (c:cs[i]? =some v):w.cell? (a.add i)=some v:=by
 obtain ⟨f,D6,e,j,d,g⟩:=h
 have:=b _ _ d
 unfold World.cell?
 rw[C3,this,Xv,I1 f]
 exact g i v c
def Z5 (σ:Q5) (w:World) (b:Nat) (cs:List Value):Prop:=σ b=none∧ ∃e,w.heap[b]? =some (.cells cs.toArray e (0,0))
theorem Z5.lt {σ:Q5} {b:Nat} {cs:List Value} (h:Z5 σ w b cs):b<w.heap.size:=by
 obtain ⟨_,e,h⟩:=h
 exact (Array.getElem?_eq_some_iff.1 h).1
theorem Z5.up {σ σ':Q5} {b:Nat} {cs:List Value} (h:Z5 σ w b cs) (c:Stp w σ w' σ'):Z5 σ' w' b cs:=by
 have a:=h.lt
 obtain ⟨f,e,d⟩:=h
 exact ⟨(c.old b a).trans f,e,(c.bel.block b a).trans d⟩
theorem Z5.cell {σ:Q5} {b:Nat} {cs:List Value} (h:Z5 σ w b cs) {i:Nat} {v:Value} (a:cs[i]? =some v):w.cell? ((⟨b,0,none⟩:Addr).add i)=some v:=by
 obtain ⟨_,e,c⟩:=h
 unfold World.cell?
 rw[C3,Xv,I1 rfl]
 simp only[c]
 simpa using a
theorem Z5.keep {σ σ0:Q5} {b:Nat} {cs:List Value} (h:Z5 σ w b cs) (d:Stp w0 σ0 w σ) (m:w0.heap.size≤b): ∃σ',Stp w0 σ0 w σ'∧Z3 σ' ⟨b,0,none⟩ cs∧(∀k o,σ k=some o→σ' k=some o)∧(∀k,k≠b→σ' k=σ k):=by
 obtain ⟨g,e,l⟩:=h
 refine ⟨σ.put b (.cells cs.toArray e (0,0)),⟨d.bel,?_,?_,?_⟩,⟨rfl,cs.toArray,e,(0,0),by simp[Q5.put],?_⟩,?_,?_⟩
 ·intro k o c
  by_cases a:k=b
  ·subst a;simp only[Q5.put,if_true] at c;cases c;exact l
  ·simp only[Q5.put,if_neg a] at c;exact d.sat k o c
 ·intro k o c
  by_cases a:k=b
  ·subst a;have:=d.le _ _ c;rw[g] at this;cases this
  ·simp only[Q5.put,if_neg a];exact d.le _ _ c
 ·intro k f
  simp only[Q5.put];rw[if_neg (by omega)];exact d.old k f
 ·intro i v j;simpa using j
 ·intro k o c
  by_cases a:k=b
  ·subst a;rw[g] at c;cases c
  ·simp only[Q5.put,if_neg a];exact c
 ·intro k a;simp only[Q5.put,if_neg a]
theorem Q69 (t:TypeId) (v:Value) (w:World):(Instr.box t v).run P w= .ok (.pointer (some ⟨w.heap.size,0,none⟩)) (w.alloc (.cells v.cells t)):=by
 simp[Instr.box,newVar,newRow]
theorem Q1E {σ:Q5} (a:X4 w σ) (cs:Array Value) (t:TypeId):Z5 σ (w.alloc (.cells cs t)) w.heap.size cs.toList:=
 ⟨a.none (Nat.le_refl _),t,by simpa using heap_alloc_new w (.cells cs t)⟩
theorem Q7u {σ:Q5} (cs:Array Value) (t:TypeId):Z3 (σ.put w.heap.size (.cells cs t)) ⟨w.heap.size,0,none⟩ cs.toList:=
 ⟨rfl,cs,t,(0,0),by simp[Q5.put],fun i v h=>by simpa using h⟩
theorem N1 {σ:Q5} {t:TypeId} {v:Value} (b:X4 w σ) (h: ∀a w' σ',Stp w σ w' σ'→Z3 σ' a v.cells.toList→K (.pointer (some a)) w'):box P t v w K:=by
 unfold box;rw[Y0 (Q69 t v w)]
 exact h _ _ _ (Stp.alloc b _) (Q7u _ t)
theorem Q99 {σ:Q5} {t:TypeId} {v:Value} (a:X4 w σ) (h: ∀b w',w.heap.size≤b→Stp w σ w' σ→Z5 σ w' b v.cells.toList→K (.pointer (some ⟨b,0,none⟩)) w'):box P t v w K:=by
 unfold box;rw[Y0 (Q69 t v w)]
 exact h _ _ (Nat.le_refl _) (Stp.own a _) (Q1E a _ t)
theorem Ey {σ:Q5} {t:TypeId} {sz by_:Nat} {z:Value} [tz:TZ P t sz by_ z] (a:X4 w σ) (h: ∀b w',w.heap.size≤b→Stp w σ w' σ→Z5 σ w' b z.cells.toList→K (.pointer (some ⟨b,0,none⟩)) w'):W4 P t w K:=by
 unfold W4
 have:(Instr.alloc t true (.tuple #[])).run P w= .ok (.pointer (some ⟨w.heap.size,0,none⟩)) (w.alloc (.cells z.cells t)):=by
  simp[Instr.alloc,Xu tz,newVar,newRow]
 rw[Y0 this]
 exact h _ _ (Nat.le_refl _) (Stp.own a _) (Q1E a _ t)
theorem Qd {t:TypeId} [tg:TG P t false] {a:Addr} {v:Value} (b:w.cell? a=some v) (h:K v w):Q2 P t (.pointer (some a)) w K:=by
 unfold Q2
 rw[Y0 (v:=v) (w':=w) (by simp[Instr.loadAt,Instr.sureAddr,loadVar,Za tg,b])]
 exact h
theorem Dy {t:TypeId} {sz by_:Nat} {z:Value} [tg:TG P t true] [tz:TZ P t sz by_ z] {a:Addr} {cs:List Value} (b:cs.length=sz) (c: ∀j v,cs[j]? =some v→w.cell? (a.add j)=some v) (h:K (.agg cs.toArray) w):Q2 P t (.pointer (some a)) w K:=by
 unfold Q2
 have:=run_loadCells_list (P:=P) w a cs c
 rw[b] at this
 rw[Y0 (v:= .agg cs.toArray) (w':=w) (by simp[Instr.loadAt,Instr.sureAddr,loadVar,Za tg,W5 tz,this])]
 exact h
theorem ld {σ:Q5} {t:TypeId} [TG P t false] {a:Addr} {cs:List Value} {i:Nat} {v:Value} (b:X4 w σ) (d:Z3 σ a cs) (c:cs[i]? =some v) (h:K v w):Q2 P t (.pointer (some (a.add i))) w K:=
 Qd (d.cell b c) h
theorem X8 {σ:Q5} {t:TypeId} [TG P t false] {a:Addr} {cs:List Value} {v:Value} (b:X4 w σ) (d:Z3 σ a cs) (c:cs[0]? =some v) (h:K v w):Q2 P t (.pointer (some a)) w K:=by
 have:=ld (P:=P) (t:=t) b d c h
 rwa [add_zero] at this
theorem Y9 {σ:Q5} {t:TypeId} {sz by_:Nat} {z:Value} [TG P t true] [TZ P t sz by_ z] {a:Addr} {cs:List Value} (b:X4 w σ) (f:Z3 σ a cs) (d:cs.length=sz) (h:K (.agg cs.toArray) w):Q2 P t (.pointer (some a)) w K:=
 Dy d (fun _ _ c=>f.cell b c) h
theorem Yv {σ:Q5} {t:TypeId} [TG P t false] {b:Nat} {cs:List Value} {i:Nat} {v:Value} (a:Z5 σ w b cs) (c:cs[i]? =some v) (h:K v w):Q2 P t (.pointer (some ((⟨b,0,none⟩:Addr).add i))) w K:=
 Qd (a.cell c) h
theorem Q9a {σ:Q5} {t:TypeId} [TG P t false] {b:Nat} {cs:List Value} {v:Value} (a:Z5 σ w b cs) (c:cs[0]? =some v) (h:K v w):Q2 P t (.pointer (some ⟨b,0,none⟩)) w K:=by
 have:=Yv (P:=P) (t:=t) a c h
 rwa [add_zero] at this
theorem Q7A {σ:Q5} {t:TypeId} {sz by_:Nat} {z:Value} [TG P t true] [TZ P t sz by_ z] {b:Nat} {cs:List Value} (a:Z5 σ w b cs) (d:cs.length=sz) (h:K (.agg cs.toArray) w):Q2 P t (.pointer (some ⟨b,0,none⟩)) w K:=
 Dy d (fun _ _ c=>a.cell c) h
theorem W2 {t:TypeId} {sz by_:Nat} {z:Value} [tg:TG P t true] [tz:TZ P t sz by_ z] {σ:Q5} {b:Nat} {cs:List Value} {K:Value→Prop} (a:Z5 σ w b cs) (d:cs.length=sz) (h:K (.agg cs.toArray)):J8 P t (.pointer (some ⟨b,0,none⟩)) w K:=by
 rw[Q1S]
 refine ⟨_,?_,h⟩
 have:=run_loadCells_list (P:=P) w ⟨b,0,none⟩ cs (fun _ _ c=>a.cell c)
 rw[d] at this
 simp[asAddr,loadVar,Za tg,W5 tz,this]
structure Upd (w : World) (b : Nat) (w' : World) : Prop where
  os : w'.os = w.os
  tape : w'.tape = w.tape
  output : w'.output = w.output
  size : w'.heap.size = w.heap.size
  block : ∀ k, k ≠ b → w'.heap[k]? = w.heap[k]?
theorem Upd.stp {σ0 σ:Q5} {b:Nat} (c:Upd w b w') (a:Stp w0 σ0 w σ) (h:w0.heap.size≤b) (f:σ b=none):Stp w0 σ0 w' σ:=by
 refine ⟨⟨c.os.trans a.bel.os,c.tape.trans a.bel.tape,c.output.trans a.bel.output,by rw[c.size];exact a.bel.size,fun k g=>(c.block k (by omega)).trans (a.bel.block k g)⟩,?_,a.le,a.old⟩
 intro k o d
 rw[c.block k (by intro e;subst e;rw[f] at d;cases d)]
 exact a.sat k o d
theorem Z5.upd {σ:Q5} {b k:Nat} {cs:List Value} (h:Z5 σ w k cs) (d:Upd w b w') (a:k≠b):Z5 σ w' k cs:=by
 obtain ⟨f,e,c⟩:=h
 exact ⟨f,e,(d.block k a).trans c⟩
theorem Dn {b:Nat} {cs:Array Value} {a:Array Value} {e:TypeId} (h:w.heap[b]? =some (.cells a e (0,0))):Upd w b (w.setRow b cs)∧(w.setRow b cs).heap[b]? =some (.cells cs e (0,0)):=by
 have c:=(Array.getElem?_eq_some_iff.1 h).1
 refine ⟨⟨rfl,rfl,rfl,by simp[World.setRow],fun k d=>?_⟩,?_⟩
 ·simp only[World.setRow,Array.getElem?_modify]
  rw[if_neg (by omega)]
 ·simp only[World.setRow,Array.getElem?_modify,if_true,h]
  rfl
theorem sta {t:TypeId} {sz by_:Nat} {z:Value} [tz:TZ P t sz by_ z] {σ:Q5} {b:Nat} {cs ds:List Value} (f:Z5 σ w b cs) (j:cs.length=sz) (c:ds.length=sz) (k:ds.toArray.all (·.oneCell')=true)
 (h: ∀w',Upd w b w'→Z5 σ w' b ds→K undef w'):Z0 P t (.pointer (some ⟨b,0,none⟩)) (.agg ds.toArray) w K:=by
 obtain ⟨l,e,d⟩:=f
 unfold Z0
 obtain ⟨i,g,a,_⟩:=tz.info
 have:=run_storeVar_row (P:=P) w b e t cs.toArray ds.toArray d (by simp[g,a,c]) (by simp[j,c]) k
 rw[Na (w':=w.setRow b ds.toArray) (by simpa [Instr.storeAt,Instr.sureAddr] using this)]
 obtain ⟨m,hh⟩:=Dn (cs:=ds.toArray) d
 exact h _ m ⟨l,e,hh⟩
theorem X0Q {cs:List Value} {i:Nat} {v:Value} (a:i<cs.length):(cs.take i++[v]++cs.drop (i+1))=cs.set i v:=by
 rw[List.set_eq_take_append_cons_drop,if_pos a];simp
theorem Mn {t:TypeId} {by_:Nat} {z:Value} [tz:TZ P t 1 by_ z] {σ:Q5} {b i:Nat} {cs:List Value} {v:Value} (d:Z5 σ w b cs) (f:i<cs.length) (g:v.cells= #[v]) (j:v.oneCell'=true)
 (h: ∀w',Upd w b w'→Z5 σ w' b (cs.set i v)→K undef w'):Z0 P t (.pointer (some ((⟨b,0,none⟩:Addr).add i))) v w K:=by
 obtain ⟨l,e,c⟩:=d
 unfold Z0
 have a:(⟨b,0,none⟩:Addr).add i=⟨b,i,none⟩:=by unfold Addr.add;split<;>simp_all
 have:=run_storeCells_at P b i e [v] 0 cs.toArray w c (by simp;omega) (by simpa using j)
 simp only[Nat.add_zero] at this
 obtain ⟨m,hh⟩:=Dn (cs:=(cs.set i v).toArray) c
 have k:(List.take i cs.toArray.toList++[v]++List.drop (i+[v].length) cs.toArray.toList).toArray=(cs.set i v).toArray:=by
  rw[←X0Q f];simp
 rw[k] at this
 rw[Na (w':=w.setRow b (cs.set i v).toArray) (by simp[Instr.storeAt,Instr.sureAddr,a,storeVar,W5 tz,g,this])]
 exact h _ m ⟨l,e,hh⟩
theorem st0 {t:TypeId} {by_:Nat} {z:Value} [tz:TZ P t 1 by_ z] {σ:Q5} {b:Nat} {cs:List Value} {v:Value} (c:Z5 σ w b cs) (a:0<cs.length) (d:v.cells= #[v]) (f:v.oneCell'=true)
 (h: ∀w',Upd w b w'→Z5 σ w' b (cs.set 0 v)→K undef w'):Z0 P t (.pointer (some ⟨b,0,none⟩)) v w K:=by
 have:=Mn (P:=P) (t:=t) c a d f h
 rwa [add_zero] at this
class NZ (n : Nat) : Prop where
  h : (n == 0) = false
instance (n:Nat):NZ (n+1):=⟨rfl⟩
theorem fa {t:TypeId} {k b:Nat} {c:TypeId} {sz by_:Nat} {z:Value} [tf:TF P t k b c] [tz:TZ P c sz by_ z] [nz:NZ sz] {a:Addr}:fieldAddr P t (.pointer (some a)) k w K=K (.pointer (some (a.add b))) w:=by
 unfold fieldAddr
 have hh:=tf.h
 unfold Q2G at hh
 split at hh
 ·rename_i n l
  obtain ⟨f,j,d⟩:=Option.map_eq_some_iff.1 hh
  simp only[Prod.mk.injEq] at d
  obtain ⟨m,g⟩:=d
  subst g m
  have i: ¬sz=0:=by simpa using nz.h
  exact Y0 (by simp[Instr.fieldAt,run_underlying l,j,Instr.sureAddr,fieldPlace,W5 tz,i])
 ·cases hh
theorem Cd {t e:TypeId} {sz by_:Nat} {z:Value} [ts:TS P t e] [tz:TZ P e sz by_ z] {a:Addr} {n b:Nat} {k:IntKind} {i:Int} (c:0≤i) (d:i<n):indexAddr P t (.slice (some a) n b) (.int k i) w K=K (.pointer (some (a.add (i.toNat*sz)))) w:=by
 unfold indexAddr
 exact Y0 (by simp[Instr.indexAt,run_underlying ts.h,asIntOf,W5 tz,c,d])
theorem Q8X {t e:TypeId} {n sz by_:Nat} {z:Value} [ta:TA P t n e] [tz:TZ P e sz by_ z] {a:Addr} {k:IntKind} {i:Int} (b:0≤i) (c:i<n):indexAddr P t (.pointer (some a)) (.int k i) w K=K (.pointer (some (a.add (i.toNat*sz)))) w:=by
 unfold indexAddr
 exact Y0 (by simp[Instr.indexAt,run_underlying ta.h,asIntOf,Instr.sureAddr,W5 tz,b,c])
theorem E9 {a:Addr}:nilCheck P (.pointer (some a)) w K=K (.pointer (some a)) w:=by
 unfold nilCheck
 rw[Xc];unfold T7
 simp[execOp]
class Rep {α : Type} (R : Q5 → α → List Value → Prop) : Prop where
  up : ∀ {σ σ' : Q5} {x : α} {cs : List Value}, (∀ b o, σ b = some o → σ' b = some o) → R σ x cs → R σ' x cs
  one : ∀ {σ : Q5} {x : α} {cs : List Value}, R σ x cs → ∀ u ∈ cs, u.oneCell' = true
def Sl {α:Type} (sz:Nat) (R:Q5→α→List Value→Prop) (σ:Q5) (v:Value) (xs:List α):Prop:=
 ∃a c,v= .slice a xs.length c∧xs.length≤c∧c≤maxLen∧(a=none→c=0)∧
  ∀b,a=some b→(0<xs.length→b.spot=none)∧ ∀i x,xs[i]? =some x→ ∃cs,Z3 σ (b.add (i*sz)) cs∧cs.length=sz∧R σ x cs
theorem Z3.le {σ σ':Q5} {a:Addr} {cs:List Value} (h:Z3 σ a cs) (c: ∀b o,σ b=some o→σ' b=some o):Z3 σ' a cs:=by
 obtain ⟨g,D6,e,f,d,i⟩:=h
 exact ⟨g,D6,e,f,c _ _ d,i⟩
section
variable {α : Type} {R : Q5 → α → List Value → Prop} {sz : Nat} {σ σ' : Q5} {v : Value} {xs : List α}
theorem Sl.le [hr:Rep R] (h:Sl sz R σ v xs) (d: ∀b o,σ b=some o→σ' b=some o):Sl sz R σ' v xs:=by
 obtain ⟨a,c,m,l,n,k,f⟩:=h
 refine ⟨a,c,m,l,n,k,fun b g=>⟨(f b g).1,fun i x r=>?_⟩⟩
 obtain ⟨cs,q,p,j⟩:=(f b g).2 i x r
 exact ⟨cs,q.le d,p,hr.up d j⟩
theorem Sl.up [Rep R] (h:Sl sz R σ v xs) (a:Stp w σ w' σ'):Sl sz R σ' v xs:=h.le a.le
theorem Sl.max (h:Sl sz R σ v xs):xs.length≤9223372036854775807:=by
 obtain ⟨a,b,g,d,c,f⟩:=h
 simp only[maxLen] at c;omega
theorem Sl.nil:Sl sz R σ (.slice none 0 0) ([]:List α):=⟨none,0,rfl,by simp,by simp,fun _=>rfl,fun b a=>by cases a⟩
theorem Q6e {c e t:TypeId} {cs:List Bool} [ts:TS P c e] {a:Option Addr} {n b:Nat}:X5 P .len [c] t cs [.slice a n b] w K=K (I n) w:=by
 have h:(Builtin.len_ #[c] t #[.slice a n b]).run P w= .ok (I n) w:=by
  simp[Builtin.len_,run_underlying ts.h,goInt]
 exact Y0 h
theorem X1H {b e t:TypeId} {cs:List Bool} [ts:TS P b e] (h:Sl sz R σ v xs):X5 P .len [b] t cs [v] w K=K (I xs.length) w:=by
 obtain ⟨a,c,rfl,_⟩:=h
 exact Q6e
theorem X2l {t e:TypeId} {by_:Nat} {z:Value} [TS P t e] [TZ P e sz by_ z] (h:Sl sz R σ v xs) {k:IntKind} {i:Int} (m:0≤i) (j:i.toNat<xs.length)
 (f: ∀a cs,Z3 σ a cs→cs.length=sz→R σ xs[i.toNat] cs→K (.pointer (some a)) w):indexAddr P t v (.int k i) w K:=by
 obtain ⟨a,g,rfl,p,q,d,o⟩:=h
 cases a with
 | none=>have:=d rfl;omega
 | some b=>
  rw[Cd m (by omega)]
  obtain ⟨cs,n,l,c⟩:=(o b rfl).2 i.toNat xs[i.toNat] (by simp[j])
  exact f _ cs n l c
end
theorem Stp.turn {σ0 σ:Q5} {row:Option Nat} (b:w.grownBy w' row) (a:Stp w0 σ0 w σ) (f: ∀k,row=some k→w0.heap.size≤k∧σ k=none):Stp w0 σ0 w' σ:=by
 refine ⟨⟨b.os.trans a.bel.os,b.tape.trans a.bel.tape,b.output.trans a.bel.output,Nat.le_trans a.bel.size b.size,fun k d=>?_⟩,?_,a.le,a.old⟩
 ·refine (b.block k (Nat.lt_of_lt_of_le d a.bel.size) ?_).trans (a.bel.block k d)
  intro e;have:=(f k e.symm).1;omega
 ·intro k o c
  refine (b.block k (a.sat.lt c) ?_).trans (a.sat k o c)
  intro e;rw[(f k e.symm).2] at c;cases c
def V7 {α:Type} (B:Nat) (e:TypeId) (sz:Nat) (R:Q5→α→List Value→Prop) (σ:Q5) (w:World) (v:Value) (xs:List α):Prop:=
 ∃cells,w.ownsRow B e sz v xs.length cells∧(∀k,v.ownBlock=some k→σ k=none)∧ ∀i x,xs[i]? =some x→R σ x ((cells.drop (i*sz)).take sz)
section
variable {α : Type} {R : Q5 → α → List Value → Prop} {B sz : Nat} {e : TypeId} {σ σ' : Q5} {v u : Value} {xs ys : List α}
theorem V7.nil:V7 B e sz R σ w (.slice none 0 0) ([]:List α):=⟨[],World.ownsRow_nil w B e sz,by intro k a;simp[Value.ownBlock] at a,by intro i x h;simp at h⟩
theorem V7.mem (h:V7 B e sz R σ w v xs): ∀k,v.ownBlock=some k→B≤k∧k<w.heap.size∧σ k=none:=by
 obtain ⟨cells,f,d,_⟩:=h
 intro k c
 obtain ⟨a,b⟩:=f.lt k c
 exact ⟨a,b,d k c⟩
theorem V7.up [hr:Rep R] (h:V7 B e sz R σ w v xs) (a:Stp w σ w' σ'):V7 B e sz R σ' w' v xs:=by
 obtain ⟨cells,c,f,j⟩:=h
 refine ⟨cells,c.kept ⟨a.bel.os,a.bel.tape,a.bel.output,a.bel.size,fun k d _=>a.bel.block k d⟩ (by cases b:v.ownBlock<;>simp) (row:=none),?_,fun i x g=>hr.up a.le (j i x g)⟩
 intro k b
 rw[a.old k (c.lt k b).2];exact f k b
theorem Sl.cells (h:Sl sz R σ v xs) (H:X4 w σ) [hr:Rep R]: ∃(a:Option Addr) (d:Nat) (c:List Value),v= .slice a xs.length d∧(a=none→d=0)∧c.length=xs.length*sz∧(∀b,a=some b→ ∀j u,c[j]? =some u→w.cell? (b.add j)=some u)∧(∀u∈c,u.oneCell'=true)∧
 ∀i x,xs[i]? =some x→R σ x ((c.drop (i*sz)).take sz):=by
 obtain ⟨a,d,rfl,M,N,m,A⟩:=h
 cases a with
 | none=>
  have O:=m rfl
  have f:xs=[]:=List.eq_nil_of_length_eq_zero (by omega)
  subst f
  exact ⟨none,d,[],rfl,m,by simp,fun b J=>(by cases J),by simp,by simp⟩
 | some b=>
  obtain ⟨D,o⟩:=A b rfl
  clear A
  have key: ∀(ys:List α) (k:Nat),(∀i x,ys[i]? =some x→ ∃cs,Z3 σ (b.add ((k+i)*sz)) cs∧cs.length=sz∧R σ x cs)→
   ∃c:List Value,c.length=ys.length*sz∧(∀j u,c[j]? =some u→w.cell? (b.add (k*sz+j))=some u)∧(∀u∈c,u.oneCell'=true)∧ ∀i x,ys[i]? =some x→R σ x ((c.drop (i*sz)).take sz):=by
   intro ys
   induction ys with
   | nil=>intro k _;exact ⟨[],by simp,by simp,by simp,by simp⟩
   | cons y r C=>
    intro k t
    obtain ⟨cs,E,z,s⟩:=t 0 y rfl
    obtain ⟨c,q,p,g,l⟩:=C (k+1) (fun i x f=>by
     have:=t (i+1) x (by simpa using f)
     rwa [show k+1+i=k+(i+1) by omega])
    refine ⟨cs++c,by simp[q,z,Nat.add_mul,Nat.add_comm],?_,?_,?_⟩
    ·intro j u hu
     by_cases Q:j<sz
     ·rw[List.getElem?_append_left (by omega)] at hu
      have:=E.cell H hu
      rwa [Sx,Nat.add_zero] at this
     ·rw[List.getElem?_append_right (by omega)] at hu
      have:=p _ _ hu
      rwa [z,show (k+1)*sz+(j-sz)=k*sz+j by rw[Nat.add_mul];omega] at this
    ·intro u hu
     rcases List.mem_append.1 hu with hu | hu
     ·exact hr.one s u hu
     ·exact g u hu
    ·intro i x f
     cases i with
     | zero=>
      simp at f;subst f
      simp only[Nat.zero_mul,List.drop_zero]
      rw[List.take_append_of_le_length (by omega),List.take_of_length_le (by omega)];exact s
     | succ i=>
      have:=l i x (by simpa using f)
      rw[show (i+1)*sz=cs.length+i*sz by rw[Nat.add_mul];omega,List.drop_append]
      simpa [List.drop_eq_nil_of_le] using this
  obtain ⟨c,q,p,g,l⟩:=key xs 0 (fun i x f=>by rw[Nat.zero_add];exact o i x f)
  refine ⟨some b,d,c,rfl,m,q,?_,g,l⟩
  intro L n j u hu
  cases n
  have:=p j u hu
  rwa [Nat.zero_mul,Nat.zero_add] at this
end
section
variable {α : Type} {R : Q5 → α → List Value → Prop} {sz : Nat} {e : TypeId} {σ σ0 : Q5} {v u : Value} {xs ys : List α}
theorem En (cells a:List Value) (n i:Nat) (c:cells.length=n*sz) (b:i<n):((cells++a).drop (i*sz)).take sz=(cells.drop (i*sz)).take sz:=by
 have h:i*sz+sz≤n*sz:=by rw[←Nat.succ_mul];exact Nat.mul_le_mul_right _ b
 rw[List.drop_append_of_le_length (by omega),List.take_append_of_le_length (by simp only[List.length_drop];omega)]
theorem app {t s:TypeId} {by_:Nat} {z:Value} {cs:List Bool} [ts:TS P t e] [tz:TZ P e sz by_ z] [hr:Rep R] (C:Stp w0 σ0 w σ) (ha:V7 w0.heap.size e sz R σ w v xs) (W:Sl sz R σ u ys) (E:(z.cells.size==sz&&decide (0<sz))=true)
 (hb:(xs.length+ys.length)*by_≤140737488355328) (hm:xs.length+ys.length≤9223372036854775807)
 (h: ∀d w',w.grownBy w' v.ownBlock→Stp w0 σ0 w' σ→V7 w0.heap.size e sz R σ w' d (xs++ys)→(d.ownBlock=v.ownBlock∨ ∀k,d.ownBlock=some k→w.heap.size≤k)→K d w'):X5 P .append [t,t] s cs [v,u] w K:=by
 obtain ⟨cells,r,O,h3⟩:=ha
 obtain ⟨a,m,c,rfl,U,Q,X,Y,n5⟩:=W.cells C.sat
 obtain ⟨i,D,L,M,q⟩:=tz.info
 have o: ∀d w',(Builtin.append_ #[t,t] s #[v, .slice a ys.length m]).run P w= .ok d w'→w'.ownsRow w0.heap.size e sz d (xs.length+ys.length) (cells++c)→w.grownBy w' v.ownBlock→(d.ownBlock=v.ownBlock∨d.ownBlock=some w.heap.size)→X5 P .append [t,t] s cs [v, .slice a ys.length m] w K:=by
  intro d w' y f l hat
  have p:(builtin .append #[t,t] s cs.toArray #[v, .slice a ys.length m]).run P w= .ok (.value d) w':=by
   simp[builtin,y]
  unfold X5
  rw[Xc];unfold T7
  rw[p]
  refine h d w' l (Stp.turn l C fun k n=>⟨(r.lt k n).1,O k n⟩) ⟨cells++c,by rw[List.length_append];exact f,?_,?_⟩ ?_
  ·intro k n
   rcases hat with hat | hat
   ·exact O k (hat▸n)
   ·rw[hat] at n;cases n;exact C.sat.none (Nat.le_refl _)
  ·intro j x A
   by_cases V:j<xs.length
   ·rw[List.getElem?_append_left V] at A
    rw[En cells c xs.length j r.1 V]
    exact h3 j x A
   ·rw[List.getElem?_append_right (by omega)] at A
    have:=n5 _ _ A
    rw[show j*sz=cells.length+(j-xs.length)*sz by rw[r.1,←Nat.add_mul];congr 1;omega,List.drop_append]
    simpa [List.drop_eq_nil_of_le] using this
  ·rcases hat with hat | hat
   ·exact .inl hat
   ·right;intro k n;rw[hat] at n;cases n;exact Nat.le_refl _
 simp only[Bool.and_eq_true,beq_iff_eq,decide_eq_true_eq] at E
 cases a with
 | some b=>
  obtain ⟨d,w',g1,g2,Z,_,g5⟩:=run_append_own_at (P:=P) w w0.heap.size t s e i z sz by_ ts.h D q L M E.1 E.2 v xs.length cells r b ys.length m c Q (X b rfl) Y (by simp only[maxLen];omega) hb C.bel.size
  exact o d w' g1 g2 Z g5
 | none=>
  have hy:ys=[]:=List.eq_nil_of_length_eq_zero (by obtain ⟨a',N,e',q1,_,q3,_⟩:=W;injection e' with _ e2 e3;have:=U rfl;subst e3;omega)
  have J:=U rfl
  subst hy J
  have hn:c=[]:=List.eq_nil_of_length_eq_zero (by simpa using Q)
  subst hn
  have f:=r
  rcases r.2 with ⟨rfl,h0⟩ | ⟨g,m,ab,rfl,ae,hg,H,_⟩
  ·refine o (.slice none 0 0) w ?_ (by simpa using f) (World.grownBy.refl w _) (.inl rfl)
   simp[Builtin.append_,run_underlying ts.h,sizeOf,typeInfo,D,Builtin.lenOf,Builtin.firstCells]
  ·refine o _ w ?_ (by simpa using f) (World.grownBy.refl w _) (.inl rfl)
   simp[Builtin.append_,run_underlying ts.h,sizeOf,typeInfo,D,Builtin.lenOf,Builtin.firstCells,H,storeCells]
end
section
variable {α : Type} {R : Q5 → α → List Value → Prop} {sz : Nat} {e : TypeId} {σ σ0 : Q5} {v u : Value} {xs ys : List α}
theorem Q5.put_le {w:World} (d:X4 w σ) {b:Nat} (h:σ b=none) (o:Obj): ∀k p,σ k=some p→(σ.put b o) k=some p:=by
 intro k p c
 by_cases a:k=b
 ·subst a;rw[h] at c;cases c
 ·simp only[Q5.put,if_neg a];exact c
theorem Stp.put {b:Nat} {o:Obj} (d:Stp w0 σ0 w σ) (f:σ b=none) (h:w0.heap.size≤b) (g:w.heap[b]? =some o):Stp w0 σ0 w (σ.put b o):=by
 refine ⟨d.bel,?_,fun k p a=>Q5.put_le d.sat f o k p (d.le k p a),?_⟩
 ·intro k p a
  by_cases c:k=b
  ·subst c;simp only[Q5.put,if_true] at a;cases a;exact g
  ·simp only[Q5.put,if_neg c] at a;exact d.sat k p a
 ·intro k a
  simp only[Q5.put];rw[if_neg (by omega)];exact d.old k a
theorem V7.keep [hr:Rep R] (h:V7 w0.heap.size e sz R σ w v xs) (q:Stp w0 σ0 w σ): ∃σ',Stp w0 σ0 w σ'∧Sl sz R σ' v xs∧(∀k o,σ k=some o→σ' k=some o)∧(∀k,some k≠v.ownBlock→σ' k=σ k):=by
 obtain ⟨cells,r,D,E⟩:=h
 rcases r.2 with ⟨rfl,H⟩ | ⟨g,m,c,rfl,J,z,l,f,A,n⟩
 ·have:xs=[]:=List.eq_nil_of_length_eq_zero H
  subst this
  exact ⟨σ,q,Sl.nil,fun _ _ h=>h,fun _ _=>rfl⟩
 ·have s:=D g rfl
  have a:=Q5.put_le q.sat s (.cells c e (0,0))
  refine ⟨σ.put g (.cells c e (0,0)),q.put s J z,⟨_,m,rfl,l,f,by simp,?_⟩,a,?_⟩
  ·intro b p
   cases p
   refine ⟨fun _=>rfl,fun i x t=>⟨(cells.drop (i*sz)).take sz,⟨I1 rfl _,c,e,(0,0),by rw[C3];simp[Q5.put],?_⟩,?_,hr.up a (E i x t)⟩⟩
   ·intro j u d
    rw[Xv]
    rw[List.getElem?_take] at d
    split at d
    ·rw[List.getElem?_drop,←n,List.getElem?_take] at d
     split at d
     ·simpa using d
     ·cases d
    ·cases d
   ·have y:i<xs.length:=(List.getElem?_eq_some_iff.1 t).1
    have h:i*sz+sz≤xs.length*sz:=by rw[←Nat.succ_mul];exact Nat.mul_le_mul_right _ y
    rw[List.length_take,List.length_drop,r.1];omega
  ·intro k C
   have:k≠g:=by intro e;subst e;exact C rfl
   simp only[Q5.put,if_neg this]
theorem Sl.piece {a:Option Addr} {n d:Nat} (h:Sl sz R σ (.slice a n d) xs) (l m:Nat) (L:l+m≤xs.length):Sl sz R σ (.slice (if d=l then a else a.map (·.add (l*sz))) m (d-l)) ((xs.drop l).take m):=by
 obtain ⟨N,j,y,M,O,A,p⟩:=h
 injection y with H E C
 subst H E C
 have c:((xs.drop l).take m).length=m:=by simp;omega
 refine ⟨_,d-l,by rw[c],by rw[c];omega,by omega,?_,?_⟩
 ·intro q
  split at q
  ·omega
  ·cases a with
   | none=>have:=A rfl;omega
   | some b=>simp at q
 ·intro b f
  split at f
  ·rename_i s
   obtain ⟨k,o⟩:=p b f
   have r:m=0:=by omega
   subst r
   exact ⟨fun h=>by simp at h,by simp⟩
  ·cases a with
   | none=>simp at f
   | some t=>
    simp only[Option.map_some,Option.some.injEq] at f
    obtain ⟨k,o⟩:=p t rfl
    subst f
    refine ⟨fun h=>I1 (k (by rw[c] at h;omega)) _,fun i x g=>?_⟩
    rw[List.getElem?_take] at g
    split at g
    ·rw[List.getElem?_drop] at g
     obtain ⟨cs,J,D,z⟩:=o _ _ g
     refine ⟨cs,?_,D,z⟩
     rw[Sx,←Nat.add_mul];exact J
    ·cases g
theorem Su {t:TypeId} {by_:Nat} {z:Value} [ts:TS P t e] [tz:TZ P e sz by_ z] (h:Sl sz R σ v xs) (d c:Option Value) (l m:Nat) (g:d=none∧l=0∨d=some (I l)) (i:c=none∧m=xs.length∨c=some (I m)) (f:l≤m) (p:m≤xs.length)
 (k: ∀j,Sl sz R σ j ((xs.drop l).take (m-l))→K j w):H7 P t v d c none w K:=by
 have n:=h
 obtain ⟨a,b,rfl,s,y,r,A⟩:=h
 have hh: ∀w:World,(Instr.sliceBounds true xs.length b d c none).run P w= .ok (l,m,b) w:=by
  intro w
  have C:(m:Int)≤b:=by omega
  have q:(l:Int)≤m:=by omega
  have o:m≤b:=by omega
  rcases g with ⟨rfl,rfl⟩ | rfl<;>rcases i with ⟨rfl,rfl⟩ | rfl<;>
   simp[Instr.sliceBounds,Instr.sliceBound,asIntOf,o,f]<;>intros<;>omega
 unfold H7
 have:(Instr.sliceAt t (.slice a xs.length b) d c none).run P w= .ok (.slice (if b=l then a else a.map (·.add (l*sz))) (m-l) (b-l)) w:=by
  simp[Instr.sliceAt,run_underlying ts.h,Instr.slice,hh,W5 tz]
 rw[Y0 this]
 exact k _ (n.piece l (m-l) (by omega))
def en:Nat→List Value→List (Nat×Value)
 | _,[]=>[]
 | i,v::r=>(i,v)::en (i+1) r
theorem Q8F (off:Nat): ∀(vs:List Value) (k:Nat) (cs:Array Value),off+k+vs.length≤cs.size→
 ((vs.zipIdx k).foldl (fun cs (p:Value×Nat)=>cs.setIfInBounds (off+p.2) p.1) cs).toList=cs.toList.take (off+k)++vs++cs.toList.drop (off+k+vs.length):=by
 intro vs
 induction vs with
 | nil=>intro k cs _;simp
 | cons v r ih=>
  intro k cs h
  simp only[List.length_cons] at h
  rw[List.zipIdx_cons,List.foldl_cons,ih (k+1) _ (by simp;omega)]
  simp only[Array.toList_setIfInBounds,List.length_cons]
  apply List.ext_getElem?
  intro i
  simp only[List.getElem?_append,List.length_take,List.length_set,Array.length_toList,List.getElem?_take,List.getElem?_drop,List.length_append,List.getElem?_set,List.length_cons]
  rcases Nat.lt_trichotomy i (off+k) with hi | hi | hi
  ·simp[show i<off+(k+1) by omega,hi,show i<min (off+(k+1)) cs.size by omega,show i<min (off+(k+1)) cs.size+r.length by omega,show i<min (off+k) cs.size by omega,show i<min (off+k) cs.size+(r.length+1) by omega,show off+k≠i by omega]
  ·subst hi
   simp[show off+k<off+(k+1) by omega,show off+k<min (off+(k+1)) cs.size by omega,show off+k<min (off+(k+1)) cs.size+r.length by omega,show¬off+k<min (off+k) cs.size by omega,show off+k<min (off+k) cs.size+(r.length+1) by omega,show off+k<cs.size by omega,show off+k-min (off+k) cs.size=0 by omega]
  ·by_cases h2:i<off+(k+1)+r.length
   ·simp[show¬i<min (off+(k+1)) cs.size by omega,show i<min (off+(k+1)) cs.size+r.length by omega,show¬i<min (off+k) cs.size by omega,show i<min (off+k) cs.size+(r.length+1) by omega,show i-min (off+k) cs.size=(i-min (off+(k+1)) cs.size)+1 by omega]
   ·simp only[show¬i<min (off+(k+1)) cs.size+r.length by omega,show¬i<min (off+k) cs.size+(r.length+1) by omega,if_false]
    rw[show off+(k+1)+r.length+(i-(min (off+(k+1)) cs.size+r.length))=i by omega,show off+k+(r.length+1)+(i-(min (off+k) cs.size+(r.length+1)))=i by omega,if_neg (by omega)]
theorem Q6B (sz:Nat): ∀(vs:List Value) (i:Nat) (cs:Array Value),(i+vs.length)*sz≤cs.size→(∀v∈vs,v.cells.size=sz)→
 ∃cs',Instr.fill (fun i=>some (i*sz,sz)) cs (en i vs)=some cs'∧cs'.toList=cs.toList.take (i*sz)++vs.flatMap (·.cells.toList)++cs.toList.drop ((i+vs.length)*sz):=by
 intro vs
 induction vs with
 | nil=>intro i cs _ _;exact ⟨cs,rfl,by simp⟩
 | cons v r ih=>
  intro i cs h hv
  have hv0:=hv v (by simp)
  simp only[List.length_cons] at h
  have h1:i*sz+sz≤cs.size:=by
   have:(i+1)*sz≤(i+(r.length+1))*sz:=Nat.mul_le_mul_right _ (by omega)
   rw[Nat.succ_mul] at this;omega
  have hset:=Q8F (i*sz) v.cells.toList 0 cs (by simp;omega)
  simp only[Nat.add_zero] at hset
  have e1:v.cells.zipIdx.foldl (fun cs (p:Value×Nat)=>cs.setIfInBounds (i*sz+p.2) p.1) cs=(v.cells.toList.zipIdx 0).foldl (fun cs (p:Value×Nat)=>cs.setIfInBounds (i*sz+p.2) p.1) cs:=by
   rw[←Array.foldl_toList,Array.toList_zipIdx]
  have hsz':((v.cells.toList.zipIdx 0).foldl (fun cs (p:Value×Nat)=>cs.setIfInBounds (i*sz+p.2) p.1) cs).size=cs.size:=by
   rw[←Array.length_toList,hset]
   simp;omega
  obtain ⟨cs',q1,q2⟩:=ih (i+1) _ (by rw[hsz'];rw[show i+1+r.length=i+(r.length+1) by omega];exact h) (fun u hu=>hv u (by simp[hu]))
  refine ⟨cs',?_,?_⟩
  ·simp only[en,Instr.fill]
   rw[if_neg (by simp[hv0];omega)]
   rw[e1];exact q1
  ·rw[q2,hset]
   simp only[List.flatMap_cons,List.length_cons,Array.length_toList,hv0]
   have e2:(i+1)*sz=i*sz+sz:=by rw[Nat.succ_mul]
   have e3:(i+(r.length+1))*sz=i*sz+sz+r.length*sz:=by rw[Nat.add_mul,Nat.succ_mul];omega
   have e4:(i+1+r.length)*sz=i*sz+sz+r.length*sz:=by rw[Nat.add_mul,Nat.succ_mul]
   rw[e2,e3,e4]
   have t1:(cs.toList.take (i*sz)).length=i*sz:=by simp;omega
   have t2:(cs.toList.take (i*sz)++v.cells.toList).length=i*sz+sz:=by rw[List.length_append,t1];simp[hv0]
   have k1: ∀C:List Value,(cs.toList.take (i*sz)++v.cells.toList++C).take (i*sz+sz)=cs.toList.take (i*sz)++v.cells.toList:=by
    intro C
    rw[List.take_append_of_le_length (by omega),List.take_of_length_le (by omega)]
   have k2: ∀(C:List Value) (n:Nat),(cs.toList.take (i*sz)++v.cells.toList++C).drop (i*sz+sz+n)=C.drop n:=by
    intro C n
    rw[List.drop_append,t2,List.drop_eq_nil_of_le (by omega),List.nil_append]
    congr 1;omega
   rw[k1,k2,List.drop_drop]
   simp only[List.append_assoc]
theorem Ow {t:TypeId} {by_:Nat} {z:Value} [ts:TS P t e] [tz:TZ P e sz by_ z] (vs:List Value) (hv: ∀v∈vs,v.cells.size=sz) (hsm:vs.length*sz≤16777216) (w:World):
 ∃cells:Array Value,(Instr.buildSlice t vs.length (en 0 vs).toArray).run P w= .ok (.slice (some ⟨w.heap.size,0,none⟩) vs.length vs.length) (w.alloc (.cells cells e))∧cells.toList=vs.flatMap (·.cells.toList):=by
 have h2: ¬vs.length*sz>2 ^ 24:=by omega
 by_cases h:vs.length*sz=0
 ·obtain ⟨cells,hf,hl⟩:=Q6B sz vs 0 ((Array.range (vs.length*sz)).map ((#[]:Array Value)[· % (#[]:Array Value).size]!)) (by simp) hv
  refine ⟨cells,?_,by rw[hl];simp⟩
  simp only[Instr.buildSlice,Sem.run_bind,run_underlying ts.h,Result.andThen_ok,W5 tz,if_neg h2,if_pos h,Sem.run_pure,hf]
  simp[newRow]
 ·obtain ⟨cells,hf,hl⟩:=Q6B sz vs 0 ((Array.range (vs.length*sz)).map (z.cells[· % z.cells.size]!)) (by simp) hv
  refine ⟨cells,?_,by rw[hl];simp⟩
  simp only[Instr.buildSlice,Sem.run_bind,run_underlying ts.h,Result.andThen_ok,W5 tz,if_neg h2,if_neg h,Sem.run_pure,Xu tz,hf]
  simp[newRow]
theorem Q6D {vs:List Value} (d: ∀v∈vs,v.cells.size=sz) (i:Nat) (v:Value) (h:vs[i]? =some v):((vs.flatMap (·.cells.toList)).drop (i*sz)).take sz=v.cells.toList:=by
 induction vs generalizing i with
 | nil=>simp at h
 | cons a r f=>
  have b:=d a (by simp)
  cases i with
  | zero=>
   simp at h;subst h
   rw[List.flatMap_cons,Nat.zero_mul,List.drop_zero,List.take_append_of_le_length (by simp[b]),List.take_of_length_le (by simp[b])]
  | succ i=>
   rw[List.flatMap_cons,Nat.succ_mul,List.drop_append,List.drop_eq_nil_of_le (by simp[b]),List.nil_append]
   rw[show i*sz+sz-a.cells.toList.length=i*sz by simp[b]]
   exact f (fun v c=>d v (by simp[c])) i (by simpa using h)
theorem Q1b {vs:List Value} (b: ∀v∈vs,v.cells.size=sz):(vs.flatMap (·.cells.toList)).length=vs.length*sz:=by
 induction vs with
 | nil=>simp
 | cons a r c=>
  rw[List.flatMap_cons,List.length_append,c (fun v h=>b v (by simp[h]))]
  simp[b a (by simp),Nat.succ_mul,Nat.add_comm]
def Pn (R:Q5→α→List Value→Prop) (σ:Q5):List Value→List α→Prop
 | [],[]=>True
 | v::vs,x::xs=>R σ x v.cells.toList∧Pn R σ vs xs
 | _,_=>False
theorem Pn.len {vs:List Value} (h:Pn R σ vs xs):vs.length=xs.length:=by
 induction vs generalizing xs with
 | nil=>cases xs with
  | nil=>rfl
  | cons=>exact h.elim
 | cons v r a=>cases xs with
  | nil=>exact h.elim
  | cons x y=>simp[a h.2]
theorem Pn.get {vs:List Value} (h:Pn R σ vs xs) {i:Nat} {x:α} (a:xs[i]? =some x): ∃v,vs[i]? =some v∧R σ x v.cells.toList:=by
 induction vs generalizing xs i with
 | nil=>cases xs with
  | nil=>simp at a
  | cons=>exact h.elim
 | cons v r c=>cases xs with
  | nil=>exact h.elim
  | cons y ys=>
   cases i with
   | zero=>simp at a;subst a;exact ⟨v,rfl,h.1⟩
   | succ i=>obtain ⟨u,d,b⟩:=c h.2 (i:=i) (by simpa using a);exact ⟨u,by simpa using d,b⟩
theorem Qc {t:TypeId} {by_:Nat} {z:Value} {n:Nat} {a:List (Nat×Value)} [ts:TS P t e] [tz:TZ P e sz by_ z] (l:Stp w0 σ0 w σ) (vs:List Value) (xs:List α) (s:n=vs.length) (r:a=en 0 vs) (c: ∀v∈vs,v.cells.size=sz) (b:(decide (0<sz)&&decide (vs.length*sz≤16777216))=true) (m:Pn R σ vs xs)
 (h: ∀v w',Stp w σ w' σ→V7 w0.heap.size e sz R σ w' v xs→(∀k,v.ownBlock=some k→w.heap.size≤k)→K v w'):buildSlice P t n a w K:=by
 subst s r
 simp only[Bool.and_eq_true,decide_eq_true_eq] at b
 obtain ⟨g,b⟩:=b
 obtain ⟨cells,p,f⟩:=Ow (P:=P) (t:=t) vs c b w
 unfold buildSlice
 rw[Y0 p]
 have d:=m.len
 refine h _ _ (Stp.own l.sat _) ⟨cells.toList,⟨by rw[f,Q1b c,d], .inr ⟨_,_,cells,by rw[d],l.bel.size,heap_alloc_new w _,by omega,?_,?_,?_⟩⟩,?_,?_⟩ ?_
 ·simp only[maxLen]
  have:vs.length*1≤vs.length*sz:=Nat.mul_le_mul_left _ g
  omega
 ·rw[←Array.length_toList,f,Q1b c,d]
 ·rw[List.take_of_length_le (by rw[f,Q1b c,d];exact Nat.le_refl _)]
 ·intro k j;cases j;exact l.sat.none (Nat.le_refl _)
 ·intro i x y
  obtain ⟨v,o,q⟩:=m.get y
  rw[f,Q6D c i v o];exact q
 ·intro k j;cases j;exact Nat.le_refl _
theorem D2 [Rep R] {t:TypeId} {by_:Nat} {z:Value} {n:Nat} {a:List (Nat×Value)} [ts:TS P t e] [tz:TZ P e sz by_ z] (k:X4 w σ) (vs:List Value) (xs:List α) (m:n=vs.length) (l:a=en 0 vs) (d: ∀v∈vs,v.cells.size=sz) (b:(decide (0<sz)&&decide (vs.length*sz≤16777216))=true) (c:Pn R σ vs xs)
 (h: ∀v w' σ',Stp w σ w' σ'→Sl sz R σ' v xs→K v w'):buildSlice P t n a w K:=by
 refine Qc (Stp.refl k) vs xs m l d b c fun v w' f i _=>?_
 obtain ⟨σ',j,g,_⟩:=i.keep f
 exact h v w' σ' j g
theorem X0W {t:TypeId} {k a:Nat} {b:TypeId} [tf:TF P t k a b] [tg:TG P b false] {cs:Array Value} {v:Value} (d:cs[a]? =some v):Ut P t (.agg cs) k w K=K v w:=by
 unfold Ut
 have hh:=tf.h
 unfold Q2G at hh
 split at hh
 ·rename_i m j
  obtain ⟨f,i,c⟩:=Option.map_eq_some_iff.1 hh
  simp only[Prod.mk.injEq] at c
  obtain ⟨l,g⟩:=c
  subst g l
  exact Y0 (by simp[Instr.field,run_underlying j,i,asAgg,part,Za tg,d])
 ·cases hh
theorem Qp {f:Fn} {first caps:List Value}:M7 P f first caps w K=K (.func f first.toArray caps.toArray) w:=Y0 (by simp[Instr.makeFunc])
theorem W1 {t:TypeId} {a:List (Nat×Value)} {cells:Array Value} (h:P.built t a=some cells) (b:K (.agg cells) w):N4 P t a w K:=by
 unfold N4
 rw[Y0 (run_build w t a.toArray cells h)];exact b
end
def N5 (o:Option Obj) (m:List (List UInt8×Value)):Prop:=
 ∃es a,o=some (.map es a)∧es.toList.map (fun e=>(e.key,e.val))=m.map (fun p=>(S p.1,p.2))∧(es.toList.map (·.born)).Pairwise (· < ·)∧ ∀e∈es.toList,e.born<a
def M3 (m:List (List UInt8×Value)) (k:List UInt8):Option Value:=match m with
 | []=>none
 | p::r=>if p.1=k then some p.2 else M3 r k
def Xd (m:List (List UInt8×Value)) (k:List UInt8) (v:Value):List (List UInt8×Value):=match m with
 | []=>[(k,v)]
 | p::r=>if p.1=k then (k,v)::r else p::Xd r k v
theorem Rr (a b:List UInt8):((⟨a.toArray⟩:ByteArray)==⟨b.toArray⟩)=decide (a=b):=by
 rw[←Q2E]
 show (a.toArray==b.toArray)=_
 simp
theorem Rc (k:List UInt8): ∀(es:List MapEntry) (m:List (List UInt8×Value)) (i:Nat),es.map (fun e=>(e.key,e.val))=m.map (fun p=>(S p.1,p.2))→
 ∃r,Instr.findNow .string (S k) es i=some r∧r.map (·.2)=M3 m k∧(∀j v,r=some (j,v)→i≤j∧(∃e,es[j-i]? =some e∧e.key=S k)∧ ∀u,(es.modify (j-i) fun e=>{e with key:=S k,val:=u}).map (fun e=>(e.key,e.val))=(Xd m k u).map (fun p=>(S p.1,p.2)))∧
  (r=none→ ∀u,Xd m k u=m++[(k,u)]):=by
 intro es
 induction es with
 | nil=>
  intro m i h
  cases m with
  | nil=>exact ⟨none,rfl,rfl,(by simp),fun _ u=>rfl⟩
  | cons=>simp at h
 | cons e r t=>
  intro m i h
  cases m with
  | nil=>simp at h
  | cons p q=>
   simp only[List.map_cons,List.cons.injEq,Prod.mk.injEq] at h
   obtain ⟨⟨d,f⟩,g⟩:=h
   simp only[Instr.findNow,d,Instr.sameNow,Rr]
   by_cases a:p.1=k
   ·have c:decide (k=p.1)=true:=by simp[a]
    simp only[c]
    refine ⟨_,rfl,by simp[M3,a,f],?_,by simp⟩
    intro j v b
    cases b
    refine ⟨Nat.le_refl _,⟨e,by simp,by rw[d,a]⟩,fun u=>?_⟩
    simp[Xd,a,g]
   ·have c:decide (k=p.1)=false:=by simp;exact fun e=>a e.symm
    simp only[c]
    obtain ⟨o,n,y,A,z⟩:=t q (i+1) g
    refine ⟨o,n,by simp[M3,a,y],?_,?_⟩
    ·intro j v b
     obtain ⟨D,s,l⟩:=A j v b
     refine ⟨by omega,by rw[show j-i=(j-(i+1))+1 by omega];simpa using s,fun u=>?_⟩
     have:=l u
     rw[show j-i=(j-(i+1))+1 by omega]
     simp[Xd,a,d,f,this]
    ·intro C u
     simp[Xd,a,z C u]
theorem B0 {t:TypeId} (a:P.underlying t=some .string) (b:Bool) (k:List UInt8) (w:World):(Instr.checkKey b 10000 t (S k)).run P w= .ok () w:=by
 unfold Instr.checkKey
 simp[run_underlying a]
theorem Q1m {t f g:TypeId} {sz by_:Nat} {z:Value} [tm:TM P t f g] [tz:TZ P g sz by_ z] (b:P.underlying f=some .string) {r:Nat} {m:List (List UInt8×Value)} (i:N5 (w.heap[r]?) m) (k:List UInt8):
 lookup P t (.map (some r)) (S k) true w K=K (match M3 m k with | some v=> .tuple #[v, .bool true] | none=> .tuple #[z, .bool false]) w:=by
 obtain ⟨es,a,o,n,s,q⟩:=i
 obtain ⟨j,d,c,A,y⟩:=Rc k es.toList m 0 n
 unfold lookup
 refine Y0 ?_
 simp only[Instr.lookup,Sem.run_bind,run_underlying tm.h,Result.andThen_ok,Instr.findKey,run_underlying b,d,B0 b]
 have l:(getObj r).run P w= .ok (.map es a) w:=by simp[getObj,Sem.run,o]
 simp only[l,Result.andThen_ok,Sem.run_bind,Sem.run_pure,B0 b,run_underlying b,d]
 cases j with
 | none=>simp at c;rw[←c];simp[Xu tz]
 | some p=>simp at c;rw[←c];simp
theorem Q2X {t c f:TypeId} {sz by_:Nat} {z:Value} [tm:TM P t c f] [tz:TZ P f sz by_ z] (d:P.underlying c=some .string) {r:Nat} {m:List (List UInt8×Value)} (g:N5 (w.heap[r]?) m) (k:List UInt8):
 lookup P t (.map (some r)) (S k) false w K=K ((M3 m k).getD z) w:=by
 obtain ⟨es,a,o,n,s,q⟩:=g
 obtain ⟨j,i,b,A,y⟩:=Rc k es.toList m 0 n
 unfold lookup
 refine Y0 ?_
 have l:(getObj r).run P w= .ok (.map es a) w:=by simp[getObj,Sem.run,o]
 simp only[Instr.lookup,Sem.run_bind,run_underlying tm.h,Result.andThen_ok,Instr.findKey,run_underlying d,i,B0 d,l,Sem.run_pure]
 cases j with
 | none=>simp at b;rw[←b];simp[Xu tz]
 | some p=>simp at b;rw[←b];simp
def E6 (σ:Q5) (w:World) (r:Nat) (m:List (List UInt8×Value)):Prop:=σ r=none∧N5 (w.heap[r]?) m
def I5 (σ:Q5) (r:Nat) (m:List (List UInt8×Value)):Prop:=N5 (σ r) m
theorem I5.is {σ:Q5} {r:Nat} {m:List (List UInt8×Value)} (h:I5 σ r m) (b:X4 w σ):N5 (w.heap[r]?) m:=by
 obtain ⟨es,a,d,c⟩:=h
 exact ⟨es,a,b _ _ d,c⟩
theorem I5.le {σ σ':Q5} {r:Nat} {m:List (List UInt8×Value)} (h:I5 σ r m) (c: ∀b o,σ b=some o→σ' b=some o):I5 σ' r m:=by
 obtain ⟨es,a,f,d⟩:=h
 exact ⟨es,a,c _ _ f,d⟩
theorem I5.up {σ σ':Q5} {r:Nat} {m:List (List UInt8×Value)} (h:I5 σ r m) (a:Stp w σ w' σ'):I5 σ' r m:=h.le a.le
theorem E6.lt {σ:Q5} {r:Nat} {m:List (List UInt8×Value)} (h:E6 σ w r m):r<w.heap.size:=by
 obtain ⟨_,es,a,b,_⟩:=h
 exact (Array.getElem?_eq_some_iff.1 b).1
theorem E6.up {σ σ':Q5} {r:Nat} {m:List (List UInt8×Value)} (h:E6 σ w r m) (b:Stp w σ w' σ'):E6 σ' w' r m:=by
 have a:=h.lt
 exact ⟨(b.old r a).trans h.1,(b.bel.block r a).symm▸h.2⟩
theorem Pl {t:TypeId} {σ:Q5} (a:X4 w σ) (h: ∀r w',w.heap.size≤r→Stp w σ w' σ→E6 σ w' r []→K (.map (some r)) w'):Hz P t none w K:=by
 unfold Hz
 rw[Y0 (v:= .map (some w.heap.size)) (w':=w.alloc (.map #[] 0)) (by simp[Instr.makeMap])]
 exact h _ _ (Nat.le_refl _) (Stp.own a _) ⟨a.none (Nat.le_refl _), #[],0,heap_alloc_new w _,rfl,by simp,by simp⟩
theorem E6.keep {σ σ0:Q5} {r:Nat} {m:List (List UInt8×Value)} (h:E6 σ w r m) (c:Stp w0 σ0 w σ) (i:w0.heap.size≤r): ∃σ',Stp w0 σ0 w σ'∧I5 σ' r m∧(∀k o,σ k=some o→σ' k=some o)∧(∀k,k≠r→σ' k=σ k):=by
 obtain ⟨b,es,a,g,f⟩:=h
 exact ⟨σ.put r (.map es a),c.put b i g,⟨es,a,by simp[Q5.put],f⟩,Q5.put_le c.sat b _,fun k d=>by simp only[Q5.put,if_neg d]⟩
theorem Df {t J et:TypeId} [tm:TM P t J et] (s:P.underlying J=some .string) {σ:Q5} {r:Nat} {m:List (List UInt8×Value)} (W:E6 σ w r m) (k:List UInt8) (v:Value)
 (h: ∀w',Upd w r w'→E6 σ w' r (Xd m k v)→K undef w'):mapUpdate P t (.map (some r)) (S k) v w K:=by
 obtain ⟨Q,es,d,D,N,O,C⟩:=W
 obtain ⟨Z,L,q2,q3,q4⟩:=Rc k es.toList m 0 N
 have M:(getObj r).run P w= .ok (.map es d) w:=by simp[getObj,Sem.run,D]
 have X:=(Array.getElem?_eq_some_iff.1 D).1
 have l: ∀o,o=Obj.map es d∨True→(∀c e f,o≠ .cells c e f)→(setObj r o).run P w= .ok () {w with heap:=w.heap.setIfInBounds r o}:=by
  intro o _ _
  simp[setObj,Sem.run,D]
 have A: ∀o,Upd w r {w with heap:=w.heap.setIfInBounds r o}:=fun o=>⟨rfl,rfl,rfl,by simp,fun k s=>by simp only[Array.getElem?_setIfInBounds];rw[if_neg (by omega)]⟩
 have z: ∀o,({w with heap:=w.heap.setIfInBounds r o}:World).heap[r]? =some o:=fun o=>by simp[Array.getElem?_setIfInBounds,X]
 unfold mapUpdate
 cases Z with
 | none=>
  rw[Na (w':={w with heap:=w.heap.setIfInBounds r (.map (es.push {key:=S k,val:=v,born:=d}) (d+1))}) (by
   simp only[Instr.mapUpdate,Sem.run_bind,run_underlying tm.h,Result.andThen_ok,Instr.findKey,run_underlying s,L,B0 s,M,Sem.run_pure]
   exact l _ (.inr trivial) (by intros;simp))]
  refine h _ (A _) ⟨Q,_,_,z _,?_,?_,?_⟩
  ·rw[q4 rfl];simp[N]
  ·simp only[Array.toList_push,List.map_append,List.map_cons,List.map_nil]
   rw[List.pairwise_append]
   refine ⟨O,by simp,?_⟩
   intro a ha b V
   simp at V;subst V
   obtain ⟨e,q,rfl⟩:=List.mem_map.1 ha
   exact C e q
  ·intro e q
   simp at q
   rcases q with q | rfl
   ·have:=C e (by simpa using q);omega
   ·simp
 | some p=>
  obtain ⟨j,u⟩:=p
  obtain ⟨z1,z2,H⟩:=q3 j u rfl
  obtain ⟨e,U,e2⟩:=z2
  simp only[Nat.sub_zero] at U H
  have g:((es.modify j fun e=>{e with key:=S k,val:=v}).toList.map (·.born))=es.toList.map (·.born):=by
   apply List.ext_getElem?
   intro i
   simp only[Array.toList_modify,List.getElem?_map,List.getElem?_modify]
   by_cases E:j=i<;>cases es.toList[i]? <;>simp[E]
  have n:(Instr.keyThatStays (S k) (S k)).run P w= .ok (S k) w:=by
   simp[Instr.keyThatStays,Instr.sameBits,Rr]
  rw[Na (w':={w with heap:=w.heap.setIfInBounds r (.map (es.modify j fun e=>{e with key:=S k,val:=v}) d)}) (by
   simp only[Instr.mapUpdate,Sem.run_bind,run_underlying tm.h,Result.andThen_ok,Instr.findKey,run_underlying s,L,B0 s,M,Sem.run_pure]
   rw[show ((es[j]?).map (·.key)).getD (S k)=S k by rw[←Array.getElem?_toList,U];simp[e2]]
   simp only[n,Result.andThen_ok]
   exact l _ (.inr trivial) (by intros;simp))]
  refine h _ (A _) ⟨Q,_,_,z _,?_,?_,?_⟩
  ·simp only[Array.toList_modify];exact H v
  ·rw[g];exact O
  ·intro x hx
   have:x.born∈es.toList.map (·.born):=by rw[←g];exact List.mem_map.2 ⟨x,hx,rfl⟩
   obtain ⟨y,Y,e⟩:=List.mem_map.1 this
   rw[←e];exact C y Y
end Go.Emb

namespace Go.Emb
open Go.RowKit
variable {P : Program} {w w0 w1 w' w'' : World} {K : Value → World → Prop}
theorem Z4 {c b:Bool} {a:World→(Value→World→Prop)→Prop} (e:c=b→a w K) (d:c=(!b)→K undef w):Q1 (.bool c) b w a K:=by
 cases c<;>cases b
 ·rw[Vi];exact e rfl
 ·rw[Uc];exact d rfl
 ·rw[Ta];exact d rfl
 ·rw[I3];exact e rfl
theorem Q6 {c:Bool} {t e:Prop} (b:c=true→t) (a:c=false→e):X1 (.bool c) t e:=by
 cases c
 ·rw[Uz];exact a rfl
 ·rw[Nh];exact b rfl
theorem Q8 {α:Type} {R:Q5→α→List Value→Prop} {sz:Nat} {σ:Q5} {v:Value} {xs:List α} {a e t:TypeId} {cs:List Bool} [ts:TS P a e] (h:Sl sz R σ v xs) (b:K (I xs.length) w):X5 P .len [a] t cs [v] w K:=by
 rw[X1H h];exact b
structure Kpt (D : Nat → Prop) (w w' : World) : Prop where
  os : w'.os = w.os
  tape : w'.tape = w.tape
  output : w'.output = w.output
  size : w.heap.size ≤ w'.heap.size
  block : ∀ k, k < w.heap.size → ¬ D k → w'.heap[k]? = w.heap[k]?
theorem Kpt.refl {D:Nat→Prop}:Kpt D w w:=⟨rfl,rfl,rfl,Nat.le_refl _,fun _ _ _=>rfl⟩
theorem Kpt.trans {D:Nat→Prop} (h:Kpt D w w') (k:Kpt D w' w''):Kpt D w w'':=
 ⟨k.os.trans h.os,k.tape.trans h.tape,k.output.trans h.output,Nat.le_trans h.size k.size,fun i a b=>(k.block i (Nat.lt_of_lt_of_le a h.size) b).trans (h.block i a b)⟩
theorem Kpt.of_below {D:Nat→Prop} (h:Below w.heap.size w w'):Kpt D w w':=⟨h.os,h.tape,h.output,h.size,fun k a _=>h.block k a⟩
theorem Kpt.of_grown {D:Nat→Prop} {row:Option Nat} (h:w.grownBy w' row) (c: ∀k,row=some k→D k):Kpt D w w':=⟨h.os,h.tape,h.output,h.size,fun k a b=>h.block k a (fun e=>b (c k e.symm))⟩
theorem Kpt.of_upd {D:Nat→Prop} {b:Nat} (h:Upd w b w') (c:D b):Kpt D w w':=⟨h.os,h.tape,h.output,by rw[h.size];exact Nat.le_refl _,fun k d a=>h.block k (fun e=>a (e▸c))⟩
theorem Kpt.mono {D b:Nat→Prop} (h:Kpt D w w') (d: ∀k,k<w.heap.size→D k→b k):Kpt b w w':=⟨h.os,h.tape,h.output,h.size,fun k a c=>h.block k a (fun e=>c (d k a e))⟩
theorem Kpt.below {D:Nat→Prop} (h:Kpt D w w') (b: ∀k,¬D k):Below w.heap.size w w':=⟨h.os,h.tape,h.output,h.size,fun k a=>h.block k a (b k)⟩
theorem Stp.kp {σ0 σ:Q5} {D:Nat→Prop} (a:Stp w0 σ0 w σ) (b:Kpt D w w') (f: ∀k,D k→w0.heap.size≤k∧σ k=none):Stp w0 σ0 w' σ:=by
 refine ⟨⟨b.os.trans a.bel.os,b.tape.trans a.bel.tape,b.output.trans a.bel.output,Nat.le_trans a.bel.size b.size,fun k c=>?_⟩,?_,a.le,a.old⟩
 ·refine (b.block k (Nat.lt_of_lt_of_le c a.bel.size) ?_).trans (a.bel.block k c)
  intro e;have:=(f k e).1;omega
 ·intro k o d
  refine (b.block k (a.sat.lt d) ?_).trans (a.sat k o d)
  intro e;rw[(f k e).2] at d;cases d
theorem Z5.kp {σ:Q5} {D:Nat→Prop} {k:Nat} {cs:List Value} (h:Z5 σ w k cs) (c:Kpt D w w') (a: ¬D k):Z5 σ w' k cs:=by
 have b:=h.lt
 obtain ⟨f,e,d⟩:=h
 exact ⟨f,e,(c.block k b a).trans d⟩
theorem E6.kp {σ:Q5} {D:Nat→Prop} {r:Nat} {m:List (List UInt8×Value)} (h:E6 σ w r m) (b:Kpt D w w') (a: ¬D r):E6 σ w' r m:=
 ⟨h.1,(b.block r h.lt a).symm▸h.2⟩
theorem V7.kp {α:Type} {R:Q5→α→List Value→Prop} {B sz:Nat} {e:TypeId} {σ:Q5} {v:Value} {xs:List α} {D:Nat→Prop} (h:V7 B e sz R σ w v xs) (j:Kpt D w w') (d: ∀k,v.ownBlock=some k→ ¬D k):V7 B e sz R σ w' v xs:=by
 obtain ⟨cells,i,l,m⟩:=h
 refine ⟨cells,⟨i.1,?_⟩,l,m⟩
 rcases i.2 with n | ⟨g,b,c,rfl,o,f,a⟩
 ·exact .inl n
 ·refine .inr ⟨g,b,c,rfl,o,?_,a⟩
  rw[j.block g (Array.getElem?_eq_some_iff.1 f).1 (d g rfl)];exact f
theorem bt {w w1 b:World} (a:Below w.heap.size w w1) (c:Below w1.heap.size w1 b):Below w.heap.size w b:=a.trans (c.mono a.size)
abbrev Z9:Nat:=140737488351232
def Y1 (_:Q5) (s:List UInt8) (cs:List Value):Prop:=cs=[S s]∧s.length≤Z9
instance:Rep Y1:=⟨fun _ h=>h,fun h u hu=>by rw[h.1] at hu;simp at hu;subst hu;rfl⟩
def Un (_:Q5) (n:Int) (cs:List Value):Prop:=cs=[I n]∧ -9223372036854775808≤n∧n≤9223372036854775807
instance:Rep Un:=⟨fun _ h=>h,fun h u hu=>by rw[h.1] at hu;simp at hu;subst hu;rfl⟩
def Q1A (_:Q5) (b:Bool) (cs:List Value):Prop:=cs=[.bool b]
instance:Rep Q1A:=⟨fun _ h=>h,fun h u hu=>by rw[h] at hu;simp at hu;subst hu;rfl⟩
def UpI (N:Nat) (a:Nat→World→Prop) (x:Value) (w:World):Prop:= ∃n:Nat,x=I n∧n≤N∧a n w
def UpM (N:Nat) (x:Value):Nat:=match x with | .int _ n=>N-n.toNat | _=>0
theorem J1 {A:(Value→World→Prop)→Value→(Nat→Value)→World→Prop} (N:Nat) (a:Nat→World→Prop) (e:a 0 w)
 (b: ∀n w d,n≤N→a n w→A (fun y w'=>UpI N a y w'∧UpM N y<UpM N (I n)) (I n) d w):lp (α:=Value) (.int .i64 0) w A:=by
 refine Zw (UpI N a) (fun x _=>UpM N x) ⟨0,rfl,Nat.zero_le _,e⟩ ?_
 rintro _ d w' ⟨n,rfl,f,c⟩
 exact b n w' d f c
theorem Y2 {N n:Nat} {a:Nat→World→Prop} (d:N≤9223372036854775807) (c:n<N) (b:a (n+1) w):UpI N a (.int .i64 (IntKind.i64.wrap (n+1))) w∧UpM N (.int .i64 (IntKind.i64.wrap (n+1)))<UpM N (I n):=by
 rw[F4 (by omega) (by omega)]
 exact ⟨⟨n+1,rfl,c,b⟩,by simp only[UpM];omega⟩
def Sj {α:Type} (N:Nat) (a:Nat→α→World→Prop) (x:α×Value) (w:World):Prop:= ∃n:Nat,x.2=I n∧n≤N∧a n x.1 w
def Ww {α:Type} (N:Nat) (x:α×Value):Nat:=UpM N x.2
theorem D3 {α:Type} {A:(α×Value→World→Prop)→α×Value→(Nat→Value)→World→Prop} {a:α} (N:Nat) (b:Nat→α→World→Prop) (g:b 0 a w)
 (c: ∀n a w d,n≤N→b n a w→A (fun y w'=>Sj N b y w'∧Ww N y<Ww N (a,I n)) (a,I n) d w):lp (α:=α×Value) (a, .int .i64 0) w A:=by
 refine Zw (Sj N b) (fun x _=>Ww N x) ⟨0,rfl,Nat.zero_le _,g⟩ ?_
 rintro ⟨a,x⟩ d w' ⟨n,f,h,e⟩
 simp only at f e
 subst f
 exact c n a w' d h e
theorem Z6 {α:Type} {a c:α} {N n:Nat} {b:Nat→α→World→Prop} (f:N≤9223372036854775807) (e:n<N) (d:b (n+1) c w):Sj N b (c, .int .i64 (IntKind.i64.wrap (n+1))) w∧Ww N (c, .int .i64 (IntKind.i64.wrap (n+1)))<Ww N (a,I n):=by
 rw[F4 (by omega) (by omega)]
 exact ⟨⟨n+1,rfl,e,d⟩,by simp only[Ww,UpM];omega⟩
theorem L7 {α:Type} {R:Q5→α→List Value→Prop} {sz:Nat} {σ:Q5} {v:Value} {xs:List α} {t e:TypeId} {by_:Nat} {z:Value} [TS P t e] [TZ P e sz by_ z] (h:Sl sz R σ v xs) {n:Nat} (g:n<xs.length)
 (b: ∀a cs,Z3 σ a cs→cs.length=sz→R σ xs[n] cs→K (.pointer (some a)) w):indexAddr P t v (I n) w K:=
 X2l h (by omega) (by simpa using g) (fun a cs d c f=>b a cs d c (by simpa using f))
theorem Y6 {t:TypeId} {sz by_:Nat} {z:Value} {A:Value→Value→World→Prop} [tz:TZ P t sz by_ z] {σ:Q5} {cs:List Value} (o:X4 w σ) (i:z.cells.size=sz) (g:cs.length=sz) (l: ∀u∈cs,u.oneCell'=true)
 (h: ∀a w' d,Stp w σ w' d→Z3 d a cs→A (.pointer (some a)) undef w'):W4 P t w (fun p w=>Z0 P t p (.agg cs.toArray) w (fun u w=>A p u w)):=by
 refine Ey o fun b w1 f k e=>?_
 refine sta e (by simpa using i) g (by rw[List.all_toArray];exact List.all_eq_true.2 l) fun j q c=>?_
 have r:Stp w σ j σ:=q.stp k f e.1
 obtain ⟨d,n,m,_⟩:=c.keep r f
 exact h _ _ _ n m
theorem U3 {t:TypeId} {by_:Nat} {z:Value} {A:Value→Value→World→Prop} [tz:TZ P t 1 by_ z] {σ:Q5} {v:Value} (r:X4 w σ) (j:z.cells.size=1) (k:v.cells= #[v]) (n:v.oneCell'=true)
 (h: ∀a w' d,Stp w σ w' d→Z3 d a [v]→A (.pointer (some a)) undef w'):W4 P t w (fun p w=>Z0 P t p v w (fun u w=>A p u w)):=by
 refine Ey r fun b w1 g m f=>?_
 have i:z.cells.toList.length=1:=by simpa using j
 refine st0 f (by omega) k n fun l s c=>?_
 have y:Stp w σ l σ:=s.stp m g f.1
 have e:z.cells.toList.set 0 v=[v]:=by
  match hzl:z.cells.toList,i with
  | [x],_=>rfl
 rw[e] at c
 obtain ⟨d,q,o,_⟩:=c.keep y g
 exact h _ _ _ q o
theorem M4 {α:Type} {xs:List α} {p:α→Bool} {n:Nat} (h:n<xs.length):(xs.take (n+1)).any p=((xs.take n).any p||p xs[n]):=by
 rw[List.take_add_one,List.getElem?_eq_getElem h,List.any_append];simp
theorem C4 {α:Type} {xs:List α} {p:α→Bool} {n:Nat} (h:n<xs.length) (a:p xs[n]=true):xs.any p=true:=List.any_eq_true.2 ⟨_,List.getElem_mem h,a⟩
theorem D5 {α:Type} {xs:List α} {p:α→Bool} {n:Nat} (h: ¬n<xs.length):(xs.take n).any p=xs.any p:=by rw[List.take_of_length_le (by omega)]
end Go.Emb

namespace Go.Hm
open Go.Kd
structure Fld where
  name : X0
  kind : X0
  tr : Bool
deriving DecidableEq
structure Ins where
  op : X0
  n : Int
  s : X0
deriving DecidableEq
structure Cat where
  frm : Int
  to : Int
  at_ : Int
  cls : X0
deriving DecidableEq
structure Met where
  name : X0
  params : List X0
  result : X0
  abs : Bool
  locals : Int
  code : List Ins
  catches : List Cat
deriving DecidableEq
structure Cla where
  name : X0
  super : X0
  like : List X0
  iface : Bool
  abs : Bool
  fin : Bool
  fields : List Fld
  methods : List Hm.Met
deriving DecidableEq
def Fld.zero:Fld:=⟨[],[],false⟩
def Met.zero:Hm.Met:=⟨[],[],[],false,0,[],[]⟩
def Cla.zero:Cla:=⟨[],[],[],false,false,false,[],[]⟩
end Go.Hm

namespace Go.Emb
open Go.RowKit Go.Hm
abbrev Q11 (n:Int):Prop:= -9223372036854775808≤n∧n≤9223372036854775807
def E2 (_:Q5) (f:Fld) (cs:List Value):Prop:=cs=[S f.name,S f.kind, .bool f.tr]∧f.name.length≤Z9∧f.kind.length≤Z9
def I8 (_:Q5) (i:Ins) (cs:List Value):Prop:=cs=[S i.op,I i.n,S i.s]∧i.op.length≤Z9∧Q11 i.n∧i.s.length≤Z9
def Yo (_:Q5) (c:Cat) (cs:List Value):Prop:=cs=[I c.frm,I c.to,I c.at_,S c.cls]∧Q11 c.frm∧Q11 c.to∧Q11 c.at_∧c.cls.length≤Z9
def M6 (σ:Q5) (m:Hm.Met) (cs:List Value):Prop:= ∃pv a b,cs=[S m.name,pv,S m.result, .bool m.abs,I m.locals,a,b]∧Sl 1 Y1 σ pv m.params∧Sl 3 I8 σ a m.code∧Sl 4 Yo σ b m.catches∧m.name.length≤Z9∧m.result.length≤Z9∧Q11 m.locals
def U5 (σ:Q5) (c:Cla) (cs:List Value):Prop:= ∃a b mv,cs=[S c.name,S c.super,a, .bool c.iface, .bool c.abs, .bool c.fin,b,mv]∧Sl 1 Y1 σ a c.like∧Sl 3 E2 σ b c.fields∧Sl 7 M6 σ mv c.methods∧c.name.length≤Z9∧c.super.length≤Z9
theorem F9 {α:Type} {sz:Nat} {R:Q5→α→List Value→Prop} {σ:Q5} {v:Value} {xs:List α} (h:Sl sz R σ v xs):v.oneCell'=true:=by
 obtain ⟨a,b,rfl,_⟩:=h;rfl
instance:Rep E2:=⟨fun _ h=>h,fun h u hu=>by rw[h.1] at hu;simp at hu;rcases hu with rfl | rfl | rfl<;>rfl⟩
instance:Rep I8:=⟨fun _ h=>h,fun h u hu=>by rw[h.1] at hu;simp at hu;rcases hu with rfl | rfl | rfl<;>rfl⟩
instance:Rep Yo:=⟨fun _ h=>h,fun h u hu=>by rw[h.1] at hu;simp at hu;rcases hu with rfl | rfl | rfl | rfl<;>rfl⟩
instance:Rep M6:=⟨fun hk ⟨pv,cv,hv,h1,h2,h3,h4,h5⟩=>⟨pv,cv,hv,h1,h2.le hk,h3.le hk,h4.le hk,h5⟩,fun ⟨pv,cv,hv,h1,h2,h3,h4,h5⟩ u hu=>by
 rw[h1] at hu;simp at hu;rcases hu with rfl | rfl | rfl | rfl | rfl | rfl | rfl
 ·rfl
 ·exact F9 h2
 ·rfl
 ·rfl
 ·rfl
 ·exact F9 h3
 ·exact F9 h4⟩
instance:Rep U5:=⟨fun hk ⟨pv,cv,hv,h1,h2,h3,h4,h5⟩=>⟨pv,cv,hv,h1,h2.le hk,h3.le hk,h4.le hk,h5⟩,fun ⟨pv,cv,hv,h1,h2,h3,h4,h5⟩ u hu=>by
 rw[h1] at hu;simp at hu;rcases hu with rfl | rfl | rfl | rfl | rfl | rfl | rfl | rfl
 ·rfl
 ·rfl
 ·exact F9 h2
 ·rfl
 ·rfl
 ·rfl
 ·exact F9 h3
 ·exact F9 h4⟩
end Go.Emb

namespace Go.Proofs.YtfppjenblllfaaaGreatDoor
open Go.Emb
instance z_x:TZ P T.x 1 0 (.tuple #[]):=⟨by kernel_rfl⟩
instance g_x:TG P T.x false:=⟨by kernel_rfl⟩
instance z_int64:TZ P T.al 1 8 (.int .i64 0):=⟨by kernel_rfl⟩
instance g_int64:TG P T.al false:=⟨by kernel_rfl⟩
instance z_int:TZ P T.e 1 8 (.int .i64 0):=⟨by kernel_rfl⟩
instance g_int:TG P T.e false:=⟨by kernel_rfl⟩
instance z_bool:TZ P T.m 1 1 (.bool false):=⟨by kernel_rfl⟩
instance g_bool:TG P T.m false:=⟨by kernel_rfl⟩
instance z_uint8:TZ P T.w 1 1 (.int .u8 0):=⟨by kernel_rfl⟩
instance g_uint8:TG P T.w false:=⟨by kernel_rfl⟩
instance z_string:TZ P T.b 1 16 (.string ⟨#[]⟩):=⟨by kernel_rfl⟩
instance g_string:TG P T.b false:=⟨by kernel_rfl⟩
instance z_uintptr:TZ P T.ao 1 8 (.int .u64 0):=⟨by kernel_rfl⟩
instance g_uintptr:TG P T.ao false:=⟨by kernel_rfl⟩
instance z_int32:TZ P T.af 1 4 (.int .i32 0):=⟨by kernel_rfl⟩
instance g_int32:TG P T.af false:=⟨by kernel_rfl⟩
instance z_S_string:TZ P T.c 1 24 (.slice none 0 0):=⟨by kernel_rfl⟩
instance g_S_string:TG P T.c false:=⟨by kernel_rfl⟩
instance s_S_string:TS P T.c 9:=⟨by kernel_rfl⟩
instance z_api_Shape:TZ P T.f 3 56 (.agg #[.bool false, .slice none 0 0, .slice none 0 0]):=⟨by kernel_rfl⟩
instance g_api_Shape:TG P T.f true:=⟨by kernel_rfl⟩
instance f_api_Shape_0:TF P T.f 0 0 4:=⟨by kernel_rfl⟩
instance f_api_Shape_1:TF P T.f 1 1 22:=⟨by kernel_rfl⟩
instance f_api_Shape_2:TF P T.f 2 2 22:=⟨by kernel_rfl⟩
instance z_P_hier_Table:TZ P T.r 1 8 (.pointer none):=⟨by kernel_rfl⟩
instance g_P_hier_Table:TG P T.r false:=⟨by kernel_rfl⟩
instance z_S_api_Class:TZ P T.h 1 24 (.slice none 0 0):=⟨by kernel_rfl⟩
instance g_S_api_Class:TG P T.h false:=⟨by kernel_rfl⟩
instance s_S_api_Class:TS P T.h 82:=⟨by kernel_rfl⟩
instance z_api_Errno:TZ P T.s 1 8 (.int .i64 0):=⟨by kernel_rfl⟩
instance g_api_Errno:TG P T.s false:=⟨by kernel_rfl⟩
instance z_S_api_Instr:TZ P T.l 1 24 (.slice none 0 0):=⟨by kernel_rfl⟩
instance g_S_api_Instr:TG P T.l false:=⟨by kernel_rfl⟩
instance s_S_api_Instr:TS P T.l 42:=⟨by kernel_rfl⟩
instance z_S_api_Catch:TZ P T.o 1 24 (.slice none 0 0):=⟨by kernel_rfl⟩
instance g_S_api_Catch:TG P T.o false:=⟨by kernel_rfl⟩
instance s_S_api_Catch:TS P T.o 159:=⟨by kernel_rfl⟩
instance z_api_Method:TZ P T.d 7 120 (.agg #[.string ⟨#[]⟩, .slice none 0 0, .string ⟨#[]⟩, .bool false, .int .i64 0, .slice none 0 0, .slice none 0 0]):=⟨by kernel_rfl⟩
instance g_api_Method:TG P T.d true:=⟨by kernel_rfl⟩
instance f_api_Method_0:TF P T.d 0 0 9:=⟨by kernel_rfl⟩
instance f_api_Method_1:TF P T.d 1 1 22:=⟨by kernel_rfl⟩
instance f_api_Method_2:TF P T.d 2 2 9:=⟨by kernel_rfl⟩
instance f_api_Method_3:TF P T.d 3 3 4:=⟨by kernel_rfl⟩
instance f_api_Method_4:TF P T.d 4 4 3:=⟨by kernel_rfl⟩
instance f_api_Method_5:TF P T.d 5 5 37:=⟨by kernel_rfl⟩
instance f_api_Method_6:TF P T.d 6 6 38:=⟨by kernel_rfl⟩
instance z_api_Instr:TZ P T.n 3 40 (.agg #[.string ⟨#[]⟩, .int .i64 0, .string ⟨#[]⟩]):=⟨by kernel_rfl⟩
instance g_api_Instr:TG P T.n true:=⟨by kernel_rfl⟩
instance f_api_Instr_0:TF P T.n 0 0 9:=⟨by kernel_rfl⟩
instance f_api_Instr_1:TF P T.n 1 1 2:=⟨by kernel_rfl⟩
instance f_api_Instr_2:TF P T.n 2 2 9:=⟨by kernel_rfl⟩
instance z_A2_api_Shape:TZ P T.ak 6 112 (.agg #[.bool false, .slice none 0 0, .slice none 0 0, .bool false, .slice none 0 0, .slice none 0 0]):=⟨by kernel_rfl⟩
instance g_A2_api_Shape:TG P T.ak true:=⟨by kernel_rfl⟩
instance a_A2_api_Shape:TA P T.ak 2 24:=⟨by kernel_rfl⟩
instance z_func_string_bool:TZ P T.y 1 8 .nilFunc:=⟨by kernel_rfl⟩
instance g_func_string_bool:TG P T.y false:=⟨by kernel_rfl⟩
instance z_S_int:TZ P T.a0 1 24 (.slice none 0 0):=⟨by kernel_rfl⟩
instance g_S_int:TG P T.a0 false:=⟨by kernel_rfl⟩
instance s_S_int:TS P T.a0 3:=⟨by kernel_rfl⟩
instance z_step_doer:TZ P T.t 15 232 (.agg #[.pointer none, .string ⟨#[]⟩, .slice none 0 0, .string ⟨#[]⟩, .bool false, .int .i64 0, .slice none 0 0, .slice none 0 0, .string ⟨#[]⟩, .int .i64 0, .string ⟨#[]⟩, .bool false, .slice none 0 0, .slice none 0 0, .int .i64 0]):=⟨by kernel_rfl⟩
instance g_step_doer:TG P T.t true:=⟨by kernel_rfl⟩
instance f_step_doer_0:TF P T.t 0 0 25:=⟨by kernel_rfl⟩
instance f_step_doer_1:TF P T.t 1 1 40:=⟨by kernel_rfl⟩
instance f_step_doer_2:TF P T.t 2 8 42:=⟨by kernel_rfl⟩
instance f_step_doer_3:TF P T.t 3 11 24:=⟨by kernel_rfl⟩
instance f_step_doer_4:TF P T.t 4 14 31:=⟨by kernel_rfl⟩
instance z_M_string_funcP_step_doer:TZ P T.j 1 8 (.map none):=⟨by kernel_rfl⟩
instance g_M_string_funcP_step_doer:TG P T.j false:=⟨by kernel_rfl⟩
instance m_M_string_funcP_step_doer:TM P T.j 9 69:=⟨by kernel_rfl⟩
instance z_M_string_int:TZ P T.v 1 8 (.map none):=⟨by kernel_rfl⟩
instance g_M_string_int:TG P T.v false:=⟨by kernel_rfl⟩
instance m_M_string_int:TM P T.v 9 3:=⟨by kernel_rfl⟩
instance z_hier_Table:TZ P T.u 2 32 (.agg #[.slice none 0 0, .map none]):=⟨by kernel_rfl⟩
instance g_hier_Table:TG P T.u true:=⟨by kernel_rfl⟩
instance f_hier_Table_0:TF P T.u 0 0 26:=⟨by kernel_rfl⟩
instance f_hier_Table_1:TF P T.u 1 1 76:=⟨by kernel_rfl⟩
instance z_S_api_Field:TZ P T.i 1 24 (.slice none 0 0):=⟨by kernel_rfl⟩
instance g_S_api_Field:TG P T.i false:=⟨by kernel_rfl⟩
instance s_S_api_Field:TS P T.i 89:=⟨by kernel_rfl⟩
instance z_S_api_Method:TZ P T.g 1 24 (.slice none 0 0):=⟨by kernel_rfl⟩
instance g_S_api_Method:TG P T.g false:=⟨by kernel_rfl⟩
instance s_S_api_Method:TS P T.g 40:=⟨by kernel_rfl⟩
instance z_api_Class:TZ P T.a 8 112 (.agg #[.string ⟨#[]⟩, .string ⟨#[]⟩, .slice none 0 0, .bool false, .bool false, .bool false, .slice none 0 0, .slice none 0 0]):=⟨by kernel_rfl⟩
instance g_api_Class:TG P T.a true:=⟨by kernel_rfl⟩
instance f_api_Class_0:TF P T.a 0 0 9:=⟨by kernel_rfl⟩
instance f_api_Class_1:TF P T.a 1 1 9:=⟨by kernel_rfl⟩
instance f_api_Class_2:TF P T.a 2 2 22:=⟨by kernel_rfl⟩
instance f_api_Class_3:TF P T.a 3 3 4:=⟨by kernel_rfl⟩
instance f_api_Class_4:TF P T.a 4 4 4:=⟨by kernel_rfl⟩
instance f_api_Class_5:TF P T.a 5 5 4:=⟨by kernel_rfl⟩
instance f_api_Class_6:TF P T.a 6 6 79:=⟨by kernel_rfl⟩
instance f_api_Class_7:TF P T.a 7 7 80:=⟨by kernel_rfl⟩
instance z_api_Field:TZ P T.k 3 40 (.agg #[.string ⟨#[]⟩, .string ⟨#[]⟩, .bool false]):=⟨by kernel_rfl⟩
instance g_api_Field:TG P T.k true:=⟨by kernel_rfl⟩
instance f_api_Field_0:TF P T.k 0 0 9:=⟨by kernel_rfl⟩
instance f_api_Field_1:TF P T.k 1 1 9:=⟨by kernel_rfl⟩
instance f_api_Field_2:TF P T.k 2 2 4:=⟨by kernel_rfl⟩
instance z_S_S_bool:TZ P T.a1 1 24 (.slice none 0 0):=⟨by kernel_rfl⟩
instance g_S_S_bool:TG P T.a1 false:=⟨by kernel_rfl⟩
instance s_S_S_bool:TS P T.a1 94:=⟨by kernel_rfl⟩
instance z_S_bool:TZ P T.z 1 24 (.slice none 0 0):=⟨by kernel_rfl⟩
instance g_S_bool:TG P T.z false:=⟨by kernel_rfl⟩
instance s_S_bool:TS P T.z 4:=⟨by kernel_rfl⟩
instance z_A10_string:TZ P T.ah 10 160 (.agg #[.string ⟨#[]⟩, .string ⟨#[]⟩, .string ⟨#[]⟩, .string ⟨#[]⟩, .string ⟨#[]⟩, .string ⟨#[]⟩, .string ⟨#[]⟩, .string ⟨#[]⟩, .string ⟨#[]⟩, .string ⟨#[]⟩]):=⟨by kernel_rfl⟩
instance g_A10_string:TG P T.ah true:=⟨by kernel_rfl⟩
instance a_A10_string:TA P T.ah 10 9:=⟨by kernel_rfl⟩
instance g_strings_asciiSet:TG P T.a4 true:=⟨by kernel_rfl⟩
instance a_strings_asciiSet:TA P T.a4 256 4:=⟨by kernel_rfl⟩
instance z_A6_string:TZ P T.ag 6 96 (.agg #[.string ⟨#[]⟩, .string ⟨#[]⟩, .string ⟨#[]⟩, .string ⟨#[]⟩, .string ⟨#[]⟩, .string ⟨#[]⟩]):=⟨by kernel_rfl⟩
instance g_A6_string:TG P T.ag true:=⟨by kernel_rfl⟩
instance a_A6_string:TA P T.ag 6 9:=⟨by kernel_rfl⟩
instance z_func_int:TZ P T.ai 1 8 .nilFunc:=⟨by kernel_rfl⟩
instance g_func_int:TG P T.ai false:=⟨by kernel_rfl⟩
instance z_M_string_string:TZ P T.q 1 8 (.map none):=⟨by kernel_rfl⟩
instance g_M_string_string:TG P T.q false:=⟨by kernel_rfl⟩
instance m_M_string_string:TM P T.q 9 9:=⟨by kernel_rfl⟩
instance z_func_api_Method_string:TZ P T.a2 1 8 .nilFunc:=⟨by kernel_rfl⟩
instance g_func_api_Method_string:TG P T.a2 false:=⟨by kernel_rfl⟩
instance z_func_api_Method_bool:TZ P T.a7 1 8 .nilFunc:=⟨by kernel_rfl⟩
instance g_func_api_Method_bool:TG P T.a7 false:=⟨by kernel_rfl⟩
instance z_func_string_string:TZ P T.a5 1 8 .nilFunc:=⟨by kernel_rfl⟩
instance g_func_string_string:TG P T.a5 false:=⟨by kernel_rfl⟩
instance z_func_api_Field_string:TZ P T.a3 1 8 .nilFunc:=⟨by kernel_rfl⟩
instance g_func_api_Field_string:TG P T.a3 false:=⟨by kernel_rfl⟩
instance z_func_api_Field_bool:TZ P T.a9 1 8 .nilFunc:=⟨by kernel_rfl⟩
instance g_func_api_Field_bool:TG P T.a9 false:=⟨by kernel_rfl⟩
instance z_api_Catch:TZ P T.p 4 40 (.agg #[.int .i64 0, .int .i64 0, .int .i64 0, .string ⟨#[]⟩]):=⟨by kernel_rfl⟩
instance g_api_Catch:TG P T.p true:=⟨by kernel_rfl⟩
instance f_api_Catch_0:TF P T.p 0 0 3:=⟨by kernel_rfl⟩
instance f_api_Catch_1:TF P T.p 1 1 3:=⟨by kernel_rfl⟩
instance f_api_Catch_2:TF P T.p 2 2 3:=⟨by kernel_rfl⟩
instance f_api_Catch_3:TF P T.p 3 3 9:=⟨by kernel_rfl⟩
instance z_func_api_Catch_bool:TZ P T.aa 1 8 .nilFunc:=⟨by kernel_rfl⟩
instance g_func_api_Catch_bool:TG P T.aa false:=⟨by kernel_rfl⟩
instance z_func_api_Instr_bool:TZ P T.ab 1 8 .nilFunc:=⟨by kernel_rfl⟩
instance g_func_api_Instr_bool:TG P T.ab false:=⟨by kernel_rfl⟩
instance z_S_uint8:TZ P T.am 1 24 (.slice none 0 0):=⟨by kernel_rfl⟩
instance g_S_uint8:TG P T.am false:=⟨by kernel_rfl⟩
instance s_S_uint8:TS P T.am 5:=⟨by kernel_rfl⟩
instance z_strings_Builder:TZ P T.ad 2 32 (.agg #[.pointer none, .slice none 0 0]):=⟨by kernel_rfl⟩
instance g_strings_Builder:TG P T.ad true:=⟨by kernel_rfl⟩
instance f_strings_Builder_0:TF P T.ad 0 0 185:=⟨by kernel_rfl⟩
instance f_strings_Builder_1:TF P T.ad 1 1 186:=⟨by kernel_rfl⟩
instance z_P_uint8:TZ P T.ap 1 8 (.pointer none):=⟨by kernel_rfl⟩
instance g_P_uint8:TG P T.ap false:=⟨by kernel_rfl⟩
instance g_A256_uint8:TG P T.an true:=⟨by kernel_rfl⟩
instance a_A256_uint8:TA P T.an 256 5:=⟨by kernel_rfl⟩
instance z_utf8_acceptRange:TZ P T.ac 2 2 (.agg #[.int .u8 0, .int .u8 0]):=⟨by kernel_rfl⟩
instance g_utf8_acceptRange:TG P T.ac true:=⟨by kernel_rfl⟩
instance f_utf8_acceptRange_0:TF P T.ac 0 0 5:=⟨by kernel_rfl⟩
instance f_utf8_acceptRange_1:TF P T.ac 1 1 5:=⟨by kernel_rfl⟩
instance z_A16_utf8_acceptRange:TZ P T.ae 32 32 (.agg #[.int .u8 0, .int .u8 0, .int .u8 0, .int .u8 0, .int .u8 0, .int .u8 0, .int .u8 0, .int .u8 0, .int .u8 0, .int .u8 0, .int .u8 0, .int .u8 0, .int .u8 0, .int .u8 0, .int .u8 0, .int .u8 0, .int .u8 0, .int .u8 0, .int .u8 0, .int .u8 0, .int .u8 0, .int .u8 0, .int .u8 0, .int .u8 0, .int .u8 0, .int .u8 0, .int .u8 0, .int .u8 0, .int .u8 0, .int .u8 0, .int .u8 0, .int .u8 0]):=⟨by kernel_rfl⟩
instance g_A16_utf8_acceptRange:TG P T.ae true:=⟨by kernel_rfl⟩
instance a_A16_utf8_acceptRange:TA P T.ae 16 202:=⟨by kernel_rfl⟩
instance z_code_op:TZ P T.a6 3 24 (.agg #[.string ⟨#[]⟩, .bool false, .bool false]):=⟨by kernel_rfl⟩
instance g_code_op:TG P T.a6 true:=⟨by kernel_rfl⟩
instance f_code_op_0:TF P T.a6 0 0 9:=⟨by kernel_rfl⟩
instance f_code_op_1:TF P T.a6 1 1 4:=⟨by kernel_rfl⟩
instance f_code_op_2:TF P T.a6 2 2 4:=⟨by kernel_rfl⟩
instance g_A42_code_op:TG P T.a8 true:=⟨by kernel_rfl⟩
instance a_A42_code_op:TA P T.a8 42 206:=⟨by kernel_rfl⟩
instance z_S_code_op:TZ P T.aj 1 24 (.slice none 0 0):=⟨by kernel_rfl⟩
instance g_S_code_op:TG P T.aj false:=⟨by kernel_rfl⟩
instance s_S_code_op:TS P T.aj 206:=⟨by kernel_rfl⟩
instance z_uint32:TZ P T.aq 1 4 (.int .u32 0):=⟨by kernel_rfl⟩
instance g_uint32:TG P T.aq false:=⟨by kernel_rfl⟩
instance z_uint64:TZ P T.ar 1 8 (.int .u64 0):=⟨by kernel_rfl⟩
instance g_uint64:TG P T.ar false:=⟨by kernel_rfl⟩
end Go.Proofs.YtfppjenblllfaaaGreatDoor

namespace Go.Emb
theorem aS {p:Prop} (h:p:=by (first | assumption | exact Stp.sat (by assumption) | exact Hst.sat (by assumption))):p:=h
theorem aL {p:Prop} (h:p:=by (first | assumption | exact Sl.lift (by assumption) (by (repeat (first | exact SLe.refl _ | refine SLe.more ?_ (by assumption) | refine SLe.more ?_ (Nxt.le (by assumption)) | refine SLe.step ?_ (by assumption)))) | exact Z3.lift (by assumption) (by (repeat (first | exact SLe.refl _ | refine SLe.more ?_ (by assumption) | refine SLe.more ?_ (Nxt.le (by assumption)) | refine SLe.step ?_ (by assumption)))) | exact I5.lift (by assumption) (by (repeat (first | exact SLe.refl _ | refine SLe.more ?_ (by assumption) | refine SLe.more ?_ (Nxt.le (by assumption)) | refine SLe.step ?_ (by assumption)))) | exact RCl_lift (by assumption) (by (repeat (first | exact SLe.refl _ | refine SLe.more ?_ (by assumption) | refine SLe.more ?_ (Nxt.le (by assumption)) | refine SLe.step ?_ (by assumption)))) | exact RMe_lift (by assumption) (by (repeat (first | exact SLe.refl _ | refine SLe.more ?_ (by assumption) | refine SLe.more ?_ (Nxt.le (by assumption)) | refine SLe.step ?_ (by assumption)))) | exact Glb.lift (by assumption) (by (repeat (first | exact SLe.refl _ | refine SLe.more ?_ (by assumption) | refine SLe.more ?_ (Nxt.le (by assumption)) | refine SLe.step ?_ (by assumption)))) | exact Tab.lift (by assumption) (by (repeat (first | exact SLe.refl _ | refine SLe.more ?_ (by assumption) | refine SLe.more ?_ (Nxt.le (by assumption)) | refine SLe.step ?_ (by assumption)))) | exact RIn_any (by assumption) | exact RFd_any (by assumption) | exact RCa_any (by assumption))):p:=h
theorem aR {p:Prop} (h:p:=by with_unfolding_all rfl):p:=h
theorem aF {p:Prop} (a:p:=by (refine Eq.subst (motive:=fun b=>K b _) ?_ (h _ _ (by (repeat (first | exact Stp.refl (by (first | assumption | exact Stp.sat (by assumption) | exact Hst.sat (by assumption))) | assumption | refine Stp.trans ?_ (by first | assumption | exact Hst.stp (by assumption))))));clear h;(try clear hA);(try clear hB);(try clear hC);first | rfl | ((try simp only[Bool.not_eq_true',Bool.not_eq_false',Bool.not_true,Bool.not_false,Bool.not_eq_true] at*);simp only[*,Mb,reduceIte];done) | (simp[*];done) | simp_all)):p:=a
theorem au {p:Prop} (h:p:=by (first | assumption | (first | assumption | exact Stp.sat (by assumption) | exact Hst.sat (by assumption)) | (first | assumption | exact Sl.lift (by assumption) (by (repeat (first | exact SLe.refl _ | refine SLe.more ?_ (by assumption) | refine SLe.more ?_ (Nxt.le (by assumption)) | refine SLe.step ?_ (by assumption)))) | exact Z3.lift (by assumption) (by (repeat (first | exact SLe.refl _ | refine SLe.more ?_ (by assumption) | refine SLe.more ?_ (Nxt.le (by assumption)) | refine SLe.step ?_ (by assumption)))) | exact I5.lift (by assumption) (by (repeat (first | exact SLe.refl _ | refine SLe.more ?_ (by assumption) | refine SLe.more ?_ (Nxt.le (by assumption)) | refine SLe.step ?_ (by assumption)))) | exact RCl_lift (by assumption) (by (repeat (first | exact SLe.refl _ | refine SLe.more ?_ (by assumption) | refine SLe.more ?_ (Nxt.le (by assumption)) | refine SLe.step ?_ (by assumption)))) | exact RMe_lift (by assumption) (by (repeat (first | exact SLe.refl _ | refine SLe.more ?_ (by assumption) | refine SLe.more ?_ (Nxt.le (by assumption)) | refine SLe.step ?_ (by assumption)))) | exact Glb.lift (by assumption) (by (repeat (first | exact SLe.refl _ | refine SLe.more ?_ (by assumption) | refine SLe.more ?_ (Nxt.le (by assumption)) | refine SLe.step ?_ (by assumption)))) | exact Tab.lift (by assumption) (by (repeat (first | exact SLe.refl _ | refine SLe.more ?_ (by assumption) | refine SLe.more ?_ (Nxt.le (by assumption)) | refine SLe.step ?_ (by assumption)))) | exact RIn_any (by assumption) | exact RFd_any (by assumption) | exact RCa_any (by assumption)) | exact Nat.le_trans (by assumption) (by decide) | omega)):p:=h
end Go.Emb
namespace Go.Proofs.YtfppjenblllfaaaGreatDoor
open Go.Emb
theorem X2x {a:List UInt8} {cs:List Bool} {r:TypeId} {w:World} {K:Value→World→Prop}:X5 P .len [T.b] r cs [S a] w K=K (I a.length) w:=D7 X7
theorem Q3J {d c:Operand} {a b:Bool} {w:World} {K:Value→World→Prop}:Q3 P .eql T.m d c (.bool a) (.bool b) w K=K (.bool (a==b)) w:=Q4H Q01
theorem X2d {d c:Operand} {a b:Bool} {w:World} {K:Value→World→Prop}:Q3 P .neq T.m d c (.bool a) (.bool b) w K=K (.bool (!(a==b))) w:=Q3W Q01
def Mm:=And.intro @fa <| And.intro @E9 <| And.intro @Qp <| And.intro @X2x <| And.intro @Q3J @X2d
def M1:=And.intro Mm Mr
def M2:=And.intro Mm Mp
end Go.Proofs.YtfppjenblllfaaaGreatDoor
