/- Parts of a proof about the given program: its functions as texts of their own, what each computes, plain laws of that. The conditions of each stand in its statement. -/
import Derived.Test.YtfppjenblllfaaaGreatDoorB1
import Derived.Below
import Derived.Maps.AppendAt
set_option linter.unnecessarySimpa false
set_option linter.defProp false
set_option linter.unusedSectionVars false
set_option linter.unusedVariables false
set_option linter.unusedSimpArgs false
set_option maxRecDepth 100000
namespace Go.Proofs.YtfppjenblllfaaaGreatDoor
open Go.Emb
def Md (d c:Value) (w:World) (K:Value→World→Prop):Prop:= Q3 P .eql T.b (.tmp 7) (.const (.string ⟨#[]⟩)) d (.string ⟨#[]⟩) w fun s w=>Q1 s false w (fun w J=>J c w) fun i w=>Q1 s false w (Q3 P .eql T.b (.tmp 10) (.const (.string ⟨#[]⟩)) i (.string ⟨#[]⟩)) fun g w=>pick P s (.bool true) g w fun q w=>X1 q (K d w) (X6 P .len [T.b] T.e [false] [c] w fun j w=>Q3 P .eql T.e (.tmp 15) (.const (.int .i64 1)) j (.int .i64 1) w fun b w=>Q1 b true w (fun w J=>J c w) fun t w=>Q1 b true w (D9 P T.b t (.int .i64 0)) fun m w=>Q1 b true w (Q3 P .lss T.w (.tmp 19) (.const (.int .u8 128)) m (.int .u8 128)) fun o w=>pick P b o (.bool false) w fun f w=>X1 f (D9 P T.b c (.int .i64 0) w fun l w=>Q0 P F.cM [d,l] w fun k w=>K k w) (Q0 P F.bP [c] w fun e w=>ext P e 0 w fun p w=>ext P e 1 w fun r w=>W3 P T.a4 w fun a w=>Z3 P T.a4 a p w fun _u w=>X1 r (Q0 P F.ag [d,a] w fun n w=>K n w) (Q0 P F.cH [d,c] w fun h w=>K h w)))
theorem Kr {b a:Value} {w:World} {K:Value→World→Prop} (h:Md b a w K):Q0 P F.bj [b,a] w K:=Q9 (List.replicate 12 none) Tryz.func38 rfl (by decide) (by kernel_rfl) h
def Lu (m g:Value) (w:World) (K:Value→World→Prop):Prop:= Q3 P .eql T.b (.tmp 6) (.const (.string ⟨#[110,117,108,108]⟩)) g (.string ⟨#[110,117,108,108]⟩) w fun l w=>X1 l (K (.bool true) w) (Q0 P F.bj [g,(.string ⟨#[91,93]⟩)] w fun k w=>Q0 P F.a2 [g] w fun a w=>Q1 a true w (fun w J=>J k w) fun f w=>Q1 a true w (Q0 P F.ad [f]) fun c w=>Q1 a true w (fun w J=>J c w) fun b w=>Q1 b false w (fun w J=>J m w) fun i w=>Q1 b false w (fun w J=>J k w) fun e w=>Q1 b false w (Q0 P F.k [i,e]) fun h w=>Q1 a true w (pick P b (.bool true) h) fun d w=>pick P a d (.bool false) w fun j w=>K j w)
theorem Kp {b a:Value} {w:World} {K:Value→World→Prop} (h:Lu b a w K):Q0 P F.n [b,a] w K:=Q9 (List.replicate 6 none) Tryz.func20 rfl (by decide) (by kernel_rfl) h
def Yk (c g:Value) (w:World) (K:Value→World→Prop):Prop:= Q3 P .neq T.b (.tmp 4) (.const (.string ⟨#[110,117,108,108]⟩)) c (.string ⟨#[110,117,108,108]⟩) w fun a w=>Q1 a true w (Q2 P T.s g) fun d w=>Q1 a true w (fun w J=>J c w) fun f w=>Q1 a true w (Q0 P F.n [d,f]) fun e w=>pick P a e (.bool false) w fun b w=>K b w
theorem Dw {b a:Value} {w:World} {K:Value→World→Prop} (h:Yk b a w K):Q0 P F.ah [b,a] w K:=Q9 (List.replicate 2 none) Tryz.func105 rfl (by decide) (by kernel_rfl) h
def Zb (e d:Value) (w:World) (K:Value→World→Prop):Prop:= Q2 P T.y d w fun a w=>Z0 P a [e] w fun c w=>J0 P .not c w fun b w=>K b w
theorem Hj {b a:Value} {w:World} {K:Value→World→Prop} (h:Zb b a w K):Q0 P F.ai [b,a] w K:=Q9 (List.replicate 2 none) Tryz.func106 rfl (by decide) (by kernel_rfl) h
def Pu (s:Value) (w:World) (K:Value→World→Prop):Prop:= box P T.c s w fun b w=>dr w fun a c=>Q7 a (fun i=> ∀w,c w→fieldAddr P T.c b 1 w (dk a i w)) fun i=>Q7 a (fun g=> ∀w,c w→fieldAddr P T.c b 2 w (dk a g w)) fun g=>Q7 a (fun d=> ∀k w,c w→i k w→Q2 P T.d k w (dk a d w)) fun d=>Q7 a (fun f=> ∀l w,c w→d l w→Q0 P F.cI [l,(.string ⟨#[44]⟩)] w (dk a f w)) fun f=>Q7 a (fun e=> ∀j w,c w→f j w→Q3 P .add T.b (.const (.string ⟨#[40]⟩)) (.tmp 5) (.string ⟨#[40]⟩) j w (dk a e w)) fun e=>Q7 a (fun n=> ∀h w,c w→e h w→Q3 P .add T.b (.tmp 6) (.const (.string ⟨#[41]⟩)) h (.string ⟨#[41]⟩) w (dk a n w)) fun n=>Q7 a (fun p=> ∀m w,c w→g m w→Q2 P T.b m w (dk a p w)) fun p=>∀k m l j h q r w,c w→i k w→g m w→d l w→f j w→e h w→n q w→p r w→ Q3 P .add T.b (.tmp 7) (.tmp 9) q r w fun o w=>K o w
theorem Q4m {a:Value} {w:World} {K:Value→World→Prop} (h:Pu a w K):Q0 P F.bQ [a] w K:=Q9 (List.replicate 2 none) Tryz.func110 rfl (by decide) (by kernel_rfl) h
def Xl (Y X a2 Z:Value) (w:World) (K:Value→World→Prop):Prop:= box P T.c Y w fun b w=>Q2 P T.q X w fun t9 w=>fieldAddr P T.c b 0 w fun N w=>Q2 P T.b N w fun M w=>lookup P T.q t9 M true w fun E w=>ext P E 0 w fun L w=>ext P E 1 w fun e w=>dr w fun a d=>Q7 a (fun h=> ∀w,d w→fieldAddr P T.c b 0 w (dk a h w)) fun h=>Q7 a (fun k=> ∀w,d w→fieldAddr P T.c b 0 w (dk a k w)) fun k=>Q7 a (fun t=> ∀w,d w→fieldAddr P T.a a2 0 w (dk a t w)) fun t=>Q7 a (fun g=> ∀w,d w→Q2 P T.q X w (dk a g w)) fun g=>Q7 a (fun i=> ∀y w,d w→h y w→Q2 P T.b y w (dk a i w)) fun i=>Q7 a (fun A=> ∀w,d w→Q2 P T.q Z w (dk a A w)) fun A=>Q7 a (fun z=> ∀r w,d w→k r w→Q2 P T.b r w (dk a z w)) fun z=>Q7 a (fun u=> ∀w,d w→Q2 P T.c b w (dk a u w)) fun u=>Q7 a (fun m=> ∀j w,d w→u j w→Q0 P F.bQ [j] w (dk a m w)) fun m=>Q7 a (fun B=> ∀p w,d w→t p w→Q2 P T.b p w (dk a B w)) fun B=>Q7 a (fun q=> ∀c s w,d w→g c w→i s w→mapEntry P T.q c s w (dk a q w)) fun q=>Q7 a (fun l=> ∀n w,d w→q n w→ext P n 1 w (dk a l w)) fun l=>Q7 a (fun f=> ∀c o v w,d w→g c w→l o w→m v w→entryStore P T.q c o v w (dk a f w)) fun f=>∀y r p c s H D j v C n o R w,d w→h y w→k r w→t p w→g c w→i s w→A H w→z D w→u j w→m v w→B C w→q n w→l o w→f R w→ mapUpdate P T.q H D C w fun _u w=>Q1 e true w (fun w J=>J L w) fun U w=>Q1 e true w (Q2 P T.c b) fun V w=>Q1 e true w (Q0 P F.bQ [V]) fun W w=>Q1 e true w (Q3 P .neq T.b (.tmp 29) (.tmp 31) U W) fun O w=>pick P e O (.bool false) w fun Q w=>K Q w
theorem Om {b a d c:Value} {w:World} {K:Value→World→Prop} (h:Xl b a d c w K):Q0 P F.aB [b,a,d,c] w K:=Q9 (List.replicate 4 none) Tryz.func109 rfl (by decide) (by kernel_rfl) h
def Yl (f g h:Value) (w:World) (K:Value→World→Prop):Prop:= box P T.a f w fun a w=>fieldAddr P T.a a 7 w fun d w=>Q2 P T.g d w fun c w=>M4 P (.func F.aB) [] [g,a,h] w fun b w=>Q0 P F.a [c,b] w fun e w=>K e w
theorem Hg {b a c:Value} {w:World} {K:Value→World→Prop} (h:Yl b a c w K):Q0 P F.aM [b,a,c] w K:=Q9 (List.replicate 2 none) Tryz.func107 rfl (by decide) (by kernel_rfl) h
def Py (g f:Value) (w:World) (K:Value→World→Prop):Prop:= box P T.c g w fun a w=>fieldAddr P T.c a 0 w fun b w=>Q2 P T.b b w fun e w=>Q2 P T.b f w fun d w=>Q3 P .eql T.b (.tmp 5) (.tmp 6) e d w fun c w=>K c w
theorem Q4H {b a:Value} {w:World} {K:Value→World→Prop} (h:Py b a w K):Q0 P F.cN [b,a] w K:=Q9 (List.replicate 2 none) Tryz.func203 rfl (by decide) (by kernel_rfl) h
def Q1t (m q:Value) (w:World) (K:Value→World→Prop):Prop:= box P T.a m w fun b w=>box P T.b q w fun a w=>W3 P T.c w fun d w=>fieldAddr P T.a b 7 w fun n w=>Q2 P T.g n w fun p w=>M4 P (.func F.cN) [] [a] w fun o w=>Q0 P F.g [p,o] w fun c w=>Q3 P .lss T.e (.tmp 11) (.const (.int .i64 0)) c (.int .i64 0) w fun k w=>X1 k (N1 P T.c [] w fun e w=>Z3 P T.c d e w fun _u w=>V4 P T.c d w fun h=>K (.tuple #[h,(.bool false)]) w) (fieldAddr P T.a b 7 w fun f w=>Q2 P T.g f w fun g w=>indexAddr P T.g g c w fun j w=>Q2 P T.c j w fun l w=>Q0 P F.bH [l] w fun i w=>Z3 P T.c d i w fun _u w=>V4 P T.c d w fun h=>K (.tuple #[h,(.bool true)]) w)
theorem Q7s {b a:Value} {w:World} {K:Value→World→Prop} (h:Q1t b a w K):Q0 P F.cl [b,a] w K:=Q9 (List.replicate 6 none) Tryz.func168 rfl (by decide) (by kernel_rfl) h
def Ir:V1:=[none,none,none,some ([19],[6,8,10,11,12,13,14,15,19,20,21,22,23,24,25,26,27,28,29,30,31,32,33,34,35,36,37,38,39,40,41,42,43,44,45,46,47]),none,none,none,none,none,none,none,none,none,none,none,none]
def Mk (v M L:Value) (w:World) (K:Value→World→Prop):Prop:= box P T.a M w fun d w=>W3 P T.c w fun i w=>fieldAddr P T.a d 2 w fun H w=>Q2 P T.d H w fun l w=>X6 P .len [T.d] T.e [false] [l] w fun E w=>lp (α:=Value) (.int .i64 0) w fun c s N w=>Q3 P .lss T.e (.tmp 19) (.tmp 18) s E w fun A w=>X1 A (indexAddr P T.d l s w fun q w=>Q2 P T.b q w fun h w=>Q0 P F.h [v,h] w fun y w=>Q0 P F.cl [y,L] w fun j w=>ext P j 0 w fun C w=>ext P j 1 w fun D w=>W3 P T.c w fun a w=>Z3 P T.c a C w fun _u w=>X1 D (dr w fun o p=>Q7 o (fun g=> ∀w,p w→Q2 P T.c a w (dk o g w)) fun g=>∀n w,p w→g n w→ Z3 P T.c i n w fun _u w=>V4 P T.c i w fun k=>K (.tuple #[h,k,(.bool true)]) w) (Q0 P F.h [v,h] w fun B w=>Q0 P F.aK [v,B,L] w fun e w=>ext P e 0 w fun r w=>ext P e 1 w fun t w=>ext P e 2 w fun z w=>W3 P T.c w fun b w=>Z3 P T.c b t w fun _u w=>X1 z (dr w fun o p=>Q7 o (fun f=> ∀w,p w→Q2 P T.c b w (dk o f w)) fun f=>∀m w,p w→f m w→ Z3 P T.c i m w fun _u w=>V4 P T.c i w fun k=>K (.tuple #[r,k,(.bool true)]) w) (Q3 P .add T.e (.tmp 19) (.const (.int .i64 1)) s (.int .i64 1) w fun u w=>c u w))) (N1 P T.c [] w fun J w=>Z3 P T.c i J w fun _u w=>V4 P T.c i w fun k=>K (.tuple #[(.string ⟨#[]⟩),k,(.bool false)]) w)
theorem Iz {b a c:Value} {w:World} {K:Value→World→Prop} (h:Mk b a c w K):Q0 P F.aK [b,a,c] w K:=Q9 Ir Tryz.func169 rfl (by decide) (by kernel_rfl) h
def Cb:V1:=[none,none,none,none,none,some ([26],[6,8,11,12,13,26,27,28,29,30,31,32,33,34,35,36,37,38,39,40]),none,none,none,none,none,none,none,none,none,some ([43],[6,8,15,16,17,18,43,44,45,46,47,48,49,50,51,52,53,54,55,56,57,58]),none,none,none,none,none,none,none,none]
def Us (Y a1 Z:Value) (w:World) (K:Value→World→Prop):Prop:= W3 P T.c w fun q w=>Q0 P F.aJ [Y,a1] w fun e w=>Q0 P F.p [e] w fun ab w=>X6 P .len [T.h] T.e [false] [e] w fun M w=>lp (α:=Value) (.int .i64 0) w fun h z d_ w=>Q3 P .lss T.e (.tmp 26) (.tmp 25) z M w fun X w=>X1 X (indexAddr P T.h e z w fun O w=>Q2 P T.a O w fun V w=>W3 P T.a w fun a w=>Z3 P T.a a V w fun _u w=>Q2 P T.a a w fun W w=>Q0 P F.cl [W,Z] w fun u w=>ext P u 0 w fun N w=>ext P u 1 w fun A w=>W3 P T.c w fun d w=>Z3 P T.c d N w fun _u w=>X1 A (dr w fun j o=>Q7 j (fun i=> ∀w,o w→fieldAddr P T.a a 0 w (dk j i w)) fun i=>Q7 j (fun p=> ∀g w,o w→i g w→Q2 P T.b g w (dk j p w)) fun p=>Q7 j (fun n=> ∀w,o w→Q2 P T.c d w (dk j n w)) fun n=>∀g v r w,o w→i g w→p v w→n r w→ Z3 P T.c q r w fun _u w=>V4 P T.c q w fun s=>K (.tuple #[v,s,(.bool true)]) w) (Q3 P .add T.e (.tmp 26) (.const (.int .i64 1)) z (.int .i64 1) w fun L w=>h L w)) (X6 P .len [T.h] T.e [false] [e] w fun E w=>lp (α:=Value) (.int .i64 0) w fun f k d_ w=>Q3 P .lss T.e (.tmp 43) (.tmp 42) k E w fun B w=>X1 B (indexAddr P T.h e k w fun C w=>Q2 P T.a C w fun U w=>W3 P T.a w fun b w=>Z3 P T.a b U w fun _u w=>Q2 P T.a b w fun y w=>Q0 P F.aK [Y,y,Z] w fun m w=>ext P m 0 w fun D w=>ext P m 1 w fun H w=>ext P m 2 w fun Q w=>W3 P T.c w fun c w=>Z3 P T.c c H w fun _u w=>X1 Q (dr w fun j o=>Q7 j (fun l=> ∀w,o w→Q2 P T.c c w (dk j l w)) fun l=>∀t w,o w→l t w→ Z3 P T.c q t w fun _u w=>V4 P T.c q w fun s=>K (.tuple #[D,s,(.bool true)]) w) (Q3 P .add T.e (.tmp 43) (.const (.int .i64 1)) k (.int .i64 1) w fun R w=>f R w)) (N1 P T.c [] w fun J w=>Z3 P T.c q J w fun _u w=>V4 P T.c q w fun s=>K (.tuple #[(.string ⟨#[]⟩),s,(.bool false)]) w))
theorem St {b a c:Value} {w:World} {K:Value→World→Prop} (h:Us b a c w K):Q0 P F.aY [b,a,c] w K:=Q9 Cb Tryz.func111 rfl (by decide) (by kernel_rfl) h
def Se:V1:=[none,none,none,some ([21],[4,6,21,22,23,24,25,26,27,28,29,30,31,32]),none,none,none,none,none,none,none,none,none,some ([37],[4,9,37,38,39,40,41,42,43,44,45,46]),none,none,none,none,none,none,none,none,some ([50],[4,11,50,51,52,53,54,55,56,57,58,59,60,61,62,63,64,65,66,67,68,69,70]),none,none,none,none,none,none,none,none,none,none,none,none,none,none,none,some ([],[4,14,15,16,17,82,83,84,85,86,87,88,89,90,91,92,93,94,95,96,97,98,99,100]),none,none,none,none,none,none,none]
def Jw (a0 a1:Value) (w:World) (K:Value→World→Prop):Prop:= box P T.s a0 w fun v w=>box P T.a a1 w fun i w=>fieldAddr P T.a i 6 w fun bn w=>Q2 P T.i bn w fun s w=>X6 P .len [T.i] T.e [false] [s] w fun ah w=>lp (α:=Value) (.int .i64 0) w fun e x3 d_ w=>Q3 P .lss T.e (.tmp 21) (.tmp 20) x3 ah w fun al w=>X1 al (indexAddr P T.i s x3 w fun aa w=>Q2 P T.k aa w fun V w=>W3 P T.k w fun t6 w=>Z3 P T.k t6 V w fun _u w=>Q2 P T.s v w fun R w=>fieldAddr P T.a i 1 w fun Y w=>Q2 P T.b Y w fun av w=>fieldAddr P T.k t6 0 w fun bg w=>Q2 P T.b bg w fun bj w=>Q0 P F.b9 [R,av,bj] w fun ap w=>Q3 P .geq T.e (.tmp 30) (.const (.int .i64 0)) ap (.int .i64 0) w fun aq w=>X1 aq (K (.int .i64 64) w) (Q3 P .add T.e (.tmp 21) (.const (.int .i64 1)) x3 (.int .i64 1) w fun W w=>e W w)) (M4 P (.func F.ah) [] [v] w fun af w=>W3 P T.y w fun u w=>Z3 P T.y u af w fun _u w=>fieldAddr P T.a i 6 w fun be w=>Q2 P T.i be w fun r w=>X6 P .len [T.i] T.e [false] [r] w fun a9 w=>lp (α:=Value) (.int .i64 0) w fun a m d_ w=>Q3 P .lss T.e (.tmp 37) (.tmp 36) m a9 w fun ai w=>X1 ai (indexAddr P T.i r m w fun J w=>Q2 P T.k J w fun ba w=>W3 P T.k w fun t9 w=>Z3 P T.k t9 ba w fun _u w=>Q2 P T.y u w fun B w=>fieldAddr P T.k t9 1 w fun H w=>Q2 P T.b H w fun X w=>Z0 P B [X] w fun ax w=>J0 P .not ax w fun ay w=>X1 ay (K (.int .i64 65) w) (Q3 P .add T.e (.tmp 37) (.const (.int .i64 1)) m (.int .i64 1) w fun ae w=>a ae w)) (fieldAddr P T.a i 7 w fun a5 w=>Q2 P T.g a5 w fun q w=>X6 P .len [T.g] T.e [false] [q] w fun y w=>lp (α:=Value) (.int .i64 0) w fun d k d_ w=>Q3 P .lss T.e (.tmp 50) (.tmp 49) k y w fun bc w=>X1 bc (indexAddr P T.g q k w fun E w=>Q2 P T.c E w fun a6 w=>W3 P T.c w fun f w=>Z3 P T.c f a6 w fun _u w=>Q2 P T.y u w fun ac w=>fieldAddr P T.c f 2 w fun N w=>Q2 P T.b N w fun Q w=>Z0 P ac [Q] w fun bi w=>J0 P .not bi w fun g w=>Q1 g true w (fieldAddr P T.c f 2) fun C w=>Q1 g true w (Q2 P T.b C) fun bm w=>Q1 g true w (Q3 P .neq T.b (.tmp 61) (.const (.string ⟨#[]⟩)) bm (.string ⟨#[]⟩)) fun bh w=>pick P g bh (.bool false) w fun b w=>Q1 b false w (fieldAddr P T.c f 1) fun L w=>Q1 b false w (Q2 P T.d L) fun D w=>Q1 b false w (M4 P (.func F.ai) [] [u]) fun a2 w=>Q1 b false w (Q0 P F.d [D,a2]) fun ab w=>pick P b (.bool true) ab w fun bb w=>X1 bb (K (.int .i64 65) w) (Q3 P .add T.e (.tmp 50) (.const (.int .i64 1)) k (.int .i64 1) w fun a7 w=>d a7 w)) (Re P T.q none w fun am w=>Re P T.q none w fun O w=>W3 P T.q w fun p w=>W3 P T.q w fun j w=>Z3 P T.q p am w fun _u w=>Z3 P T.q j O w fun _u w=>Q2 P T.s v w fun aj w=>fieldAddr P T.a i 0 w fun an w=>Q2 P T.b an w fun bk w=>M4 P (.func F.aM) [] [p,j] w fun ad w=>Q0 P F.u [aj,bk,ad] w fun bd w=>X1 bd (K (.int .i64 66) w) (fieldAddr P T.a i 4 w fun z w=>Q2 P T.m z w fun U w=>X1 U (K (.int .i64 0) w) (Q2 P T.q j w fun ag w=>rng P T.q ag w fun o w=>lp (α:=Unit) () w fun c bs d_ w=>J4 P o false T.x w fun A w=>ext P A 0 w fun a4 w=>X1 a4 (Q7a P o w fun ar w=>ext P ar 0 w fun a8 w=>Q2 P T.s v w fun M w=>fieldAddr P T.a i 0 w fun az w=>Q2 P T.b az w fun Z w=>Q0 P F.aY [M,Z,a8] w fun h w=>ext P h 0 w fun bq w=>ext P h 1 w fun bl w=>ext P h 2 w fun bf w=>W3 P T.c w fun t w=>Z3 P T.c t bl w fun _u w=>J0 P .not bf w fun l w=>Q1 l false w (fieldAddr P T.c t 3) fun ak w=>Q1 l false w (Q2 P T.m ak) fun ao w=>pick P l (.bool true) ao w fun n w=>X1 n (K (.int .i64 67) w) (c () w)) (K (.int .i64 0) w))))))
theorem Sd {b a:Value} {w:World} {K:Value→World→Prop} (h:Jw b a w K):Q0 P F.aR [b,a] w K:=Q9 Se Tryz.func51 rfl (by decide) (by kernel_rfl) h
def Q6T:V1:=[none,none,none,none,none,some ([30],[2,3,4,7,8,9,30,31,32,33,34,35,36,37,38,39,40,41,42,43,44,45,46,47,48,49,50,51,52]),none,none,none,none,none,none,none,none,none,none,some ([58],[2,3,4,10,11,58,59,60,61,62,63,64,65,66,67,68,69,70,71,72,73,74,75,76,77]),none,none,none,none,none,none,none,none,none,some ([85],[2,3,4,12,13,14,85,86,87,88,89,90,91,92,93,94,95,96,97]),none,none,none,none,none,none,none,none,none,none,none,none,none,some ([114],[2,3,4,17,18,114,115,116,117,118,119,120,121,122,123,124,125,126,127,128,129,130,131,132,133]),none,none,none,none,none,none,none,none]
def Q1v (a0:Value) (w:World) (K:Value→World→Prop):Prop:= Q0 P F.cp [] w fun bs w=>Re P T.v none w fun bb w=>N1 P T.u [(0,bs),(1,bb)] w fun av w=>box P T.u av w fun a w=>nilCheck P a w fun a4 w=>fieldAddr P T.u a4 0 w fun a2 w=>Q2 P T.h a2 w fun a5 w=>X6 P .len [T.h] T.e [false] [a5] w fun f w=>X6 P .len [T.h] T.e [false] [a0] w fun bw w=>lp (α:=Value) (.int .i64 0) w fun m x5 d_ w=>Q3 P .lss T.e (.tmp 30) (.tmp 29) x5 bw w fun bf w=>X1 bf (indexAddr P T.h a0 x5 w fun a9 w=>Q2 P T.a a9 w fun bp w=>W3 P T.a w fun t8 w=>Z3 P T.a t8 bp w fun _u w=>Q2 P T.a t8 w fun bj w=>Q0 P F.ca [bj] w fun ah w=>Q3 P .neq T.r (.tmp 37) (.const (.int .i64 0)) ah (.int .i64 0) w fun bc w=>X1 bc (K (.tuple #[(.pointer none),x5,ah]) w) (dr w fun b c=>Q7 b (fun r=> ∀w,c w→nilCheck P a w (dk b r w)) fun r=>Q7 b (fun s=> ∀k w,c w→r k w→fieldAddr P T.u k 0 w (dk b s w)) fun s=>Q7 b (fun E=> ∀u w,c w→s u w→Q2 P T.h u w (dk b E w)) fun E=>Q7 b (fun j=> ∀w,c w→Q2 P T.a t8 w (dk b j w)) fun j=>Q7 b (fun t=> ∀o w,c w→j o w→Q0 P F.cb [o] w (dk b t w)) fun t=>Q7 b (fun H=> ∀v w,c w→t v w→buildSlice P T.h 1 [(0,v)] w (dk b H w)) fun H=>∀k u ad o v aa w,c w→r k w→s u w→E ad w→j o w→t v w→H aa w→ X6 P .append [T.h,T.h] T.h [false,false] [ad,aa] w fun ar w=>nilCheck P a w fun bx w=>fieldAddr P T.u bx 0 w fun bn w=>Z3 P T.h bn ar w fun _u w=>Q3 P .add T.e (.tmp 30) (.const (.int .i64 1)) x5 (.int .i64 1) w fun ax w=>m ax w)) (nilCheck P a w fun a8 w=>fieldAddr P T.u a8 0 w fun a1 w=>Q2 P T.h a1 w fun Q w=>X6 P .len [T.h] T.e [false] [Q] w fun bv w=>lp (α:=Value) (.int .i64 0) w fun e g d_ w=>Q3 P .lss T.e (.tmp 58) (.tmp 57) g bv w fun bl w=>X1 bl (indexAddr P T.h Q g w fun bz w=>Q2 P T.a bz w fun bu w=>W3 P T.a w fun J w=>Z3 P T.a J bu w fun _u w=>fieldAddr P T.a J 0 w fun br w=>Q2 P T.b br w fun az w=>Q0 P F.k [a,az] w fun aw w=>X1 aw (Q3 P .sub T.e (.tmp 67) (.tmp 68) g f w fun bm w=>K (.tuple #[(.pointer none),bm,(.int .i64 60)]) w) (dr w fun b c=>Q7 b (fun y=> ∀w,c w→nilCheck P a w (dk b y w)) fun y=>Q7 b (fun l=> ∀p w,c w→y p w→fieldAddr P T.u p 1 w (dk b l w)) fun l=>Q7 b (fun n=> ∀w,c w→fieldAddr P T.a J 0 w (dk b n w)) fun n=>Q7 b (fun L=> ∀i w,c w→l i w→Q2 P T.v i w (dk b L w)) fun L=>Q7 b (fun M=> ∀q w,c w→n q w→Q2 P T.b q w (dk b M w)) fun M=>∀p i q X ao w,c w→y p w→l i w→n q w→L X w→M ao w→ mapUpdate P T.v X ao g w fun _u w=>Q3 P .add T.e (.tmp 58) (.const (.int .i64 1)) g (.int .i64 1) w fun bo w=>e bo w)) (nilCheck P a w fun a3 w=>fieldAddr P T.u a3 0 w fun ba w=>Q2 P T.h ba w fun bd w=>H3 P T.h bd (some f) none none w fun ae w=>X6 P .len [T.h] T.e [false] [ae] w fun bh w=>lp (α:=Value) (.int .i64 0) w fun d z d_ w=>Q3 P .lss T.e (.tmp 85) (.tmp 84) z bh w fun a7 w=>X1 a7 (indexAddr P T.h ae z w fun bk w=>Q2 P T.a bk w fun a6 w=>W3 P T.a w fun ag w=>Z3 P T.a ag a6 w fun _u w=>Q2 P T.a ag w fun ay w=>Q0 P F.aW [a,ay] w fun Y w=>Q3 P .neq T.r (.tmp 93) (.const (.int .i64 0)) Y (.int .i64 0) w fun bq w=>X1 bq (K (.tuple #[(.pointer none),z,Y]) w) (Q3 P .add T.e (.tmp 85) (.const (.int .i64 1)) z (.int .i64 1) w fun b0 w=>d b0 w)) (nilCheck P a w fun be w=>fieldAddr P T.u be 0 w fun W w=>Q2 P T.h W w fun al w=>H3 P T.h al (some f) none none w fun ap w=>M4 P (.func F.b4) [a] [] w fun O w=>Q0 P F.o [ap,O] w fun D w=>Q3 P .geq T.e (.tmp 107) (.const (.int .i64 0)) D (.int .i64 0) w fun aj w=>X1 aj (K (.tuple #[(.pointer none),D,(.int .i64 63)]) w) (Q0 P F.b5 [a,f] w fun B w=>X6 P .len [T.z] T.e [false] [B] w fun ak w=>lp (α:=Value) (.int .i64 0) w fun h N d_ w=>Q3 P .lss T.e (.tmp 114) (.tmp 113) N ak w fun ai w=>X1 ai (indexAddr P T.z B N w fun U w=>Q2 P T.e U w fun A w=>nilCheck P a w fun V w=>fieldAddr P T.u V 0 w fun Z w=>Q2 P T.h Z w fun af w=>indexAddr P T.h af A w fun ac w=>Q2 P T.a ac w fun R w=>Q0 P F.aR [a,R] w fun C w=>Q3 P .neq T.r (.tmp 127) (.const (.int .i64 0)) C (.int .i64 0) w fun an w=>X1 an (Q3 P .sub T.e (.tmp 129) (.tmp 130) A f w fun am w=>K (.tuple #[(.pointer none),am,C]) w) (Q3 P .add T.e (.tmp 114) (.const (.int .i64 1)) N (.int .i64 1) w fun ab w=>h ab w)) (K (.tuple #[a,(.int .i64 0),(.int .i64 0)]) w)))))
theorem Q6z {a:Value} {w:World} {K:Value→World→Prop} (h:Q1v a w K):Q0 P F.cE [a] w K:=Q9 Q6T Tryz.func25 rfl (by decide) (by kernel_rfl) h
def Jz (w:World) (K:Value→World→Prop):Prop:= N1 P T.n [(0,(.string ⟨#[105,110,116]⟩)),(1,(.int .i64 1))] w fun q w=>N1 P T.n [(0,(.string ⟨#[114,101,116,117,114,110]⟩))] w fun r w=>buildSlice P T.l 2 [(0,q),(1,r)] w fun s w=>N1 P T.k [(0,(.string ⟨#[120]⟩)),(1,(.string ⟨#[105,110,116]⟩))] w fun p w=>N1 P T.k [(0,(.string ⟨#[110,101,120,116]⟩)),(1,(.string ⟨#[65]⟩))] w fun o w=>buildSlice P T.i 2 [(0,p),(1,o)] w fun n w=>buildSlice P T.d 2 [(0,(.string ⟨#[105,110,116]⟩)),(1,(.string ⟨#[65]⟩))] w fun t w=>N1 P T.c [(0,(.string ⟨#[102]⟩)),(1,t),(2,(.string ⟨#[105,110,116]⟩)),(4,(.int .i64 3)),(5,s)] w fun e w=>N1 P T.n [(0,(.string ⟨#[114,101,116,117,114,110]⟩))] w fun c w=>buildSlice P T.l 1 [(0,c)] w fun k w=>N1 P T.c [(0,(.string ⟨#[103]⟩)),(4,(.int .i64 1)),(5,k)] w fun b w=>buildSlice P T.g 2 [(0,e),(1,b)] w fun d w=>N1 P T.a [(0,(.string ⟨#[65]⟩)),(1,(.string ⟨#[79,98,106,101,99,116]⟩)),(6,n),(7,d)] w fun f w=>buildSlice P T.d 1 [(0,(.string ⟨#[73]⟩))] w fun m w=>N1 P T.k [(0,(.string ⟨#[108]⟩)),(1,(.string ⟨#[65,91,93]⟩))] w fun h w=>buildSlice P T.i 1 [(0,h)] w fun l w=>N1 P T.a [(0,(.string ⟨#[66]⟩)),(1,(.string ⟨#[65]⟩)),(2,m),(6,l)] w fun g w=>N1 P T.a [(0,(.string ⟨#[73]⟩)),(1,(.string ⟨#[79,98,106,101,99,116]⟩)),(3,(.bool true)),(4,(.bool true))] w fun i w=>N1 P T.a [(0,(.string ⟨#[68]⟩)),(1,(.string ⟨#[79,98,106,101,99,116]⟩)),(4,(.bool true))] w fun a w=>buildSlice P T.h 4 [(0,f),(1,g),(2,i),(3,a)] w fun j w=>K j w
theorem Rv {w:World} {K:Value→World→Prop} (h:Jz w K):Q0 P F.av [] w K:=Q9 (List.replicate 3 none) Tryz.func26 rfl (by decide) (by kernel_rfl) h
def Gc:V1:=[none,none,none,none,none,some ([1,3],[1,3,10,11,12,13,14,15,16,17,18,19,20,21,22,23]),none,none,none,none]
def Wo (w:World) (K:Value→World→Prop):Prop:= N1 P T.a [(0,(.string ⟨#[79,98,106,101,99,116]⟩))] w fun o w=>N1 P T.k [(0,(.string ⟨#[119,104,97,116]⟩)),(1,(.string ⟨#[116,101,120,116]⟩))] w fun n w=>buildSlice P T.i 1 [(0,n)] w fun m w=>N1 P T.a [(0,(.string ⟨#[70,97,117,108,116]⟩)),(1,(.string ⟨#[79,98,106,101,99,116]⟩)),(6,m)] w fun l w=>buildSlice P T.h 2 [(0,o),(1,l)] w fun p w=>buildSlice P T.d 6 [(0,(.string ⟨#[78,117,108,108,70,97,117,108,116]⟩)),(1,(.string ⟨#[73,110,100,101,120,70,97,117,108,116]⟩)),(2,(.string ⟨#[67,97,115,116,70,97,117,108,116]⟩)),(3,(.string ⟨#[90,101,114,111,70,97,117,108,116]⟩)),(4,(.string ⟨#[82,111,111,109,70,97,117,108,116]⟩)),(5,(.string ⟨#[67,97,108,108,70,97,117,108,116]⟩))] w fun k w=>lp (α:=Value×Value) (p,(.int .i64 0)) w fun a b q w=>X6 P .len [T.d] T.e [false] [k] w fun j w=>Q3 P .lss T.e (.tmp 10) (.tmp 12) b.2 j w fun d w=>X1 d (indexAddr P T.d k b.2 w fun g w=>Q2 P T.b g w fun h w=>N1 P T.a [(0,h),(1,(.string ⟨#[70,97,117,108,116]⟩)),(5,(.bool true))] w fun c w=>buildSlice P T.h 1 [(0,c)] w fun i w=>X6 P .append [T.h,T.h] T.h [false,false] [b.1,i] w fun f w=>Q3 P .add T.e (.tmp 14) (.const (.int .i64 1)) b.2 (.int .i64 1) w fun e w=>a (f,e) w) (K b.1 w)
theorem Ga {w:World} {K:Value→World→Prop} (h:Wo w K):Q0 P F.b6 [] w K:=Q9 Gc Tryz.func52 rfl (by decide) (by kernel_rfl) h
def Kc:V1:=[none,none,none,some ([3],[2,3,4,5,6,7,8,9,10,11,12,13,14,15,16,17,18,19,20,21,22,23,24,25,26,27,28,29,30,31,32,33,34,35,36,37]),none,none,none,none,none,none,none]
def Mo (Y:Value) (w:World) (K:Value→World→Prop):Prop:= box P T.a Y w fun b w=>lp (α:=Value) (.int .i64 0) w fun h m d_ w=>fieldAddr P T.a b 7 w fun t6 w=>Q2 P T.g t6 w fun Z w=>X6 P .len [T.g] T.e [false] [Z] w fun t8 w=>Q3 P .lss T.e (.tmp 5) (.tmp 8) m t8 w fun t9 w=>X1 t9 (fieldAddr P T.a b 7 w fun Q w=>Q2 P T.g Q w fun p w=>indexAddr P T.g p m w fun u w=>Q2 P T.c u w fun X w=>W3 P T.c w fun a w=>Z3 P T.c a X w fun _u w=>fieldAddr P T.c a 1 w fun J w=>Q2 P T.d J w fun W w=>X6 P .len [T.d] T.e [false] [W] w fun H w=>Q3 P .gtr T.e (.tmp 19) (.const (.int .i64 32)) H (.int .i64 32) w fun f w=>Q1 f false w (fieldAddr P T.c a 6) fun N w=>Q1 f false w (Q2 P T.o N) fun E w=>Q1 f false w (X6 P .len [T.o] T.e [false] [E]) fun A w=>Q1 f false w (Q3 P .gtr T.e (.tmp 24) (.const (.int .i64 32)) A (.int .i64 32)) fun v w=>pick P f (.bool true) v w fun e w=>Q1 e false w (fieldAddr P T.c a 5) fun D w=>Q1 e false w (Q2 P T.l D) fun O w=>Q1 e false w (X6 P .len [T.l] T.e [false] [O]) fun U w=>Q1 e false w (Q3 P .gtr T.e (.tmp 30) (.const (.int .i64 200)) U (.int .i64 200)) fun V w=>pick P e (.bool true) V w fun g w=>Q1 g false w (fieldAddr P T.c a 4) fun B w=>Q1 g false w (Q2 P T.e B) fun j w=>Q1 g false w (Q3 P .gtr T.e (.tmp 35) (.const (.int .i64 64)) j (.int .i64 64)) fun t w=>pick P g (.bool true) t w fun o w=>X1 o (K (.bool true) w) (Q3 P .add T.e (.tmp 10) (.const (.int .i64 1)) m (.int .i64 1) w fun s w=>h s w)) (fieldAddr P T.a b 2 w fun M w=>Q2 P T.d M w fun r w=>X6 P .len [T.d] T.e [false] [r] w fun y w=>Q3 P .gtr T.e (.tmp 40) (.const (.int .i64 32)) y (.int .i64 32) w fun c w=>Q1 c false w (fieldAddr P T.a b 6) fun C w=>Q1 c false w (Q2 P T.i C) fun k w=>Q1 c false w (X6 P .len [T.i] T.e [false] [k]) fun l w=>Q1 c false w (Q3 P .gtr T.e (.tmp 45) (.const (.int .i64 32)) l (.int .i64 32)) fun L w=>pick P c (.bool true) L w fun d w=>Q1 d false w (fieldAddr P T.a b 7) fun i w=>Q1 d false w (Q2 P T.g i) fun R w=>Q1 d false w (X6 P .len [T.g] T.e [false] [R]) fun z w=>Q1 d false w (Q3 P .gtr T.e (.tmp 51) (.const (.int .i64 32)) z (.int .i64 32)) fun n w=>pick P d (.bool true) n w fun q w=>K q w)
theorem Ig {a:Value} {w:World} {K:Value→World→Prop} (h:Mo a w K):Q0 P F.bl [a] w K:=Q9 Kc Tryz.func112 rfl (by decide) (by kernel_rfl) h
def Bn:V1:=[none,none,none,some ([4],[4,5,6,7]),none,none,none,none]
def Lc (a:Value) (w:World) (K:Value→World→Prop):Prop:= jn (α:=Value) w (fun b w=>Q3 P .eql T.b (.tmp 3) (.const (.string ⟨#[105,110,116]⟩)) a (.string ⟨#[105,110,116]⟩) w fun d w=>X1 d (b d w) (Q3 P .eql T.b (.tmp 3) (.const (.string ⟨#[98,111,111,108]⟩)) a (.string ⟨#[98,111,111,108]⟩) w fun c w=>X1 c (b c w) (Q3 P .eql T.b (.tmp 3) (.const (.string ⟨#[116,101,120,116]⟩)) a (.string ⟨#[116,101,120,116]⟩) w fun e w=>b e w))) fun f g w=>X1 f (K (.bool true) w) (K (.bool false) w)
theorem Bl {a:Value} {w:World} {K:Value→World→Prop} (h:Lc a w K):Q0 P F.ae [a] w K:=Q9 Bn Tryz.func62 rfl (by decide) (by kernel_rfl) h
def Ku:V1:=[none,none,none,some ([3],[2,3,4,5,6,7,8,9,10,11,12,13,14,15,16,17,18,19,20,21,22,23,24,25,26,27,28,29,30,31,32,33,34,35,36,37,38,39,40,41,42,43,44,45,46,47,48,49,50]),none,none,none,none,none,none,none]
def Lx (i:Value) (w:World) (K:Value→World→Prop):Prop:= lp (α:=Value) (.int .i64 0) w fun j g d_ w=>X6 P .len [T.b] T.e [false] [i] w fun t7 w=>Q3 P .lss T.e (.tmp 5) (.tmp 7) g t7 w fun t8 w=>X1 t8 (D9 P T.b i g w fun q w=>Q3 P .geq T.w (.tmp 13) (.const (.int .u8 97)) q (.int .u8 97) w fun d w=>Q1 d true w (fun w J=>J i w) fun aa w=>Q1 d true w (fun w J=>J g w) fun O w=>Q1 d true w (D9 P T.b aa O) fun L w=>Q1 d true w (Q3 P .leq T.w (.tmp 18) (.const (.int .u8 122)) L (.int .u8 122)) fun M w=>pick P d M (.bool false) w fun b w=>Q1 b false w (fun w J=>J i w) fun U w=>Q1 b false w (fun w J=>J g w) fun H w=>Q1 b false w (D9 P T.b U H) fun B w=>Q1 b false w (Q3 P .geq T.w (.tmp 24) (.const (.int .u8 65)) B (.int .u8 65)) fun y w=>Q1 b false w (fun w J=>J y w) fun e w=>Q1 e true w (fun w J=>J i w) fun Z w=>Q1 e true w (fun w J=>J g w) fun E w=>Q1 e true w (D9 P T.b Z E) fun V w=>Q1 e true w (Q3 P .leq T.w (.tmp 29) (.const (.int .u8 90)) V (.int .u8 90)) fun X w=>Q1 b false w (pick P e X (.bool false)) fun Y w=>pick P b (.bool true) Y w fun C w=>J0 P .not C w fun a w=>Q1 a true w (fun w J=>J g w) fun t w=>Q1 a true w (Q3 P .eql T.e (.tmp 36) (.const (.int .i64 0)) t (.int .i64 0)) fun p w=>Q1 a true w (fun w J=>J p w) fun f w=>Q1 f false w (fun w J=>J i w) fun s w=>Q1 f false w (fun w J=>J g w) fun u w=>Q1 f false w (D9 P T.b s u) fun l w=>Q1 f false w (Q3 P .lss T.w (.tmp 41) (.const (.int .u8 48)) l (.int .u8 48)) fun n w=>Q1 a true w (pick P f (.bool true) n) fun D w=>Q1 a true w (fun w J=>J D w) fun c w=>Q1 c false w (fun w J=>J i w) fun m w=>Q1 c false w (fun w J=>J g w) fun Q w=>Q1 c false w (D9 P T.b m Q) fun o w=>Q1 c false w (Q3 P .gtr T.w (.tmp 47) (.const (.int .u8 57)) o (.int .u8 57)) fun ab w=>Q1 a true w (pick P c (.bool true) ab) fun k w=>pick P a k (.bool false) w fun W w=>X1 W (K (.bool false) w) (Q3 P .add T.e (.tmp 9) (.const (.int .i64 1)) g (.int .i64 1) w fun v w=>j v w)) (X6 P .len [T.b] T.e [false] [i] w fun r w=>Q3 P .geq T.e (.tmp 52) (.const (.int .i64 1)) r (.int .i64 1) w fun h w=>Q1 h true w (fun w J=>J i w) fun z w=>Q1 h true w (X6 P .len [T.b] T.e [false] [z]) fun A w=>Q1 h true w (Q3 P .leq T.e (.tmp 56) (.const (.int .i64 32)) A (.int .i64 32)) fun R w=>pick P h R (.bool false) w fun N w=>K N w)
theorem Iu {a:Value} {w:World} {K:Value→World→Prop} (h:Lx a w K):Q0 P F.aL [a] w K:=Q9 Ku Tryz.func204 rfl (by decide) (by kernel_rfl) h
def Lg (b:Value) (w:World) (K:Value→World→Prop):Prop:= Q0 P F.aL [b] w fun a w=>Q1 a true w (fun w J=>J b w) fun d w=>Q1 a true w (D9 P T.b d (.int .i64 0)) fun c w=>Q1 a true w (Q3 P .leq T.w (.tmp 7) (.const (.int .u8 90)) c (.int .u8 90)) fun f w=>pick P a f (.bool false) w fun e w=>K e w
theorem Fi {a:Value} {w:World} {K:Value→World→Prop} (h:Lg a w K):Q0 P F.e [a] w K:=Q9 (List.replicate 2 none) Tryz.func170 rfl (by decide) (by kernel_rfl) h
def Iq:V1:=[none,none,none,some ([0,3],[0,3,4,5,6,7,8,9,10,11,12,13,14,15,16,17,18,19,20,21]),none,none,none,none]
def Ma (m:Value) (w:World) (K:Value→World→Prop):Prop:= lp (α:=Value×Value) (m,(.int .i64 0)) w fun a b q w=>X6 P .len [T.b] T.e [false] [b.1] w fun o w=>Q3 P .geq T.e (.tmp 5) (.const (.int .i64 2)) o (.int .i64 2) w fun c w=>Q1 c true w (fun w J=>J b.1 w) fun p w=>Q1 c true w (fun w J=>J b.1 w) fun n w=>Q1 c true w (X6 P .len [T.b] T.e [false] [n]) fun h w=>Q1 c true w (Q3 P .sub T.e (.tmp 10) (.const (.int .i64 2)) h (.int .i64 2)) fun f w=>Q1 c true w (H3 P T.b p (some f) none none) fun k w=>Q1 c true w (Q3 P .eql T.b (.tmp 12) (.const (.string ⟨#[91,93]⟩)) k (.string ⟨#[91,93]⟩)) fun e w=>pick P c e (.bool false) w fun g w=>X1 g (Q3 P .add T.e (.tmp 15) (.const (.int .i64 1)) b.2 (.int .i64 1) w fun l w=>X6 P .len [T.b] T.e [false] [b.1] w fun i w=>Q3 P .sub T.e (.tmp 19) (.const (.int .i64 2)) i (.int .i64 2) w fun j w=>H3 P T.b b.1 none (some j) none w fun d w=>a (d,l) w) (K b.2 w)
theorem Ik {a:Value} {w:World} {K:Value→World→Prop} (h:Ma a w K):Q0 P F.al [a] w K:=Q9 Iq Tryz.func177 rfl (by decide) (by kernel_rfl) h
def Wq (h:Value) (w:World) (K:Value→World→Prop):Prop:= Q0 P F.al [h] w fun m w=>X6 P .len [T.b] T.e [false] [h] w fun n w=>Q3 P .mul T.e (.const (.int .i64 2)) (.tmp 10) (.int .i64 2) m w fun j w=>Q3 P .sub T.e (.tmp 9) (.tmp 11) n j w fun e w=>H3 P T.b h none (some e) none w fun c w=>Q3 P .leq T.e (.tmp 14) (.const (.int .i64 3)) m (.int .i64 3) w fun a w=>Q1 a true w (fun w J=>J c w) fun g w=>Q1 a true w (Q0 P F.ae [g]) fun i w=>Q1 a true w (fun w J=>J i w) fun b w=>Q1 b false w (fun w J=>J c w) fun l w=>Q1 b false w (Q0 P F.e [l]) fun f w=>Q1 a true w (pick P b (.bool true) f) fun d w=>pick P a d (.bool false) w fun k w=>K k w
theorem Fy {a:Value} {w:World} {K:Value→World→Prop} (h:Wq a w K):Q0 P F.i [a] w K:=Q9 (List.replicate 4 none) Tryz.func120 rfl (by decide) (by kernel_rfl) h
def Uz (b:Value) (w:World) (K:Value→World→Prop):Prop:= Q0 P F.aL [b] w fun a w=>Q1 a true w (fun w J=>J b w) fun d w=>Q1 a true w (D9 P T.b d (.int .i64 0)) fun c w=>Q1 a true w (Q3 P .geq T.w (.tmp 7) (.const (.int .u8 97)) c (.int .u8 97)) fun f w=>pick P a f (.bool false) w fun e w=>K e w
theorem Cn {a:Value} {w:World} {K:Value→World→Prop} (h:Uz a w K):Q0 P F.s [a] w K:=Q9 (List.replicate 2 none) Tryz.func171 rfl (by decide) (by kernel_rfl) h
end Go.Proofs.YtfppjenblllfaaaGreatDoor

set_option maxRecDepth 100000
namespace Go.Proofs.YtfppjenblllfaaaGreatDoor
open Go.Emb
def Oa (w:World) (K:Value→World→Prop):Prop:= buildSlice P T.d 42 [(0,(.string ⟨#[105,110,116]⟩)),(1,(.string ⟨#[116,114,117,101]⟩)),(2,(.string ⟨#[102,97,108,115,101]⟩)),(3,(.string ⟨#[119,111,114,100]⟩)),(4,(.string ⟨#[110,117,108,108]⟩)),(5,(.string ⟨#[108,111,97,100]⟩)),(6,(.string ⟨#[115,116,111,114,101]⟩)),(7,(.string ⟨#[112,111,112]⟩)),(8,(.string ⟨#[100,117,112]⟩)),(9,(.string ⟨#[115,119,97,112]⟩)),(10,(.string ⟨#[97,100,100]⟩)),(11,(.string ⟨#[115,117,98]⟩)),(12,(.string ⟨#[109,117,108]⟩)),(13,(.string ⟨#[100,105,118]⟩)),(14,(.string ⟨#[114,101,109]⟩)),(15,(.string ⟨#[110,101,103]⟩)),(16,(.string ⟨#[108,101,115,115]⟩)),(17,(.string ⟨#[115,97,109,101]⟩)),(18,(.string ⟨#[110,111,116]⟩)),(19,(.string ⟨#[98,111,116,104]⟩)),(20,(.string ⟨#[106,111,105,110]⟩)),(21,(.string ⟨#[115,105,122,101]⟩)),(22,(.string ⟨#[106,117,109,112]⟩)),(23,(.string ⟨#[98,114,97,110,99,104]⟩)),(24,(.string ⟨#[110,101,119]⟩)),(25,(.string ⟨#[103,101,116]⟩)),(26,(.string ⟨#[112,117,116]⟩)),(27,(.string ⟨#[99,97,108,108]⟩)),(28,(.string ⟨#[97,114,114,97,121]⟩)),(29,(.string ⟨#[97,116]⟩)),(30,(.string ⟨#[115,101,116]⟩)),(31,(.string ⟨#[105,115]⟩)),(32,(.string ⟨#[99,97,115,116]⟩)),(33,(.string ⟨#[114,101,116,117,114,110]⟩)),(34,(.string ⟨#[116,104,114,111,119]⟩)),(35,(.string ⟨#[111,117,116]⟩)),(36,(.string ⟨#[101,113,117,97,108]⟩)),(37,(.string ⟨#[97,110,100]⟩)),(38,(.string ⟨#[111,114]⟩)),(39,(.string ⟨#[120,111,114]⟩)),(40,(.string ⟨#[115,104,108]⟩)),(41,(.string ⟨#[115,104,114]⟩))] w fun a w=>K a w
theorem Pj {w:World} {K:Value→World→Prop} (h:Oa w K):Q0 P F.bt [] w K:=Q9 (List.replicate 2 none) Tryz.func63 rfl (by decide) (by kernel_rfl) h
def Cv:V1:=[none,none,none,none,some ([4],[2,4,6,7,8,9,10,11,12,13,14,15,16,17,18]),none,none,none,none,none,none]
def Vm (j:Value) (w:World) (K:Value→World→Prop):Prop:= Q0 P F.bt [] w fun g w=>lp (α:=Value) (.int .i64 0) w fun a b k w=>X6 P .len [T.d] T.e [false] [g] w fun i w=>Q3 P .lss T.e (.tmp 6) (.tmp 8) b i w fun h w=>X1 h (indexAddr P T.d g b w fun c w=>Q2 P T.b c w fun d w=>Q3 P .eql T.b (.tmp 15) (.tmp 16) d j w fun e w=>X1 e (K b w) (Q3 P .add T.e (.tmp 10) (.const (.int .i64 1)) b (.int .i64 1) w fun f w=>a f w)) (K (.int .i64 (-1)) w)
theorem Su {a:Value} {w:World} {K:Value→World→Prop} (h:Vm a w K):Q0 P F.aV [a] w K:=Q9 Cv Tryz.func34 rfl (by decide) (by kernel_rfl) h
def Fm:V1:=[none,none,none,some ([4],[4,5,6,7,8,9]),none,none,none,none,none,some ([10],[10,11,12,13,14,15,16,17,18]),none,none,none,none,none,none,none,none,none,none,none,none]
def Vw (a:Value) (w:World) (K:Value→World→Prop):Prop:= jn (α:=Value) w (fun h w=>Q3 P .eql T.b (.tmp 3) (.const (.string ⟨#[105,110,116]⟩)) a (.string ⟨#[105,110,116]⟩) w fun p w=>X1 p (h p w) (Q3 P .eql T.b (.tmp 3) (.const (.string ⟨#[108,111,97,100]⟩)) a (.string ⟨#[108,111,97,100]⟩) w fun o w=>X1 o (h o w) (Q3 P .eql T.b (.tmp 3) (.const (.string ⟨#[115,116,111,114,101]⟩)) a (.string ⟨#[115,116,111,114,101]⟩) w fun n w=>X1 n (h n w) (Q3 P .eql T.b (.tmp 3) (.const (.string ⟨#[106,117,109,112]⟩)) a (.string ⟨#[106,117,109,112]⟩) w fun q w=>X1 q (h q w) (Q3 P .eql T.b (.tmp 3) (.const (.string ⟨#[98,114,97,110,99,104]⟩)) a (.string ⟨#[98,114,97,110,99,104]⟩) w fun u w=>h u w))))) fun t r w=>X1 t (K (.int .i64 1) w) (jn (α:=Value) w (fun b w=>Q3 P .eql T.b (.tmp 3) (.const (.string ⟨#[119,111,114,100]⟩)) a (.string ⟨#[119,111,114,100]⟩) w fun d w=>X1 d (b d w) (Q3 P .eql T.b (.tmp 3) (.const (.string ⟨#[110,101,119]⟩)) a (.string ⟨#[110,101,119]⟩) w fun i w=>X1 i (b i w) (Q3 P .eql T.b (.tmp 3) (.const (.string ⟨#[103,101,116]⟩)) a (.string ⟨#[103,101,116]⟩) w fun c w=>X1 c (b c w) (Q3 P .eql T.b (.tmp 3) (.const (.string ⟨#[112,117,116]⟩)) a (.string ⟨#[112,117,116]⟩) w fun e w=>X1 e (b e w) (Q3 P .eql T.b (.tmp 3) (.const (.string ⟨#[99,97,108,108]⟩)) a (.string ⟨#[99,97,108,108]⟩) w fun f w=>X1 f (b f w) (Q3 P .eql T.b (.tmp 3) (.const (.string ⟨#[97,114,114,97,121]⟩)) a (.string ⟨#[97,114,114,97,121]⟩) w fun j w=>X1 j (b j w) (Q3 P .eql T.b (.tmp 3) (.const (.string ⟨#[105,115]⟩)) a (.string ⟨#[105,115]⟩) w fun g w=>X1 g (b g w) (Q3 P .eql T.b (.tmp 3) (.const (.string ⟨#[99,97,115,116]⟩)) a (.string ⟨#[99,97,115,116]⟩) w fun m w=>b m w)))))))) fun s r w=>X1 s (K (.int .i64 2) w) (Q0 P F.aV [a] w fun l w=>Q3 P .lss T.e (.tmp 20) (.const (.int .i64 0)) l (.int .i64 0) w fun k w=>X1 k (K (.int .i64 (-1)) w) (K (.int .i64 0) w)))
theorem Fx {a:Value} {w:World} {K:Value→World→Prop} (h:Vw a w K):Q0 P F.b3 [a] w K:=Q9 Fm Tryz.func18 rfl (by decide) (by kernel_rfl) h
def Vq (h j:Value) (w:World) (K:Value→World→Prop):Prop:= X6 P .len [T.b] T.e [false] [h] w fun n w=>Q3 P .lss T.e (.tmp 5) (.tmp 7) j n w fun b w=>Q1 b true w (fun w J=>J h w) fun c w=>Q1 b true w (fun w J=>J j w) fun l w=>Q1 b true w (D9 P T.b c l) fun e w=>Q1 b true w (Q3 P .geq T.w (.tmp 12) (.const (.int .u8 128)) e (.int .u8 128)) fun g w=>pick P b g (.bool false) w fun a w=>Q1 a true w (fun w J=>J h w) fun k w=>Q1 a true w (fun w J=>J j w) fun f w=>Q1 a true w (D9 P T.b k f) fun i w=>Q1 a true w (Q3 P .lss T.w (.tmp 18) (.const (.int .u8 192)) i (.int .u8 192)) fun d w=>pick P a d (.bool false) w fun m w=>K m w
theorem Fc {b a:Value} {w:World} {K:Value→World→Prop} (h:Vq b a w K):Q0 P F.q [b,a] w K:=Q9 (List.replicate 2 none) Tryz.func242 rfl (by decide) (by kernel_rfl) h
def Kq:V1:=[none,none,some ([],[2,4,5,9,10,11,12,13,14,15,16,17,18,19,20,21,22,23,24,25,26,27,28,29,30,31,32,33,34,35,36,37,38,39,40,41,42,43,44,45,46,47,48,49,50,51,52,53,54,55,56,57,58,59,60,61,62,63,64,65,66,67,68,69,70,71,72,73,74,75,76,77,78,79,80,81,82,83,84,85,86,87,88,89,90,91,92,93,94,95,96,97,98,99,100,101,102,103,104,105,106]),none,none,none,none,none,none,none,none,none,none,none,none,none]
def Ly (c:Value) (w:World) (K:Value→World→Prop):Prop:= D9 P T.b c (.int .i64 0) w fun t7 w=>conv P T.w T.e t7 w fun H w=>jn (α:=Unit) w (fun J2 w=>Q3 P .lss T.e (.tmp 10) (.const (.int .i64 128)) H (.int .i64 128) w fun br w=>X1 br (K (.int .i64 1) w) (Q3 P .geq T.e (.tmp 13) (.const (.int .i64 194)) H (.int .i64 194) w fun ao w=>Q1 ao true w (fun w J=>J H w) fun b1 w=>Q1 ao true w (Q3 P .lss T.e (.tmp 16) (.const (.int .i64 224)) b1 (.int .i64 224)) fun bw w=>pick P ao bw (.bool false) w fun ay w=>Q1 ay true w (fun w J=>J c w) fun bh w=>Q1 ay true w (Q0 P F.q [bh,(.int .i64 1)]) fun a7 w=>pick P ay a7 (.bool false) w fun bi w=>X1 bi (K (.int .i64 2) w) (Q3 P .geq T.e (.tmp 24) (.const (.int .i64 224)) H (.int .i64 224) w fun aj w=>Q1 aj true w (fun w J=>J H w) fun bm w=>Q1 aj true w (Q3 P .lss T.e (.tmp 27) (.const (.int .i64 240)) bm (.int .i64 240)) fun bu w=>pick P aj bu (.bool false) w fun ax w=>Q1 ax true w (fun w J=>J c w) fun bl w=>Q1 ax true w (Q0 P F.q [bl,(.int .i64 1)]) fun bf w=>pick P ax bf (.bool false) w fun an w=>Q1 an true w (fun w J=>J c w) fun bn w=>Q1 an true w (Q0 P F.q [bn,(.int .i64 2)]) fun bs w=>pick P an bs (.bool false) w fun bb w=>X1 bb (dr w fun a b=>Q7 a (fun u=> ∀w,b w→Q3 P .rem T.e (.tmp 38) (.const (.int .i64 16)) H (.int .i64 16) w (dk a u w)) fun u=>Q7 a (fun o=> ∀m w,b w→u m w→Q3 P .mul T.e (.tmp 39) (.const (.int .i64 4096)) m (.int .i64 4096) w (dk a o w)) fun o=>Q7 a (fun X=> ∀w,b w→D9 P T.b c (.int .i64 1) w (dk a X w)) fun X=>Q7 a (fun D=> ∀i w,b w→X i w→Q3 P .rem T.w (.tmp 42) (.const (.int .u8 64)) i (.int .u8 64) w (dk a D w)) fun D=>Q7 a (fun R=> ∀w,b w→D9 P T.b c (.int .i64 2) w (dk a R w)) fun R=>Q7 a (fun h=> ∀L w,b w→R L w→Q3 P .rem T.w (.tmp 48) (.const (.int .u8 64)) L (.int .u8 64) w (dk a h w)) fun h=>Q7 a (fun E=> ∀p w,b w→D p w→conv P T.w T.e p w (dk a E w)) fun E=>Q7 a (fun l=> ∀M w,b w→E M w→Q3 P .mul T.e (.tmp 44) (.const (.int .i64 64)) M (.int .i64 64) w (dk a l w)) fun l=>Q7 a (fun ak=> ∀W O w,b w→o W w→l O w→Q3 P .add T.e (.tmp 40) (.tmp 45) W O w (dk a ak w)) fun ak=>Q7 a (fun aq=> ∀f w,b w→h f w→conv P T.w T.e f w (dk a aq w)) fun aq=>∀m W i p L f M O a1 a6 w,b w→u m w→o W w→X i w→D p w→R L w→h f w→E M w→l O w→ak a1 w→aq a6 w→ Q3 P .add T.e (.tmp 46) (.tmp 50) a1 a6 w fun ap w=>Q3 P .geq T.e (.tmp 52) (.const (.int .i64 2048)) ap (.int .i64 2048) w fun d w=>Q1 d true w (fun w J=>J ap w) fun bc w=>Q1 d true w (Q3 P .lss T.e (.tmp 55) (.const (.int .i64 55296)) bc (.int .i64 55296)) fun bd w=>Q1 d true w (fun w J=>J bd w) fun aw w=>Q1 aw false w (fun w J=>J ap w) fun bv w=>Q1 aw false w (Q3 P .gtr T.e (.tmp 58) (.const (.int .i64 57343)) bv (.int .i64 57343)) fun bp w=>Q1 d true w (pick P aw (.bool true) bp) fun a9 w=>pick P d a9 (.bool false) w fun b0 w=>X1 b0 (K (.int .i64 3) w) (J2 () w)) (Q3 P .geq T.e (.tmp 63) (.const (.int .i64 240)) H (.int .i64 240) w fun av w=>Q1 av true w (fun w J=>J H w) fun ba w=>Q1 av true w (Q3 P .lss T.e (.tmp 66) (.const (.int .i64 245)) ba (.int .i64 245)) fun bo w=>pick P av bo (.bool false) w fun al w=>Q1 al true w (fun w J=>J c w) fun bq w=>Q1 al true w (Q0 P F.q [bq,(.int .i64 1)]) fun bj w=>pick P al bj (.bool false) w fun ai w=>Q1 ai true w (fun w J=>J c w) fun bk w=>Q1 ai true w (Q0 P F.q [bk,(.int .i64 2)]) fun bz w=>pick P ai bz (.bool false) w fun am w=>Q1 am true w (fun w J=>J c w) fun a8 w=>Q1 am true w (Q0 P F.q [a8,(.int .i64 3)]) fun be w=>pick P am be (.bool false) w fun bg w=>X1 bg (dr w fun a b=>Q7 a (fun C=> ∀w,b w→Q3 P .rem T.e (.tmp 81) (.const (.int .i64 8)) H (.int .i64 8) w (dk a C w)) fun C=>Q7 a (fun v=> ∀g w,b w→C g w→Q3 P .mul T.e (.tmp 82) (.const (.int .i64 262144)) g (.int .i64 262144) w (dk a v w)) fun v=>Q7 a (fun Y=> ∀w,b w→D9 P T.b c (.int .i64 1) w (dk a Y w)) fun Y=>Q7 a (fun B=> ∀U w,b w→Y U w→Q3 P .rem T.w (.tmp 85) (.const (.int .u8 64)) U (.int .u8 64) w (dk a B w)) fun B=>Q7 a (fun t=> ∀w,b w→D9 P T.b c (.int .i64 2) w (dk a t w)) fun t=>Q7 a (fun V=> ∀k w,b w→t k w→Q3 P .rem T.w (.tmp 91) (.const (.int .u8 64)) k (.int .u8 64) w (dk a V w)) fun V=>Q7 a (fun ab=> ∀w,b w→D9 P T.b c (.int .i64 3) w (dk a ab w)) fun ab=>Q7 a (fun aa=> ∀af w,b w→ab af w→Q3 P .rem T.w (.tmp 97) (.const (.int .u8 64)) af (.int .u8 64) w (dk a aa w)) fun aa=>Q7 a (fun ad=> ∀r w,b w→B r w→conv P T.w T.e r w (dk a ad w)) fun ad=>Q7 a (fun j=> ∀n w,b w→ad n w→Q3 P .mul T.e (.tmp 87) (.const (.int .i64 4096)) n (.int .i64 4096) w (dk a j w)) fun j=>Q7 a (fun y=> ∀Q N w,b w→v Q w→j N w→Q3 P .add T.e (.tmp 83) (.tmp 88) Q N w (dk a y w)) fun y=>Q7 a (fun s=> ∀A w,b w→V A w→conv P T.w T.e A w (dk a s w)) fun s=>Q7 a (fun ac=> ∀ae w,b w→s ae w→Q3 P .mul T.e (.tmp 93) (.const (.int .i64 64)) ae (.int .i64 64) w (dk a ac w)) fun ac=>Q7 a (fun ar=> ∀q Z w,b w→y q w→ac Z w→Q3 P .add T.e (.tmp 89) (.tmp 94) q Z w (dk a ar w)) fun ar=>Q7 a (fun ah=> ∀z w,b w→aa z w→conv P T.w T.e z w (dk a ah w)) fun ah=>∀g Q U r k A af z n N q ae Z a3 a2 w,b w→C g w→v Q w→Y U w→B r w→t k w→V A w→ab af w→aa z w→ad n w→j N w→y q w→s ae w→ac Z w→ar a3 w→ah a2 w→ Q3 P .add T.e (.tmp 95) (.tmp 99) a3 a2 w fun ag w=>Q3 P .geq T.e (.tmp 101) (.const (.int .i64 65536)) ag (.int .i64 65536) w fun e w=>Q1 e true w (fun w J=>J ag w) fun a4 w=>Q1 e true w (Q3 P .leq T.e (.tmp 104) (.const (.int .i64 1114111)) a4 (.int .i64 1114111)) fun az w=>pick P e az (.bool false) w fun a5 w=>X1 a5 (K (.int .i64 4) w) (J2 () w)) (J2 () w))))) fun z2 d_ w=>K (.int .i64 0) w
theorem Kf {a:Value} {w:World} {K:Value→World→Prop} (h:Ly a w K):Q0 P F.bq [a] w K:=Q9 Kq Tryz.func240 rfl (by decide) (by kernel_rfl) h
def Fz:V1:=[none,none,some ([0],[0,2,3,4,5,6,7,8,9,10,11,12]),none,none,none,none,none,none,none]
def Vt (g:Value) (w:World) (K:Value→World→Prop):Prop:= lp (α:=Value) g w fun a c h w=>Q3 P .neq T.b (.tmp 4) (.const (.string ⟨#[]⟩)) c (.string ⟨#[]⟩) w fun f w=>X1 f (Q0 P F.bq [c] w fun d w=>Q3 P .eql T.e (.tmp 8) (.const (.int .i64 0)) d (.int .i64 0) w fun e w=>X1 e (K (.bool false) w) (H3 P T.b c (some d) none none w fun b w=>a b w)) (K (.bool true) w)
theorem Gn {a:Value} {w:World} {K:Value→World→Prop} (h:Vt a w K):Q0 P F.bg [a] w K:=Q9 Fz Tryz.func232 rfl (by decide) (by kernel_rfl) h
def Bg:V1:=[none,none,none,some ([5],[2,3,4,5,6,7,8,9,10,11,12,13,14,15,16,17,18,19,20,21,22,23,24,25,26,27,28,29,30,31,32,33]),none,none,none,none,none,none]
def Lj (z:Value) (w:World) (K:Value→World→Prop):Prop:= lp (α:=Value) (.int .i64 0) w fun o t N w=>X6 P .len [T.b] T.e [false] [z] w fun M w=>Q3 P .lss T.e (.tmp 6) (.tmp 8) t M w fun L w=>X1 L (D9 P T.b z t w fun E w=>Q3 P .eql T.w (.tmp 14) (.const (.int .u8 46)) E (.int .u8 46) w fun H w=>X1 H (dr w fun b d=>Q7 b (fun v=> ∀w,d w→H3 P T.b z none (some t) none w (dk b v w)) fun v=>Q7 b (fun p=> ∀w,d w→Q3 P .add T.e (.tmp 20) (.const (.int .i64 1)) t (.int .i64 1) w (dk b p w)) fun p=>Q7 b (fun u=> ∀e w,d w→p e w→H3 P T.b z (some e) none none w (dk b u w)) fun u=>Q7 b (fun l=> ∀w,d w→H3 P T.b z none (some t) none w (dk b l w)) fun l=>Q7 b (fun c=> ∀g w,d w→l g w→Q0 P F.e [g] w (dk b c w)) fun c=>Q7 b (fun j=> ∀a w,d w→c a w→Q1 a true w (fun w J=>J z w) (dk b j w)) fun j=>Q7 b (fun n=> ∀a w,d w→c a w→Q1 a true w (fun w J=>J t w) (dk b n w)) fun n=>Q7 b (fun f=> ∀a q w,d w→c a w→n q w→Q1 a true w (Q3 P .add T.e (.tmp 29) (.const (.int .i64 1)) q (.int .i64 1)) (dk b f w)) fun f=>Q7 b (fun m=> ∀a k r w,d w→c a w→j k w→f r w→Q1 a true w (H3 P T.b k (some r) none none) (dk b m w)) fun m=>Q7 b (fun i=> ∀a s w,d w→c a w→m s w→Q1 a true w (Q0 P F.s [s]) (dk b i w)) fun i=>Q7 b (fun y=> ∀a h w,d w→c a w→i h w→pick P a h (.bool false) w (dk b y w)) fun y=>∀C e B g a k q r s h A w,d w→v C w→p e w→u B w→l g w→c a w→j k w→n q w→f r w→m s w→i h w→y A w→ K (.tuple #[C,B,A]) w) (Q3 P .add T.e (.tmp 10) (.const (.int .i64 1)) t (.int .i64 1) w fun D w=>o D w)) (K (.tuple #[(.string ⟨#[]⟩),(.string ⟨#[]⟩),(.bool false)]) w)
theorem Bp {a:Value} {w:World} {K:Value→World→Prop} (h:Lj a w K):Q0 P F.bh [a] w K:=Q9 Bg Tryz.func233 rfl (by decide) (by kernel_rfl) h
def Fh:V1:=[none,none,none,none,none,none,some ([4],[4,5,6,7,8,30,31,32,33,34,35,36,37,38,39,40,41,42,43,44,45,46,47,48,49,50,51,52,53,54,55,56,57,58,59,60,61,62,63,64,65,66,67,68,69,70,71,72,73,74,75,76,77,78,79,80,81,82,83,84,85,86,87,88,89,90,91,92,93,94,95,96,97,98,99,100,101,102,103,104,105,106,107,108,109,110]),none,none,none,none,none,some ([4,5],[4,5,59,60,61,62,63,64,65,66,67,68,69,70,71,72,73]),none,none,none,none,some ([82],[82,83,84]),none,none,none,none,none,none,none]
def Wc (a0:Value) (w:World) (K:Value→World→Prop):Prop:= box P T.n a0 w fun d w=>fieldAddr P T.n d 0 w fun t9 w=>Q2 P T.b t9 w fun U w=>Q0 P F.b3 [U] w fun k w=>Q3 P .lss T.e (.tmp 12) (.const (.int .i64 0)) k (.int .i64 0) w fun ar w=>X1 ar (K (.int .i64 40) w) (Q3 P .eql T.e (.tmp 14) (.const (.int .i64 1)) k (.int .i64 1) w fun l w=>Q1 l false w (fieldAddr P T.n d 1) fun a5 w=>Q1 l false w (Q2 P T.al a5) fun be w=>Q1 l false w (Q3 P .eql T.al (.tmp 18) (.const (.int .i64 0)) be (.int .i64 0)) fun a4 w=>pick P l (.bool true) a4 w fun h w=>Q1 h true w (fun w J=>J k w) fun ah w=>Q1 h true w (Q3 P .eql T.e (.tmp 22) (.const (.int .i64 2)) ah (.int .i64 2)) fun aa w=>Q1 h true w (fun w J=>J aa w) fun i w=>Q1 i false w (fieldAddr P T.n d 2) fun R w=>Q1 i false w (Q2 P T.b R) fun Y w=>Q1 i false w (Q3 P .eql T.b (.tmp 26) (.const (.string ⟨#[]⟩)) Y (.string ⟨#[]⟩)) fun am w=>Q1 h true w (pick P i (.bool true) am) fun a2 w=>pick P h a2 (.bool false) w fun a w=>jn (α:=Value) w (fun n w=>Q3 P .eql T.e (.tmp 30) (.const (.int .i64 2)) k (.int .i64 2) w fun ak w=>X1 ak (fieldAddr P T.n d 0 w fun W w=>Q2 P T.b W w fun g w=>Q3 P .eql T.b (.tmp 33) (.const (.string ⟨#[119,111,114,100]⟩)) g (.string ⟨#[119,111,114,100]⟩) w fun ac w=>X1 ac (Q1 a true w (fieldAddr P T.n d 2) fun B w=>Q1 a true w (Q2 P T.b B) fun bb w=>Q1 a true w (X6 P .len [T.b] T.e [false] [bb]) fun az w=>Q1 a true w (Q3 P .leq T.e (.tmp 51) (.const (.int .i64 64)) az (.int .i64 64)) fun E w=>pick P a E (.bool false) w fun j w=>Q1 j true w (fieldAddr P T.n d 2) fun N w=>Q1 j true w (Q2 P T.b N) fun Q w=>Q1 j true w (Q0 P F.bg [Q]) fun a8 w=>pick P j a8 (.bool false) w fun a3 w=>lp (α:=Value×Value) (a3,(.int .i64 0)) w fun e b d_ w=>fieldAddr P T.n d 2 w fun D w=>Q2 P T.b D w fun bd w=>X6 P .len [T.b] T.e [false] [bd] w fun a6 w=>Q3 P .lss T.e (.tmp 59) (.tmp 62) b.2 a6 w fun H w=>X1 H (Q1 b.1 true w (fieldAddr P T.n d 2) fun ab w=>Q1 b.1 true w (Q2 P T.b ab) fun ay w=>Q1 b.1 true w (fun w J=>J b.2 w) fun av w=>Q1 b.1 true w (D9 P T.b ay av) fun ai w=>Q1 b.1 true w (Q3 P .neq T.w (.tmp 71) (.const (.int .u8 10)) ai (.int .u8 10)) fun O w=>pick P b.1 O (.bool false) w fun ae w=>Q3 P .add T.e (.tmp 64) (.const (.int .i64 1)) b.2 (.int .i64 1) w fun L w=>e (ae,L) w) (n b.1 w)) (Q3 P .eql T.b (.tmp 33) (.const (.string ⟨#[110,101,119]⟩)) g (.string ⟨#[110,101,119]⟩) w fun ba w=>X1 ba (Q1 a true w (fieldAddr P T.n d 2) fun C w=>Q1 a true w (Q2 P T.b C) fun V w=>Q1 a true w (Q0 P F.e [V]) fun ad w=>pick P a ad (.bool false) w fun af w=>n af w) (jn (α:=Value) w (fun r w=>Q3 P .eql T.b (.tmp 33) (.const (.string ⟨#[105,115]⟩)) g (.string ⟨#[105,115]⟩) w fun s w=>X1 s (r s w) (Q3 P .eql T.b (.tmp 33) (.const (.string ⟨#[99,97,115,116]⟩)) g (.string ⟨#[99,97,115,116]⟩) w fun al w=>r al w)) fun a7 d_ w=>X1 a7 (Q1 a true w (fieldAddr P T.n d 2) fun M w=>Q1 a true w (Q2 P T.b M) fun aq w=>Q1 a true w (Q0 P F.i [aq]) fun Z w=>pick P a Z (.bool false) w fun f w=>Q1 f true w (fieldAddr P T.n d 2) fun aj w=>Q1 f true w (Q2 P T.b aj) fun bc w=>Q1 f true w (Q0 P F.ae [bc]) fun a1 w=>Q1 f true w (J0 P .not a1) fun an w=>pick P f an (.bool false) w fun a9 w=>n a9 w) (Q3 P .eql T.b (.tmp 33) (.const (.string ⟨#[97,114,114,97,121]⟩)) g (.string ⟨#[97,114,114,97,121]⟩) w fun ag w=>X1 ag (Q1 a true w (fieldAddr P T.n d 2) fun y w=>Q1 a true w (Q2 P T.b y) fun z w=>Q1 a true w (Q0 P F.i [z]) fun A w=>pick P a A (.bool false) w fun c w=>Q1 c true w (fieldAddr P T.n d 2) fun v w=>Q1 c true w (Q2 P T.b v) fun p w=>Q1 c true w (Q0 P F.al [p]) fun t w=>Q1 c true w (Q3 P .lss T.e (.tmp 108) (.const (.int .i64 3)) t (.int .i64 3)) fun u w=>pick P c u (.bool false) w fun o w=>n o w) (fieldAddr P T.n d 2 w fun ao w=>Q2 P T.b ao w fun aw w=>Q0 P F.bh [aw] w fun m w=>ext P m 0 w fun bh w=>ext P m 1 w fun bg w=>ext P m 2 w fun ax w=>Q1 a true w (fun w J=>J ax w) fun X w=>pick P a X (.bool false) w fun ap w=>n ap w))))) (n a w)) fun z6 d_ w=>J0 P .not z6 w fun q w=>X1 q (K (.int .i64 41) w) (K (.int .i64 0) w))
theorem By {a:Value} {w:World} {K:Value→World→Prop} (h:Wc a w K):Q0 P F.bf [a] w K:=Q9 Fh Tryz.func221 rfl (by decide) (by kernel_rfl) h
def Pr:V1:=[none,none,none,some ([3],[2,3,4,5,6,7,8,9,10,11,12,13,14,15,16,17,18]),none,none,none,none,none,none,none]
def Ny (h:Value) (w:World) (K:Value→World→Prop):Prop:= lp (α:=Value) (.int .i64 0) w fun a f k w=>X6 P .len [T.l] T.e [false] [h] w fun i w=>Q3 P .lss T.e (.tmp 5) (.tmp 7) f i w fun j w=>X1 j (indexAddr P T.l h f w fun g w=>Q2 P T.n g w fun c w=>Q0 P F.bf [c] w fun b w=>Q3 P .neq T.r (.tmp 16) (.const (.int .i64 0)) b (.int .i64 0) w fun e w=>X1 e (K b w) (Q3 P .add T.e (.tmp 9) (.const (.int .i64 1)) f (.int .i64 1) w fun d w=>a d w)) (K (.int .i64 0) w)
theorem Af {a:Value} {w:World} {K:Value→World→Prop} (h:Ny a w K):Q0 P F.aP [a] w K:=Q9 Pr Tryz.func205 rfl (by decide) (by kernel_rfl) h
def Sz:V1:=[none,none,none,none,some ([3,4],[3,4,21,22,23,24,25,26,27,28,29,30,31,32,33,34,35,36]),none,none,none,none,none,none,none,none,none,some ([3,6],[3,6,7,60,61,62,63,64,65,66,67,68,69,70,71,72,73,74,75,76,77,78,79,80,81,82,83,84,85,86,87,88,89,90,91,92,93,94,95,96,97,98,99,100,101,102,103,104,105,106]),none,none,none,none,none]
def Ur (a0:Value) (w:World) (K:Value→World→Prop):Prop:= box P T.c a0 w fun e w=>fieldAddr P T.c e 0 w fun t8 w=>Q2 P T.b t8 w fun t9 w=>Q0 P F.s [t9] w fun g w=>Q1 g true w (fieldAddr P T.c e 2) fun a3 w=>Q1 g true w (Q2 P T.b a3) fun bg w=>Q1 g true w (Q3 P .eql T.b (.tmp 13) (.const (.string ⟨#[]⟩)) bg (.string ⟨#[]⟩)) fun bj w=>Q1 g true w (fun w J=>J bj w) fun p w=>Q1 p false w (fieldAddr P T.c e 2) fun bz w=>Q1 p false w (Q2 P T.b bz) fun bq w=>Q1 p false w (Q0 P F.i [bq]) fun bx w=>Q1 g true w (pick P p (.bool true) bx) fun bp w=>pick P g bp (.bool false) w fun aw w=>lp (α:=Value×Value) (aw,(.int .i64 0)) w fun n d d_ w=>fieldAddr P T.c e 1 w fun a1 w=>Q2 P T.d a1 w fun am w=>X6 P .len [T.d] T.e [false] [am] w fun ah w=>Q3 P .lss T.e (.tmp 21) (.tmp 24) d.2 ah w fun af w=>X1 af (Q1 d.1 true w (fieldAddr P T.c e 1) fun a7 w=>Q1 d.1 true w (Q2 P T.d a7) fun a8 w=>Q1 d.1 true w (fun w J=>J d.2 w) fun ai w=>Q1 d.1 true w (indexAddr P T.d a8 ai) fun ar w=>Q1 d.1 true w (Q2 P T.b ar) fun bl w=>Q1 d.1 true w (Q0 P F.i [bl]) fun bb w=>pick P d.1 bb (.bool false) w fun bk w=>Q3 P .add T.e (.tmp 26) (.const (.int .i64 1)) d.2 (.int .i64 1) w fun a9 w=>n (bk,a9) w) (fieldAddr P T.c e 3 w fun aa w=>Q2 P T.m aa w fun ax w=>X1 ax (Q1 d.1 true w (fieldAddr P T.c e 4) fun W w=>Q1 d.1 true w (Q2 P T.e W) fun Z w=>Q1 d.1 true w (Q3 P .eql T.e (.tmp 42) (.const (.int .i64 0)) Z (.int .i64 0)) fun aj w=>pick P d.1 aj (.bool false) w fun l w=>Q1 l true w (fieldAddr P T.c e 5) fun aq w=>Q1 l true w (Q2 P T.l aq) fun bf w=>Q1 l true w (X6 P .len [T.l] T.e [false] [bf]) fun ba w=>Q1 l true w (Q3 P .eql T.e (.tmp 48) (.const (.int .i64 0)) ba (.int .i64 0)) fun U w=>pick P l U (.bool false) w fun m w=>Q1 m true w (fieldAddr P T.c e 6) fun Y w=>Q1 m true w (Q2 P T.o Y) fun bh w=>Q1 m true w (X6 P .len [T.o] T.e [false] [bh]) fun ao w=>Q1 m true w (Q3 P .eql T.e (.tmp 54) (.const (.int .i64 0)) ao (.int .i64 0)) fun ad w=>pick P m ad (.bool false) w fun ae w=>K ae w) (fieldAddr P T.c e 5 w fun bs w=>Q2 P T.l bs w fun bo w=>X6 P .len [T.l] T.e [false] [bo] w fun r w=>lp (α:=Value×Value) (d.1,(.int .i64 0)) w fun i b d_ w=>fieldAddr P T.c e 6 w fun bw w=>Q2 P T.o bw w fun br w=>X6 P .len [T.o] T.e [false] [br] w fun ab w=>Q3 P .lss T.e (.tmp 60) (.tmp 63) b.2 ab w fun bn w=>X1 bn (fieldAddr P T.c e 6 w fun bc w=>Q2 P T.o bc w fun an w=>indexAddr P T.o an b.2 w fun bi w=>Q2 P T.p bi w fun a2 w=>W3 P T.p w fun q w=>Z3 P T.p q a2 w fun _u w=>Q1 b.1 true w (fieldAddr P T.p q 0) fun a5 w=>Q1 b.1 true w (Q2 P T.e a5) fun bu w=>Q1 b.1 true w (Q3 P .geq T.e (.tmp 75) (.const (.int .i64 0)) bu (.int .i64 0)) fun ap w=>pick P b.1 ap (.bool false) w fun h w=>Q1 h true w (fieldAddr P T.p q 0) fun ag w=>Q1 h true w (Q2 P T.e ag) fun av w=>Q1 h true w (fieldAddr P T.p q 1) fun az w=>Q1 h true w (Q2 P T.e az) fun V w=>Q1 h true w (Q3 P .lss T.e (.tmp 80) (.tmp 82) av V) fun be w=>pick P h be (.bool false) w fun j w=>Q1 j true w (fieldAddr P T.p q 1) fun al w=>Q1 j true w (Q2 P T.e al) fun ac w=>Q1 j true w (fun w J=>J r w) fun bd w=>Q1 j true w (Q3 P .leq T.e (.tmp 87) (.tmp 88) ac bd) fun ak w=>pick P j ak (.bool false) w fun o w=>Q1 o true w (fieldAddr P T.p q 2) fun a4 w=>Q1 o true w (Q2 P T.e a4) fun bv w=>Q1 o true w (Q3 P .geq T.e (.tmp 93) (.const (.int .i64 0)) bv (.int .i64 0)) fun bm w=>pick P o bm (.bool false) w fun k w=>Q1 k true w (fieldAddr P T.p q 2) fun b0 w=>Q1 k true w (Q2 P T.e b0) fun ay w=>Q1 k true w (fun w J=>J r w) fun a6 w=>Q1 k true w (Q3 P .lss T.e (.tmp 98) (.tmp 99) ay a6) fun z w=>pick P k z (.bool false) w fun f w=>Q1 f true w (fieldAddr P T.p q 3) fun R w=>Q1 f true w (Q2 P T.b R) fun L w=>Q1 f true w (Q0 P F.e [L]) fun t w=>pick P f t (.bool false) w fun O w=>Q3 P .add T.e (.tmp 65) (.const (.int .i64 1)) b.2 (.int .i64 1) w fun X w=>i (O,X) w) (Q1 b.1 true w (fun w J=>J r w) fun N w=>Q1 b.1 true w (Q3 P .gtr T.e (.tmp 109) (.const (.int .i64 0)) N (.int .i64 0)) fun v w=>pick P b.1 v (.bool false) w fun a w=>Q1 a true w (fieldAddr P T.c e 4) fun Q w=>Q1 a true w (Q2 P T.e Q) fun D w=>Q1 a true w (fieldAddr P T.c e 1) fun M w=>Q1 a true w (Q2 P T.d M) fun y w=>Q1 a true w (X6 P .len [T.d] T.e [false] [y]) fun A w=>Q1 a true w (Q3 P .gtr T.e (.tmp 114) (.tmp 117) D A) fun s w=>pick P a s (.bool false) w fun c w=>Q1 c true w (fieldAddr P T.c e 5) fun B w=>Q1 c true w (Q2 P T.l B) fun E w=>Q1 c true w (Q0 P F.aP [E]) fun H w=>Q1 c true w (Q3 P .eql T.r (.tmp 123) (.const (.int .i64 0)) H (.int .i64 0)) fun C w=>pick P c C (.bool false) w fun u w=>K u w)))
theorem Cr {a:Value} {w:World} {K:Value→World→Prop} (h:Ur a w K):Q0 P F.x [a] w K:=Q9 Sz Tryz.func172 rfl (by decide) (by kernel_rfl) h
def Fv:V1:=[none,none,none,none,some ([3,4],[3,4,5,26,27,28,29,30,31,32,33,34,35,36,37,38,39,40,41,42,43,44,45,46,47,48,49,50,51,52,53,54,55,56,57,58,59,60,61,62,63,64,65,66,67,68,69,70]),none,none,none,none,none,some ([3,5],[3,5,52,53,54,55,56,57,58,59,60,61,62,63,64,65,66,67,68,69,70]),none,none,none,none,none,some ([3,6],[3,6,7,71,72,73,74,75,76,77,78,79,80,81,82,83,84,85,86,87,88,89,90,91,92,93,94,95,96,97,98,99,100,101,102,103,104,105,106,107,108,109,110,111,112,113,114,115,116,117,118,119,120,121,122]),none,none,none,none,none,some ([3,7],[3,7,102,103,104,105,106,107,108,109,110,111,112,113,114,115,116,117,118,119,120,121,122]),none,none,none,none,none,some ([3,8],[3,8,9,10,123,124,125,126,127,128,129,130,131,132,133,134,135,136,137,138,139,140,141,142,143,144,145,146,147,148,149,150,151,152,153,154,155,156,157,158,159,160,161,162,163,164,165,166,167,168,169,170,171,172,173,174]),none,none,none,none,none,none,some ([3,10],[3,10,158,159,160,161,162,163,164,165,166,167,168,169,170,171,172,173,174]),none,none,none,none]
def Wa (a0:Value) (w:World) (K:Value→World→Prop):Prop:= box P T.a a0 w fun i w=>fieldAddr P T.a i 0 w fun ef w=>Q2 P T.b ef w fun eb w=>Q0 P F.e [eb] w fun be w=>Q1 be true w (fieldAddr P T.a i 1) fun e2 w=>Q1 be true w (Q2 P T.b e2) fun e9 w=>Q1 be true w (Q0 P F.e [e9]) fun eh w=>pick P be eh (.bool false) w fun ah w=>Q1 ah true w (fieldAddr P T.a i 0) fun d8 w=>Q1 ah true w (Q2 P T.b d8) fun ek w=>Q1 ah true w (fieldAddr P T.a i 1) fun et w=>Q1 ah true w (Q2 P T.b et) fun d7 w=>Q1 ah true w (Q3 P .neq T.b (.tmp 21) (.tmp 23) ek d7) fun d5 w=>pick P ah d5 (.bool false) w fun d4 w=>lp (α:=Value×Value) (d4,(.int .i64 0)) w fun ax q d_ w=>fieldAddr P T.a i 2 w fun ez w=>Q2 P T.d ez w fun e6 w=>X6 P .len [T.d] T.e [false] [e6] w fun e7 w=>Q3 P .lss T.e (.tmp 26) (.tmp 29) q.2 e7 w fun ex w=>X1 ex (dr w fun a b=>Q7 a (fun b3=> ∀w,b w→Q1 q.1 true w (fieldAddr P T.a i 2) (dk a b3 w)) fun b3=>Q7 a (fun a7=> ∀w,b w→Q1 q.1 true w (fun w J=>J q.2 w) (dk a a7 w)) fun a7=>Q7 a (fun bz=> ∀bw w,b w→b3 bw w→Q1 q.1 true w (Q2 P T.d bw) (dk a bz w)) fun bz=>Q7 a (fun bc=> ∀bg bo w,b w→bz bg w→a7 bo w→Q1 q.1 true w (indexAddr P T.d bg bo) (dk a bc w)) fun bc=>Q7 a (fun bu=> ∀a8 w,b w→bc a8 w→Q1 q.1 true w (Q2 P T.b a8) (dk a bu w)) fun bu=>Q7 a (fun bq=> ∀a1 w,b w→bu a1 w→Q1 q.1 true w (Q0 P F.e [a1]) (dk a bq w)) fun bq=>Q7 a (fun j=> ∀bh w,b w→bq bh w→pick P q.1 bh (.bool false) w (dk a j w)) fun j=>Q7 a (fun a9=> ∀c w,b w→j c w→Q1 c true w (fieldAddr P T.a i 2) (dk a a9 w)) fun a9=>Q7 a (fun bp=> ∀c w,b w→j c w→Q1 c true w (fun w J=>J q.2 w) (dk a bp w)) fun bp=>Q7 a (fun bf=> ∀c w,b w→j c w→Q1 c true w (fieldAddr P T.a i 0) (dk a bf w)) fun bf=>Q7 a (fun ba=> ∀c a4 w,b w→j c w→a9 a4 w→Q1 c true w (Q2 P T.d a4) (dk a ba w)) fun ba=>Q7 a (fun a3=> ∀c bx b0 w,b w→j c w→ba bx w→bp b0 w→Q1 c true w (indexAddr P T.d bx b0) (dk a a3 w)) fun a3=>Q7 a (fun cb=> ∀c bs w,b w→j c w→a3 bs w→Q1 c true w (Q2 P T.b bs) (dk a cb w)) fun cb=>Q7 a (fun ca=> ∀c bd w,b w→j c w→bf bd w→Q1 c true w (Q2 P T.b bd) (dk a ca w)) fun ca=>∀bw bo bg a8 a1 bh c a4 b0 bd bx bs dn c4 w,b w→b3 bw w→a7 bo w→bz bg w→bc a8 w→bu a1 w→bq bh w→j c w→a9 a4 w→bp b0 w→bf bd w→ba bx w→a3 bs w→cb dn w→ca c4 w→ Q1 c true w (Q3 P .neq T.b (.tmp 47) (.tmp 49) dn c4) fun e8 w=>pick P c e8 (.bool false) w fun eg w=>lp (α:=Value×Value) (eg,(.int .i64 0)) w fun aq e d_ w=>Q3 P .lss T.e (.tmp 52) (.tmp 53) e.2 q.2 w fun eq w=>X1 eq (dr w fun a b=>Q7 a (fun bb=> ∀w,b w→Q1 e.1 true w (fieldAddr P T.a i 2) (dk a bb w)) fun bb=>Q7 a (fun bk=> ∀w,b w→Q1 e.1 true w (fun w J=>J e.2 w) (dk a bk w)) fun bk=>Q7 a (fun bm=> ∀w,b w→Q1 e.1 true w (fieldAddr P T.a i 2) (dk a bm w)) fun bm=>Q7 a (fun a6=> ∀w,b w→Q1 e.1 true w (fun w J=>J q.2 w) (dk a a6 w)) fun a6=>Q7 a (fun bv=> ∀b2 w,b w→bb b2 w→Q1 e.1 true w (Q2 P T.d b2) (dk a bv w)) fun bv=>Q7 a (fun a5=> ∀az bl w,b w→bv az w→bk bl w→Q1 e.1 true w (indexAddr P T.d az bl) (dk a a5 w)) fun a5=>Q7 a (fun b9=> ∀bi w,b w→a5 bi w→Q1 e.1 true w (Q2 P T.b bi) (dk a b9 w)) fun b9=>Q7 a (fun br=> ∀b4 w,b w→bm b4 w→Q1 e.1 true w (Q2 P T.d b4) (dk a br w)) fun br=>Q7 a (fun ay=> ∀a2 bn w,b w→br a2 w→a6 bn w→Q1 e.1 true w (indexAddr P T.d a2 bn) (dk a ay w)) fun ay=>Q7 a (fun cc=> ∀b1 w,b w→ay b1 w→Q1 e.1 true w (Q2 P T.b b1) (dk a cc w)) fun cc=>∀b2 bl b4 bn az bi ch a2 b1 db w,b w→bb b2 w→bk bl w→bm b4 w→a6 bn w→bv az w→a5 bi w→b9 ch w→br a2 w→ay b1 w→cc db w→ Q1 e.1 true w (Q3 P .neq T.b (.tmp 63) (.tmp 68) ch db) fun e3 w=>pick P e.1 e3 (.bool false) w fun e1 w=>Q3 P .add T.e (.tmp 55) (.const (.int .i64 1)) e.2 (.int .i64 1) w fun d3 w=>aq (e1,d3) w) (Q3 P .add T.e (.tmp 31) (.const (.int .i64 1)) q.2 (.int .i64 1) w fun d6 w=>ax (e.1,d6) w)) (lp (α:=Value×Value) (q.1,(.int .i64 0)) w fun ao f d_ w=>fieldAddr P T.a i 6 w fun d2 w=>Q2 P T.i d2 w fun d9 w=>X6 P .len [T.i] T.e [false] [d9] w fun eu w=>Q3 P .lss T.e (.tmp 71) (.tmp 74) f.2 eu w fun ei w=>X1 ei (Q1 f.1 true w (fieldAddr P T.a i 6) fun er w=>Q1 f.1 true w (Q2 P T.i er) fun ea w=>Q1 f.1 true w (fun w J=>J f.2 w) fun d1 w=>Q1 f.1 true w (indexAddr P T.i ea d1) fun ed w=>Q1 f.1 true w (fieldAddr P T.k ed 0) fun ey w=>Q1 f.1 true w (Q2 P T.b ey) fun ee w=>Q1 f.1 true w (Q0 P F.s [ee]) fun ep w=>pick P f.1 ep (.bool false) w fun n w=>Q1 n true w (fieldAddr P T.a i 6) fun eo w=>Q1 n true w (Q2 P T.i eo) fun em w=>Q1 n true w (fun w J=>J f.2 w) fun el w=>Q1 n true w (indexAddr P T.i em el) fun ec w=>Q1 n true w (fieldAddr P T.k ec 1) fun ej w=>Q1 n true w (Q2 P T.b ej) fun e5 w=>Q1 n true w (Q0 P F.i [e5]) fun e0 w=>pick P n e0 (.bool false) w fun bj w=>Q1 bj true w (fieldAddr P T.a i 3) fun es w=>Q1 bj true w (Q2 P T.m es) fun ew w=>Q1 bj true w (J0 P .not ew) fun cp w=>pick P bj cp (.bool false) w fun c2 w=>lp (α:=Value×Value) (c2,(.int .i64 0)) w fun aw d d_ w=>Q3 P .lss T.e (.tmp 102) (.tmp 103) d.2 f.2 w fun cx w=>X1 cx (dr w fun a b=>Q7 a (fun B=> ∀w,b w→Q1 d.1 true w (fieldAddr P T.a i 6) (dk a B w)) fun B=>Q7 a (fun ac=> ∀w,b w→Q1 d.1 true w (fun w J=>J d.2 w) (dk a ac w)) fun ac=>Q7 a (fun aa=> ∀w,b w→Q1 d.1 true w (fieldAddr P T.a i 6) (dk a aa w)) fun aa=>Q7 a (fun p=> ∀w,b w→Q1 d.1 true w (fun w J=>J f.2 w) (dk a p w)) fun p=>Q7 a (fun U=> ∀ae w,b w→B ae w→Q1 d.1 true w (Q2 P T.i ae) (dk a U w)) fun U=>Q7 a (fun Y=> ∀V W w,b w→U V w→ac W w→Q1 d.1 true w (indexAddr P T.i V W) (dk a Y w)) fun Y=>Q7 a (fun D=> ∀z w,b w→Y z w→Q1 d.1 true w (fieldAddr P T.k z 0) (dk a D w)) fun D=>Q7 a (fun aj=> ∀M w,b w→D M w→Q1 d.1 true w (Q2 P T.b M) (dk a aj w)) fun aj=>Q7 a (fun s=> ∀H w,b w→aa H w→Q1 d.1 true w (Q2 P T.i H) (dk a s w)) fun s=>Q7 a (fun t=> ∀X y w,b w→s X w→p y w→Q1 d.1 true w (indexAddr P T.i X y) (dk a t w)) fun t=>Q7 a (fun ab=> ∀Q w,b w→t Q w→Q1 d.1 true w (fieldAddr P T.k Q 0) (dk a ab w)) fun ab=>Q7 a (fun am=> ∀u w,b w→ab u w→Q1 d.1 true w (Q2 P T.b u) (dk a am w)) fun am=>∀ae W H y V z M b7 X Q u b5 w,b w→B ae w→ac W w→aa H w→p y w→U V w→Y z w→D M w→aj b7 w→s X w→t Q w→ab u w→am b5 w→ Q1 d.1 true w (Q3 P .neq T.b (.tmp 114) (.tmp 120) b7 b5) fun cr w=>pick P d.1 cr (.bool false) w fun cv w=>Q3 P .add T.e (.tmp 105) (.const (.int .i64 1)) d.2 (.int .i64 1) w fun du w=>aw (cv,du) w) (Q3 P .add T.e (.tmp 76) (.const (.int .i64 1)) f.2 (.int .i64 1) w fun e4 w=>ao (d.1,e4) w)) (lp (α:=Value×Value) (f.1,(.int .i64 0)) w fun an h d_ w=>fieldAddr P T.a i 7 w fun dj w=>Q2 P T.g dj w fun ck w=>X6 P .len [T.g] T.e [false] [ck] w fun cu w=>Q3 P .lss T.e (.tmp 123) (.tmp 126) h.2 cu w fun c7 w=>X1 c7 (fieldAddr P T.a i 7 w fun dd w=>Q2 P T.g dd w fun c3 w=>indexAddr P T.g c3 h.2 w fun cs w=>Q2 P T.c cs w fun c8 w=>W3 P T.c w fun t9 w=>Z3 P T.c t9 c8 w fun _u w=>Q1 h.1 true w (Q2 P T.c t9) fun ci w=>Q1 h.1 true w (Q0 P F.x [ci]) fun dl w=>pick P h.1 dl (.bool false) w fun l w=>Q1 l true w (fieldAddr P T.c t9 3) fun dq w=>Q1 l true w (Q2 P T.m dq) fun dm w=>Q1 l true w (J0 P .not dm) fun cj w=>Q1 l true w (fun w J=>J cj w) fun al w=>Q1 al false w (fieldAddr P T.a i 4) fun dg w=>Q1 al false w (Q2 P T.m dg) fun cw w=>Q1 l true w (pick P al (.bool true) cw) fun dh w=>pick P l dh (.bool false) w fun m w=>Q1 m true w (fieldAddr P T.a i 3) fun di w=>Q1 m true w (Q2 P T.m di) fun d0 w=>Q1 m true w (J0 P .not d0) fun da w=>Q1 m true w (fun w J=>J da w) fun av w=>Q1 av false w (fieldAddr P T.c t9 3) fun cd w=>Q1 av false w (Q2 P T.m cd) fun c9 w=>Q1 m true w (pick P av (.bool true) c9) fun dx w=>pick P m dx (.bool false) w fun ds w=>lp (α:=Value×Value) (ds,(.int .i64 0)) w fun ar g d_ w=>Q3 P .lss T.e (.tmp 158) (.tmp 159) g.2 h.2 w fun cf w=>X1 cf (dr w fun a b=>Q7 a (fun Z=> ∀w,b w→Q1 g.1 true w (fieldAddr P T.a i 7) (dk a Z w)) fun Z=>Q7 a (fun E=> ∀w,b w→Q1 g.1 true w (fun w J=>J g.2 w) (dk a E w)) fun E=>Q7 a (fun v=> ∀w,b w→Q1 g.1 true w (fieldAddr P T.c t9 0) (dk a v w)) fun v=>Q7 a (fun C=> ∀A w,b w→Z A w→Q1 g.1 true w (Q2 P T.g A) (dk a C w)) fun C=>Q7 a (fun af=> ∀ad N w,b w→C ad w→E N w→Q1 g.1 true w (indexAddr P T.g ad N) (dk a af w)) fun af=>Q7 a (fun O=> ∀L w,b w→af L w→Q1 g.1 true w (fieldAddr P T.c L 0) (dk a O w)) fun O=>Q7 a (fun ap=> ∀r w,b w→O r w→Q1 g.1 true w (Q2 P T.b r) (dk a ap w)) fun ap=>Q7 a (fun ak=> ∀R w,b w→v R w→Q1 g.1 true w (Q2 P T.b R) (dk a ak w)) fun ak=>∀A N R ad L r b8 b6 w,b w→Z A w→E N w→v R w→C ad w→af L w→O r w→ap b8 w→ak b6 w→ Q1 g.1 true w (Q3 P .neq T.b (.tmp 170) (.tmp 172) b8 b6) fun cy w=>pick P g.1 cy (.bool false) w fun ce w=>Q3 P .add T.e (.tmp 161) (.const (.int .i64 1)) g.2 (.int .i64 1) w fun dc w=>ar (ce,dc) w) (Q3 P .add T.e (.tmp 128) (.const (.int .i64 1)) h.2 (.int .i64 1) w fun dw w=>an (g.1,dw) w)) (Q1 h.1 true w (fieldAddr P T.a i 3) fun dt w=>Q1 h.1 true w (Q2 P T.m dt) fun cz w=>Q1 h.1 true w (J0 P .not cz) fun de w=>Q1 h.1 true w (fun w J=>J de w) fun o w=>Q1 o false w (fieldAddr P T.a i 4) fun df w=>Q1 o false w (Q2 P T.m df) fun c6 w=>Q1 o false w (fun w J=>J c6 w) fun ag w=>Q1 ag true w (fieldAddr P T.a i 1) fun cl w=>Q1 ag true w (Q2 P T.b cl) fun c5 w=>Q1 ag true w (Q3 P .eql T.b (.tmp 185) (.const (.string ⟨#[79,98,106,101,99,116]⟩)) c5 (.string ⟨#[79,98,106,101,99,116]⟩)) fun co w=>Q1 o false w (pick P ag co (.bool false)) fun cg w=>Q1 h.1 true w (pick P o (.bool true) cg) fun dz w=>pick P h.1 dz (.bool false) w fun k w=>Q1 k true w (fieldAddr P T.a i 4) fun dy w=>Q1 k true w (Q2 P T.m dy) fun cq w=>Q1 k true w (fun w J=>J cq w) fun ai w=>Q1 ai true w (fieldAddr P T.a i 5) fun c0 w=>Q1 ai true w (Q2 P T.m c0) fun c1 w=>Q1 k true w (pick P ai c1 (.bool false)) fun cm w=>Q1 k true w (J0 P .not cm) fun dp w=>pick P k dp (.bool false) w fun cn w=>K cn w)))
theorem Gq {a:Value} {w:World} {K:Value→World→Prop} (h:Wa a w K):Q0 P F.ba [a] w K:=Q9 Fv Tryz.func113 rfl (by decide) (by kernel_rfl) h
def Lp (g:Value) (w:World) (K:Value→World→Prop):Prop:= box P T.a g w fun a w=>Q2 P T.a a w fun f w=>Q0 P F.bl [f] w fun b w=>X1 b (K (.int .i64 51) w) (Q2 P T.a a w fun e w=>Q0 P F.ba [e] w fun d w=>J0 P .not d w fun c w=>X1 c (K (.int .i64 50) w) (K (.int .i64 0) w))
theorem Bh {a:Value} {w:World} {K:Value→World→Prop} (h:Lp a w K):Q0 P F.b7 [a] w K:=Q9 (List.replicate 8 none) Tryz.func53 rfl (by decide) (by kernel_rfl) h
def Kv:V1:=[none,none,none,some ([5],[4,5,6,7,8,9,10,11,12,13,14,15,16,17,18,19]),none,none,none,none,none,none]
def Ls (h k:Value) (w:World) (K:Value→World→Prop):Prop:= lp (α:=Value) (.int .i64 0) w fun a b l w=>X6 P .len [T.h] T.e [false] [h] w fun j w=>Q3 P .lss T.e (.tmp 6) (.tmp 8) b j w fun i w=>X1 i (indexAddr P T.h h b w fun c w=>fieldAddr P T.a c 0 w fun d w=>Q2 P T.b d w fun f w=>Q3 P .eql T.b (.tmp 16) (.tmp 17) f k w fun e w=>X1 e (K b w) (Q3 P .add T.e (.tmp 10) (.const (.int .i64 1)) b (.int .i64 1) w fun g w=>a g w)) (K (.int .i64 (-1)) w)
theorem Ki {b a:Value} {w:World} {K:Value→World→Prop} (h:Ls b a w K):Q0 P F.c [b,a] w K:=Q9 Kv Tryz.func54 rfl (by decide) (by kernel_rfl) h
def Cf:V1:=[none,none,none,none,none,none,none,some ([6],[4,6,7,28,29,30,31,32,33,34,35,36,37,38,39,40,41,42,43,44,45,46,47,48,49,50,51]),none,none,none,none,none,none,none]
def Uu (h W:Value) (w:World) (K:Value→World→Prop):Prop:= box P T.a W w fun b w=>fieldAddr P T.a b 1 w fun V w=>Q2 P T.b V w fun o w=>Q0 P F.c [h,o] w fun f w=>Q3 P .lss T.e (.tmp 12) (.const (.int .i64 0)) f (.int .i64 0) w fun c w=>Q1 c false w (fun w J=>J h w) fun p w=>Q1 c false w (fun w J=>J f w) fun Q w=>Q1 c false w (indexAddr P T.h p Q) fun D w=>Q1 c false w (fieldAddr P T.a D 3) fun R w=>Q1 c false w (Q2 P T.m R) fun C w=>pick P c (.bool true) C w fun d w=>Q1 d false w (fun w J=>J h w) fun H w=>Q1 d false w (fun w J=>J f w) fun B w=>Q1 d false w (indexAddr P T.h H B) fun v w=>Q1 d false w (fieldAddr P T.a v 5) fun q w=>Q1 d false w (Q2 P T.m q) fun A w=>pick P d (.bool true) A w fun u w=>X1 u (K (.int .i64 61) w) (lp (α:=Value) (.int .i64 0) w fun e t X w=>fieldAddr P T.a b 2 w fun L w=>Q2 P T.d L w fun N w=>X6 P .len [T.d] T.e [false] [N] w fun O w=>Q3 P .lss T.e (.tmp 28) (.tmp 31) t O w fun y w=>X1 y (fieldAddr P T.a b 2 w fun n w=>Q2 P T.d n w fun l w=>indexAddr P T.d l t w fun m w=>Q2 P T.b m w fun r w=>Q0 P F.c [h,r] w fun g w=>Q3 P .lss T.e (.tmp 42) (.const (.int .i64 0)) g (.int .i64 0) w fun a w=>Q1 a false w (fun w J=>J h w) fun j w=>Q1 a false w (fun w J=>J g w) fun E w=>Q1 a false w (indexAddr P T.h j E) fun k w=>Q1 a false w (fieldAddr P T.a k 3) fun U w=>Q1 a false w (Q2 P T.m U) fun i w=>Q1 a false w (J0 P .not i) fun M w=>pick P a (.bool true) M w fun s w=>X1 s (K (.int .i64 62) w) (Q3 P .add T.e (.tmp 33) (.const (.int .i64 1)) t (.int .i64 1) w fun z w=>e z w)) (K (.int .i64 0) w))
theorem Sn {b a:Value} {w:World} {K:Value→World→Prop} (h:Uu b a w K):Q0 P F.aX [b,a] w K:=Q9 Cf Tryz.func55 rfl (by decide) (by kernel_rfl) h
def Fg:V1:=[none,none,none,none,some ([3,4],[3,4,5,6,7,8,13,14,15,16,17,18,19,20,21,22,23,24,25,26,27,28,29,30,31,32,33,34,35,36,37,38,39,40,41,42,43,44,45,46,47,48,49,50,51,52,53,54]),none,none,none,none,none,none,none,some ([7],[7,8,34,35,36,37,38,39,40,41,42,43,44,45,46,47,48,49,50]),none,none,some ([],[8,40,41,42,43,44,45,46,47,48,49,50]),none,none,none,none,some ([9],[9,10,11,55,56,57,58,59,60,61,62,63,64,65,66,67,68,69,70,71,72,73,74,75,76,77,78,79,80,81,82,83,84,85,86,87,88,89,90,91,92,93,94,95,96,97,98,99,100,101,102,103]),none,none,none,none,some ([10],[10,11,61,62,63,64,65,66,67,68,69,70,71,72,73,74,75,76,77,78,79,80,81,82,83,84,85,86,87,88,89,90,91,92,93,94,95,96,97,98,99,100,101,102,103]),none,none,none,none,some ([11],[11,67,68,69,70,71,72,73,74,75,76,77,78,79,80,81,82,83,84,85,86,87,88,89,90,91,92,93,94,95,96,97,98,99,100,101,102,103]),none,none,none,none]
def Lk (a0:Value) (w:World) (K:Value→World→Prop):Prop:= buildSlice P T.a1 0 [] w fun bo w=>lp (α:=Value×Value) (bo,(.int .i64 0)) w fun s r d_ w=>X6 P .len [T.h] T.e [false] [a0] w fun bv w=>Q3 P .lss T.e (.tmp 13) (.tmp 15) r.2 bv w fun b3 w=>X1 b3 (X6 P .len [T.h] T.e [false] [a0] w fun bb w=>Mw P T.a0 bb bb w fun a6 w=>dr w fun b d=>Q7 b (fun al=> ∀w,d w→indexAddr P T.h a0 r.2 w (dk b al w)) fun al=>Q7 b (fun ak=> ∀C w,d w→al C w→fieldAddr P T.a C 1 w (dk b ak w)) fun ak=>Q7 b (fun ae=> ∀w,d w→indexAddr P T.h a0 r.2 w (dk b ae w)) fun ae=>Q7 b (fun L=> ∀Z w,d w→ae Z w→fieldAddr P T.a Z 2 w (dk b L w)) fun L=>Q7 b (fun af=> ∀A w,d w→ak A w→Q2 P T.b A w (dk b af w)) fun af=>Q7 b (fun a5=> ∀D w,d w→af D w→buildSlice P T.d 1 [(0,D)] w (dk b a5 w)) fun a5=>Q7 b (fun a4=> ∀aa w,d w→L aa w→Q2 P T.d aa w (dk b a4 w)) fun a4=>∀C A Z aa D bc a7 w,d w→al C w→ak A w→ae Z w→L aa w→af D w→a5 bc w→a4 a7 w→ X6 P .append [T.d,T.d] T.d [false,false] [bc,a7] w fun ba w=>lp (α:=Value) (.int .i64 0) w fun k a3 d_ w=>X6 P .len [T.d] T.e [false] [ba] w fun bu w=>Q3 P .lss T.e (.tmp 34) (.tmp 36) a3 bu w fun bi w=>X1 bi (jn (α:=Unit) w (fun a8 w=>indexAddr P T.d ba a3 w fun bm w=>Q2 P T.b bm w fun bp w=>Q0 P F.c [a0,bp] w fun be w=>Q3 P .geq T.e (.tmp 46) (.const (.int .i64 0)) be (.int .i64 0) w fun bq w=>X1 bq (indexAddr P T.a0 a6 be w fun b1 w=>Z3 P T.m b1 (.bool true) w fun _u w=>a8 () w) (a8 () w)) fun b4 d_ w=>Q3 P .add T.e (.tmp 38) (.const (.int .i64 1)) a3 (.int .i64 1) w fun bk w=>k bk w) (buildSlice P T.a1 1 [(0,a6)] w fun br w=>X6 P .append [T.a1,T.a1] T.a1 [false,false] [r.1,br] w fun bn w=>Q3 P .add T.e (.tmp 17) (.const (.int .i64 1)) r.2 (.int .i64 1) w fun b2 w=>s (bn,b2) w)) (lp (α:=Value) (.int .i64 0) w fun l N d_ w=>X6 P .len [T.h] T.e [false] [a0] w fun b0 w=>Q3 P .lss T.e (.tmp 55) (.tmp 57) N b0 w fun bz w=>X1 bz (lp (α:=Value) (.int .i64 0) w fun p q d_ w=>X6 P .len [T.h] T.e [false] [a0] w fun bj w=>Q3 P .lss T.e (.tmp 61) (.tmp 63) q bj w fun bx w=>X1 bx (lp (α:=Value) (.int .i64 0) w fun o n d_ w=>X6 P .len [T.h] T.e [false] [a0] w fun bw w=>Q3 P .lss T.e (.tmp 67) (.tmp 69) n bw w fun bs w=>X1 bs (dr w fun b d=>Q7 b (fun aq=> ∀w,d w→indexAddr P T.a1 r.1 q w (dk b aq w)) fun aq=>Q7 b (fun av=> ∀w,d w→indexAddr P T.a1 r.1 q w (dk b av w)) fun av=>Q7 b (fun a2=> ∀ar w,d w→aq ar w→Q2 P T.a0 ar w (dk b a2 w)) fun a2=>Q7 b (fun aw=> ∀R w,d w→av R w→Q2 P T.a0 R w (dk b aw w)) fun aw=>Q7 b (fun O=> ∀V w,d w→aw V w→indexAddr P T.a0 V n w (dk b O w)) fun O=>Q7 b (fun e=> ∀ad w,d w→O ad w→Q2 P T.m ad w (dk b e w)) fun e=>Q7 b (fun W=> ∀a w,d w→e a w→Q1 a false w (fun w J=>J r.1 w) (dk b W w)) fun W=>Q7 b (fun ax=> ∀a w,d w→e a w→Q1 a false w (fun w J=>J q w) (dk b ax w)) fun ax=>Q7 b (fun u=> ∀a H z w,d w→e a w→W H w→ax z w→Q1 a false w (indexAddr P T.a1 H z) (dk b u w)) fun u=>Q7 b (fun t=> ∀a w,d w→e a w→Q1 a false w (fun w J=>J N w) (dk b t w)) fun t=>Q7 b (fun Q=> ∀a ac w,d w→e a w→u ac w→Q1 a false w (Q2 P T.a0 ac) (dk b Q w)) fun Q=>Q7 b (fun M=> ∀a E B w,d w→e a w→Q E w→t B w→Q1 a false w (indexAddr P T.a0 E B) (dk b M w)) fun M=>Q7 b (fun ag=> ∀a v w,d w→e a w→M v w→Q1 a false w (Q2 P T.m v) (dk b ag w)) fun ag=>Q7 b (fun f=> ∀a X w,d w→e a w→ag X w→Q1 a false w (fun w J=>J X w) (dk b f w)) fun f=>Q7 b (fun ao=> ∀c w,d w→f c w→Q1 c true w (fun w J=>J r.1 w) (dk b ao w)) fun ao=>Q7 b (fun aj=> ∀c w,d w→f c w→Q1 c true w (fun w J=>J N w) (dk b aj w)) fun aj=>Q7 b (fun ah=> ∀c ai ab w,d w→f c w→ao ai w→aj ab w→Q1 c true w (indexAddr P T.a1 ai ab) (dk b ah w)) fun ah=>Q7 b (fun am=> ∀c w,d w→f c w→Q1 c true w (fun w J=>J n w) (dk b am w)) fun am=>Q7 b (fun an=> ∀c ap w,d w→f c w→ah ap w→Q1 c true w (Q2 P T.a0 ap) (dk b an w)) fun an=>Q7 b (fun y=> ∀c ay U w,d w→f c w→an ay w→am U w→Q1 c true w (indexAddr P T.a0 ay U) (dk b y w)) fun y=>Q7 b (fun j=> ∀c Y w,d w→f c w→y Y w→Q1 c true w (Q2 P T.m Y) (dk b j w)) fun j=>Q7 b (fun g=> ∀a c h w,d w→e a w→f c w→j h w→Q1 a false w (pick P c h (.bool false)) (dk b g w)) fun g=>Q7 b (fun m=> ∀a i w,d w→e a w→g i w→pick P a (.bool true) i w (dk b m w)) fun m=>∀ar R a9 V ad a H z ac B E v X c ai ab ap U ay Y h i a1 w,d w→aq ar w→av R w→a2 a9 w→aw V w→O ad w→e a w→W H w→ax z w→u ac w→t B w→Q E w→M v w→ag X w→f c w→ao ai w→aj ab w→ah ap w→am U w→an ay w→y Y w→j h w→g i w→m a1 w→ indexAddr P T.a0 a9 n w fun bf w=>Z3 P T.m bf a1 w fun _u w=>Q3 P .add T.e (.tmp 71) (.const (.int .i64 1)) n (.int .i64 1) w fun bl w=>o bl w) (Q3 P .add T.e (.tmp 65) (.const (.int .i64 1)) q (.int .i64 1) w fun bh w=>p bh w)) (Q3 P .add T.e (.tmp 59) (.const (.int .i64 1)) N (.int .i64 1) w fun bg w=>l bg w)) (K r.1 w))
theorem Gj {a:Value} {w:World} {K:Value→World→Prop} (h:Lk a w K):Q0 P F.aA [a] w K:=Q9 Fg Tryz.func56 rfl (by decide) (by kernel_rfl) h
def Tc:V1:=[none,none,none,none,none,none,some ([9],[8,9,16,17,18,19,20,21,22,23,24,25,26,27,28]),none,none,none,none,none,none,none,none,some ([1,11],[1,11,41,42,43,44,45,46,47,48,49,50,51,52,53,54,55,56]),none,none,none,none]
def Of (y v X s:Value) (w:World) (K:Value→World→Prop):Prop:= Q3 P .lss T.e (.tmp 12) (.tmp 13) s X w fun H w=>X1 H (K v w) (lp (α:=Value) (.int .i64 0) w fun e z Y w=>X6 P .len [T.z] T.e [false] [v] w fun W w=>Q3 P .lss T.e (.tmp 16) (.tmp 18) z W w fun U w=>X1 U (indexAddr P T.z v z w fun O w=>Q2 P T.e O w fun L w=>Q3 P .eql T.e (.tmp 25) (.tmp 26) L s w fun N w=>X1 N (K v w) (Q3 P .add T.e (.tmp 20) (.const (.int .i64 1)) z (.int .i64 1) w fun A w=>e A w)) (dr w fun a o=>Q7 a (fun h=> ∀w,o w→indexAddr P T.h y s w (dk a h w)) fun h=>Q7 a (fun g=> ∀m w,o w→h m w→fieldAddr P T.a m 1 w (dk a g w)) fun g=>Q7 a (fun k=> ∀w,o w→indexAddr P T.h y s w (dk a k w)) fun k=>Q7 a (fun n=> ∀d w,o w→k d w→fieldAddr P T.a d 2 w (dk a n w)) fun n=>Q7 a (fun i=> ∀f w,o w→g f w→Q2 P T.b f w (dk a i w)) fun i=>Q7 a (fun p=> ∀j w,o w→i j w→buildSlice P T.d 1 [(0,j)] w (dk a p w)) fun p=>Q7 a (fun q=> ∀l w,o w→n l w→Q2 P T.d l w (dk a q w)) fun q=>∀m f d l j u r w,o w→h m w→g f w→k d w→n l w→i j w→p u w→q r w→ X6 P .append [T.d,T.d] T.d [false,false] [u,r] w fun t w=>lp (α:=Value×Value) (v,(.int .i64 0)) w fun c b Y w=>X6 P .len [T.d] T.e [false] [t] w fun Q w=>Q3 P .lss T.e (.tmp 41) (.tmp 43) b.2 Q w fun B w=>X1 B (indexAddr P T.d t b.2 w fun D w=>Q2 P T.b D w fun R w=>Q0 P F.c [y,R] w fun J w=>Q0 P F.aN [y,b.1,X,J] w fun M w=>Q3 P .add T.e (.tmp 45) (.const (.int .i64 1)) b.2 (.int .i64 1) w fun V w=>c (M,V) w) (buildSlice P T.z 1 [(0,s)] w fun E w=>X6 P .append [T.z,T.z] T.z [false,false] [b.1,E] w fun C w=>K C w)))
theorem Pn {b a d c:Value} {w:World} {K:Value→World→Prop} (h:Of b a d c w K):Q0 P F.aN [b,a,d,c] w K:=Q9 Tc Tryz.func57 rfl (by decide) (by kernel_rfl) h
end Go.Proofs.YtfppjenblllfaaaGreatDoor

set_option maxRecDepth 100000
namespace Go.Proofs.YtfppjenblllfaaaGreatDoor
open Go.Emb
def Qk (u A:Value) (w:World) (K:Value→World→Prop):Prop:= Q0 P F.c [u,A] w fun z w=>Q3 P .lss T.e (.tmp 9) (.const (.int .i64 0)) z (.int .i64 0) w fun v w=>X1 v (K (.slice none 0 0) w) (dr w fun a b=>Q7 a (fun k=> ∀w,b w→indexAddr P T.h u z w (dk a k w)) fun k=>Q7 a (fun c=> ∀g w,b w→k g w→fieldAddr P T.a g 1 w (dk a c w)) fun c=>Q7 a (fun h=> ∀w,b w→indexAddr P T.h u z w (dk a h w)) fun h=>Q7 a (fun m=> ∀n w,b w→h n w→fieldAddr P T.a n 6 w (dk a m w)) fun m=>Q7 a (fun e=> ∀w,b w→buildSlice P T.i 0 [] w (dk a e w)) fun e=>Q7 a (fun d=> ∀p w,b w→c p w→Q2 P T.b p w (dk a d w)) fun d=>Q7 a (fun i=> ∀l w,b w→d l w→Q0 P F.y [u,l] w (dk a i w)) fun i=>Q7 a (fun q=> ∀f o w,b w→e f w→i o w→X6 P .append [T.i,T.i] T.i [false,false] [f,o] w (dk a q w)) fun q=>Q7 a (fun r=> ∀j w,b w→m j w→Q2 P T.i j w (dk a r w)) fun r=>∀g p n j f l o t s w,b w→k g w→c p w→h n w→m j w→e f w→d l w→i o w→q t w→r s w→ X6 P .append [T.i,T.i] T.i [false,false] [t,s] w fun y w=>K y w)
theorem Vi {b a:Value} {w:World} {K:Value→World→Prop} (h:Qk b a w K):Q0 P F.y [b,a] w K:=Q9 (List.replicate 6 none) Tryz.func173 rfl (by decide) (by kernel_rfl) h
def Bk:V1:=[none,none,none,none,some ([8],[6,8,12,13,14,15,16,17,18,19,20,21,22,23,24,25]),none,none,none,none,none,none]
def Wn (l k m:Value) (w:World) (K:Value→World→Prop):Prop:= Q0 P F.y [l,k] w fun b w=>lp (α:=Value) (.int .i64 0) w fun a c n w=>X6 P .len [T.i] T.e [false] [b] w fun d w=>Q3 P .lss T.e (.tmp 12) (.tmp 14) c d w fun f w=>X1 f (indexAddr P T.i b c w fun j w=>fieldAddr P T.k j 0 w fun g w=>Q2 P T.b g w fun e w=>Q3 P .eql T.b (.tmp 22) (.tmp 23) e m w fun i w=>X1 i (K c w) (Q3 P .add T.e (.tmp 16) (.const (.int .i64 1)) c (.int .i64 1) w fun h w=>a h w)) (K (.int .i64 (-1)) w)
theorem Bd {b a c:Value} {w:World} {K:Value→World→Prop} (h:Wn b a c w K):Q0 P F.bb [b,a,c] w K:=Q9 Bk Tryz.func114 rfl (by decide) (by kernel_rfl) h
def Lz (b:Value) (w:World) (K:Value→World→Prop):Prop:= X6 P .len [T.b] T.e [false] [b] w fun e w=>Q0 P F.al [b] w fun c w=>Q3 P .mul T.e (.const (.int .i64 2)) (.tmp 7) (.int .i64 2) c w fun f w=>Q3 P .sub T.e (.tmp 5) (.tmp 8) e f w fun d w=>H3 P T.b b none (some d) none w fun a w=>K a w
theorem Il {a:Value} {w:World} {K:Value→World→Prop} (h:Lz a w K):Q0 P F.aH [a] w K:=Q9 (List.replicate 2 none) Tryz.func121 rfl (by decide) (by kernel_rfl) h
def Mq (p d:Value) (w:World) (K:Value→World→Prop):Prop:= Q3 P .eql T.b (.tmp 5) (.const (.string ⟨#[110,117,108,108]⟩)) d (.string ⟨#[110,117,108,108]⟩) w fun c w=>Q1 c false w (fun w J=>J d w) fun r w=>Q1 c false w (Q0 P F.i [r]) fun q w=>Q1 c false w (fun w J=>J q w) fun b w=>Q1 b true w (fun w J=>J d w) fun g w=>Q1 b true w (Q0 P F.aH [g]) fun m w=>Q1 b true w (Q0 P F.ae [m]) fun f w=>Q1 b true w (fun w J=>J f w) fun a w=>Q1 a false w (fun w J=>J p w) fun h w=>Q1 a false w (fun w J=>J d w) fun o w=>Q1 a false w (Q0 P F.aH [o]) fun j w=>Q1 a false w (Q0 P F.c [h,j]) fun n w=>Q1 a false w (Q3 P .geq T.e (.tmp 18) (.const (.int .i64 0)) n (.int .i64 0)) fun i w=>Q1 b true w (pick P a (.bool true) i) fun k w=>Q1 c false w (pick P b k (.bool false)) fun e w=>pick P c (.bool true) e w fun l w=>K l w
theorem Kk {b a:Value} {w:World} {K:Value→World→Prop} (h:Mq b a w K):Q0 P F.bk [b,a] w K:=Q9 (List.replicate 2 none) Tryz.func61 rfl (by decide) (by kernel_rfl) h
def Wg (g d:Value) (w:World) (K:Value→World→Prop):Prop:= Q3 P .neq T.b (.tmp 5) (.const (.string ⟨#[110,117,108,108]⟩)) d (.string ⟨#[110,117,108,108]⟩) w fun a w=>Q1 a true w (fun w J=>J g w) fun f w=>Q1 a true w (fun w J=>J d w) fun e w=>Q1 a true w (Q0 P F.bk [f,e]) fun b w=>pick P a b (.bool false) w fun c w=>K c w
theorem Gg {b a:Value} {w:World} {K:Value→World→Prop} (h:Wg b a w K):Q0 P F.bc [b,a] w K:=Q9 (List.replicate 2 none) Tryz.func115 rfl (by decide) (by kernel_rfl) h
def Kj:V1:=[none,none,none,none,some ([3,4],[3,4,5,6,7,8,9,10,11,12,13,14,15,16,17,18,19,20,21,22]),none,none,none,some ([3],[3,12,13,14,15]),none,none]
def Ms (r:Value) (w:World) (K:Value→World→Prop):Prop:= box P T.c r w fun a w=>lp (α:=Value×Value) ((.string ⟨#[40]⟩),(.int .i64 0)) w fun b c q w=>fieldAddr P T.c a 1 w fun t w=>Q2 P T.d t w fun s w=>X6 P .len [T.d] T.e [false] [s] w fun y w=>Q3 P .lss T.e (.tmp 5) (.tmp 8) c.2 y w fun v w=>X1 v (jn (α:=Value) w (fun p w=>Q3 P .gtr T.e (.tmp 12) (.const (.int .i64 0)) c.2 (.int .i64 0) w fun e w=>X1 e (Q3 P .add T.b (.tmp 14) (.const (.string ⟨#[44]⟩)) c.1 (.string ⟨#[44]⟩) w fun g w=>p g w) (p c.1 w)) fun u q w=>fieldAddr P T.c a 1 w fun l w=>Q2 P T.d l w fun k w=>indexAddr P T.d k c.2 w fun m w=>Q2 P T.b m w fun d w=>Q3 P .add T.b (.tmp 16) (.tmp 21) u d w fun n w=>Q3 P .add T.e (.tmp 10) (.const (.int .i64 1)) c.2 (.int .i64 1) w fun f w=>b (n,f) w) (Q3 P .add T.b (.tmp 23) (.const (.string ⟨#[41]⟩)) c.1 (.string ⟨#[41]⟩) w fun i w=>fieldAddr P T.c a 2 w fun h w=>Q2 P T.b h w fun j w=>Q3 P .add T.b (.tmp 24) (.tmp 26) i j w fun o w=>K o w)
theorem Ip {a:Value} {w:World} {K:Value→World→Prop} (h:Ms a w K):Q0 P F.aG [a] w K:=Q9 Kj Tryz.func116 rfl (by decide) (by kernel_rfl) h
def Ac:V1:=[none,none,none,some ([5],[4,5,6,7,8,9,10,11,12,13,14,15,16,17,18,19,20,21]),none,none,none,none,none,none]
def Nn (l p:Value) (w:World) (K:Value→World→Prop):Prop:= box P T.a l w fun a w=>lp (α:=Value) (.int .i64 0) w fun b c q w=>fieldAddr P T.a a 7 w fun m w=>Q2 P T.g m w fun o w=>X6 P .len [T.g] T.e [false] [o] w fun n w=>Q3 P .lss T.e (.tmp 6) (.tmp 9) c n w fun f w=>X1 f (fieldAddr P T.a a 7 w fun d w=>Q2 P T.g d w fun e w=>indexAddr P T.g e c w fun k w=>fieldAddr P T.c k 0 w fun g w=>Q2 P T.b g w fun j w=>Q3 P .eql T.b (.tmp 18) (.tmp 19) j p w fun h w=>X1 h (K c w) (Q3 P .add T.e (.tmp 11) (.const (.int .i64 1)) c (.int .i64 1) w fun i w=>b i w)) (K (.int .i64 (-1)) w)
theorem Ta {b a:Value} {w:World} {K:Value→World→Prop} (h:Nn b a w K):Q0 P F.aO [b,a] w K:=Q9 Ac Tryz.func174 rfl (by decide) (by kernel_rfl) h
def Fl:V1:=[none,none,none,some ([9],[6,8,9,10,11,12,13,14,15,16,17,18,19,20,21,22,23,24,25,26,27,28,29,30,31,32,33,34,35,36,37,38,39,40,41,42,43,44,45,46,47,48,49,50,51,52,53,54]),none,none,none,none,none,none,none,none,none,none,none,none]
def Wp (D a1 a2:Value) (w:World) (K:Value→World→Prop):Prop:= box P T.a a1 w fun d w=>W3 P T.c w fun s w=>lp (α:=Value) (.int .i64 0) w fun n C d_ w=>fieldAddr P T.a d 2 w fun ab w=>Q2 P T.d ab w fun U w=>X6 P .len [T.d] T.e [false] [U] w fun aa w=>Q3 P .lss T.e (.tmp 15) (.tmp 18) C aa w fun R w=>X1 R (fieldAddr P T.a d 2 w fun N w=>Q2 P T.d N w fun J w=>indexAddr P T.d J C w fun M w=>Q2 P T.b M w fun Q w=>Q0 P F.c [D,Q] w fun W w=>indexAddr P T.h D W w fun Y w=>Q2 P T.a Y w fun Z w=>W3 P T.a w fun a w=>Z3 P T.a a Z w fun _u w=>Q2 P T.a a w fun O w=>Q0 P F.aO [O,a2] w fun t w=>Q3 P .geq T.e (.tmp 35) (.const (.int .i64 0)) t (.int .i64 0) w fun E w=>X1 E (dr w fun b e=>Q7 b (fun m=> ∀w,e w→fieldAddr P T.a a 0 w (dk b m w)) fun m=>Q7 b (fun l=> ∀w,e w→fieldAddr P T.a a 7 w (dk b l w)) fun l=>Q7 b (fun q=> ∀g w,e w→m g w→Q2 P T.b g w (dk b q w)) fun q=>Q7 b (fun j=> ∀h w,e w→l h w→Q2 P T.g h w (dk b j w)) fun j=>Q7 b (fun k=> ∀i w,e w→j i w→indexAddr P T.g i t w (dk b k w)) fun k=>Q7 b (fun p=> ∀f w,e w→k f w→Q2 P T.c f w (dk b p w)) fun p=>∀g h z i f u w,e w→m g w→l h w→q z w→j i w→k f w→p u w→ Z3 P T.c s u w fun _u w=>V4 P T.c s w fun v=>K (.tuple #[z,v,(.bool true)]) w) (Q2 P T.a a w fun V w=>Q0 P F.aC [D,V,a2] w fun r w=>ext P r 0 w fun A w=>ext P r 1 w fun X w=>ext P r 2 w fun L w=>W3 P T.c w fun c w=>Z3 P T.c c X w fun _u w=>X1 L (dr w fun b e=>Q7 b (fun o=> ∀w,e w→Q2 P T.c c w (dk b o w)) fun o=>∀y w,e w→o y w→ Z3 P T.c s y w fun _u w=>V4 P T.c s w fun v=>K (.tuple #[A,v,(.bool true)]) w) (Q3 P .add T.e (.tmp 20) (.const (.int .i64 1)) C (.int .i64 1) w fun B w=>n B w))) (N1 P T.c [] w fun H w=>Z3 P T.c s H w fun _u w=>V4 P T.c s w fun v=>K (.tuple #[(.string ⟨#[]⟩),v,(.bool false)]) w)
theorem Bf {b a c:Value} {w:World} {K:Value→World→Prop} (h:Wp b a c w K):Q0 P F.aC [b,a,c] w K:=Q9 Fl Tryz.func175 rfl (by decide) (by kernel_rfl) h
def Cu:V1:=[none,none,none,some ([9],[6,8,9,10,18,19,20,21,22,23,24,25,26,27,28,29,30,31,32,33,34,35,36,37,38,39,40,41,42,43,44,45,46,47]),none,none,none,none,none,none,none,none,some ([11],[6,8,11,12,13,14,51,52,53,54,55,56,57,58,59,60,61,62,63,64,65,66,67,68,69,70,71,72,73]),none,none,none,none,none,none,none]
def Va (d a1 a2:Value) (w:World) (K:Value→World→Prop):Prop:= W3 P T.c w fun y w=>Q0 P F.c [d,a1] w fun ac w=>lp (α:=Value) ac w fun m z d_ w=>Q3 P .geq T.e (.tmp 18) (.const (.int .i64 0)) z (.int .i64 0) w fun aa w=>X1 aa (indexAddr P T.h d z w fun ae w=>Q2 P T.a ae w fun ah w=>Q0 P F.aO [ah,a2] w fun D w=>Q3 P .geq T.e (.tmp 33) (.const (.int .i64 0)) D (.int .i64 0) w fun V w=>X1 V (dr w fun a b=>Q7 a (fun l=> ∀w,b w→indexAddr P T.h d z w (dk a l w)) fun l=>Q7 a (fun q=> ∀g w,b w→l g w→fieldAddr P T.a g 0 w (dk a q w)) fun q=>Q7 a (fun i=> ∀w,b w→indexAddr P T.h d z w (dk a i w)) fun i=>Q7 a (fun o=> ∀f w,b w→i f w→fieldAddr P T.a f 7 w (dk a o w)) fun o=>Q7 a (fun t=> ∀n w,b w→q n w→Q2 P T.b n w (dk a t w)) fun t=>Q7 a (fun p=> ∀j w,b w→o j w→Q2 P T.g j w (dk a p w)) fun p=>Q7 a (fun h=> ∀e w,b w→p e w→indexAddr P T.g e D w (dk a h w)) fun h=>Q7 a (fun v=> ∀k w,b w→h k w→Q2 P T.c k w (dk a v w)) fun v=>∀g n f j C e k B w,b w→l g w→q n w→i f w→o j w→t C w→p e w→h k w→v B w→ Z3 P T.c y B w fun _u w=>V4 P T.c y w fun E=>K (.tuple #[C,E,(.bool true)]) w) (indexAddr P T.h d z w fun X w=>fieldAddr P T.a X 1 w fun U w=>Q2 P T.b U w fun Q w=>Q0 P F.c [d,Q] w fun W w=>m W w)) (Q0 P F.c [d,a1] w fun af w=>lp (α:=Value) af w fun c s d_ w=>Q3 P .geq T.e (.tmp 51) (.const (.int .i64 0)) s (.int .i64 0) w fun J w=>X1 J (indexAddr P T.h d s w fun Z w=>Q2 P T.a Z w fun N w=>Q0 P F.aC [d,N,a2] w fun r w=>ext P r 0 w fun Y w=>ext P r 1 w fun R w=>ext P r 2 w fun L w=>W3 P T.c w fun A w=>Z3 P T.c A R w fun _u w=>X1 L (dr w fun a b=>Q7 a (fun u=> ∀w,b w→Q2 P T.c A w (dk a u w)) fun u=>∀H w,b w→u H w→ Z3 P T.c y H w fun _u w=>V4 P T.c y w fun E=>K (.tuple #[Y,E,(.bool true)]) w) (indexAddr P T.h d s w fun O w=>fieldAddr P T.a O 1 w fun ad w=>Q2 P T.b ad w fun ab w=>Q0 P F.c [d,ab] w fun M w=>c M w)) (N1 P T.c [] w fun ag w=>Z3 P T.c y ag w fun _u w=>V4 P T.c y w fun E=>K (.tuple #[(.string ⟨#[]⟩),E,(.bool false)]) w))
theorem Ct {b a c:Value} {w:World} {K:Value→World→Prop} (h:Va b a c w K):Q0 P F.aZ [b,a,c] w K:=Q9 Cu Tryz.func117 rfl (by decide) (by kernel_rfl) h
def Sj:V1:=[none,none,none,none,some ([6],[4,6,24,25,26,27,28,29,30,31,32,33,34,35,36,37,38,39,40,41]),none,none,none,none,none,none,none,none,some ([7,8],[7,8,43,44,45,46,47,48,49,50,51,52,53,54,55,56,57,58]),none,none,none,none,none,some ([7,9],[7,9,59,60,61,62,63,64,65,66,67,68,69,70,71,72,73,74,75,76,77,78,79,80,81,82,83,84,85,86,87,88,89]),none,none,some ([7],[7,66,67,68,69,70,71,72,73,74,75,76,77,78,79,80,81,82,83,84,85,86,87,88,89]),none,none,none,none,some ([10],[4,10,90,91,92,93,94,95,96,97,98,99,100,101,102]),none,none,none,none,none,none,none,none,none,some ([12,13],[12,13,106,107,108,109,110,111,112,113,114,115,116,117,118,119,120,121,122,123,124,125,126,127,128,129,130]),none,none,some ([12],[12,112,113,114,115,116,117,118,119,120,121,122,123,124,125,126,127,128,129,130]),none,none,none,some ([14],[4,14,15,131,132,133,134,135,136,137,138,139,140,141,142,143,144,145,146,147,148,149,150,151,152,153,154,155,156,157,158,159,160,161,162,163,164,165]),none,none,none,none,some ([15],[4,15,137,138,139,140,141,142,143,144,145,146,147,148,149,150,151,152,153,154,155,156,157,158,159,160,161,162,163,164,165]),none,none,none,none,none,none,none,some ([16],[4,16,17,18,19,166,167,168,169,170,171,172,173,174,175,176,177,178,179,180,181,182,183,184,185,186,187,188,189,190,191,192,193,194,195]),none,none,none,none,none,none,none]
def Js (a0 a1:Value) (w:World) (K:Value→World→Prop):Prop:= indexAddr P T.h a0 a1 w fun d2 w=>Q2 P T.a d2 w fun c7 w=>W3 P T.a w fun t5 w=>Z3 P T.a t5 c7 w fun _u w=>lp (α:=Value) (.int .i64 0) w fun a2 x4 d_ w=>fieldAddr P T.a t5 6 w fun c6 w=>Q2 P T.i c6 w fun du w=>X6 P .len [T.i] T.e [false] [du] w fun d7 w=>Q3 P .lss T.e (.tmp 24) (.tmp 27) x4 d7 w fun ef w=>X1 ef (dr w fun b c=>Q7 b (fun bf=> ∀w,c w→fieldAddr P T.a t5 1 w (dk b bf w)) fun bf=>Q7 b (fun a8=> ∀w,c w→fieldAddr P T.a t5 6 w (dk b a8 w)) fun a8=>Q7 b (fun bl=> ∀a3 w,c w→bf a3 w→Q2 P T.b a3 w (dk b bl w)) fun bl=>Q7 b (fun bd=> ∀be w,c w→a8 be w→Q2 P T.i be w (dk b bd w)) fun bd=>Q7 b (fun a5=> ∀bc w,c w→bd bc w→indexAddr P T.i bc x4 w (dk b a5 w)) fun a5=>Q7 b (fun a7=> ∀ba w,c w→a5 ba w→fieldAddr P T.k ba 0 w (dk b a7 w)) fun a7=>Q7 b (fun bm=> ∀a6 w,c w→a7 a6 w→Q2 P T.b a6 w (dk b bm w)) fun bm=>∀a3 be cq bc ba a6 bq w,c w→bf a3 w→a8 be w→bl cq w→bd bc w→a5 ba w→a7 a6 w→bm bq w→ Q0 P F.bb [a0,cq,bq] w fun dc w=>Q3 P .geq T.e (.tmp 40) (.const (.int .i64 0)) dc (.int .i64 0) w fun dp w=>X1 dp (K (.int .i64 64) w) (Q3 P .add T.e (.tmp 29) (.const (.int .i64 1)) x4 (.int .i64 1) w fun d6 w=>a2 d6 w)) (buildSlice P T.d 0 [] w fun dq w=>lp (α:=Value×Value) (dq,(.int .i64 0)) w fun ai az d_ w=>fieldAddr P T.a t5 6 w fun d9 w=>Q2 P T.i d9 w fun ea w=>X6 P .len [T.i] T.e [false] [ea] w fun d0 w=>Q3 P .lss T.e (.tmp 43) (.tmp 46) az.2 d0 w fun ec w=>X1 ec (fieldAddr P T.a t5 6 w fun dd w=>Q2 P T.i dd w fun cz w=>indexAddr P T.i cz az.2 w fun dy w=>fieldAddr P T.k dy 1 w fun ds w=>Q2 P T.b ds w fun c5 w=>buildSlice P T.d 1 [(0,c5)] w fun dg w=>X6 P .append [T.d,T.d] T.d [false,false] [az.1,dg] w fun de w=>Q3 P .add T.e (.tmp 48) (.const (.int .i64 1)) az.2 (.int .i64 1) w fun dm w=>ai (de,dm) w) (lp (α:=Value×Value) (az.1,(.int .i64 0)) w fun aw j d_ w=>fieldAddr P T.a t5 7 w fun cy w=>Q2 P T.g cy w fun dl w=>X6 P .len [T.g] T.e [false] [dl] w fun df w=>Q3 P .lss T.e (.tmp 59) (.tmp 62) j.2 df w fun c0 w=>X1 c0 (jn (α:=Value) w (fun cf w=>fieldAddr P T.a t5 7 w fun eb w=>Q2 P T.g eb w fun dx w=>indexAddr P T.g dx j.2 w fun ed w=>fieldAddr P T.c ed 1 w fun d3 w=>Q2 P T.d d3 w fun c4 w=>X6 P .append [T.d,T.d] T.d [false,false] [j.1,c4] w fun bz w=>fieldAddr P T.a t5 7 w fun d4 w=>Q2 P T.g d4 w fun dh w=>indexAddr P T.g dh j.2 w fun ee w=>fieldAddr P T.c ee 2 w fun dn w=>Q2 P T.b dn w fun dt w=>Q3 P .neq T.b (.tmp 79) (.const (.string ⟨#[]⟩)) dt (.string ⟨#[]⟩) w fun d1 w=>X1 d1 (fieldAddr P T.a t5 7 w fun cx w=>Q2 P T.g cx w fun da w=>indexAddr P T.g da j.2 w fun db w=>fieldAddr P T.c db 2 w fun dw w=>Q2 P T.b dw w fun c3 w=>buildSlice P T.d 1 [(0,c3)] w fun c9 w=>X6 P .append [T.d,T.d] T.d [false,false] [bz,c9] w fun dv w=>cf dv w) (cf bz w)) fun eg d_ w=>Q3 P .add T.e (.tmp 64) (.const (.int .i64 1)) j.2 (.int .i64 1) w fun c2 w=>aw (eg,c2) w) (lp (α:=Value) (.int .i64 0) w fun aj bj d_ w=>X6 P .len [T.d] T.e [false] [j.1] w fun c8 w=>Q3 P .lss T.e (.tmp 90) (.tmp 92) bj c8 w fun dj w=>X1 dj (indexAddr P T.d j.1 bj w fun d5 w=>Q2 P T.b d5 w fun bw w=>Q0 P F.bc [a0,bw] w fun cc w=>J0 P .not cc w fun cw w=>X1 cw (K (.int .i64 65) w) (Q3 P .add T.e (.tmp 94) (.const (.int .i64 1)) bj (.int .i64 1) w fun d8 w=>aj d8 w)) (Q0 P F.aA [a0] w fun b5 w=>buildSlice P T.g 0 [] w fun cj w=>lp (α:=Value×Value) (cj,(.int .i64 0)) w fun aq f d_ w=>X6 P .len [T.h] T.e [false] [a0] w fun b6 w=>Q3 P .lss T.e (.tmp 106) (.tmp 108) f.2 b6 w fun ct w=>X1 ct (jn (α:=Value) w (fun cv w=>Q3 P .eql T.e (.tmp 112) (.tmp 113) f.2 a1 w fun g w=>Q1 g false w (fun w J=>J b5 w) fun cn w=>Q1 g false w (fun w J=>J a1 w) fun bx w=>Q1 g false w (indexAddr P T.a1 cn bx) fun ch w=>Q1 g false w (Q2 P T.a0 ch) fun bu w=>Q1 g false w (fun w J=>J f.2 w) fun bs w=>Q1 g false w (indexAddr P T.a0 bu bs) fun b1 w=>Q1 g false w (Q2 P T.m b1) fun b3 w=>pick P g (.bool true) b3 w fun b4 w=>X1 b4 (indexAddr P T.h a0 f.2 w fun ck w=>fieldAddr P T.a ck 7 w fun cd w=>Q2 P T.g cd w fun cu w=>X6 P .append [T.g,T.g] T.g [false,false] [f.1,cu] w fun cr w=>cv cr w) (cv f.1 w)) fun dz d_ w=>Q3 P .add T.e (.tmp 110) (.const (.int .i64 1)) f.2 (.int .i64 1) w fun co w=>aq (dz,co) w) (lp (α:=Value) (.int .i64 0) w fun ak an d_ w=>X6 P .len [T.g] T.e [false] [f.1] w fun b2 w=>Q3 P .lss T.e (.tmp 131) (.tmp 133) an b2 w fun cl w=>X1 cl (lp (α:=Value) (.int .i64 0) w fun ap bb d_ w=>Q3 P .lss T.e (.tmp 137) (.tmp 138) bb an w fun ce w=>X1 ce (dr w fun b c=>Q7 b (fun L=> ∀w,c w→indexAddr P T.g f.1 an w (dk b L w)) fun L=>Q7 b (fun Q=> ∀B w,c w→L B w→fieldAddr P T.c B 0 w (dk b Q w)) fun Q=>Q7 b (fun v=> ∀w,c w→indexAddr P T.g f.1 bb w (dk b v w)) fun v=>Q7 b (fun C=> ∀u w,c w→v u w→fieldAddr P T.c u 0 w (dk b C w)) fun C=>Q7 b (fun m=> ∀W w,c w→Q W w→Q2 P T.b W w (dk b m w)) fun m=>Q7 b (fun U=> ∀X w,c w→C X w→Q2 P T.b X w (dk b U w)) fun U=>Q7 b (fun d=> ∀y ae w,c w→m y w→U ae w→Q3 P .eql T.b (.tmp 146) (.tmp 151) y ae w (dk b d w)) fun d=>Q7 b (fun t=> ∀a w,c w→d a w→Q1 a true w (fun w J=>J f.1 w) (dk b t w)) fun t=>Q7 b (fun R=> ∀a w,c w→d a w→Q1 a true w (fun w J=>J an w) (dk b R w)) fun R=>Q7 b (fun r=> ∀a l H w,c w→d a w→t l w→R H w→Q1 a true w (indexAddr P T.g l H) (dk b r w)) fun r=>Q7 b (fun O=> ∀a w,c w→d a w→Q1 a true w (fun w J=>J f.1 w) (dk b O w)) fun O=>Q7 b (fun N=> ∀a w,c w→d a w→Q1 a true w (fun w J=>J bb w) (dk b N w)) fun N=>Q7 b (fun n=> ∀a ag o w,c w→d a w→O ag w→N o w→Q1 a true w (indexAddr P T.g ag o) (dk b n w)) fun n=>Q7 b (fun D=> ∀a ac w,c w→d a w→r ac w→Q1 a true w (Q2 P T.c ac) (dk b D w)) fun D=>Q7 b (fun ao=> ∀a Y w,c w→d a w→D Y w→Q1 a true w (Q0 P F.aG [Y]) (dk b ao w)) fun ao=>Q7 b (fun am=> ∀a af w,c w→d a w→n af w→Q1 a true w (Q2 P T.c af) (dk b am w)) fun am=>∀B W u X y ae a l H ac ag o af Y bh bi w,c w→L B w→Q W w→v u w→C X w→m y w→U ae w→d a w→t l w→R H w→r ac w→O ag w→N o w→n af w→D Y w→ao bh w→am bi w→ Q1 a true w (Q0 P F.aG [bi]) fun bv w=>Q1 a true w (Q3 P .neq T.b (.tmp 158) (.tmp 163) bh bv) fun cm w=>pick P a cm (.bool false) w fun b0 w=>X1 b0 (K (.int .i64 66) w) (Q3 P .add T.e (.tmp 140) (.const (.int .i64 1)) bb (.int .i64 1) w fun cs w=>ap cs w)) (Q3 P .add T.e (.tmp 135) (.const (.int .i64 1)) an (.int .i64 1) w fun ca w=>ak ca w)) (lp (α:=Value) (.int .i64 0) w fun av bk d_ w=>X6 P .len [T.g] T.e [false] [f.1] w fun b8 w=>Q3 P .lss T.e (.tmp 166) (.tmp 168) bk b8 w fun p w=>Q1 p true w (fieldAddr P T.a t5 4) fun ci w=>Q1 p true w (Q2 P T.m ci) fun cg w=>Q1 p true w (J0 P .not cg) fun b7 w=>pick P p b7 (.bool false) w fun bo w=>X1 bo (dr w fun b c=>Q7 b (fun A=> ∀w,c w→fieldAddr P T.a t5 0 w (dk b A w)) fun A=>Q7 b (fun M=> ∀w,c w→indexAddr P T.g f.1 bk w (dk b M w)) fun M=>Q7 b (fun z=> ∀ad w,c w→M ad w→fieldAddr P T.c ad 0 w (dk b z w)) fun z=>Q7 b (fun Z=> ∀V w,c w→A V w→Q2 P T.b V w (dk b Z w)) fun Z=>Q7 b (fun aa=> ∀q w,c w→z q w→Q2 P T.b q w (dk b aa w)) fun aa=>Q7 b (fun h=> ∀s E w,c w→Z s w→aa E w→Q0 P F.aZ [a0,s,E] w (dk b h w)) fun h=>Q7 b (fun al=> ∀e w,c w→h e w→ext P e 0 w (dk b al w)) fun al=>Q7 b (fun ab=> ∀e w,c w→h e w→ext P e 1 w (dk b ab w)) fun ab=>Q7 b (fun ax=> ∀e w,c w→h e w→ext P e 2 w (dk b ax w)) fun ax=>Q7 b (fun a4=> ∀w,c w→W3 P T.c w (dk b a4 w)) fun a4=>Q19 b (fun ar=> ∀k i w,c w→a4 k w→ab i w→Z3 P T.c k i w (dk b (ar [k,i]) w)) fun ar=>∀V ad q s E e bp i bg k eh w,c w→A V w→M ad w→z q w→Z s w→aa E w→h e w→al bp w→ab i w→ax bg w→a4 k w→ar [k,i] eh w→ J0 P .not bg w fun ay w=>Q1 ay false w (fieldAddr P T.c k 3) fun br w=>Q1 ay false w (Q2 P T.m br) fun b9 w=>pick P ay (.bool true) b9 w fun cb w=>X1 cb (K (.int .i64 67) w) (Q3 P .add T.e (.tmp 175) (.const (.int .i64 1)) bk (.int .i64 1) w fun cp w=>av cp w)) (K (.int .i64 0) w)))))))
theorem Sh {b a:Value} {w:World} {K:Value→World→Prop} (h:Js b a w K):Q0 P F.aS [b,a] w K:=Q9 Sj Tryz.func58 rfl (by decide) (by kernel_rfl) h
def Ti:V1:=[none,none,none,none,none,some ([5,7],[2,3,4,5,7,8,21,22,23,24,25,26,27,28,29,30,31,32,33,34,35,36,37,38,39,40,41,42]),none,none,none,none,none,none,none,none,none,some ([9],[2,3,4,9,43,44,45,46,47,48,49,50,51,52,53,54,55,56,57,58,59,60]),none,none,none,none,none,none,none,some ([10],[2,3,4,10,11,61,62,63,64,65,66,67,68,69,70,71,72,73,74,75,76]),none,none,none,none,none,none,none,none,none,some ([13],[2,3,4,13,79,80,81,82,83,84,85,86,87,88,89,90,91,92,93,94,95,96]),none,none,none,none,none,none,none,none,some ([14,15],[14,15,98,99,100,101,102,103,104,105,106,107,108,109,110]),none,none,none,none,none,some ([16],[2,3,4,16,17,111,112,113,114,115,116,117,118,119,120,121,122,123,124,125,126,127,128,129,130,131]),none,none,none,none,none,none,none]
def Nw (m:Value) (w:World) (K:Value→World→Prop):Prop:= Q0 P F.b6 [] w fun M w=>X6 P .len [T.h] T.e [false] [M] w fun b w=>lp (α:=Value×Value) (M,(.int .i64 0)) w fun n c r w=>X6 P .len [T.h] T.e [false] [m] w fun an w=>Q3 P .lss T.e (.tmp 21) (.tmp 23) c.2 an w fun aj w=>X1 aj (indexAddr P T.h m c.2 w fun ax w=>Q2 P T.a ax w fun a1 w=>Q0 P F.b7 [a1] w fun L w=>Q3 P .neq T.r (.tmp 32) (.const (.int .i64 0)) L (.int .i64 0) w fun av w=>X1 av (K (.tuple #[(.slice none 0 0),c.2,L]) w) (indexAddr P T.h m c.2 w fun ae w=>Q2 P T.a ae w fun ag w=>buildSlice P T.h 1 [(0,ag)] w fun U w=>X6 P .append [T.h,T.h] T.h [false,false] [c.1,U] w fun Z w=>Q3 P .add T.e (.tmp 25) (.const (.int .i64 1)) c.2 (.int .i64 1) w fun ak w=>n (Z,ak) w)) (lp (α:=Value) (.int .i64 0) w fun i f r w=>X6 P .len [T.h] T.e [false] [m] w fun V w=>Q3 P .lss T.e (.tmp 43) (.tmp 45) f V w fun ar w=>X1 ar (indexAddr P T.h m f w fun Y w=>fieldAddr P T.a Y 0 w fun aa w=>Q2 P T.b aa w fun ao w=>Q0 P F.c [c.1,ao] w fun ah w=>Q3 P .add T.e (.tmp 56) (.tmp 57) b f w fun aq w=>Q3 P .neq T.e (.tmp 55) (.tmp 58) ah aq w fun ab w=>X1 ab (K (.tuple #[(.slice none 0 0),f,(.int .i64 60)]) w) (Q3 P .add T.e (.tmp 47) (.const (.int .i64 1)) f (.int .i64 1) w fun af w=>i af w)) (lp (α:=Value) (.int .i64 0) w fun d o r w=>X6 P .len [T.h] T.e [false] [m] w fun ac w=>Q3 P .lss T.e (.tmp 61) (.tmp 63) o ac w fun ap w=>X1 ap (indexAddr P T.h m o w fun ad w=>Q2 P T.a ad w fun ay w=>Q0 P F.aX [c.1,ay] w fun u w=>Q3 P .neq T.r (.tmp 73) (.const (.int .i64 0)) u (.int .i64 0) w fun az w=>X1 az (K (.tuple #[(.slice none 0 0),o,u]) w) (Q3 P .add T.e (.tmp 65) (.const (.int .i64 1)) o (.int .i64 1) w fun W w=>d W w)) (Q0 P F.aA [c.1] w fun Q w=>lp (α:=Value) (.int .i64 0) w fun g h r w=>X6 P .len [T.h] T.e [false] [m] w fun aw w=>Q3 P .lss T.e (.tmp 79) (.tmp 81) h aw w fun R w=>X1 R (Q3 P .add T.e (.tmp 86) (.tmp 87) b h w fun X w=>indexAddr P T.a1 Q X w fun al w=>Q2 P T.a0 al w fun ai w=>Q3 P .add T.e (.tmp 91) (.tmp 92) b h w fun a3 w=>indexAddr P T.a0 ai a3 w fun am w=>Q2 P T.m am w fun O w=>X1 O (K (.tuple #[(.slice none 0 0),h,(.int .i64 63)]) w) (Q3 P .add T.e (.tmp 83) (.const (.int .i64 1)) h (.int .i64 1) w fun a2 w=>g a2 w)) (buildSlice P T.z 0 [] w fun a4 w=>lp (α:=Value×Value) (a4,(.int .i64 0)) w fun j a r w=>X6 P .len [T.h] T.e [false] [m] w fun D w=>Q3 P .lss T.e (.tmp 98) (.tmp 100) a.2 D w fun C w=>X1 C (Q3 P .add T.e (.tmp 107) (.tmp 108) b a.2 w fun z w=>Q0 P F.aN [c.1,a.1,b,z] w fun v w=>Q3 P .add T.e (.tmp 102) (.const (.int .i64 1)) a.2 (.int .i64 1) w fun N w=>j (v,N) w) (lp (α:=Value) (.int .i64 0) w fun k l r w=>X6 P .len [T.z] T.e [false] [a.1] w fun B w=>Q3 P .lss T.e (.tmp 111) (.tmp 113) l B w fun t w=>X1 t (indexAddr P T.z a.1 l w fun A w=>Q2 P T.e A w fun J w=>Q0 P F.aS [c.1,J] w fun p w=>Q3 P .neq T.r (.tmp 123) (.const (.int .i64 0)) p (.int .i64 0) w fun s w=>X1 s (dr w fun Tr Br=>Q7 Tr (fun e=> ∀w,Br w→indexAddr P T.z a.1 l w (dk Tr e w)) fun e=>∀q w,Br w→e q w→ Q2 P T.e q w fun E w=>Q3 P .sub T.e (.tmp 128) (.tmp 129) E b w fun H w=>K (.tuple #[(.slice none 0 0),H,p]) w) (Q3 P .add T.e (.tmp 115) (.const (.int .i64 1)) l (.int .i64 1) w fun y w=>k y w)) (K (.tuple #[c.1,(.int .i64 0),(.int .i64 0)]) w))))))
theorem Pi {a:Value} {w:World} {K:Value→World→Prop} (h:Nw a w K):Q0 P F.bs [a] w K:=Q9 Ti Tryz.func27 rfl (by decide) (by kernel_rfl) h
def Vn (w:World) (K:Value→World→Prop):Prop:= Q0 P F.av [] w fun p w=>Q0 P F.cE [p] w fun b w=>ext P b 0 w fun e w=>ext P b 1 w fun q w=>ext P b 2 w fun f w=>Q0 P F.av [] w fun g w=>Q0 P F.bs [g] w fun d w=>ext P d 0 w fun l w=>ext P d 1 w fun o w=>ext P d 2 w fun k w=>Q3 P .neq T.r (.tmp 20) (.const (.int .i64 0)) f (.int .i64 0) w fun a w=>Q1 a false w (fun w J=>J k w) fun j w=>Q1 a false w (Q3 P .neq T.r (.tmp 23) (.const (.int .i64 0)) j (.int .i64 0)) fun h w=>pick P a (.bool true) h w fun c w=>Q1 c false w (fun w J=>J e w) fun n w=>Q1 c false w (Q3 P .eql T.s (.tmp 27) (.const (.pointer none)) n (.pointer none)) fun i w=>pick P c (.bool true) i w fun m w=>X1 m (K (.tuple #[(.pointer none),(.slice none 0 0)]) w) (K (.tuple #[e,l]) w)
theorem Cg {w:World} {K:Value→World→Prop} (h:Vn w K):Q0 P F.ax [] w K:=Q9 (List.replicate 7 none) Tryz.func10 rfl (by decide) (by kernel_rfl) h
def Gy (u:Value) (w:World) (K:Value→World→Prop):Prop:= box P T.f u w fun a w=>W3 P T.f w fun s w=>dr w fun b c=>Q7 b (fun i=> ∀w,c w→fieldAddr P T.f a 1 w (dk b i w)) fun i=>Q7 b (fun e=> ∀w,c w→fieldAddr P T.f a 2 w (dk b e w)) fun e=>Q7 b (fun d=> ∀j w,c w→i j w→Q2 P T.d j w (dk b d w)) fun d=>Q7 b (fun l=> ∀k w,c w→d k w→Q0 P F.b [k] w (dk b l w)) fun l=>Q7 b (fun f=> ∀h w,c w→e h w→Q2 P T.d h w (dk b f w)) fun f=>Q7 b (fun p=> ∀w,c w→fieldAddr P T.f a 1 w (dk b p w)) fun p=>Q7 b (fun m=> ∀g w,c w→f g w→Q0 P F.b [g] w (dk b m w)) fun m=>∀j h k r g q t w,c w→i j w→e h w→d k w→l r w→f g w→p q w→m t w→ Z3 P T.d q r w fun _u w=>fieldAddr P T.f a 2 w fun o w=>Z3 P T.d o t w fun _u w=>Q2 P T.f a w fun n w=>Z3 P T.f s n w fun _u w=>V4 P T.f s w fun v=>K v w
theorem Q3n {a:Value} {w:World} {K:Value→World→Prop} (h:Gy a w K):Q0 P F.bG [a] w K:=Q9 (List.replicate 3 none) Tryz.func28 rfl (by decide) (by kernel_rfl) h
def Je (a f:Value) (w:World) (K:Value→World→Prop):Prop:= Q0 P F.a6 [a,f] w fun h w=>J0 P .not h w fun g w=>X1 g (K (.tuple #[a,(.bool false)]) w) (X6 P .len [T.b] T.e [false] [a] w fun d w=>X6 P .len [T.b] T.e [false] [f] w fun b w=>Q3 P .sub T.e (.tmp 13) (.tmp 15) d b w fun e w=>H3 P T.b a none (some e) none w fun c w=>K (.tuple #[c,(.bool true)]) w)
theorem Hl {b a:Value} {w:World} {K:Value→World→Prop} (h:Je b a w K):Q0 P F.bO [b,a] w K:=Q9 (List.replicate 5 none) Tryz.func206 rfl (by decide) (by kernel_rfl) h
def Lt (d e:Value) (w:World) (K:Value→World→Prop):Prop:= Q0 P F.bO [d,e] w fun b w=>ext P b 0 w fun c w=>ext P b 1 w fun a w=>K (.tuple #[c,a]) w
theorem Kb {b a:Value} {w:World} {K:Value→World→Prop} (h:Lt b a w K):Q0 P F.bo [b,a] w K:=Q9 (List.replicate 2 none) Tryz.func176 rfl (by decide) (by kernel_rfl) h
def Q0D (g:Value) (w:World) (K:Value→World→Prop):Prop:= Q0 P F.bo [g,(.string ⟨#[91,93]⟩)] w fun f w=>ext P f 0 w fun i w=>ext P f 1 w fun h w=>J0 P .not h w fun a w=>Q1 a false w (fun w J=>J g w) fun d w=>Q1 a false w (Q0 P F.a2 [d]) fun b w=>Q1 a false w (J0 P .not b) fun c w=>pick P a (.bool true) c w fun e w=>X1 e (K (.string ⟨#[]⟩) w) (K i w)
theorem Q5C {a:Value} {w:World} {K:Value→World→Prop} (h:Q0D a w K):Q0 P F.cA [a] w K:=Q9 (List.replicate 6 none) Tryz.func118 rfl (by decide) (by kernel_rfl) h
def Wx (g f:Value) (w:World) (K:Value→World→Prop):Prop:= box P T.a g w fun a w=>fieldAddr P T.a a 0 w fun b w=>Q2 P T.b b w fun e w=>Q2 P T.b f w fun d w=>Q3 P .eql T.b (.tmp 5) (.tmp 6) e d w fun c w=>K c w
theorem Gk {b a:Value} {w:World} {K:Value→World→Prop} (h:Wx b a w K):Q0 P F.bd [b,a] w K:=Q9 (List.replicate 2 none) Tryz.func119 rfl (by decide) (by kernel_rfl) h
def Nu (j d z:Value) (w:World) (K:Value→World→Prop):Prop:= box P T.b z w fun a w=>Q0 P F.n [j,d] w fun m w=>J0 P .not m w fun b w=>Q1 b false w (fun w J=>J j w) fun i w=>Q1 b false w (Q2 P T.b a) fun k w=>Q1 b false w (Q0 P F.n [i,k]) fun n w=>Q1 b false w (J0 P .not n) fun y w=>pick P b (.bool true) y w fun s w=>X1 s (K (.bool false) w) (Q2 P T.b a w fun t w=>Q3 P .eql T.b (.tmp 19) (.tmp 20) d t w fun f w=>X1 f (K (.bool true) w) (Q0 P F.ad [d] w fun c w=>Q1 c false w (Q2 P T.b a) fun q w=>Q1 c false w (Q0 P F.ad [q]) fun v w=>pick P c (.bool true) v w fun r w=>X1 r (K (.bool false) w) (Q3 P .eql T.b (.tmp 30) (.const (.string ⟨#[110,117,108,108]⟩)) d (.string ⟨#[110,117,108,108]⟩) w fun u w=>X1 u (K (.bool true) w) (Q0 P F.cA [d] w fun p w=>Q3 P .neq T.b (.tmp 34) (.const (.string ⟨#[]⟩)) p (.string ⟨#[]⟩) w fun e w=>X1 e (Q2 P T.b a w fun l w=>Q3 P .eql T.b (.tmp 36) (.const (.string ⟨#[79,98,106,101,99,116]⟩)) l (.string ⟨#[79,98,106,101,99,116]⟩) w fun h w=>K h w) (M4 P (.func F.bd) [] [a] w fun o w=>Q0 P F.u [j,d,o] w fun g w=>K g w)))))
theorem Ab {b a c:Value} {w:World} {K:Value→World→Prop} (h:Nu b a c w K):Q0 P F.aa [b,a,c] w K:=Q9 (List.replicate 13 none) Tryz.func59 rfl (by decide) (by kernel_rfl) h
def Ka:V1:=[none,none,none,none,none,none,none,none,none,none,some ([7],[6,7,40,41,42,43,44,45,46,47,48,49,50,51]),none,none,none,none,none,none]
def Mf (d g h:Value) (w:World) (K:Value→World→Prop):Prop:= Q0 P F.aa [d,g,h] w fun y w=>X1 y (K h w) (Q0 P F.aa [d,h,g] w fun z w=>X1 z (K g w) (Q0 P F.n [d,g] w fun q w=>J0 P .not q w fun b w=>Q1 b false w (fun w J=>J d w) fun o w=>Q1 b false w (fun w J=>J h w) fun m w=>Q1 b false w (Q0 P F.n [o,m]) fun p w=>Q1 b false w (J0 P .not p) fun u w=>pick P b (.bool true) u w fun f w=>Q1 f false w (fun w J=>J g w) fun n w=>Q1 f false w (Q0 P F.ad [n]) fun s w=>pick P f (.bool true) s w fun e w=>Q1 e false w (fun w J=>J h w) fun l w=>Q1 e false w (Q0 P F.ad [l]) fun k w=>pick P e (.bool true) k w fun t w=>X1 t (K (.string ⟨#[]⟩) w) (lp (α:=Value) g w fun a c A w=>Q0 P F.k [d,c] w fun j w=>X1 j (Q0 P F.aa [d,h,c] w fun v w=>X1 v (K c w) (Q0 P F.h [d,c] w fun i w=>Vv P T.a i 1 w fun r w=>a r w)) (K (.string ⟨#[79,98,106,101,99,116]⟩) w))))
theorem Kg {b a c:Value} {w:World} {K:Value→World→Prop} (h:Mf b a c w K):Q0 P F.aE [b,a,c] w K:=Q9 Ka Tryz.func29 rfl (by decide) (by kernel_rfl) h
def Q4r:V1:=[none,none,none,none,none,none,none,none,none,none,none,some ([49],[7,9,10,11,49,50,51,52,53,54,55,56,57,58,59,60,61,62,63,64,65,66,67,68,69,70,71]),none,none,none,none,none,none,none,none,none,none,some ([75],[12,13,14,75,76,77,78,79,80,81,82,83,84,85,86,87,88,89,90,91,92,93,94,95,96,97,98,99,100,101,102,103,104]),none,none,none,none,none,some ([14],[14,80,81,82,83,84,85,86,87,88,89,90,91,92,93,94,95,96,97]),none,none]
def Ps (a0 a1 a2:Value) (w:World) (K:Value→World→Prop):Prop:= box P T.f a1 w fun j w=>box P T.f a2 w fun i w=>W3 P T.f w fun f w=>fieldAddr P T.f j 0 w fun bj w=>Q2 P T.m bj w fun bc w=>J0 P .not bc w fun bi w=>X1 bi (Q2 P T.f i w fun bb w=>Q0 P F.bG [bb] w fun af w=>Z3 P T.f f af w fun _u w=>V4 P T.f f w fun h=>K (.tuple #[h,(.int .i64 0)]) w) (fieldAddr P T.f i 0 w fun ai w=>Q2 P T.m ai w fun Z w=>J0 P .not Z w fun R w=>X1 R (Q2 P T.f j w fun Q w=>Q0 P F.bG [Q] w fun W w=>Z3 P T.f f W w fun _u w=>V4 P T.f f w fun h=>K (.tuple #[h,(.int .i64 0)]) w) (fieldAddr P T.f j 1 w fun a9 w=>Q2 P T.d a9 w fun bf w=>X6 P .len [T.d] T.e [false] [bf] w fun an w=>fieldAddr P T.f i 1 w fun ao w=>Q2 P T.d ao w fun U w=>X6 P .len [T.d] T.e [false] [U] w fun ae w=>Q3 P .neq T.e (.tmp 30) (.tmp 33) an ae w fun a w=>Q1 a false w (fieldAddr P T.f j 2) fun a6 w=>Q1 a false w (Q2 P T.d a6) fun D w=>Q1 a false w (X6 P .len [T.d] T.e [false] [D]) fun ag w=>Q1 a false w (fieldAddr P T.f i 2) fun H w=>Q1 a false w (Q2 P T.d H) fun a7 w=>Q1 a false w (X6 P .len [T.d] T.e [false] [a7]) fun y w=>Q1 a false w (Q3 P .neq T.e (.tmp 38) (.tmp 41) ag y) fun C w=>pick P a (.bool true) C w fun V w=>X1 V (N1 P T.f [] w fun av w=>Z3 P T.f f av w fun _u w=>V4 P T.f f w fun h=>K (.tuple #[h,(.int .i64 75)]) w) (N1 P T.f [(0,(.bool true))] w fun aw w=>W3 P T.f w fun k w=>Z3 P T.f k aw w fun _u w=>fieldAddr P T.f j 1 w fun ad w=>Q2 P T.d ad w fun p w=>X6 P .len [T.d] T.e [false] [p] w fun aq w=>lp (α:=Value) (.int .i64 0) w fun d g d_ w=>Q3 P .lss T.e (.tmp 49) (.tmp 48) g aq w fun bg w=>X1 bg (indexAddr P T.d p g w fun B w=>Q2 P T.b B w fun az w=>fieldAddr P T.f i 1 w fun O w=>Q2 P T.d O w fun bd w=>indexAddr P T.d bd g w fun a3 w=>Q2 P T.b a3 w fun z w=>Q0 P F.aE [a0,az,z] w fun t w=>Q3 P .eql T.b (.tmp 62) (.const (.string ⟨#[]⟩)) t (.string ⟨#[]⟩) w fun E w=>X1 E (N1 P T.f [] w fun ba w=>Z3 P T.f f ba w fun _u w=>V4 P T.f f w fun h=>K (.tuple #[h,(.int .i64 75)]) w) (fieldAddr P T.f k 1 w fun L w=>Q2 P T.d L w fun A w=>buildSlice P T.d 1 [(0,t)] w fun aa w=>X6 P .append [T.d,T.d] T.d [false,false] [A,aa] w fun a8 w=>fieldAddr P T.f k 1 w fun a4 w=>Z3 P T.d a4 a8 w fun _u w=>Q3 P .add T.e (.tmp 49) (.const (.int .i64 1)) g (.int .i64 1) w fun aj w=>d aj w)) (fieldAddr P T.f j 2 w fun N w=>Q2 P T.d N w fun n w=>X6 P .len [T.d] T.e [false] [n] w fun al w=>lp (α:=Value) (.int .i64 0) w fun e c d_ w=>Q3 P .lss T.e (.tmp 75) (.tmp 74) c al w fun ab w=>X1 ab (indexAddr P T.d n c w fun v w=>Q2 P T.b v w fun m w=>jn (α:=Value) w (fun o w=>Q3 P .neq T.b (.tmp 80) (.const (.string ⟨#[]⟩)) m (.string ⟨#[]⟩) w fun b w=>Q1 b true w (fieldAddr P T.f i 2) fun ay w=>Q1 b true w (Q2 P T.d ay) fun ap w=>Q1 b true w (fun w J=>J c w) fun a5 w=>Q1 b true w (indexAddr P T.d ap a5) fun Y w=>Q1 b true w (Q2 P T.b Y) fun M w=>Q1 b true w (Q3 P .neq T.b (.tmp 87) (.const (.string ⟨#[]⟩)) M (.string ⟨#[]⟩)) fun ax w=>pick P b ax (.bool false) w fun X w=>X1 X (fieldAddr P T.f i 2 w fun ak w=>Q2 P T.d ak w fun bh w=>indexAddr P T.d bh c w fun ar w=>Q2 P T.b ar w fun be w=>Q0 P F.aE [a0,m,be] w fun bk w=>o bk w) (o (.string ⟨#[]⟩) w)) fun ac d_ w=>fieldAddr P T.f k 2 w fun ah w=>Q2 P T.d ah w fun am w=>buildSlice P T.d 1 [(0,ac)] w fun r w=>X6 P .append [T.d,T.d] T.d [false,false] [am,r] w fun s w=>fieldAddr P T.f k 2 w fun u w=>Z3 P T.d u s w fun _u w=>Q3 P .add T.e (.tmp 75) (.const (.int .i64 1)) c (.int .i64 1) w fun q w=>e q w) (Q2 P T.f k w fun l w=>Z3 P T.f f l w fun _u w=>V4 P T.f f w fun h=>K (.tuple #[h,(.int .i64 0)]) w)))))
theorem Q3U {b a c:Value} {w:World} {K:Value→World→Prop} (h:Ps b a c w K):Q0 P F.aD [b,a,c] w K:=Q9 Q4r Tryz.func13 rfl (by decide) (by kernel_rfl) h
def Ke:V1:=[none,none,none,none,none,none,some ([5],[4,5,11,12,13,14,15,16,17,18,19,20,21,22,23,24,25]),none,none,none,none,none,none]
def Lr (n s:Value) (w:World) (K:Value→World→Prop):Prop:= X6 P .len [T.d] T.e [false] [n] w fun t w=>X6 P .len [T.d] T.e [false] [s] w fun u w=>Q3 P .neq T.e (.tmp 7) (.tmp 9) t u w fun p w=>X1 p (K (.bool false) w) (lp (α:=Value) (.int .i64 0) w fun b l v w=>X6 P .len [T.d] T.e [false] [n] w fun m w=>Q3 P .lss T.e (.tmp 11) (.tmp 13) l m w fun o w=>X1 o (dr w fun f k=>Q7 f (fun a=> ∀w,k w→indexAddr P T.d n l w (dk f a w)) fun a=>Q7 f (fun e=> ∀w,k w→indexAddr P T.d s l w (dk f e w)) fun e=>Q7 f (fun g=> ∀d w,k w→a d w→Q2 P T.b d w (dk f g w)) fun g=>Q7 f (fun h=> ∀c w,k w→e c w→Q2 P T.b c w (dk f h w)) fun h=>∀d c j i w,k w→a d w→e c w→g j w→h i w→ Q3 P .neq T.b (.tmp 20) (.tmp 24) j i w fun q w=>X1 q (K (.bool false) w) (Q3 P .add T.e (.tmp 15) (.const (.int .i64 1)) l (.int .i64 1) w fun r w=>b r w)) (K (.bool true) w))
theorem Ko {b a:Value} {w:World} {K:Value→World→Prop} (h:Lr b a w K):Q0 P F.aF [b,a] w K:=Q9 Ke Tryz.func31 rfl (by decide) (by kernel_rfl) h
def Mh (p u:Value) (w:World) (K:Value→World→Prop):Prop:= box P T.f p w fun a w=>box P T.f u w fun b w=>fieldAddr P T.f a 0 w fun s w=>Q2 P T.m s w fun r w=>fieldAddr P T.f b 0 w fun q w=>Q2 P T.m q w fun t w=>Q3 P .eql T.m (.tmp 6) (.tmp 8) r t w fun d w=>Q1 d true w (fieldAddr P T.f a 1) fun g w=>Q1 d true w (Q2 P T.d g) fun n w=>Q1 d true w (fieldAddr P T.f b 1) fun f w=>Q1 d true w (Q2 P T.d f) fun h w=>Q1 d true w (Q0 P F.aF [n,h]) fun i w=>pick P d i (.bool false) w fun c w=>Q1 c true w (fieldAddr P T.f a 2) fun o w=>Q1 c true w (Q2 P T.d o) fun k w=>Q1 c true w (fieldAddr P T.f b 2) fun l w=>Q1 c true w (Q2 P T.d l) fun e w=>Q1 c true w (Q0 P F.aF [k,e]) fun m w=>pick P c m (.bool false) w fun j w=>K j w
theorem Ij {b a:Value} {w:World} {K:Value→World→Prop} (h:Mh b a w K):Q0 P F.w [b,a] w K:=Q9 (List.replicate 2 none) Tryz.func15 rfl (by decide) (by kernel_rfl) h
def Wz:V1:=[none,none,none,none,none,none,some ([13],[4,5,13,14,15,16,17,18,19,20,21,22,23,24,25]),none,none,none,none,none,none,none]
def K7 (m s:Value) (w:World) (K:Value→World→Prop):Prop:= X6 P .len [T.d] T.e [false] [m] w fun t w=>X6 P .len [T.d] T.e [false] [s] w fun u w=>Q3 P .neq T.e (.tmp 7) (.tmp 9) t u w fun o w=>X1 o (K (.bool false) w) (X6 P .len [T.d] T.e [false] [m] w fun r w=>lp (α:=Value) (.int .i64 0) w fun a l v w=>Q3 P .lss T.e (.tmp 13) (.tmp 12) l r w fun n w=>X1 n (dr w fun f k=>Q7 f (fun c=> ∀w,k w→indexAddr P T.d m l w (dk f c w)) fun c=>Q7 f (fun b=> ∀w,k w→indexAddr P T.d s l w (dk f b w)) fun b=>Q7 f (fun g=> ∀e w,k w→c e w→Q2 P T.b e w (dk f g w)) fun g=>Q7 f (fun h=> ∀d w,k w→b d w→Q2 P T.b d w (dk f h w)) fun h=>∀e d j i w,k w→c e w→b d w→g j w→h i w→ Q3 P .neq T.b (.tmp 19) (.tmp 23) j i w fun q w=>X1 q (K (.bool false) w) (Q3 P .add T.e (.tmp 13) (.const (.int .i64 1)) l (.int .i64 1) w fun p w=>a p w)) (K (.bool true) w))
theorem Vz {b a:Value} {w:World} {K:Value→World→Prop} (h:K7 b a w K):Q0 P F.a1 [b,a] w K:=Q9 Wz Tryz.func32 rfl (by decide) (by kernel_rfl) h
def Q0q (p u:Value) (w:World) (K:Value→World→Prop):Prop:= box P T.f p w fun a w=>box P T.f u w fun b w=>fieldAddr P T.f a 0 w fun s w=>Q2 P T.m s w fun r w=>fieldAddr P T.f b 0 w fun q w=>Q2 P T.m q w fun t w=>Q3 P .eql T.m (.tmp 6) (.tmp 8) r t w fun d w=>Q1 d true w (fieldAddr P T.f a 1) fun g w=>Q1 d true w (Q2 P T.d g) fun n w=>Q1 d true w (fieldAddr P T.f b 1) fun f w=>Q1 d true w (Q2 P T.d f) fun h w=>Q1 d true w (Q0 P F.a1 [n,h]) fun i w=>pick P d i (.bool false) w fun c w=>Q1 c true w (fieldAddr P T.f a 2) fun o w=>Q1 c true w (Q2 P T.d o) fun k w=>Q1 c true w (fieldAddr P T.f b 2) fun l w=>Q1 c true w (Q2 P T.d l) fun e w=>Q1 c true w (Q0 P F.a1 [k,e]) fun m w=>pick P c m (.bool false) w fun j w=>K j w
theorem Q5m {b a:Value} {w:World} {K:Value→World→Prop} (h:Q0q b a w K):Q0 P F.c3 [b,a] w K:=Q9 (List.replicate 2 none) Tryz.func16 rfl (by decide) (by kernel_rfl) h
def Ot (f n:Value) (w:World) (K:Value→World→Prop):Prop:= nilCheck P f w fun l w=>fieldAddr P T.t l 4 w fun k w=>Q2 P T.r k w fun j w=>Q3 P .eql T.r (.tmp 7) (.const (.int .i64 0)) j (.int .i64 0) w fun m w=>X1 m (nilCheck P f w fun i w=>fieldAddr P T.t i 3 w fun c w=>fieldAddr P T.f c 1 w fun e w=>Q2 P T.d e w fun a w=>X6 P .append [T.d,T.d] T.d [false,false] [a,n] w fun h w=>nilCheck P f w fun d w=>fieldAddr P T.t d 3 w fun g w=>fieldAddr P T.f g 1 w fun b w=>Z3 P T.d b h w fun _u w=>K (.tuple #[]) w) (K (.tuple #[]) w)
theorem Q0n {b a:Value} {w:World} {K:Value→World→Prop} (h:Ot b a w K):Q0 P F.bE [b,a] w K:=Q9 (List.replicate 1 none) Tryz.func123 rfl (by decide) (by kernel_rfl) h
def Q0M (c:Value) (w:World) (K:Value→World→Prop):Prop:= box P T.b c w fun a w=>M4 P (.func F.cJ) [] [a] w fun b w=>K b w
theorem Q5N {a:Value} {w:World} {K:Value→World→Prop} (h:Q0M a w K):Q0 P F.aQ [a] w K:=Q9 (List.replicate 2 none) Tryz.func64 rfl (by decide) (by kernel_rfl) h
def Ii:V1:=[none,some ([],[7,8,9,10,11,12,13,14,15,16,17,18,19]),none,none]
def Mi (d p q:Value) (w:World) (K:Value→World→Prop):Prop:= jn (α:=Unit) w (fun o w=>J0 P .not p w fun a w=>Q1 a true w (fun w J=>J d w) fun g w=>Q1 a true w (nilCheck P g) fun e w=>Q1 a true w (fieldAddr P T.t e 4) fun m w=>Q1 a true w (Q2 P T.r m) fun c w=>Q1 a true w (Q3 P .eql T.r (.tmp 13) (.const (.int .i64 0)) c (.int .i64 0)) fun f w=>pick P a f (.bool false) w fun h w=>X1 h (nilCheck P d w fun n w=>fieldAddr P T.t n 4 w fun k w=>Z3 P T.r k q w fun _u w=>o () w) (o () w)) fun s r w=>nilCheck P d w fun b w=>fieldAddr P T.t b 4 w fun l w=>Q2 P T.r l w fun j w=>Q3 P .eql T.r (.tmp 23) (.const (.int .i64 0)) j (.int .i64 0) w fun i w=>K i w
theorem Kl {b a c:Value} {w:World} {K:Value→World→Prop} (h:Mi b a c w K):Q0 P F.ak [b,a,c] w K:=Q9 Ii Tryz.func37 rfl (by decide) (by kernel_rfl) h
end Go.Proofs.YtfppjenblllfaaaGreatDoor

set_option maxRecDepth 100000
namespace Go.Proofs.YtfppjenblllfaaaGreatDoor
open Go.Emb
def Oh (b c:Value) (w:World) (K:Value→World→Prop):Prop:= nilCheck P b w fun J w=>fieldAddr P T.t J 3 w fun n w=>fieldAddr P T.f n 1 w fun l w=>Q2 P T.d l w fun C w=>X6 P .len [T.d] T.e [false] [C] w fun j w=>Q3 P .geq T.e (.tmp 13) (.tmp 14) j c w fun o w=>Q0 P F.ak [b,o,(.int .i64 72)] w fun H w=>J0 P .not H w fun v w=>X1 v (Mw P T.d c c w fun u w=>K u w) (nilCheck P b w fun e w=>fieldAddr P T.t e 3 w fun A w=>fieldAddr P T.f A 1 w fun t w=>Q2 P T.d t w fun q w=>X6 P .len [T.d] T.e [false] [q] w fun p w=>Q3 P .sub T.e (.tmp 25) (.tmp 26) p c w fun a w=>nilCheck P b w fun B w=>fieldAddr P T.t B 3 w fun D w=>fieldAddr P T.f D 1 w fun E w=>Q2 P T.d E w fun r w=>H3 P T.d r (some a) none none w fun s w=>Q0 P F.b [s] w fun d w=>nilCheck P b w fun z w=>fieldAddr P T.t z 3 w fun k w=>fieldAddr P T.f k 1 w fun m w=>Q2 P T.d m w fun g w=>H3 P T.d g none (some a) (some a) w fun f w=>nilCheck P b w fun h w=>fieldAddr P T.t h 3 w fun y w=>fieldAddr P T.f y 1 w fun i w=>Z3 P T.d i f w fun _u w=>K d w)
theorem Px {b a:Value} {w:World} {K:Value→World→Prop} (h:Oh b a w K):Q0 P F.bu [b,a] w K:=Q9 (List.replicate 8 none) Tryz.func70 rfl (by decide) (by kernel_rfl) h
def Ml (c g h:Value) (w:World) (K:Value→World→Prop):Prop:= nilCheck P c w fun f w=>fieldAddr P T.t f 0 w fun e w=>Q2 P T.s e w fun a w=>Q0 P F.aa [a,g,h] w fun b w=>Q0 P F.ak [c,b,(.int .i64 73)] w fun d w=>K (.tuple #[]) w
theorem Kh {b a c:Value} {w:World} {K:Value→World→Prop} (h:Ml b a c w K):Q0 P F.bm [b,a,c] w K:=Q9 [] Tryz.func132 rfl (by decide) (by kernel_rfl) h
def Q0i:V1:=[none,none,none,some ([7],[7,15,16,17,18,19,20,21,22,23,24,25,26,27,28]),none,none,none,none]
def Oq (o v y:Value) (w:World) (K:Value→World→Prop):Prop:= X6 P .len [T.d] T.e [false] [y] w fun q w=>Q0 P F.bu [o,q] w fun i w=>X6 P .len [T.d] T.e [false] [i] w fun n w=>Q3 P .sub T.e (.tmp 13) (.const (.int .i64 1)) n (.int .i64 1) w fun p w=>lp (α:=Value) p w fun d m B w=>Q3 P .geq T.e (.tmp 15) (.const (.int .i64 0)) m (.int .i64 0) w fun u w=>X1 u (dr w fun f k=>Q7 f (fun b=> ∀w,k w→indexAddr P T.d i m w (dk f b w)) fun b=>Q7 f (fun a=> ∀w,k w→indexAddr P T.d y m w (dk f a w)) fun a=>Q7 f (fun h=> ∀e w,k w→b e w→Q2 P T.b e w (dk f h w)) fun h=>Q7 f (fun g=> ∀c w,k w→a c w→Q2 P T.b c w (dk f g w)) fun g=>∀e c j l w,k w→b e w→a c w→h j w→g l w→ Q0 P F.bm [o,j,l] w fun A w=>Q3 P .sub T.e (.tmp 17) (.const (.int .i64 1)) m (.int .i64 1) w fun r w=>d r w) (Q3 P .neq T.b (.tmp 29) (.const (.string ⟨#[]⟩)) v (.string ⟨#[]⟩) w fun t w=>X1 t (buildSlice P T.d 1 [(0,v)] w fun s w=>Q0 P F.bE [o,s] w fun z w=>K (.tuple #[]) w) (K (.tuple #[]) w))
theorem Q0l {b a c:Value} {w:World} {K:Value→World→Prop} (h:Oq b a c w K):Q0 P F.a5 [b,a,c] w K:=Q9 Q0i Tryz.func126 rfl (by decide) (by kernel_rfl) h
def Sw (d c e:Value) (w:World) (K:Value→World→Prop):Prop:= Q2 P T.b c w fun b w=>Q2 P T.d e w fun a w=>Q0 P F.a5 [d,b,a] w fun f w=>K (.tuple #[]) w
theorem Q1Z {b a c:Value} {w:World} {K:Value→World→Prop} (h:Sw b a c w K):Q0 P F.c6 [b,a,c] w K:=Q9 [] Tryz.func125 rfl (by decide) (by kernel_rfl) h
def Am (e d:Value) (w:World) (K:Value→World→Prop):Prop:= box P T.b e w fun b w=>box P T.d d w fun a w=>M4 P (.func F.c6) [] [b,a] w fun c w=>K c w
theorem Q4B {b a:Value} {w:World} {K:Value→World→Prop} (h:Am b a w K):Q0 P F.a3 [b,a] w K:=Q9 (List.replicate 2 none) Tryz.func71 rfl (by decide) (by kernel_rfl) h
def Uq (b:Value) (w:World) (K:Value→World→Prop):Prop:= buildSlice P T.d 2 [(0,(.string ⟨#[105,110,116]⟩)),(1,(.string ⟨#[105,110,116]⟩))] w fun a w=>Q0 P F.a5 [b,(.string ⟨#[98,111,111,108]⟩),a] w fun c w=>K (.tuple #[]) w
theorem Co {a:Value} {w:World} {K:Value→World→Prop} (h:Uq a w K):Q0 P F.ay [a] w K:=Q9 [] Tryz.func72 rfl (by decide) (by kernel_rfl) h
def Lm (b:Value) (w:World) (K:Value→World→Prop):Prop:= buildSlice P T.d 2 [(0,(.string ⟨#[105,110,116]⟩)),(1,(.string ⟨#[105,110,116]⟩))] w fun a w=>Q0 P F.a5 [b,(.string ⟨#[105,110,116]⟩),a] w fun c w=>K (.tuple #[]) w
theorem Gp {a:Value} {w:World} {K:Value→World→Prop} (h:Lm a w K):Q0 P F.b8 [a] w K:=Q9 [] Tryz.func86 rfl (by decide) (by kernel_rfl) h
def Q4Z:V1:=[none,none,none,none,some ([26],[3,26,27,28,29,30,31]),none,none,none,none,none]
def Ky (w:World) (K:Value→World→Prop):Prop:= Re P T.j none w fun a w=>Q0 P F.aQ [(.string ⟨#[105,110,116]⟩)] w fun A w=>mapUpdate P T.j a (.string ⟨#[105,110,116]⟩) A w fun _u w=>Q0 P F.aQ [(.string ⟨#[98,111,111,108]⟩)] w fun y w=>mapUpdate P T.j a (.string ⟨#[116,114,117,101]⟩) y w fun _u w=>Q0 P F.aQ [(.string ⟨#[98,111,111,108]⟩)] w fun v w=>mapUpdate P T.j a (.string ⟨#[102,97,108,115,101]⟩) v w fun _u w=>Q0 P F.aQ [(.string ⟨#[116,101,120,116]⟩)] w fun B w=>mapUpdate P T.j a (.string ⟨#[119,111,114,100]⟩) B w fun _u w=>Q0 P F.aQ [(.string ⟨#[110,117,108,108]⟩)] w fun z w=>mapUpdate P T.j a (.string ⟨#[110,117,108,108]⟩) z w fun _u w=>mapUpdate P T.j a (.string ⟨#[108,111,97,100]⟩) (.func (.func F.ce) #[] #[]) w fun _u w=>mapUpdate P T.j a (.string ⟨#[115,116,111,114,101]⟩) (.func (.func F.c7) #[] #[]) w fun _u w=>mapUpdate P T.j a (.string ⟨#[100,117,112]⟩) (.func (.func F.cq) #[] #[]) w fun _u w=>mapUpdate P T.j a (.string ⟨#[115,119,97,112]⟩) (.func (.func F.cf) #[] #[]) w fun _u w=>mapUpdate P T.j a (.string ⟨#[112,111,112]⟩) (.func (.func F.cF) #[] #[]) w fun _u w=>buildSlice P T.d 1 [(0,(.string ⟨#[105,110,116]⟩))] w fun h w=>Q0 P F.a3 [(.string ⟨#[105,110,116]⟩),h] w fun f w=>mapUpdate P T.j a (.string ⟨#[110,101,103]⟩) f w fun _u w=>buildSlice P T.d 1 [(0,(.string ⟨#[98,111,111,108]⟩))] w fun r w=>Q0 P F.a3 [(.string ⟨#[98,111,111,108]⟩),r] w fun d w=>mapUpdate P T.j a (.string ⟨#[110,111,116]⟩) d w fun _u w=>buildSlice P T.d 2 [(0,(.string ⟨#[98,111,111,108]⟩)),(1,(.string ⟨#[98,111,111,108]⟩))] w fun g w=>Q0 P F.a3 [(.string ⟨#[98,111,111,108]⟩),g] w fun i w=>mapUpdate P T.j a (.string ⟨#[98,111,116,104]⟩) i w fun _u w=>buildSlice P T.d 2 [(0,(.string ⟨#[116,101,120,116]⟩)),(1,(.string ⟨#[116,101,120,116]⟩))] w fun u w=>Q0 P F.a3 [(.string ⟨#[116,101,120,116]⟩),u] w fun o w=>mapUpdate P T.j a (.string ⟨#[106,111,105,110]⟩) o w fun _u w=>mapUpdate P T.j a (.string ⟨#[108,101,115,115]⟩) (.func (.func F.ay) #[] #[]) w fun _u w=>mapUpdate P T.j a (.string ⟨#[115,97,109,101]⟩) (.func (.func F.ay) #[] #[]) w fun _u w=>mapUpdate P T.j a (.string ⟨#[115,105,122,101]⟩) (.func (.func F.cg) #[] #[]) w fun _u w=>mapUpdate P T.j a (.string ⟨#[106,117,109,112]⟩) (.func (.func F.cG) #[] #[]) w fun _u w=>buildSlice P T.d 1 [(0,(.string ⟨#[98,111,111,108]⟩))] w fun m w=>Q0 P F.a3 [(.string ⟨#[]⟩),m] w fun n w=>mapUpdate P T.j a (.string ⟨#[98,114,97,110,99,104]⟩) n w fun _u w=>mapUpdate P T.j a (.string ⟨#[110,101,119]⟩) (.func (.func F.c4) #[] #[]) w fun _u w=>mapUpdate P T.j a (.string ⟨#[103,101,116]⟩) (.func (.func F.cr) #[] #[]) w fun _u w=>mapUpdate P T.j a (.string ⟨#[112,117,116]⟩) (.func (.func F.ch) #[] #[]) w fun _u w=>mapUpdate P T.j a (.string ⟨#[99,97,108,108]⟩) (.func (.func F.ci) #[] #[]) w fun _u w=>mapUpdate P T.j a (.string ⟨#[97,114,114,97,121]⟩) (.func (.func F.c8) #[] #[]) w fun _u w=>mapUpdate P T.j a (.string ⟨#[97,116]⟩) (.func (.func F.cy) #[] #[]) w fun _u w=>mapUpdate P T.j a (.string ⟨#[115,101,116]⟩) (.func (.func F.cs) #[] #[]) w fun _u w=>mapUpdate P T.j a (.string ⟨#[105,115]⟩) (.func (.func F.cz) #[] #[]) w fun _u w=>mapUpdate P T.j a (.string ⟨#[99,97,115,116]⟩) (.func (.func F.cj) #[] #[]) w fun _u w=>mapUpdate P T.j a (.string ⟨#[114,101,116,117,114,110]⟩) (.func (.func F.ck) #[] #[]) w fun _u w=>buildSlice P T.d 1 [(0,(.string ⟨#[70,97,117,108,116]⟩))] w fun p w=>Q0 P F.a3 [(.string ⟨#[]⟩),p] w fun c w=>mapUpdate P T.j a (.string ⟨#[116,104,114,111,119]⟩) c w fun _u w=>buildSlice P T.d 1 [(0,(.string ⟨#[105,110,116]⟩))] w fun q w=>Q0 P F.a3 [(.string ⟨#[]⟩),q] w fun l w=>mapUpdate P T.j a (.string ⟨#[111,117,116]⟩) l w fun _u w=>mapUpdate P T.j a (.string ⟨#[101,113,117,97,108]⟩) (.func (.func F.c9) #[] #[]) w fun _u w=>N1 P T.ah [(0,(.string ⟨#[97,100,100]⟩)),(1,(.string ⟨#[115,117,98]⟩)),(2,(.string ⟨#[109,117,108]⟩)),(3,(.string ⟨#[100,105,118]⟩)),(4,(.string ⟨#[114,101,109]⟩)),(5,(.string ⟨#[97,110,100]⟩)),(6,(.string ⟨#[111,114]⟩)),(7,(.string ⟨#[120,111,114]⟩)),(8,(.string ⟨#[115,104,108]⟩)),(9,(.string ⟨#[115,104,114]⟩))] w fun j w=>lp (α:=Value) (.int .i64 0) w fun b e C w=>Q3 P .lss T.e (.tmp 26) (.const (.int .i64 10)) e (.int .i64 10) w fun t w=>X1 t (D9 P T.ah j e w fun k w=>mapUpdate P T.j a k (.func (.func F.b8) #[] #[]) w fun _u w=>Q3 P .add T.e (.tmp 26) (.const (.int .i64 1)) e (.int .i64 1) w fun s w=>b s w) (K a w)
theorem Q4W {w:World} {K:Value→World→Prop} (h:Ky w K):Q0 P F.co [] w K:=Q9 Q4Z Tryz.func36 rfl (by decide) (by kernel_rfl) h
def Q35 (a0 a1 a2 a3:Value) (w:World) (K:Value→World→Prop):Prop:= box P T.c a1 w fun W w=>box P T.n a2 w fun g w=>box P T.f a3 w fun i w=>W3 P T.f w fun X w=>drR w fun a b=>Q7 a (fun j=> ∀c,Ap c→ ∀w,b w→fieldAddr P T.f i 1 w (dk a j w)) fun j=>Q7 a (fun m=> ∀c,Ap c→ ∀w,b w→fieldAddr P T.f i 2 w (dk a m w)) fun m=>Q7 a (fun M=> ∀c,Ap c→ ∀w,b w→Q2 P T.c W w (dk a M w)) fun M=>Q7 a (fun V=> ∀c,Ap c→ ∀w,b w→Q2 P T.n g w (dk a V w)) fun V=>Q7 a (fun k=> ∀L c,Ap c→ ∀w,b w→j L w→Q2 P T.d L w (dk a k w)) fun k=>Q2i a (fun r=> ∀B c,Ap c→ ∀w,b w→k B w→Q0 P F.b [B] w (dkR a r w)) fun r=>Q7 a (fun q=> ∀A c,Ap c→ ∀w,b w→m A w→Q2 P T.d A w (dk a q w)) fun q=>Q2i a (fun H=> ∀E c,Ap c→ ∀w,b w→q E w→Q0 P F.b [E] w (dkR a H w)) fun H=>Q7 a (fun O=> ∀z l c,Ap c→ ∀w,b w→r (c 6) z w→H (c 8) l w→N1 P T.f [(0,(.bool true)),(1,z),(2,l)] w (dk a O w)) fun O=>∀L A Y Z B z E l ac c,Ap c→ ∀w,b w→j L w→m A w→M Y w→V Z w→k B w→r (c 6) z w→q E w→H (c 8) l w→O ac w→ N1 P T.t [(0,a0),(1,Y),(2,Z),(3,ac)] w fun aq w=>box P T.t aq w fun f w=>dr w fun a b=>Q7 a (fun D=> ∀w,b w→fieldAddr P T.n g 0 w (dk a D w)) fun D=>Q7 a (fun n=> ∀w,b w→Q0 P F.co [] w (dk a n w)) fun n=>Q7 a (fun s=> ∀J w,b w→D J w→Q2 P T.b J w (dk a s w)) fun s=>Q7 a (fun h=> ∀t u w,b w→n t w→s u w→lookup P T.j t u true w (dk a h w)) fun h=>Q7 a (fun N=> ∀d w,b w→h d w→ext P d 0 w (dk a N w)) fun N=>Q7 a (fun U=> ∀d w,b w→h d w→ext P d 1 w (dk a U w)) fun U=>∀J t u d ad ae w,b w→D J w→n t w→s u w→h d w→N ad w→U ae w→ J0 P .not ae w fun av w=>X1 av (N1 P T.f [] w fun ao w=>Z3 P T.f X ao w fun _u w=>V4 P T.f X w fun r0=>K (.tuple #[r0,(.int .i64 76)]) w) (Z0 P ad [f] w fun ay w=>nilCheck P f w fun am w=>fieldAddr P T.t am 3 w fun ah w=>fieldAddr P T.f ah 1 w fun ak w=>Q2 P T.d ak w fun ap w=>X6 P .len [T.d] T.e [false] [ap] w fun ag w=>Q3 P .leq T.e (.tmp 44) (.const (.int .i64 24)) ag (.int .i64 24) w fun aj w=>Q0 P F.ak [f,aj,(.int .i64 72)] w fun a6 w=>nilCheck P f w fun ax w=>fieldAddr P T.t ax 4 w fun af w=>Q2 P T.r af w fun aw w=>Q3 P .neq T.r (.tmp 50) (.const (.int .i64 0)) aw (.int .i64 0) w fun an w=>X1 an (dr w fun a b=>Q7 a (fun o=> ∀w,b w→nilCheck P f w (dk a o w)) fun o=>Q7 a (fun C=> ∀y w,b w→o y w→fieldAddr P T.t y 4 w (dk a C w)) fun C=>Q7 a (fun p=> ∀w,b w→N1 P T.f [] w (dk a p w)) fun p=>Q7 a (fun R=> ∀v w,b w→C v w→Q2 P T.r v w (dk a R w)) fun R=>Q19 a (fun Q=> ∀e w,b w→p e w→Z3 P T.f X e w (dk a (Q [e]) w)) fun Q=>∀y v e aa u5 w,b w→o y w→C v w→p e w→R aa w→Q [e] u5 w→ V4 P T.f X w fun r0=>K (.tuple #[r0,aa]) w) (nilCheck P f w fun ar w=>fieldAddr P T.t ar 3 w fun al w=>Q2 P T.f al w fun ai w=>Z3 P T.f X ai w fun _u w=>V4 P T.f X w fun r0=>K (.tuple #[r0,(.int .i64 0)]) w))
theorem Q7S {b a d c:Value} {w:World} {K:Value→World→Prop} (h:Q35 b a d c w K):Q0 P F.cL [b,a,d,c] w K:=Q9 (List.replicate 12 none) Tryz.func19 rfl (by decide) (by kernel_rfl) h
def We (w:World) (K:Value→World→Prop):Prop:= Q0 P F.ax [] w fun t8 w=>ext P t8 0 w fun H w=>ext P t8 1 w fun t w=>Q3 P .eql T.s (.tmp 11) (.const (.pointer none)) H (.pointer none) w fun e w=>Q1 e false w (fun w J=>J t w) fun r w=>Q1 e false w (X6 P .len [T.h] T.e [false] [r]) fun u w=>Q1 e false w (Q3 P .eql T.e (.tmp 15) (.const (.int .i64 0)) u (.int .i64 0)) fun Y w=>pick P e (.bool true) Y w fun M w=>X1 M (K (.bool false) w) (N1 P T.c [] w fun Q w=>N1 P T.n [(0,(.string ⟨#[97,100,100]⟩))] w fun k w=>buildSlice P T.d 2 [(0,(.string ⟨#[105,110,116]⟩)),(1,(.string ⟨#[105,110,116]⟩))] w fun U w=>N1 P T.f [(0,(.bool true)),(1,U)] w fun E w=>Q0 P F.cL [H,Q,k,E] w fun h w=>ext P h 0 w fun v w=>ext P h 1 w fun D w=>W3 P T.f w fun a w=>Z3 P T.f a v w fun _u w=>buildSlice P T.d 1 [(0,(.string ⟨#[110,117,108,108]⟩))] w fun V w=>N1 P T.f [(0,(.bool true)),(1,V)] w fun W w=>buildSlice P T.d 1 [(0,(.string ⟨#[116,101,120,116,91,93]⟩))] w fun X w=>N1 P T.f [(0,(.bool true)),(1,X)] w fun B w=>Q0 P F.aD [H,W,B] w fun i w=>ext P i 0 w fun C w=>ext P i 1 w fun j w=>W3 P T.f w fun c w=>Z3 P T.f c C w fun _u w=>Q2 P T.f a w fun s w=>buildSlice P T.d 1 [(0,(.string ⟨#[105,110,116]⟩))] w fun q w=>N1 P T.f [(0,(.bool true)),(1,q)] w fun R w=>Q0 P F.w [s,R] w fun g w=>Q1 g true w (fun w J=>J D w) fun l w=>Q1 g true w (Q3 P .eql T.r (.tmp 41) (.const (.int .i64 0)) l (.int .i64 0)) fun o w=>pick P g o (.bool false) w fun b w=>Q1 b true w (Q2 P T.f c) fun m w=>Q1 b true w (buildSlice P T.d 1 [(0,(.string ⟨#[116,101,120,116,91,93]⟩))]) fun N w=>Q1 b true w (N1 P T.f [(0,(.bool true)),(1,N)]) fun p w=>Q1 b true w (Q0 P F.w [m,p]) fun Z w=>pick P b Z (.bool false) w fun f w=>Q1 f true w (fun w J=>J j w) fun A w=>Q1 f true w (Q3 P .eql T.r (.tmp 51) (.const (.int .i64 0)) A (.int .i64 0)) fun n w=>pick P f n (.bool false) w fun d w=>Q1 d true w (Q2 P T.f a) fun y w=>Q1 d true w (Q2 P T.f a) fun z w=>Q1 d true w (Q0 P F.c3 [y,z]) fun O w=>pick P d O (.bool false) w fun L w=>K L w)
theorem Fa {w:World} {K:Value→World→Prop} (h:We w K):Q0 P F.ac [] w K:=Q9 (List.replicate 8 none) Tryz.func11 rfl (by decide) (by kernel_rfl) h
def Po:V1:=[none,none,none,none,none,none,some ([3],[2,3,15,16,17,18,19,20,21,22,23,24,25,26,27,28]),none,none,none,none,none,none,none,some ([4],[2,4,29,30,31,32,33,34,35,36,37,38,39,40,41,42]),none,none,none,none,none,none]
def Nk (O:Value) (w:World) (K:Value→World→Prop):Prop:= box P T.f O w fun a w=>fieldAddr P T.f a 1 w fun U w=>Q2 P T.d U w fun R w=>X6 P .len [T.d] T.e [false] [R] w fun Q w=>Q3 P .gtr T.e (.tmp 7) (.const (.int .i64 40)) Q (.int .i64 40) w fun e w=>Q1 e false w (fieldAddr P T.f a 2) fun q w=>Q1 e false w (Q2 P T.d q) fun n w=>Q1 e false w (X6 P .len [T.d] T.e [false] [n]) fun E w=>Q1 e false w (Q3 P .gtr T.e (.tmp 12) (.const (.int .i64 40)) E (.int .i64 40)) fun l w=>pick P e (.bool true) l w fun o w=>X1 o (K (.bool false) w) (lp (α:=Value) (.int .i64 0) w fun c f N w=>fieldAddr P T.f a 1 w fun M w=>Q2 P T.d M w fun B w=>X6 P .len [T.d] T.e [false] [B] w fun z w=>Q3 P .lss T.e (.tmp 15) (.tmp 18) f z w fun A w=>X1 A (fieldAddr P T.f a 1 w fun D w=>Q2 P T.d D w fun y w=>indexAddr P T.d y f w fun r w=>Q2 P T.b r w fun u w=>X6 P .len [T.b] T.e [false] [u] w fun L w=>Q3 P .gtr T.e (.tmp 27) (.const (.int .i64 100)) L (.int .i64 100) w fun v w=>X1 v (K (.bool false) w) (Q3 P .add T.e (.tmp 20) (.const (.int .i64 1)) f (.int .i64 1) w fun h w=>c h w)) (lp (α:=Value) (.int .i64 0) w fun b d N w=>fieldAddr P T.f a 2 w fun H w=>Q2 P T.d H w fun J w=>X6 P .len [T.d] T.e [false] [J] w fun t w=>Q3 P .lss T.e (.tmp 29) (.tmp 32) d t w fun C w=>X1 C (fieldAddr P T.f a 2 w fun p w=>Q2 P T.d p w fun k w=>indexAddr P T.d k d w fun m w=>Q2 P T.b m w fun s w=>X6 P .len [T.b] T.e [false] [s] w fun i w=>Q3 P .gtr T.e (.tmp 41) (.const (.int .i64 100)) i (.int .i64 100) w fun j w=>X1 j (K (.bool false) w) (Q3 P .add T.e (.tmp 34) (.const (.int .i64 1)) d (.int .i64 1) w fun g w=>b g w)) (K (.bool true) w)))
theorem Aq {a:Value} {w:World} {K:Value→World→Prop} (h:Nk a w K):Q0 P F.br [a] w K:=Q9 Po Tryz.func12 rfl (by decide) (by kernel_rfl) h
end Go.Proofs.YtfppjenblllfaaaGreatDoor

set_option maxRecDepth 100000
namespace Go.Proofs.YtfppjenblllfaaaGreatDoor
open Go.Emb
def Hq:V1:=[none,none,none,none,none,none,none,some ([5],[2,5,30,31,32,33,34,35,36,37,38,39,40,41,42,43,44]),none,none,none,none,none,none,none,some ([6],[2,6,45,46,47,48,49,50,51,52,53,54,55,56,57,58,59,60,61,62,63,64,65,66,67]),none,none,none,none,none,none,none,none,none]
def Jd (a0:Value) (w:World) (K:Value→World→Prop):Prop:= box P T.f a0 w fun b w=>Q0 P F.ax [] w fun D w=>ext P D 0 w fun g w=>ext P D 1 w fun br w=>Q0 P F.ac [] w fun bh w=>J0 P .not bh w fun k w=>Q1 k false w (Q2 P T.f b) fun an w=>Q1 k false w (Q0 P F.br [an]) fun O w=>Q1 k false w (J0 P .not O) fun ar w=>pick P k (.bool true) ar w fun i w=>Q1 i false w (fieldAddr P T.f b 0) fun af w=>Q1 i false w (Q2 P T.m af) fun aj w=>Q1 i false w (J0 P .not aj) fun a1 w=>pick P i (.bool true) a1 w fun bf w=>X1 bf (Q0 P F.ac [] w fun bk w=>K bk w) (lp (α:=Value) (.int .i64 0) w fun l x7 d_ w=>fieldAddr P T.f b 1 w fun ay w=>Q2 P T.d ay w fun ah w=>X6 P .len [T.d] T.e [false] [ah] w fun al w=>Q3 P .lss T.e (.tmp 30) (.tmp 33) x7 al w fun be w=>X1 be (fieldAddr P T.f b 1 w fun ao w=>Q2 P T.d ao w fun Z w=>indexAddr P T.d Z x7 w fun R w=>Q2 P T.b R w fun X w=>Q0 P F.n [g,X] w fun ai w=>J0 P .not ai w fun a3 w=>X1 a3 (K (.bool true) w) (Q3 P .add T.e (.tmp 35) (.const (.int .i64 1)) x7 (.int .i64 1) w fun bb w=>l bb w)) (lp (α:=Value) (.int .i64 0) w fun f h d_ w=>fieldAddr P T.f b 2 w fun ak w=>Q2 P T.d ak w fun a6 w=>X6 P .len [T.d] T.e [false] [a6] w fun a2 w=>Q3 P .lss T.e (.tmp 45) (.tmp 48) h a2 w fun N w=>X1 N (fieldAddr P T.f b 2 w fun W w=>Q2 P T.d W w fun a7 w=>indexAddr P T.d a7 h w fun ad w=>Q2 P T.b ad w fun ae w=>Q3 P .neq T.b (.tmp 56) (.const (.string ⟨#[]⟩)) ae (.string ⟨#[]⟩) w fun a w=>Q1 a true w (fun w J=>J g w) fun a8 w=>Q1 a true w (fieldAddr P T.f b 2) fun U w=>Q1 a true w (Q2 P T.d U) fun bm w=>Q1 a true w (fun w J=>J h w) fun bi w=>Q1 a true w (indexAddr P T.d bm bi) fun Y w=>Q1 a true w (Q2 P T.b Y) fun bg w=>Q1 a true w (Q0 P F.n [a8,bg]) fun aa w=>Q1 a true w (J0 P .not aa) fun V w=>pick P a V (.bool false) w fun a4 w=>X1 a4 (K (.bool true) w) (Q3 P .add T.e (.tmp 50) (.const (.int .i64 1)) h (.int .i64 1) w fun bc w=>f bc w)) (Q2 P T.f b w fun a9 w=>Q2 P T.f b w fun av w=>Q0 P F.aD [g,a9,av] w fun q w=>ext P q 0 w fun ap w=>ext P q 1 w fun ax w=>W3 P T.f w fun t7 w=>Z3 P T.f t7 ap w fun _u w=>N1 P T.f [] w fun bd w=>Q2 P T.f b w fun Q w=>Q0 P F.aD [g,bd,Q] w fun r w=>ext P r 0 w fun am w=>ext P r 1 w fun aq w=>W3 P T.f w fun t9 w=>Z3 P T.f t9 am w fun _u w=>Q2 P T.f b w fun az w=>N1 P T.f [] w fun ba w=>Q0 P F.aD [g,az,ba] w fun v w=>ext P v 0 w fun ab w=>ext P v 1 w fun a5 w=>W3 P T.f w fun C w=>Z3 P T.f C ab w fun _u w=>Q3 P .eql T.r (.tmp 89) (.const (.int .i64 0)) ax (.int .i64 0) w fun m w=>Q1 m true w (fun w J=>J aq w) fun aw w=>Q1 m true w (Q3 P .eql T.r (.tmp 92) (.const (.int .i64 0)) aw (.int .i64 0)) fun bl w=>pick P m bl (.bool false) w fun n w=>Q1 n true w (fun w J=>J a5 w) fun bj w=>Q1 n true w (Q3 P .eql T.r (.tmp 96) (.const (.int .i64 0)) bj (.int .i64 0)) fun bn w=>pick P n bn (.bool false) w fun j w=>Q1 j true w (Q2 P T.f t7) fun z w=>Q1 j true w (Q2 P T.f b) fun L w=>Q1 j true w (Q0 P F.w [z,L]) fun M w=>pick P j M (.bool false) w fun e w=>Q1 e true w (Q2 P T.f t9) fun p w=>Q1 e true w (Q2 P T.f b) fun H w=>Q1 e true w (Q0 P F.w [p,H]) fun y w=>pick P e y (.bool false) w fun c w=>Q1 c true w (Q2 P T.f C) fun s w=>Q1 c true w (Q2 P T.f b) fun t w=>Q1 c true w (Q0 P F.w [s,t]) fun B w=>pick P c B (.bool false) w fun d w=>Q1 d true w (Q2 P T.f t7) fun E w=>Q1 d true w (Q2 P T.f b) fun u w=>Q1 d true w (Q0 P F.c3 [E,u]) fun A w=>pick P d A (.bool false) w fun o w=>K o w)))
theorem Hk {a:Value} {w:World} {K:Value→World→Prop} (h:Jd a w K):Q0 P F.bN [a] w K:=Q9 Hq Tryz.func7 rfl (by decide) (by kernel_rfl) h
end Go.Proofs.YtfppjenblllfaaaGreatDoor


namespace Go.Emb
open Go.RowKit (Below)
variable {P : Program} {w w' : World} {K : Value → World → Prop}
theorem X9 {s:Sem Value} {v:Value} (h:s.run P w= .ok v w'):op P (sv s) w K=K v w':=by
 rw[Qr];unfold T6 sv;simp[h]
theorem My {s:Sem Unit} (h:s.run P w= .ok () w'):op P (su s) w K=K undef w':=by
 rw[Qr];unfold T6 su;simp[h]
abbrev S (l:List UInt8):Value:= .string ⟨l.toArray⟩
abbrev I (n:Int):Value:= .int .i64 n
theorem Nz {b:Bool} {x y:Value}:pick P (.bool b) x y w K=K (if b then x else y) w:=by
 unfold pick;rw[Qr];unfold T6;cases b<;>simp[asBool]
theorem Rc {x y:Value}:pick P (.bool true) x y w K=K x w:=by rw[Nz];rfl
theorem Dg {x y:Value}:pick P (.bool false) x y w K=K y w:=by rw[Nz];rfl
theorem Q8P {a b:Bool} {u:Value}:pick P (.bool a) (if a=true then .bool b else u) (.bool false) w K=K (.bool (a&&b)) w:=by
 rw[Nz];cases a<;>rfl
theorem X0U {a b:Bool} {u:Value}:pick P (.bool a) (.bool true) (if a=false then .bool b else u) w K=K (.bool (a||b)) w:=by
 rw[Nz];cases a<;>rfl
theorem G4 {c:World→(Value→World→Prop)→Prop}:Q1 (.bool true) true w c K=c w K:=by rw[Nl];simp[Wk]
theorem Vl {c:World→(Value→World→Prop)→Prop}:Q1 (.bool false) false w c K=c w K:=by rw[Nl];simp[Wk]
theorem Pp {c:World→(Value→World→Prop)→Prop}:Q1 (.bool true) false w c K=K undef w:=by rw[Nl];simp[Wk]
theorem Jo {c:World→(Value→World→Prop)→Prop}:Q1 (.bool false) true w c K=K undef w:=by rw[Nl];simp[Wk]
theorem Pc {b:Bool} {c:World→(Value→World→Prop)→Prop}:Q1 undef b w c K=K undef w:=by rw[Nl];rfl
theorem Q8Q {a b:Bool} {v:Value}:Q1 (.bool a) b w (fun w J=>J v w) K=K (if a=b then v else undef) w:=by
 rw[Nl];unfold Wk;by_cases h:a=b<;>simp[h]
theorem Q4i {b:Bool} {t e:Prop}:X1 (.bool b) t e=if b=true then t else e:=by rw[Q4L];cases b<;>rfl
theorem Nd {t e:Prop}:X1 (.bool true) t e=t:=by rw[Q4i];simp
theorem Uy {t e:Prop}:X1 (.bool false) t e=e:=by rw[Q4i];simp
section ints
variable {k : IntKind} {t : TypeId} {ox oy : Operand} {a b : Int}
theorem Ch:Q3 P .add t ox oy (.int k a) (.int k b) w K=K (.int k (k.wrap (a+b))) w:=X9 (by simp[eqGuard,Go.binOp,Op.intArith])
theorem Au:Q3 P .sub t ox oy (.int k a) (.int k b) w K=K (.int k (k.wrap (a-b))) w:=X9 (by simp[eqGuard,Go.binOp,Op.intArith])
theorem Q6c:Q3 P .mul t ox oy (.int k a) (.int k b) w K=K (.int k (k.wrap (a*b))) w:=X9 (by simp[eqGuard,Go.binOp,Op.intArith])
theorem Q2w:Q3 P .lss t ox oy (.int k a) (.int k b) w K=K (.bool (decide (a<b))) w:=X9 (by simp[eqGuard,Go.binOp,Op.intCmp])
theorem Q28:Q3 P .leq t ox oy (.int k a) (.int k b) w K=K (.bool (decide (a≤b))) w:=X9 (by simp[eqGuard,Go.binOp,Op.intCmp])
theorem Q2s:Q3 P .gtr t ox oy (.int k a) (.int k b) w K=K (.bool (decide (b<a))) w:=X9 (by simp[eqGuard,Go.binOp,Op.intCmp])
theorem Q04:Q3 P .geq t ox oy (.int k a) (.int k b) w K=K (.bool (decide (b≤a))) w:=X9 (by simp[eqGuard,Go.binOp,Op.intCmp])
theorem Q05:Q3 P .eql t ox oy (.int k a) (.int k b) w K=K (.bool (decide (a=b))) w:=X9 (by
 simp[eqGuard,Go.binOp,Op.intCmp];rfl)
theorem Q1Y:Q3 P .neq t ox oy (.int k a) (.int k b) w K=K (.bool (!decide (a=b))) w:=X9 (by
 simp[eqGuard,Go.binOp,Op.intCmp];rfl)
end ints
theorem Q2b {b:Bool}:J0 P .not (.bool b) w K=K (.bool (!b)) w:=X9 (by simp[Op.unary])
section bools
variable {t : TypeId} {ox oy : Operand} {a b : Bool}
theorem Q1c (d:Nat) (h:P.underlying t=some .bool):(Op.equalIn (d+1) t (.bool a) (.bool b)).run P w= .ok (a==b) w:=by
 simp[Op.equalIn,run_underlying h]
theorem Cm (h:P.underlying t=some .bool):(Op.equal t (.bool a) (.bool b)).run P w= .ok (a==b) w:=Q1c 9999 h
theorem Q4u (h:P.underlying t=some .bool):Q3 P .eql t ox oy (.bool a) (.bool b) w K=K (.bool (a==b)) w:=X9 (by
 simp[eqGuard,Go.binOp,Cm h])
theorem Q54 (h:P.underlying t=some .bool):Q3 P .neq t ox oy (.bool a) (.bool b) w K=K (.bool (!(a==b))) w:=X9 (by
 simp[eqGuard,Go.binOp,Cm h])
end bools
theorem Yj {vs:List Value} {i:Nat} {v:Value} (h:vs[i]? =some v):ext P (.tuple vs.toArray) i w K=K v w:=X9 (by
 simp[Instr.extract,h])
theorem X18 {a b:Value}:ext P (.tuple #[a,b]) 0 w K=K a w:=Yj (vs:=[a,b]) rfl
theorem X1M {a b:Value}:ext P (.tuple #[a,b]) 1 w K=K b w:=Yj (vs:=[a,b]) rfl
theorem Q9O {a b c:Value}:ext P (.tuple #[a,b,c]) 0 w K=K a w:=Yj (vs:=[a,b,c]) rfl
theorem X0e {a b c:Value}:ext P (.tuple #[a,b,c]) 1 w K=K b w:=Yj (vs:=[a,b,c]) rfl
theorem X0d {a b c:Value}:ext P (.tuple #[a,b,c]) 2 w K=K c w:=Yj (vs:=[a,b,c]) rfl
theorem B5 {n:Int} (d: -9223372036854775808≤n) (c:n≤9223372036854775807):IntKind.i64.wrap n=n:=by
 have e:n % 18446744073709551616=n∨n % 18446744073709551616=n+18446744073709551616:=by omega
 show (if (true&&decide (n % 18446744073709551616≥9223372036854775808))=true then n % 18446744073709551616-18446744073709551616 else n % 18446744073709551616)=n
 simp only[Bool.true_and,decide_eq_true_eq]
 split<;>omega
theorem w32 {n:Int} (d: -2147483648≤n) (c:n≤2147483647):IntKind.i32.wrap n=n:=by
 show (if (true&&decide (n % 4294967296≥2147483648))=true then n % 4294967296-4294967296 else n % 4294967296)=n
 simp only[Bool.true_and,decide_eq_true_eq]
 split<;>omega
section strs
variable {t : TypeId} {ox oy : Operand} {a b : List UInt8}
theorem Q2v (a b:List UInt8):(a==b)=decide (a=b):=by rw[Bool.eq_iff_iff];simp
theorem Rw:Q3 P .eql t ox oy (S a) (S b) w K=K (.bool (decide (a=b))) w:=X9 (by
 simp[eqGuard,Go.binOp,Op.stringOp,Q2v])
theorem Rr:Q3 P .neq t ox oy (S a) (S b) w K=K (.bool (!decide (a=b))) w:=X9 (by
 simp[eqGuard,Go.binOp,Op.stringOp,Q2v])
theorem C7 (l:List UInt8):(ByteArray.mk l.toArray).size=l.length:=by simp[ByteArray.size]
theorem Q8b (a b:List UInt8):ByteArray.mk a.toArray++ByteArray.mk b.toArray=ByteArray.mk (a++b).toArray:=by
 apply ByteArray.ext;simp
theorem X2a:IntKind.i64.max=9223372036854775807:=by decide
theorem Q5r (h:a.length+b.length≤9223372036854775807):Q3 P .add t ox oy (S a) (S b) w K=K (S (a++b)) w:=X9 (by
 have c: ¬(((a.length+b.length:Nat):Int)>IntKind.i64.max):=by rw[X2a];omega
 simp only[eqGuard,Go.binOp,Op.stringOp,C7,Q8b]
 simp only[if_neg c]
 simp)
theorem D0 {cs:List Bool} {r:TypeId} (c:P.underlying t=some .string):X6 P .len [t] r cs [S a] w K=K (I a.length) w:=by
 have h:(Builtin.len_ #[t] r #[S a]).run P w= .ok (I a.length) w:=by
  simp[Builtin.len_,run_underlying c,C7,goInt]
 exact X9 h
theorem A0 {i:Int} (c:P.underlying t=some .string) (d:0≤i) (h:i.toNat<a.length):D9 P t (S a) (I i) w K=K (.int .u8 (a[i.toNat]'h).toNat) w:=X9 (by
 simp only[Instr.index,asIntOf,Sem.run_bind,Sem.run_pure,Result.andThen_ok,run_underlying c,d,if_true]
 have:(ByteArray.mk a.toArray)[i.toNat]? =some (a[i.toNat]'h):=by
  rw[getElem?_pos _ _ (by rw[C7];exact h)]
  rfl
 rw[this];simp)
theorem Q1U (l:List UInt8) (i j:Nat):(ByteArray.mk l.toArray).extract i j=ByteArray.mk ((l.take j).drop i).toArray:=by
 apply ByteArray.ext
 apply Array.ext'
 simp[List.drop_take]
theorem Wl {i:Int} (c:P.underlying t=some .string) (d:0≤i) (h:i≤a.length):H3 P t (S a) (some (I i)) none none w K=K (S (a.drop i.toNat)) w:=X9 (by
 simp[Instr.sliceAt,Instr.slice,Instr.sliceBounds,Instr.sliceBound,asIntOf,run_underlying c,d,h,C7,Q1U])
theorem K0 {i:Int} (c:P.underlying t=some .string) (d:0≤i) (h:i≤a.length):H3 P t (S a) none (some (I i)) none w K=K (S (a.take i.toNat)) w:=X9 (by
 simp[Instr.sliceAt,Instr.slice,Instr.sliceBounds,Instr.sliceBound,asIntOf,run_underlying c,d,h,C7,Q1U])
end strs
theorem Q12 {s d:TypeId} {k j:IntKind} {n:Int} {ds:TypeDesc} (e:P.underlying s=some ds) (c:P.underlying d=some (.int k)):conv P s d (.int j n) w K=K (.int k (k.wrap n)) w:=X9 (by
 simp[Go.convert,run_underlying e,run_underlying c,Conv.intToInt])
def Pv (w:World) (r:Nat) (o:Obj):World:={w with heap:=w.heap.setIfInBounds r o}
theorem Q2z {B r:Nat} {a w:World} {o:Obj} (h:Below B a w) (d:B≤r):Below B a (Pv w r o):=
 h.trans ⟨rfl,rfl,rfl,by simp[Pv],fun k c=>by simp only[Pv];rw[Array.getElem?_setIfInBounds_ne (by omega)]⟩
theorem Q6l {w:World} {r:Nat} {o:Obj} (h:r<w.heap.size):(Pv w r o).heap[r]? =some o:=by
 simp only[Pv];rw[Array.getElem?_setIfInBounds_self_of_lt h]
theorem X0W {t:TypeId} {a:List UInt8} (c:P.underlying t=some .string):rng P t (S a) w K=K (.pointer (some ⟨w.heap.size,0,none⟩)) (w.alloc (.stringIter ⟨a.toArray⟩ 0)):=X9 (by
 simp[Instr.range,run_underlying c])
theorem X0k {t:TypeId} {r pos:Nat} {s:ByteArray} (h:w.heap[r]? =some (.stringIter s pos)) (d:pos<s.size):
 J4 P (.pointer (some ⟨r,0,none⟩)) true t w K=K (.tuple #[.bool true,I pos, .int .i32 (Utf8.decode s pos).1]) (Pv w r (.stringIter s (pos+(Utf8.decode s pos).2))):=X9 (by
 have c: ∀(k:Obj→Sem Value),(getObj r>>=k).run P w=(k (.stringIter s pos)).run P w:=by
  intro k;rw[Sem.run_bind];simp[getObj,Sem.run,h]
 have e: ∀o,(setObj r o).run P w= .ok () (Pv w r o):=by intro o;simp[setObj,Sem.run,h,Pv]
 unfold Instr.next
 simp only[c,d,if_true]
 simp[e,goInt])
theorem Q5x {t:TypeId} {r pos:Nat} {s:ByteArray} (h:w.heap[r]? =some (.stringIter s pos)) (d: ¬pos<s.size):
 J4 P (.pointer (some ⟨r,0,none⟩)) true t w K=K (.tuple #[.bool false]) w:=X9 (by
 have c: ∀(k:Obj→Sem Value),(getObj r>>=k).run P w=(k (.stringIter s pos)).run P w:=by
  intro k;rw[Sem.run_bind];simp[getObj,Sem.run,h]
 unfold Instr.next
 simp only[c,d,if_false]
 simp)
theorem Q9K {a:Value}:ext P (.tuple #[a]) 0 w K=K a w:=Yj (vs:=[a]) rfl
theorem Q6Q {s:ByteArray} {i:Nat} (h:(s.get! i).toNat<128):Utf8.decode s i=((s.get! i).toNat,1):=by
 unfold Utf8.decode
 simp only[Nat.add_zero]
 rw[if_pos h]
theorem Q5u {s:ByteArray} {i:Nat} (h: ¬(s.get! i).toNat<128):128≤(Utf8.decode s i).1:=by
 unfold Utf8.decode
 simp only[Nat.add_zero]
 rw[if_neg h]
 repeat' split
 all_goals (simp only[Utf8.runeError] at*;try omega)
 all_goals (simp only[Bool.and_eq_true,decide_eq_true_eq,ge_iff_le] at*;omega)
theorem Q4g {s:ByteArray} {i:Nat}:1≤(Utf8.decode s i).2:=by
 unfold Utf8.decode
 simp only
 repeat' split
 all_goals simp
def Ff (p:Int→Bool) (s:ByteArray):Nat→Nat→Bool
 | 0,_=>true
 | n+1,i=>if i<s.size then p (Utf8.decode s i).1&&Ff p s n (i+(Utf8.decode s i).2) else true
theorem Q21 {a:List UInt8} {i:Nat} (h:i<a.length):(ByteArray.mk a.toArray).get! i=a[i]:=by
 show (ByteArray.mk a.toArray).data[i]! =a[i]
 simp[h]
theorem Q74 (p:Int→Bool) (e: ∀c:Int,128≤c→p c=false) (a:List UInt8): ∀(n i:Nat),a.length-i≤n→Ff p ⟨a.toArray⟩ n i=(a.drop i).all (fun b=>p b.toNat):=by
 intro n
 induction n with
 | zero=>intro i h;rw[List.drop_eq_nil_of_le (by omega)];rfl
 | succ n g=>
  intro i h
  simp only[Ff,C7]
  split
  ·rename_i d
   rw[List.drop_eq_getElem_cons d,List.all_cons]
   by_cases f:a[i].toNat<128
   ·rw[Q6Q (by rw[Q21 d];exact f),Q21 d]
    simp only
    rw[g (i+1) (by omega)]
   ·have j:=Q5u (s:=⟨a.toArray⟩) (i:=i) (by rw[Q21 d];exact f)
    rw[e _ (by omega),e _ (by omega)];rfl
  ·rename_i d;rw[List.drop_eq_nil_of_le (by omega)];rfl
theorem V6 {α:Type} {A:(α→World→Prop)→World→Prop} {B:α→(Nat→Value)→World→Prop} (h:A (fun x w=> ∀d,B x d w) w):jn w A B:=Zq _ h (fun _ d _ c=>c d)
theorem X2 {d:World→World→Prop} {A c:(Value→World→Prop)→Prop} (V:Value) (h:A (fun v _=>v=V)) (e:c (fun v _=>v=V)):Q7 d A c:=
 W7 _ (fun _ _ _ h _=>h) h e
theorem Mu {w w0:World} {A:(World→World→Prop)→(World→Prop)→Prop} (d:Below w0.heap.size w0 w)
 (h:A (fun w w'=>Below w.heap.size w w') (fun w'=>Below w0.heap.size w0 w')):dr w A:=
 Q09 _ _ d.drew (fun _ _ c e=>c.trans (e.mono c.size)) h
theorem Q1B {w w':World} {v V:Value} (c:Below w.heap.size w w') (h:v=V):dk (fun w w'=>Below w.heap.size w w') (fun v _=>v=V) w v w':=⟨c,h⟩
theorem X5 {w:World} {v V:Value} (h:v=V):dk (fun w w'=>Below w.heap.size w w') (fun v _=>v=V) w v w:=⟨Below.refl _ _,h⟩
theorem Q5M {n:Nat} {fn:Func} {e:Array Value→Sem Value} {xs:List Value} {v:Value} (j:P.funcs[n]? =some fn) (o:(fn.name== "runtime.NumGoroutine")=false) (m:fn.body.isNone=true)
 (g:(Extern.findNext fn).isNone=true) (l:Extern.find fn=some e) (i:(e xs.toArray).run P w= .ok v w) (h:K v w):Q0 P n xs w K:=by
 have c:Extern.findNext fn=none:=by simpa using g
 have d: ¬fn.name= "runtime.NumGoroutine":=by simpa using o
 have f:fn.body=none:=by simpa using m
 unfold Q0
 rw[Qr]
 unfold T6 callFunc
 simp[j,d,f,c,l,i,h]
theorem Q1m {α:Type} (p:α→Bool) (c:Nat→Bool): ∀(l:List α),(∀i (h:i<l.length),c i=p l[i])→(List.range l.length).find? c=l.findIdx? p
 | [],_=>rfl
 | x::l,h=>by
  rw[List.length_cons,List.range_succ_eq_map,List.find?_cons,List.findIdx?_cons]
  have d:c 0=p x:=h 0 (by simp)
  rw[d]
  cases p x
  ·simp only[Bool.false_eq_true,if_false]
   rw[List.find?_map]
   have:=Q1m p (c ∘ Nat.succ) l (fun i e=>h (i+1) (by simpa using e))
   rw[this]
  ·rfl
def Mr:=And.intro @Rc <| And.intro @Dg <| And.intro @Pc <| And.intro @Ch <| And.intro @Au <| And.intro @Q6c <| And.intro @Q2w <| And.intro @Q28 <| And.intro @Q2s <| And.intro @Q04 <| And.intro @Q05 <| And.intro @Q1Y <| And.intro @Q2b <| And.intro @Rw <| And.intro @Rr <| And.intro @X18 <| And.intro @X1M <| And.intro @Q9O <| And.intro @X0e <| And.intro @X0d <| And.intro @Q9K <| And.intro @Q8P <| And.intro @X0U <| And.intro @G4 <| And.intro @Vl <| And.intro @Pp <| And.intro @Jo <| And.intro @Q8Q <| And.intro @Nd <| @Uy
def Mp:=And.intro @Rc <| And.intro @Dg <| And.intro @Pc <| And.intro @Ch <| And.intro @Au <| And.intro @Q6c <| And.intro @Q2w <| And.intro @Q28 <| And.intro @Q2s <| And.intro @Q04 <| And.intro @Q05 <| And.intro @Q1Y <| And.intro @Q2b <| And.intro @Rw <| And.intro @Rr <| And.intro @X18 <| And.intro @X1M <| And.intro @Q9O <| And.intro @X0e <| And.intro @X0d <| And.intro @Q9K <| And.intro @G4 <| And.intro @Vl <| And.intro @Pp <| And.intro @Jo <| And.intro @Nd <| @Uy
def Mb:=And.intro @Bool.true_eq_false <| And.intro @Bool.false_eq_true <| And.intro @Bool.not_true <| And.intro @Bool.not_false <| And.intro @Bool.and_true <| And.intro @Bool.true_and <| And.intro @Bool.and_false <| And.intro @Bool.false_and <| And.intro @Bool.or_true <| And.intro @Bool.true_or <| And.intro @Bool.or_false <| @Bool.false_or
end Go.Emb

namespace Go.Kd
abbrev X0:=List UInt8
def T3 (c:Int):Bool:=decide (65≤c)&&decide (c≤90)
def I0 (c:Int):Bool:=decide (97≤c)&&decide (c≤122)
def R8 (c:Int):Bool:=decide (48≤c)&&decide (c≤57)
def E1 (c:Int):Bool:=T3 c||I0 c||R8 c
def name (s:X0):Bool:=match s with
 | []=>false
 | c::_=>decide (s.length≤32)&& !R8 c.toNat&&s.all (fun b=>E1 b.toNat)
def W6 (s:X0):Bool:=match s with
 | []=>false
 | c::_=>name s&&T3 c.toNat
def L5 (s:X0):Bool:=match s with
 | []=>false
 | c::_=>name s&&I0 c.toNat
def plain (s:X0):Bool:=decide (s=[105,110,116])||decide (s=[98,111,111,108])||decide (s=[116,101,120,116])
def H5 (s:X0):Bool:=decide (2≤s.length)&&decide (s.drop (s.length-2)=[91,93])
def cutA (s:X0):X0:=s.take (s.length-2)
def Xd:Nat→X0→X0×Nat
 | 0,s=>(s,0)
 | n+1,s=>if H5 s then ((Xd n (cutA s)).1,(Xd n (cutA s)).2+1) else (s,0)
def base (s:X0):X0×Nat:=Xd s.length s
def right (s:X0):Bool:=decide ((base s).2≤3)&&(plain (base s).1||W6 (base s).1)
def elem (s:X0):X0:=if H5 s&&right s then cutA s else []
def Q15 (s:X0):Nat:=if right s then (base s).2 else 0
def P6 (s:X0):X0×X0×Bool:=match s with
 | []=>([],[],false)
 | c::r=>if c=46 then ([],r,true) else ((c::(P6 r).1),(P6 r).2.1,(P6 r).2.2)
def Xr (s:X0):Bool:=(P6 s).2.2&&W6 (P6 s).1&&L5 (P6 s).2.1
def Q03 (c:UInt8) (s:X0):Int:=match s.findIdx? (fun b=>decide (b=c)) with
 | some i=>i
 | none=> -1
def Q1N (s:X0) (o:Option Nat):X0×X0×Bool:=match o with
 | some i=>(s.take i,s.drop (i+1),true)
 | none=>(s,[],false)
theorem Bj (s:X0):P6 s=Q1N s (s.findIdx? (fun b=>decide (b=46))):=by
 induction s with
 | nil=>rfl
 | cons c r a=>
  rw[List.findIdx?_cons]
  simp only[P6]
  by_cases h:c=46
  ·simp[h,Q1N]
  ·simp only[h,if_false,decide_false,Bool.false_eq_true]
   rw[a]
   cases r.findIdx? (fun b=>decide (b=46)) with
   | none=>simp[Q1N]
   | some i=>simp[Q1N]
end Go.Kd

namespace Go.Proofs.YtfppjenblllfaaaGreatDoor
open Go.Emb Go.RowKit Go.Kd
variable {w : World} {K : Value → World → Prop}
theorem X7:P.underlying T.b=some .string:=by kernel_rfl
theorem X2f:P.underlying T.e=some (.int .i64):=by kernel_rfl
theorem Pq:P.underlying T.m=some .bool:=by kernel_rfl
theorem Q26:P.underlying T.w=some (.int .u8):=by kernel_rfl
theorem Q6i:P.underlying T.af=some (.int .i32):=by kernel_rfl
theorem Q66 (c:Int) (h:K (.bool (T3 c)) w):Q0 P F.bR [.int .i32 c] w K:=Q57 (by
 unfold Tm
 (try simp only[↓Mr,Mr,Mb,reduceIte])
 cases a:decide (65≤c)<;>simp only[a,↓Mr,Mr,Mb,reduceIte]<;>simpa [T3,a] using h)
theorem Q6q (c:Int) (h:K (.bool (I0 c)) w):Q0 P F.bT [.int .i32 c] w K:=Q3O (by
 unfold Tj
 (try simp only[↓Mr,Mr,Mb,reduceIte])
 cases a:decide (97≤c)<;>simp only[a,↓Mr,Mr,Mb,reduceIte]<;>simpa [I0,a] using h)
theorem X0t (c:Int) (h:K (.bool (E1 c)) w):Q0 P F.bL [.int .i32 c] w K:=Q3j (by
 unfold Ia
 refine Q66 c ?_
 cases a:T3 c
 ·(try simp only[↓Mr,Mr,Mb,reduceIte])
  refine Q6q c ?_
  cases b:I0 c
  ·(try simp only[↓Mr,Mr,Mb,reduceIte])
   cases d:decide (48≤c)
   ·(try simp only[↓Mr,Mr,Mb,reduceIte])
    simpa [E1,R8,a,b,d] using h
   ·(try simp only[↓Mr,Mr,Mb,reduceIte])
    simpa [E1,R8,a,b,d] using h
  ·(try simp only[↓Mr,Mr,Mb,reduceIte])
   simpa [E1,a,b] using h
 ·(try simp only[↓Mr,Mr,Mb,reduceIte])
  simpa [E1,a] using h)
theorem X2g (a:List UInt8) (f:Value) (p:Int→Bool) (l: ∀(c:Int) (w:World) (K:Value→World→Prop),K (.bool (p c)) w→Z0 P f [.int .i32 c] w K)
 (h: ∀w',Below w.heap.size w w'→K (.bool (Ff p ⟨a.toArray⟩ a.length 0)) w'):Q0 P F.cm [S a,f] w K:=Q7q (by
 unfold Q1J
 rw[X0W X7]
 refine Zv (fun _ w'=> ∃pos n:Nat,a.length-pos≤n∧Ff p ⟨a.toArray⟩ a.length 0=Ff p ⟨a.toArray⟩ n pos∧Below w.heap.size w w'∧w'.heap[w.heap.size]? =some (.stringIter ⟨a.toArray⟩ pos))
  (fun _ w'=>match w'.heap[w.heap.size]? with | some (.stringIter _ pos)=>a.length-pos | _=>0) ⟨0,a.length,by omega,rfl,(Below.refl _ _).alloc (Nat.le_refl _) _,heap_alloc_new w _⟩ ?_
 rintro _ _ w1 ⟨pos,n,r,b,j,e⟩
 by_cases g:pos<a.length
 ·rw[X0k e (by rw[C7];exact g)]
  (try simp only[↓Mr,Mr,Mb,reduceIte])
  refine l _ _ _ ?_
  obtain ⟨n,rfl⟩: ∃m,n=m+1:=⟨n-1,by omega⟩
  simp only[Ff,C7,g,if_true] at b
  have q:=Q4g (s:=⟨a.toArray⟩) (i:=pos)
  have d:w.heap.size<w1.heap.size:=(Array.getElem?_eq_some_iff.1 e).1
  cases k:p (Utf8.decode ⟨a.toArray⟩ pos).1
  ·(try simp only[↓Mr,Mr,Mb,reduceIte])
   rw[k] at b
   have:=h _ (Q2z (o:= .stringIter ⟨a.toArray⟩ (pos+(Utf8.decode ⟨a.toArray⟩ pos).2)) j (Nat.le_refl _))
   rw[b] at this
   exact this
  ·(try simp only[↓Mr,Mr,Mb,reduceIte])
   rw[k] at b
   refine ⟨⟨_,n,?_,b,Q2z j (Nat.le_refl _),Q6l d⟩,?_⟩
   ·omega
   ·simp only[Q6l d,e];omega
 ·rw[Q5x e (by rw[C7];exact g)]
  (try simp only[↓Mr,Mr,Mb,reduceIte])
  have:Ff p ⟨a.toArray⟩ n pos=true:=by
   cases n with
   | zero=>rfl
   | succ n=>simp only[Ff,C7,g,if_false]
  rw[←this,←b]
  exact h _ j)
theorem Q6Y (c:Int) (h:128≤c):E1 c=false:=by
 simp[E1,T3,I0,R8];omega
theorem Q3Z (a:List UInt8) (n:a.length≤140737488355328) (h: ∀w',Below w.heap.size w w'→K (.bool (name a)) w'):Q0 P F.bF [S a] w K:=Q5d (by
 unfold Q0y
 have e: ∀c r,a=c::r→(decide (a.length≤32)&& !R8 c.toNat)=true→Q0 P F.cm [S a,(.func (.func F.bL) #[] #[])] w K:=by
  intro c r m b
  refine X2g a _ E1 (fun c w K h=>Y8 (first:=[]) (caps:=[]) (X0t c h)) fun w' l=>?_
  rw[Q74 _ Q6Y a _ _ (by omega)]
  have:=h w' l
  rw[m] at this b⊢
  simp only[name] at this
  rw[b,Bool.true_and] at this
  simpa using this
 cases a with
 | nil=>
  simp only[↓Mr,Mr,Mb,reduceIte,decide_true]
  exact h w (Below.refl _ _)
 | cons c r=>
  have f:decide (c::r=[])=false:=by simp
  simp only[↓Mr,Mr,Mb,reduceIte,f,D0 X7]
  by_cases i:(c::r).length≤32
  ·have d:r.length≤31:=by simpa using i
   have b:decide ((32:Int)<((c::r).length:Int))=false:=by simp only[decide_eq_false_iff_not];omega
   simp only[↓Mr,Mr,Mb,reduceIte,b]
   rw[A0 X7 (by omega) (by simp)]
   (try simp only[↓Mr,Mr,Mb,reduceIte])
   have j:(c::r)[(0:Int).toNat]'(by simp)=c:=rfl
   simp only[j]
   cases g:decide ((48:Int)≤(c.toNat:Int))
   ·(try simp only[↓Mr,Mr,Mb,reduceIte])
    exact e c r rfl (by simp[R8,d,g])
   ·(try simp only[↓Mr,Mr,Mb,reduceIte])
    rw[A0 X7 (by omega) (by simp)]
    simp only[↓Mr,Mr,Mb,reduceIte,j]
    cases k:decide ((c.toNat:Int)≤57)
    ·(try simp only[↓Mr,Mr,Mb,reduceIte])
     exact e c r rfl (by simp only[R8,g,k];simp[d])
    ·(try simp only[↓Mr,Mr,Mb,reduceIte])
     have:name (c::r)=false:=by simp only[name,R8,g,k];simp
     rw[←this];exact h w (Below.refl _ _)
  ·have b:decide ((32:Int)<((c::r).length:Int))=true:=by simp only[decide_eq_true_eq];omega
   simp only[↓Mr,Mr,Mb,reduceIte,b]
   have:name (c::r)=false:=by simp only[name];rw[decide_eq_false i];rfl
   rw[←this];exact h w (Below.refl _ _))
theorem Dl (a:List UInt8) (f:a.length≤140737488355328) (h: ∀w',Below w.heap.size w w'→K (.bool (W6 a)) w'):Q0 P F.af [S a] w K:=Q3S (by
 unfold Ts
 refine Q3Z a f fun w1 b=>?_
 cases a with
 | nil=>
  simp only[name,↓Mr,Mr,Mb,reduceIte]
  exact h w1 b
 | cons c r=>
  cases d:name (c::r)
  ·(try simp only[↓Mr,Mr,Mb,reduceIte])
   have:=h w1 b
   simp only[W6,d] at this
   simpa using this
  ·(try simp only[↓Mr,Mr,Mb,reduceIte])
   rw[A0 X7 (by omega) (by simp)]
   have e:(c::r)[(0:Int).toNat]'(by simp)=c:=rfl
   simp only[e]
   rw[Q12 Q26 Q6i,w32 (by omega) (by have:=c.toNat_lt;omega)]
   refine Q66 _ ?_
   (try simp only[↓Mr,Mr,Mb,reduceIte])
   have:=h w1 b
   simp only[W6,d] at this
   simpa using this)
theorem Up (a:List UInt8) (h:K (.bool (plain a)) w):Q0 P F.ad [S a] w K:=Q4x (by
 unfold Tw
 (try simp only[↓Mr,Mr,Mb,reduceIte])
 cases b:decide (a=[105,110,116])<;>(try simp only[↓Mr,Mr,Mb,reduceIte])
 ·cases c:decide (a=[98,111,111,108])<;>(try simp only[↓Mr,Mr,Mb,reduceIte])<;>simpa [plain,b,c] using h
 ·simpa [plain,b] using h)
def Yp (a b:List UInt8):Bool:=decide (b.length≤a.length)&&decide (a.drop (a.length-b.length)=b)
theorem Mv (a b:List UInt8) (e:a.length≤140737488355328) (f:b.length≤140737488355328) (h:K (.bool (Yp a b)) w):Q0 P F.a6 [S a,S b] w K:=Ho (by
 unfold Ja
 rw[D0 X7,D0 X7]
 (try simp only[↓Mr,Mr,Mb,reduceIte])
 by_cases d:b.length≤a.length
 ·have c:decide ((b.length:Int)≤a.length)=true:=by simp only[decide_eq_true_eq];omega
  simp only[↓Mr,Mr,Mb,reduceIte,c,D0 X7]
  rw[B5 (by omega) (by omega),Wl X7 (by omega) (by omega)]
  (try simp only[↓Mr,Mr,Mb,reduceIte])
  rw[show ((a.length:Int)-b.length).toNat=a.length-b.length from by omega]
  simpa [Yp,d] using h
 ·have c:decide ((b.length:Int)≤a.length)=false:=by simp only[decide_eq_false_iff_not];omega
  simp only[↓Mr,Mr,Mb,reduceIte,c]
  simpa [Yp,d] using h)
theorem Q5Q (a b:List UInt8) (c:a.length≤140737488355328) (d:b.length≤140737488355328) (h:K (.bool (Yp a b)) w):Q0 P F.bn [S a,S b] w K:=Kn (by
 unfold Mg
 exact Mv a b c d h)
def Nf (a b:List UInt8):List UInt8:=if Yp a b then a.take (a.length-b.length) else a
theorem Q3b {a b:List UInt8} (h:Yp a b=true):b.length≤a.length:=by
 simp only[Yp,Bool.and_eq_true,decide_eq_true_eq] at h;exact h.1
theorem Q3W (a b:List UInt8) (d:a.length≤140737488355328) (e:b.length≤140737488355328) (h:K (S (Nf a b)) w):Q0 P F.be [S a,S b] w K:=Bz (by
 unfold Wr
 refine Et ?_
 unfold Yw
 refine Mv a b d e ?_
 cases c:Yp a b
 ·(try simp only[↓Mr,Mr,Mb,reduceIte])
  simpa [Nf,c] using h
 ·have f:=Q3b c
  simp only[↓Mr,Mr,Mb,reduceIte,D0 X7]
  rw[B5 (by omega) (by omega),K0 X7 (by omega) (by omega)]
  rw[show ((a.length:Int)-b.length).toNat=a.length-b.length from by omega]
  simpa [Nf,c] using h)
theorem Q5J (a b:List UInt8) (d:a.length≤140737488355328) (e:b.length≤140737488355328) (h:K (.tuple #[S (Nf a b), .bool (Yp a b)]) w):Q0 P F.bo [S a,S b] w K:=Kb (by
 unfold Lt
 refine Hl ?_
 unfold Je
 refine Mv a b d e ?_
 cases c:Yp a b
 ·(try simp only[↓Mr,Mr,Mb,reduceIte])
  simpa [Nf,c] using h
 ·have f:=Q3b c
  simp only[↓Mr,Mr,Mb,reduceIte,D0 X7]
  rw[B5 (by omega) (by omega),K0 X7 (by omega) (by omega)]
  rw[show ((a.length:Int)-b.length).toNat=a.length-b.length from by omega]
  (try simp only[↓Mr,Mr,Mb,reduceIte])
  simpa [Nf,c] using h)
theorem Q1j (a:List UInt8):Yp a [91,93]=H5 a:=rfl
theorem Q0L (a:List UInt8):Nf a [91,93]=if H5 a then Kd.cutA a else a:=rfl
theorem P0 {a:List UInt8} (h:H5 a=true):(Kd.cutA a).length+2=a.length:=by
 simp only[H5,Bool.and_eq_true,decide_eq_true_eq] at h
 simp only[Kd.cutA,List.length_take];omega
theorem Q1f: ∀(n m:Nat) (a:List UInt8),a.length≤n→a.length≤m→Xd n a=Xd m a
 | 0,0,a,_,_=>rfl
 | 0,m+1,a,h,_=>by
  have:a=[]:=List.eq_nil_of_length_eq_zero (by omega)
  subst this;rfl
 | n+1,0,a,_,h=>by
  have:a=[]:=List.eq_nil_of_length_eq_zero (by omega)
  subst this;rfl
 | n+1,m+1,a,b,c=>by
  simp only[Xd]
  split
  ·rename_i h
   have:=P0 h
   rw[Q1f n m (Kd.cutA a) (by omega) (by omega)]
  ·rfl
theorem Uw (a:List UInt8):base a=if H5 a then ((base (Kd.cutA a)).1,(base (Kd.cutA a)).2+1) else (a,0):=by
 unfold base
 cases b:a.length with
 | zero=>
  have:a=[]:=List.eq_nil_of_length_eq_zero b
  subst this;rfl
 | succ n=>
  simp only[Xd]
  split
  ·rename_i h
   have:=P0 h
   rw[Q1f n (Kd.cutA a).length (Kd.cutA a) (by omega) (Nat.le_refl _)]
  ·rfl
theorem As (a:List UInt8):(base a).1.length+2*(base a).2=a.length:=by
 have key: ∀n (a:List UInt8),(Xd n a).1.length+2*(Xd n a).2=a.length:=by
  intro n
  induction n with
  | zero=>intro a;simp[Xd]
  | succ n b=>
   intro a
   simp only[Xd]
   split
   ·rename_i h
    have:=P0 h
    have:=b (Kd.cutA a)
    simp only;omega
   ·simp
 exact key _ a
theorem Q86 (a:List UInt8) (f:a.length≤140737488355328) (h:K (.tuple #[S (base a).1,I (base a).2]) w):Q0 P F.c5 [S a] w K:=Q5D (by
 unfold Q0w
 refine Zv (fun x w'=>w'=w∧ ∃(b:List UInt8) (n:Nat),x=(S b,I n)∧b.length+2*n=a.length∧base a=((base b).1,(base b).2+n)) (fun x _=>match x.1 with | .string s=>s.size | _=>0)
  ⟨rfl,a,0,rfl,by omega,rfl⟩ ?_
 rintro _ _ _ ⟨rfl,b,n,rfl,g,c⟩
 refine Q5Q b _ (by omega) (by simp) ?_
 rw[Q1j]
 cases d:H5 b
 ·(try simp only[↓Mr,Mr,Mb,reduceIte])
  rw[Uw b,d] at c
  simp only[Bool.false_eq_true,if_false,Nat.zero_add] at c
  rw[c] at h;exact h
 ·(try simp only[↓Mr,Mr,Mb,reduceIte])
  refine Q3W b _ (by omega) (by simp) ?_
  rw[Q0L,d]
  simp only[↓Mr,Mr,Mb,reduceIte,if_true]
  have e:=P0 d
  rw[B5 (by omega) (by omega)]
  refine ⟨⟨by first | rfl | trivial,Kd.cutA b,n+1,by simp,by omega,?_⟩,?_⟩
  ·rw[c,Uw b,d];simp;omega
  ·simp only[C7];omega)
theorem Zn (a:List UInt8) (g:a.length≤140737488355328) (h: ∀w',Below w.heap.size w w'→K (.bool (right a)) w'):Q0 P F.a2 [S a] w K:=Q3V (by
 unfold Tg
 have e:=As a
 refine Q86 a g ?_
 (try simp only[↓Mr,Mr,Mb,reduceIte])
 by_cases b:(base a).2≤3
 ·have c:decide (((base a).2:Int)≤3)=true:=by simp only[decide_eq_true_eq];omega
  simp only[↓Mr,Mr,Mb,reduceIte,c]
  refine Up _ ?_
  cases d:plain (base a).1
  ·(try simp only[↓Mr,Mr,Mb,reduceIte])
   refine Dl _ (by omega) fun w1 f=>?_
   (try simp only[↓Mr,Mr,Mb,reduceIte])
   have:=h w1 f
   simp only[right,b,d] at this
   simpa using this
  ·(try simp only[↓Mr,Mr,Mb,reduceIte])
   have:=h w (Below.refl _ _)
   simp only[right,b,d] at this
   simpa using this
 ·have c:decide (((base a).2:Int)≤3)=false:=by simp only[decide_eq_false_iff_not];omega
  simp only[↓Mr,Mr,Mb,reduceIte,c]
  have:=h w (Below.refl _ _)
  simp only[right,b] at this
  simpa using this)
theorem X1j (a:List UInt8) (c:a.length≤140737488355328) (h: ∀w',Below w.heap.size w w'→K (S (elem a)) w'):Q0 P F.cA [S a] w K:=Q5C (by
 unfold Q0D
 refine Q5J a _ c (by simp) ?_
 rw[Q1j,Q0L]
 (try simp only[↓Mr,Mr,Mb,reduceIte])
 cases b:H5 a
 ·(try simp only[↓Mr,Mr,Mb,reduceIte])
  have:=h w (Below.refl _ _)
  simp only[elem,b] at this
  exact this
 ·(try simp only[↓Mr,Mr,Mb,reduceIte])
  refine Zn a c fun w1 e=>?_
  have:=h w1 e
  cases d:right a
  ·(try simp only[↓Mr,Mr,Mb,reduceIte])
   simp only[elem,b,d] at this
   exact this
  ·simp only[↓Mr,Mr,Mb,reduceIte,if_true]
   simp only[elem,b,d] at this
   exact this)
theorem X1x (a:List UInt8) (b:a.length≤140737488355328) (h: ∀w',Below w.heap.size w w'→K (I (Q15 a)) w'):Q0 P F.cD [S a] w K:=Q5g (by
 unfold Q0K
 refine Q86 a b ?_
 (try simp only[↓Mr,Mr,Mb,reduceIte])
 refine Zn a b fun w1 c=>?_
 have:=h w1 c
 cases d:right a<;>(try simp only[↓Mr,Mr,Mb,reduceIte])<;>simpa [Q15,d] using this)
end Go.Proofs.YtfppjenblllfaaaGreatDoor

namespace Go.Proofs.YtfppjenblllfaaaGreatDoor
open Go.Emb Go.RowKit Go.Kd
variable {w : World} {K : Value → World → Prop}
theorem Q0k (a:List UInt8) (c:UInt8) (h:K (I (Q03 c a)) w):Q0 P F.bD [S a, .int .u8 c.toNat] w K:=by
 refine Q5M (e:=Extern.BytealgIndexByte.indexByte) Tryz.func235 (by decide) rfl (by kernel_rfl) (by kernel_rfl) ?_ h
 have f:((List.range (ByteArray.mk a.toArray).size).find? fun i=>(ByteArray.mk a.toArray)[i]! ==c)=a.findIdx? (fun b=>decide (b=c)):=by
  rw[C7]
  refine Q1m _ _ a fun i g=>?_
  have:(ByteArray.mk a.toArray)[i]! =a[i]:=by
   rw[getElem!_pos _ _ (by rw[C7];exact g)];rfl
  rw[this,Bool.eq_iff_iff];simp
 have d:((c.toNat:Int).toNat.toUInt8)=c:=by simp
 have:=run_indexByte_string (P:=P) ⟨a.toArray⟩ c.toNat w
 rw[d] at this
 refine this.trans ?_
 unfold firstIdx Q03
 rw[f]
 cases a.findIdx? (fun b=>decide (b=c))<;>rfl
theorem Q9v (a:List UInt8) (c:UInt8) (h:K (I (Q03 c a)) w):Q0 P F.bp [S a,S [c]] w K:=Ks (by
 unfold Mj
 simp only[D0 X7]
 have j:decide ((([c]:List UInt8).length:Int)=0)=false:=rfl
 have g:decide ((([c]:List UInt8).length:Int)=1)=true:=rfl
 simp only[Q05,j,g]
 simp only[↓Mr,Mr,Mb,reduceIte]
 have e:D9 P T.b (S [c]) (I 0) w fun b w=>Q0 P F.ar [S a,b] w fun d w=>K d w:=by
  rw[A0 X7 (by omega) (by simp)]
  refine Ht ?_
  unfold Jf
  exact Q0k a c h
 cases i:decide ([c]=a)
 ·(try simp only[↓Mr,Mr,Mb,reduceIte])
  exact e
 ·(try simp only[↓Mr,Mr,Mb,reduceIte])
  have f:[c]=a:=by simpa using i
  have:Q03 c a=0:=by rw[←f];simp[Q03,List.findIdx?_cons]
  rw[this] at h;exact h)
theorem Q96 {c:UInt8} {a:List UInt8} {i:Nat} (h:a.findIdx? (fun b=>decide (b=c))=some i):i<a.length:=by
 have:=List.findIdx?_eq_some_iff_getElem.1 h
 exact this.1
theorem X2h (a:List UInt8) (g:a.length≤140737488355328) (h: ∀w',Below w.heap.size w w'→K (.tuple #[S (P6 a).1,S (P6 a).2.1, .bool (P6 a).2.2]) w'):Q0 P F.cd [S a,S [46]] w K:=Q3q (by
 unfold Gt
 refine Q0e ?_
 unfold Oo
 refine Q9v a 46 ?_
 rw[Bj] at h
 unfold Q03
 cases c:a.findIdx? (fun b=>decide (b=46)) with
 | none=>
  simp only[↓Mr,Mr,Mb,reduceIte,show decide ((0:Int)≤ -1)=false from rfl]
  have:=h w (Below.refl _ _)
  rw[c] at this;exact this
 | some i=>
  have f:=Q96 c
  have e:decide ((0:Int)≤(i:Int))=true:=by simp
  simp only[Q04,e]
  simp only[↓Mr,Mr,Mb,reduceIte]
  refine Mu (Below.refl _ w) ?_
  refine X2 (S (a.take i)) (fun w1 _=>?_) ?_
  ·rw[K0 X7 (by omega) (by omega)];exact X5 (by simp)
  refine X2 (I 1) (fun w1 _=>?_) ?_
  ·rw[D0 X7];exact X5 rfl
  refine X2 (I (i+1)) ?_ ?_
  ·rintro _ w1 _ rfl
   rw[Ch,B5 (by omega) (by omega)];exact X5 rfl
  refine X2 (S (a.drop (i+1))) ?_ ?_
  ·rintro _ w1 _ rfl
   rw[Wl X7 (by omega) (by omega)];exact X5 (by simp)
  rintro _ _ _ _ w1 d rfl rfl rfl rfl
  (try simp only[↓Mr,Mr,Mb,reduceIte])
  have:=h w1 d
  rw[c] at this;exact this)
theorem X0I (a:List UInt8) (t:a.length≤140737488355328) (h: ∀w',Below w.heap.size w w'→K (if Xr a then .tuple #[S (P6 a).1,S (P6 a).2.1,I 0] else .tuple #[S [],S [],I 30]) w'):Q0 P F.cu [S a] w K:=Q4j (by
 unfold Aa
 refine X2h a t fun w1 e=>?_
 have o:(P6 a).1.length≤a.length∧(P6 a).2.1.length≤a.length:=by
  rw[Bj]
  cases a.findIdx? (fun b=>decide (b=46))<;>simp[Q1N]
  omega
 generalize A:(P6 a).1=p at h o
 generalize z:(P6 a).2.1=q at h o
 have k:Xr a=((P6 a).2.2&&W6 p&&L5 q):=by rw[Xr,A,z]
 cases m:(P6 a).2.2
 ·simp only[↓Mr,Mr,Mb,reduceIte]
  have:=h w1 e
  rw[k,m] at this;simpa using this
 ·simp only[↓Mr,Mr,Mb,reduceIte]
  refine Dl p (by omega) fun y j=>?_
  have d:=e.trans (j.mono e.size)
  cases s:W6 p
  ·(try simp only[↓Mr,Mr,Mb,reduceIte])
   have:=h y d
   rw[k,m,s] at this;simpa using this
  ·(try simp only[↓Mr,Mr,Mb,reduceIte])
   refine Q3Z q (by omega) fun u g=>?_
   have f:=d.trans (g.mono d.size)
   have:=h u f
   rw[k,m,s] at this
   cases n:name q
   ·(try simp only[↓Mr,Mr,Mb,reduceIte])
    have i:L5 q=false:=by cases q with | nil=>rfl | cons c r=>simp[L5,n]
    rw[i] at this;simpa using this
   ·(try simp only[↓Mr,Mr,Mb,reduceIte])
    cases q with
    | nil=>simp[name] at n
    | cons c r=>
     rw[A0 X7 (by omega) (by simp)]
     have l:(c::r)[(0:Int).toNat]'(by simp)=c:=rfl
     (try simp only[↓Mr,Mr,Mb,reduceIte])
     rw[l,Q12 Q26 Q6i,w32 (by omega) (by have:=c.toNat_lt;omega)]
     refine Q6q _ ?_
     have i:L5 (c::r)=I0 c.toNat:=by simp[L5,n]
     rw[i] at this
     cases v:I0 c.toNat<;>(try simp only[↓Mr,Mr,Mb,reduceIte])<;>rw[v] at this<;>simpa using this)
theorem Tp (a:List UInt8) (h:K (.bool (plain a)) w):Q0 P F.ae [S a] w K:=Bl (by
 unfold Lc
 refine V6 ?_
 (try simp only[↓Mr,Mr,Mb,reduceIte])
 cases b:decide (a=[105,110,116])
 ·cases c:decide (a=[98,111,111,108])
  ·cases d:decide (a=[116,101,120,116])<;>(try simp only[↓Mr,Mr,Mb,reduceIte])<;>intro _<;>(try simp only[↓Mr,Mr,Mb,reduceIte])<;>simpa [plain,b,c,d] using h
  ·(try simp only[↓Mr,Mr,Mb,reduceIte])
   intro _
   (try simp only[↓Mr,Mr,Mb,reduceIte])
   simpa [plain,b,c] using h
 ·(try simp only[↓Mr,Mr,Mb,reduceIte])
  intro _
  (try simp only[↓Mr,Mr,Mb,reduceIte])
  simpa [plain,b] using h)
def Q9Q (a:List UInt8) (w:World) (x:Value) (w':World):Prop:=
 w=w'∧ ∃i:Nat,x=I i∧i≤a.length∧(0<i→(a.head?.map fun c=>R8 c.toNat)=some false)∧(a.take i).all (fun b=>E1 b.toNat)=true
def Q3E (a:List UInt8) (x:Value):Nat:=match x with | .int _ i=>a.length-i.toNat | _=>0
theorem Q58 (a:List UInt8) (O:a.length≤140737488355328) (h:K (.bool (name a)) w):Q0 P F.aL [S a] w K:=Iu (by
 unfold Lx
 refine Zv (Q9Q a w) (fun x _=>Q3E a x) ⟨rfl,0,rfl,by omega,by omega,by simp⟩ ?_
 rintro _ _ _ ⟨rfl,i,rfl,Q,M,k⟩
 rw[D0 X7]
 (try simp only[↓Mr,Mr,Mb,reduceIte])
 by_cases l:i<a.length
 ·have B:decide ((i:Int)<a.length)=true:=by simp only[decide_eq_true_eq];omega
  simp only[B,↓Mr,Mr,Mb,reduceIte]
  have d: ∀J:Value→World→Prop,D9 P T.b (S a) (I i) w J=J (.int .u8 (a[i]'l).toNat) w:=fun J=>by
   rw[A0 X7 (by omega) (by simpa using l)];simp
  generalize p:a[i]=c at d
  have e:E1 c.toNat=false∨(i=0∧R8 c.toNat=true)→name a=false:=by
   intro y
   cases a with
   | nil=>rfl
   | cons L r=>
    simp only[name]
    rcases y with y | ⟨rfl,y⟩
    ·have:(L::r).all (fun b=>E1 b.toNat)=false:=by
      rw[List.all_eq_false]
      exact ⟨c,by rw[←p];exact List.getElem_mem _,by simp[y]⟩
     rw[this];simp
    ·simp only[List.getElem_cons_zero] at p
     rw[p,y];simp
  have f:E1 c.toNat=true→(i=0→R8 c.toNat=false)→Q9Q a w (I (IntKind.i64.wrap ((i:Int)+1))) w∧Q3E a (I (IntKind.i64.wrap ((i:Int)+1)))<Q3E a (I i):=by
   intro D z
   rw[B5 (by omega) (by omega)]
   refine ⟨⟨rfl,i+1,by simp,by omega,fun _=>?_,?_⟩,by simp only[Q3E];omega⟩
   ·by_cases q:0<i
    ·exact M q
    ·obtain rfl:i=0:=by omega
     cases a with
     | nil=>simp at l
     | cons L r=>simp only[List.getElem_cons_zero] at p;subst p;simp[z rfl]
   ·rw[List.take_add_one,List.getElem?_eq_getElem l,p]
    simp[k,D]
  have H:=c.toNat_lt
  have s:decide ((i:Int)=0)=decide (i=0):=by rw[Bool.eq_iff_iff];simp
  by_cases n:97≤(c.toNat:Int)
  ·by_cases C:(c.toNat:Int)≤122
   ·simp only[d,decide_eq_true n,decide_eq_true C,↓Mr,Mr,Mb,reduceIte]
    exact f (by simp[E1,I0,n,C]) (fun _=>by simp[R8];omega)
   ·have o:(65:Int)≤c.toNat:=by omega
    have t: ¬(c.toNat:Int)≤90:=by omega
    have g: ¬(c.toNat:Int)<48:=by omega
    have j:(57:Int)<c.toNat:=by omega
    simp only[d,decide_eq_true n,decide_eq_false C,decide_eq_true o,decide_eq_false t,decide_eq_false g,decide_eq_true j,s,↓Mr,Mr,Mb,reduceIte]
    have m:=e (.inl (by simp[E1,T3,I0,R8];omega))
    rw[m] at h
    cases decide (i=0)<;>(try simp only[d,decide_eq_false g,decide_eq_true j,↓Mr,Mr,Mb,reduceIte])<;>exact h
  ·by_cases o:(65:Int)≤c.toNat
   ·by_cases t:(c.toNat:Int)≤90
    ·simp only[d,decide_eq_false n,decide_eq_true o,decide_eq_true t,↓Mr,Mr,Mb,reduceIte]
     exact f (by simp[E1,T3,o,t]) (fun _=>by simp[R8];omega)
    ·have g: ¬(c.toNat:Int)<48:=by omega
     have j:(57:Int)<c.toNat:=by omega
     simp only[d,decide_eq_false n,decide_eq_true o,decide_eq_false t,decide_eq_false g,decide_eq_true j,s,↓Mr,Mr,Mb,reduceIte]
     have m:=e (.inl (by simp[E1,T3,I0,R8];omega))
     rw[m] at h
     cases decide (i=0)<;>(try simp only[d,decide_eq_false g,decide_eq_true j,↓Mr,Mr,Mb,reduceIte])<;>exact h
   ·by_cases g:(c.toNat:Int)<48
    ·simp only[d,decide_eq_false n,decide_eq_false o,decide_eq_true g,s,↓Mr,Mr,Mb,reduceIte]
     have m:=e (.inl (by simp[E1,T3,I0,R8];omega))
     rw[m] at h
     cases decide (i=0)<;>(try simp only[d,decide_eq_true g,↓Mr,Mr,Mb,reduceIte])<;>exact h
    ·by_cases j:(57:Int)<c.toNat
     ·simp only[d,decide_eq_false n,decide_eq_false o,decide_eq_false g,decide_eq_true j,s,↓Mr,Mr,Mb,reduceIte]
      have m:=e (.inl (by simp[E1,T3,I0,R8];omega))
      rw[m] at h
      cases decide (i=0)<;>(try simp only[d,decide_eq_false g,decide_eq_true j,↓Mr,Mr,Mb,reduceIte])<;>exact h
     ·have v:R8 c.toNat=true:=by simp[R8];omega
      simp only[d,decide_eq_false n,decide_eq_false o,decide_eq_false g,decide_eq_false j,s,↓Mr,Mr,Mb,reduceIte]
      by_cases q:i=0
      ·have m:=e (.inr ⟨q,v⟩)
       rw[m] at h
       simp only[decide_eq_true q,d,decide_eq_false g,decide_eq_false j,↓Mr,Mr,Mb,reduceIte]
       exact h
      ·simp only[decide_eq_false q,d,decide_eq_false g,decide_eq_false j,↓Mr,Mr,Mb,reduceIte]
       exact f (by simp[E1,v]) (fun h=>absurd h q)
 ·have B:decide ((i:Int)<a.length)=false:=by simp only[decide_eq_false_iff_not];omega
  obtain rfl:i=a.length:=by omega
  simp only[B,↓Mr,Mr,Mb,reduceIte]
  rw[D0 X7]
  cases a with
  | nil=>
   have A:decide ((1:Int)≤(([]:List UInt8).length:Int))=false:=rfl
   simp only[A,↓Mr,Mr,Mb,reduceIte];exact h
  | cons c r=>
   have A:decide ((1:Int)≤((c::r).length:Int))=true:=by simp only[decide_eq_true_eq,List.length_cons];omega
   have u:=M (by simp)
   simp only[List.head?_cons,Option.map_some,Option.some.injEq] at u
   simp only[List.take_length] at k
   have E:name (c::r)=decide ((c::r).length≤32):=by simp only[name,u,k];simp
   have N:decide (((c::r).length:Int)≤32)=decide ((c::r).length≤32):=by rw[Bool.eq_iff_iff];simp only[decide_eq_true_eq];omega
   simp only[A,D0 X7,N,↓Mr,Mr,Mb,reduceIte]
   rw[←E];exact h)
theorem Fs {c:UInt8} {r:List UInt8} (h:name (c::r)=true):E1 c.toNat=true∧R8 c.toNat=false:=by
 simp only[name,Bool.and_eq_true,List.all_cons,Bool.not_eq_true'] at h
 exact ⟨h.2.1,h.1.2⟩
theorem Qq (a:List UInt8) (f:a.length≤140737488355328) (h:K (.bool (W6 a)) w):Q0 P F.e [S a] w K:=Fi (by
 unfold Lg
 refine Q58 a f ?_
 cases a with
 | nil=>simp only[name,↓Mr,Mr,Mb,reduceIte];exact h
 | cons c r=>
  cases b:name (c::r)
  ·(try simp only[↓Mr,Mr,Mb,reduceIte])
   simpa [W6,b] using h
  ·(try simp only[↓Mr,Mr,Mb,reduceIte])
   rw[A0 X7 (by omega) (by simp)]
   have d:(c::r)[(0:Int).toNat]'(by simp)=c:=rfl
   (try simp only[↓Mr,Mr,Mb,reduceIte])
   rw[d]
   obtain ⟨e,g⟩:=Fs b
   have:decide ((c.toNat:Int)≤90)=T3 c.toNat:=by
    simp only[E1,T3,I0,R8,Bool.or_eq_true,Bool.and_eq_true,Bool.and_eq_false_iff,decide_eq_true_eq,decide_eq_false_iff_not] at e g⊢
    rw[Bool.eq_iff_iff];simp only[Bool.and_eq_true,decide_eq_true_eq];omega
   rw[this]
   simpa [W6,b] using h)
theorem Bm (a:List UInt8) (f:a.length≤140737488355328) (h:K (.bool (L5 a)) w):Q0 P F.s [S a] w K:=Cn (by
 unfold Uz
 refine Q58 a f ?_
 cases a with
 | nil=>simp only[name,↓Mr,Mr,Mb,reduceIte];exact h
 | cons c r=>
  cases b:name (c::r)
  ·(try simp only[↓Mr,Mr,Mb,reduceIte])
   simpa [L5,b] using h
  ·(try simp only[↓Mr,Mr,Mb,reduceIte])
   rw[A0 X7 (by omega) (by simp)]
   have d:(c::r)[(0:Int).toNat]'(by simp)=c:=rfl
   (try simp only[↓Mr,Mr,Mb,reduceIte])
   rw[d]
   obtain ⟨e,g⟩:=Fs b
   have:decide ((97:Int)≤c.toNat)=I0 c.toNat:=by
    simp only[E1,T3,I0,R8,Bool.or_eq_true,Bool.and_eq_true,Bool.and_eq_false_iff,decide_eq_true_eq,decide_eq_false_iff_not] at e g⊢
    rw[Bool.eq_iff_iff];simp only[Bool.and_eq_true,decide_eq_true_eq];omega
   rw[this]
   simpa [L5,b] using h)
def X28 (a:List UInt8) (w:World) (x:Value×Value) (w':World):Prop:=
 w=w'∧ ∃(b:List UInt8) (n:Nat),x=(S b,I n)∧b.length+2*n=a.length∧(base a).2=(base b).2+n
def X0f (x:Value×Value):Nat:=match x.1 with | .string s=>s.size | _=>0
theorem Q0N (a:List UInt8) (j:a.length≤140737488355328) (h:K (I (base a).2) w):Q0 P F.al [S a] w K:=Ik (by
 unfold Ma
 refine Zv (X28 a w) (fun x _=>X0f x) ⟨rfl,a,0,rfl,by omega,rfl⟩ ?_
 rintro _ _ _ ⟨rfl,b,n,rfl,k,c⟩
 rw[D0 X7]
 (try simp only[↓Mr,Mr,Mb,reduceIte])
 by_cases f:2≤b.length
 ·have e:decide ((2:Int)≤b.length)=true:=by simp only[decide_eq_true_eq];omega
  simp only[e,D0 X7,↓Mr,Mr,Mb,reduceIte]
  rw[B5 (by omega) (by omega),Wl X7 (by omega) (by omega)]
  rw[show ((b.length:Int)-2).toNat=b.length-2 from by omega]
  have i:decide (b.drop (b.length-2)=[91,93])=H5 b:=by simp[H5,f]
  simp only[i,↓Mr,Mr,Mb,reduceIte]
  cases d:H5 b
  ·(try simp only[↓Mr,Mr,Mb,reduceIte])
   rw[Uw b,d] at c
   simp only[Bool.false_eq_true,if_false,Nat.zero_add] at c
   rw[c] at h;exact h
  ·(try simp only[D0 X7,↓Mr,Mr,Mb,reduceIte])
   rw[K0 X7 (by omega) (by omega)]
   rw[show ((b.length:Int)-2).toNat=b.length-2 from by omega]
   have g:=P0 d
   refine ⟨⟨rfl,Kd.cutA b,n+1,?_,by omega,?_⟩,?_⟩
   ·simp only[Kd.cutA,Prod.mk.injEq,true_and]
    first | rfl | (rw[B5 (by omega) (by omega)];rfl)
   ·rw[c,Uw b,d];simp;omega
   ·simp only[X0f,C7,List.length_take];omega
 ·have e:decide ((2:Int)≤b.length)=false:=by simp only[decide_eq_false_iff_not];omega
  simp only[e,↓Mr,Mr,Mb,reduceIte]
  have d:H5 b=false:=by simp[H5,f]
  rw[Uw b,d] at c
  simp only[Bool.false_eq_true,if_false,Nat.zero_add] at c
  rw[c] at h;exact h)
theorem Q2Y (a:List UInt8):a.take (a.length-2*(base a).2)=(base a).1:=by
 have key: ∀n (a:List UInt8),a.take (a.length-2*(Xd n a).2)=(Xd n a).1:=by
  intro n
  induction n with
  | zero=>intro a;simp[Xd]
  | succ n b=>
   intro a
   simp only[Xd]
   split
   ·rename_i h
    have c:=P0 h
    simp only
    rw[←b (Kd.cutA a)]
    rw[Kd.cutA,List.take_take,List.length_take]
    congr 1
    omega
   ·simp
 exact key _ a
theorem Vh (a:List UInt8) (f:a.length≤140737488355328) (h:K (.bool (right a)) w):Q0 P F.i [S a] w K:=Fy (by
 unfold Wq
 have e:=As a
 refine Q0N a f ?_
 rw[D0 X7]
 (try simp only[↓Mr,Mr,Mb,reduceIte])
 rw[B5 (n:=2*((base a).2:Int)) (by omega) (by omega),B5 (by omega) (by omega),K0 X7 (by omega) (by omega)]
 rw[show ((a.length:Int)-2*((base a).2:Int)).toNat=a.length-2*(base a).2 from by omega,Q2Y]
 (try simp only[↓Mr,Mr,Mb,reduceIte])
 by_cases c:(base a).2≤3
 ·have b:decide (((base a).2:Int)≤3)=true:=by simp only[decide_eq_true_eq];omega
  simp only[b,↓Mr,Mr,Mb,reduceIte]
  refine Tp _ ?_
  cases d:plain (base a).1
  ·(try simp only[↓Mr,Mr,Mb,reduceIte])
   refine Qq _ (by omega) ?_
   (try simp only[↓Mr,Mr,Mb,reduceIte])
   simpa [right,c,d] using h
  ·(try simp only[↓Mr,Mr,Mb,reduceIte])
   simpa [right,c,d] using h
 ·have b:decide (((base a).2:Int)≤3)=false:=by simp only[decide_eq_false_iff_not];omega
  simp only[b,↓Mr,Mr,Mb,reduceIte]
  simpa [right,c] using h)
def X1O (a:List UInt8) (w:World) (x:Value) (w':World):Prop:=
 w=w'∧ ∃n:Nat,x=I n∧n≤a.length∧(∀i,(h:i<n)→(b:i<a.length)→a[i]≠46)
def Q8G (a:List UInt8) (x:Value):Nat:=match x with | .int _ n=>(a.length-n).toNat | _=>0
theorem Q2V (a:List UInt8) (L:a.length≤140737488355328) (h: ∀w',Below w.heap.size w w'→K (if (P6 a).2.2 then .tuple #[S (P6 a).1,S (P6 a).2.1, .bool (Xr a)] else .tuple #[S [],S [], .bool false]) w'):Q0 P F.bh [S a] w K:=Bp (by
 unfold Lj
 refine Zv (X1O a w) (fun x _=>Q8G a x) ⟨rfl,0,rfl,by omega,by omega⟩ ?_
 rintro _ _ _ ⟨rfl,n,rfl,M,o⟩
 rw[D0 X7]
 (try simp only[↓Mr,Mr,Mb,reduceIte])
 by_cases C:n<a.length
 ·have s:decide ((n:Int)<a.length)=true:=by simp only[decide_eq_true_eq];omega
  simp only[s,↓Mr,Mr,Mb,reduceIte]
  rw[A0 X7 (by omega) (by omega)]
  (try simp only[↓Mr,Mr,Mb,reduceIte])
  simp only[Int.toNat_natCast]
  have E:decide (((a[n]).toNat:Int)=46)=decide (a[n]=46):=by
   rw[Bool.eq_iff_iff];simp only[decide_eq_true_eq]
   constructor
   ·intro e;exact UInt8.toNat_inj.1 (by have:(46:UInt8).toNat=46:=rfl;omega)
   ·intro e;rw[e];rfl
  rw[E]
  by_cases l:a[n]=46
  ·simp only[l,decide_true,↓Mr,Mr,Mb,reduceIte]
   have m:P6 a=(a.take n,a.drop (n+1),true):=by
    have:a.findIdx? (fun b=>decide (b=46))=some n:=by
     rw[List.findIdx?_eq_some_iff_getElem]
     exact ⟨C,by simpa using l,fun j J=>by simpa using o j J (by omega)⟩
    rw[Bj,this];rfl
   have q:Xr a=(W6 (a.take n)&&L5 (a.drop (n+1))):=by simp[Xr,m]
   rw[m,q] at h
   have u:((n:Int)+1).toNat=n+1:=by omega
   have y:(a.take n).length≤140737488355328:=by simp only[List.length_take];omega
   have v:(a.drop (n+1)).length≤140737488355328:=by simp only[List.length_drop];omega
   have B: ∀{w:World} {K:Value→World→Prop},K (S (a.take n)) w→H3 P T.b (S a) none (some (I n)) none w K:=by
    intro w K h
    rw[K0 X7 (by omega) (by omega),show ((n:Int)).toNat=n from by omega];exact h
   have z: ∀{w:World} {K:Value→World→Prop},K (S (a.drop (n+1))) w→H3 P T.b (S a) (some (I (n+1))) none none w K:=by
    intro w K h
    rw[Wl X7 (by omega) (by omega),u];exact h
   refine Mu (Below.refl _ _) ?_
   refine X2 (S (a.take n)) (fun w c=>B (X5 rfl)) ?_
   refine X2 (I (n+1)) (fun w c=>X5 (by rw[B5 (by omega) (by omega)])) ?_
   refine X2 (S (a.drop (n+1))) (fun t w c e=>by rw[e];exact z (X5 rfl)) ?_
   refine X2 (S (a.take n)) (fun w c=>B (X5 rfl)) ?_
   refine X2 (.bool (W6 (a.take n))) (fun t w c e=>by rw[e];exact Qq _ y (X5 rfl)) ?_
   cases g:W6 (a.take n)
   ·refine X2 undef (fun t w c e=>by rw[e,Jo];exact X5 rfl) ?_
    refine X2 undef (fun t w c e=>by rw[e,Jo];exact X5 rfl) ?_
    refine X2 undef (fun t f w c e d=>by rw[e,Jo];exact X5 rfl) ?_
    refine X2 undef (fun t f p w c e d k=>by rw[e,Jo];exact X5 rfl) ?_
    refine X2 undef (fun t f w c e d=>by rw[e,Jo];exact X5 rfl) ?_
    refine X2 (.bool false) (fun t f w c e d=>by rw[e,Dg];exact X5 rfl) ?_
    rintro _ _ _ _ _ _ _ _ _ _ _ w1 c rfl rfl rfl rfl rfl rfl rfl rfl rfl rfl rfl
    rw[g] at h
    exact h w1 (by simpa using c)
   ·refine X2 (S a) (fun t w c e=>by rw[e,G4];exact X5 rfl) ?_
    refine X2 (I n) (fun t w c e=>by rw[e,G4];exact X5 rfl) ?_
    refine X2 (I (n+1)) (fun t f w c e d=>by rw[e,d,G4];simp only[↓Mr,Mr,Mb,reduceIte];exact X5 (by rw[B5 (by omega) (by omega)])) ?_
    refine X2 (S (a.drop (n+1))) (fun t f p w c e d k=>by rw[e,d,k,G4];exact z (X5 rfl)) ?_
    refine X2 (.bool (L5 (a.drop (n+1)))) (fun t f w c e d=>by rw[e,d,G4];exact Bm _ v (X5 rfl)) ?_
    refine X2 (.bool (L5 (a.drop (n+1)))) (fun t f w c e d=>by rw[e,d,Rc];exact X5 rfl) ?_
    rintro _ _ _ _ _ _ _ _ _ _ _ w1 c rfl rfl rfl rfl rfl rfl rfl rfl rfl rfl rfl
    rw[g] at h
    exact h w1 (by simpa using c)
  ·simp only[l,decide_false,↓Mr,Mr,Mb,reduceIte]
   rw[B5 (by omega) (by omega)]
   refine ⟨⟨rfl,n+1,rfl,by omega,fun i A D=>?_⟩,?_⟩
   ·by_cases r:i=n
    ·subst r;exact l
    ·exact o i (by omega) D
   ·simp only[Q8G];omega
 ·have s:decide ((n:Int)<a.length)=false:=by simp only[decide_eq_false_iff_not];omega
  simp only[s,↓Mr,Mr,Mb,reduceIte]
  have m:(P6 a).2.2=false∧(P6 a).1=a∧(P6 a).2.1=[]:=by
   have:a.findIdx? (fun b=>decide (b=46))=none:=by
    rw[List.findIdx?_eq_none_iff]
    intro x H
    obtain ⟨i,A,rfl⟩:=List.getElem_of_mem H
    simpa using o i (by omega) A
   rw[Bj,this];exact ⟨rfl,rfl,rfl⟩
  rw[m.1] at h
  exact h w (Below.refl _ _))
end Go.Proofs.YtfppjenblllfaaaGreatDoor

namespace Go.Emb
open Go.RowKit
class TZ (P : Program) (t : TypeId) (sz b : outParam Nat) (z : outParam Value) : Prop where
  h : (P.info? t).map (fun i => (i.size, i.bytes, i.zero)) = some (sz, b, some z)
def Q8u:Option TypeDesc→Bool
 | some (.struct _)=>true
 | some (.array _ _)=>true
 | none=>true
 | _=>false
class TG (P : Program) (t : TypeId) (g : outParam Bool) : Prop where
  h : (Q8u (P.underlying t), (P.underlying t).isSome) = (g, true)
class TS (P : Program) (t : TypeId) (e : outParam TypeId) : Prop where
  h : P.underlying t = some (.slice e)
class TA (P : Program) (t : TypeId) (n : outParam Nat) (e : outParam TypeId) : Prop where
  h : P.underlying t = some (.array n e)
class TM (P : Program) (t : TypeId) (k e : outParam TypeId) : Prop where
  h : P.underlying t = some (.map k e)
def Q2g (d:Option TypeDesc) (k:Nat):Option (Nat×TypeId):=match d with
 | some (.struct a)=>(a[k]?).map fun f=>(f.offset,f.type)
 | _=>none
class TF (P : Program) (t : TypeId) (k : Nat) (off : outParam Nat) (ft : outParam TypeId) : Prop where
  h : Q2g (P.underlying t) k = some (off, ft)
variable {P : Program} {w w0 w1 w' w'' : World} {K : Value → World → Prop}
theorem TZ.info {t:TypeId} {sz b:Nat} {z:Value} (h:TZ P t sz b z): ∃i,P.info? t=some i∧i.size=sz∧i.bytes=b∧i.zero=some z:=by
 obtain ⟨i,a,e⟩:=Option.map_eq_some_iff.1 h.h
 simp only[Prod.mk.injEq] at e
 exact ⟨i,a,e.1,e.2.1,e.2.2⟩
theorem W4 {t:TypeId} {sz b:Nat} {z:Value} (h:TZ P t sz b z) (w:World):(sizeOf t).run P w= .ok sz w:=by
 obtain ⟨i,a,rfl,_⟩:=h.info
 simp[sizeOf,typeInfo,a]
theorem Xs {t:TypeId} {sz b:Nat} {z:Value} (h:TZ P t sz b z) (w:World):(zeroValue t).run P w= .ok z w:=by
 obtain ⟨i,c,_,_,a⟩:=h.info
 simp[zeroValue,typeInfo,c,a]
theorem Za {t:TypeId} {g:Bool} (h:TG P t g) (w:World):(isAgg t).run P w= .ok g w:=by
 have hh:=h.h
 simp only[Prod.mk.injEq] at hh
 obtain ⟨c,b⟩:=hh
 cases a:P.underlying t with
 | none=>rw[a] at b;cases b
 | some d=>
  rw[a] at c
  have:=run_underlying (P:=P) (w:=w) a
  simp only[isAgg,Sem.run_bind,this,Result.andThen_ok]
  cases d<;>simp_all [Q8u]
theorem Sr (a:Addr) (i j:Nat):(a.add i).add j=a.add (i+j):=by
 unfold Addr.add
 by_cases c:i=0
 ·simp[c]
 ·by_cases b:j=0
  ·simp[b]
  ·simp[c,b,Nat.add_assoc]
theorem add_zero (a:Addr):a.add 0=a:=by simp[Addr.add]
theorem C1 (a:Addr) (i:Nat):(a.add i).block=a.block:=by unfold Addr.add;split<;>rfl
theorem Xq (a:Addr) (i:Nat):(a.add i).off=a.off+i:=by unfold Addr.add;split<;>simp_all
theorem G5 {a:Addr} (h:a.spot=none) (i:Nat):(a.add i).spot=none:=by unfold Addr.add;split<;>simp_all
abbrev Q4:=Nat→Option Obj
def X4 (w:World) (σ:Q4):Prop:= ∀b o,σ b=some o→w.heap[b]? =some o
structure Stp (w : World) (σ : Q4) (w' : World) (σ' : Q4) : Prop where
  bel : Below w.heap.size w w'
  sat : X4 w' σ'
  le : ∀ b o, σ b = some o → σ' b = some o
  old : ∀ b, b < w.heap.size → σ' b = σ b
theorem X4.lt {σ:Q4} (h:X4 w σ) {b:Nat} {o:Obj} (a:σ b=some o):b<w.heap.size:=(Array.getElem?_eq_some_iff.1 (h b o a)).1
theorem X4.below {σ:Q4} (h:X4 w σ) (a:Below w.heap.size w w'):X4 w' σ:=fun b o e=>(a.block b (h.lt e)).trans (h b o e)
theorem Stp.refl {σ:Q4} (h:X4 w σ):Stp w σ w σ:=⟨Below.refl _ _,h,fun _ _ e=>e,fun _ _=>rfl⟩
theorem Stp.trans {σ0 σ1 c:Q4} (h:Stp w σ0 w' σ1) (k:Stp w' σ1 w'' c):Stp w σ0 w'' c:=
 ⟨h.bel.trans (k.bel.mono h.bel.size),k.sat,fun b o e=>k.le b o (h.le b o e),fun b a=>(k.old b (Nat.lt_of_lt_of_le a h.bel.size)).trans (h.old b a)⟩
theorem Stp.of_below {σ:Q4} (h:X4 w σ) (a:Below w.heap.size w w'):Stp w σ w' σ:=⟨a,h.below a,fun _ _ e=>e,fun _ _=>rfl⟩
def Q4.put (σ:Q4) (b:Nat) (o:Obj):Q4:=fun k=>if k=b then some o else σ k
theorem X4.none {σ:Q4} (h:X4 w σ) {b:Nat} (a:w.heap.size≤b):σ b=none:=by
 cases e:σ b with
 | none=>rfl
 | some o=>have:=h.lt e;omega
theorem Stp.alloc {σ:Q4} (h:X4 w σ) (o:Obj):Stp w σ (w.alloc o) (σ.put w.heap.size o):=by
 refine ⟨(Below.refl _ _).alloc (Nat.le_refl _) o,?_,?_,?_⟩
 ·intro b p e
  by_cases a:b=w.heap.size
  ·subst a
   simp only[Q4.put,if_true] at e
   cases e
   exact heap_alloc_new w o
  ·simp only[Q4.put,if_neg a] at e
   rw[Below.heap_alloc w o b (h.lt e)];exact h b p e
 ·intro b p e
  have:=h.lt e
  simp only[Q4.put];rw[if_neg (by omega)];exact e
 ·intro b a
  simp only[Q4.put];rw[if_neg (by omega)]
theorem Stp.own {σ:Q4} (h:X4 w σ) (o:Obj):Stp w σ (w.alloc o) σ:=Stp.of_below h ((Below.refl _ _).alloc (Nat.le_refl _) o)
def Z2 (σ:Q4) (a:Addr) (cs:List Value):Prop:=a.spot=none∧ ∃H5 e b,σ a.block=some (.cells H5 e b)∧ ∀i v,cs[i]? =some v→H5[a.off+i]? =some v
theorem Z2.up {σ σ':Q4} {a:Addr} {cs:List Value} (h:Z2 σ a cs) (f:Stp w σ w' σ'):Z2 σ' a cs:=by
 obtain ⟨c,H5,e,b,g,d⟩:=h
 exact ⟨c,H5,e,b,f.le _ _ g,d⟩
theorem Z2.cell {σ:Q4} {a:Addr} {cs:List Value} (h:Z2 σ a cs) (b:X4 w σ) {i:Nat} {v:Value} (d:cs[i]? =some v):w.cell? (a.add i)=some v:=by
 obtain ⟨c,H5,e,j,g,f⟩:=h
 have:=b _ _ g
 unfold World.cell?
 rw[C1,this,Xq,G5 c]
 exact f i v d
def Z5 (σ:Q4) (w:World) (b:Nat) (cs:List Value):Prop:=σ b=none∧ ∃e,w.heap[b]? =some (.cells cs.toArray e (0,0))
theorem Z5.lt {σ:Q4} {b:Nat} {cs:List Value} (h:Z5 σ w b cs):b<w.heap.size:=by
 obtain ⟨_,e,h⟩:=h
 exact (Array.getElem?_eq_some_iff.1 h).1
theorem Z5.up {σ σ':Q4} {b:Nat} {cs:List Value} (h:Z5 σ w b cs) (c:Stp w σ w' σ'):Z5 σ' w' b cs:=by
 have a:=h.lt
 obtain ⟨d,e,f⟩:=h
 exact ⟨(c.old b a).trans d,e,(c.bel.block b a).trans f⟩
theorem Z5.cell {σ:Q4} {b:Nat} {cs:List Value} (h:Z5 σ w b cs) {i:Nat} {v:Value} (a:cs[i]? =some v):w.cell? ((⟨b,0,none⟩:Addr).add i)=some v:=by
 obtain ⟨_,e,c⟩:=h
 unfold World.cell?
 rw[C1,Xq,G5 rfl]
 simp only[c]
 simpa using a
theorem Z5.keep {σ σ0:Q4} {b:Nat} {cs:List Value} (h:Z5 σ w b cs) (d:Stp w0 σ0 w σ) (m:w0.heap.size≤b): ∃σ',Stp w0 σ0 w σ'∧Z2 σ' ⟨b,0,none⟩ cs∧(∀k o,σ k=some o→σ' k=some o)∧(∀k,k≠b→σ' k=σ k):=by
 obtain ⟨g,e,j⟩:=h
 refine ⟨σ.put b (.cells cs.toArray e (0,0)),⟨d.bel,?_,?_,?_⟩,⟨rfl,cs.toArray,e,(0,0),by simp[Q4.put],?_⟩,?_,?_⟩
 ·intro k o c
  by_cases a:k=b
  ·subst a;simp only[Q4.put,if_true] at c;cases c;exact j
  ·simp only[Q4.put,if_neg a] at c;exact d.sat k o c
 ·intro k o c
  by_cases a:k=b
  ·subst a;have:=d.le _ _ c;rw[g] at this;cases this
  ·simp only[Q4.put,if_neg a];exact d.le _ _ c
 ·intro k f
  simp only[Q4.put];rw[if_neg (by omega)];exact d.old k f
 ·intro i v l;simpa using l
 ·intro k o c
  by_cases a:k=b
  ·subst a;rw[g] at c;cases c
  ·simp only[Q4.put,if_neg a];exact c
 ·intro k a;simp only[Q4.put,if_neg a]
theorem Q67 (t:TypeId) (v:Value) (w:World):(Instr.box t v).run P w= .ok (.pointer (some ⟨w.heap.size,0,none⟩)) (w.alloc (.cells v.cells t)):=by
 simp[Instr.box,newVar,newRow]
theorem Q1w {σ:Q4} (a:X4 w σ) (cs:Array Value) (t:TypeId):Z5 σ (w.alloc (.cells cs t)) w.heap.size cs.toList:=
 ⟨a.none (Nat.le_refl _),t,by simpa using heap_alloc_new w (.cells cs t)⟩
theorem Q6t {σ:Q4} (cs:Array Value) (t:TypeId):Z2 (σ.put w.heap.size (.cells cs t)) ⟨w.heap.size,0,none⟩ cs.toList:=
 ⟨rfl,cs,t,(0,0),by simp[Q4.put],fun i v h=>by simpa using h⟩
theorem M8 {σ:Q4} {t:TypeId} {v:Value} (b:X4 w σ) (h: ∀a w' σ',Stp w σ w' σ'→Z2 σ' a v.cells.toList→K (.pointer (some a)) w'):box P t v w K:=by
 unfold box;rw[X9 (Q67 t v w)]
 exact h _ _ _ (Stp.alloc b _) (Q6t _ t)
theorem Q9w {σ:Q4} {t:TypeId} {v:Value} (a:X4 w σ) (h: ∀b w',w.heap.size≤b→Stp w σ w' σ→Z5 σ w' b v.cells.toList→K (.pointer (some ⟨b,0,none⟩)) w'):box P t v w K:=by
 unfold box;rw[X9 (Q67 t v w)]
 exact h _ _ (Nat.le_refl _) (Stp.own a _) (Q1w a _ t)
theorem Hi {σ:Q4} {t:TypeId} {sz by_:Nat} {z:Value} [tz:TZ P t sz by_ z] (a:X4 w σ) (h: ∀b w',w.heap.size≤b→Stp w σ w' σ→Z5 σ w' b z.cells.toList→K (.pointer (some ⟨b,0,none⟩)) w'):W3 P t w K:=by
 unfold W3
 have:(Instr.alloc t true (.tuple #[])).run P w= .ok (.pointer (some ⟨w.heap.size,0,none⟩)) (w.alloc (.cells z.cells t)):=by
  simp[Instr.alloc,Xs tz,newVar,newRow]
 rw[X9 this]
 exact h _ _ (Nat.le_refl _) (Stp.own a _) (Q1w a _ t)
theorem Qg {t:TypeId} [tg:TG P t false] {a:Addr} {v:Value} (b:w.cell? a=some v) (h:K v w):Q2 P t (.pointer (some a)) w K:=by
 unfold Q2
 rw[X9 (v:=v) (w':=w) (by simp[Instr.loadAt,Instr.sureAddr,loadVar,Za tg,b])]
 exact h
theorem Dv {t:TypeId} {sz by_:Nat} {z:Value} [tg:TG P t true] [tz:TZ P t sz by_ z] {a:Addr} {cs:List Value} (c:cs.length=sz) (b: ∀j v,cs[j]? =some v→w.cell? (a.add j)=some v) (h:K (.agg cs.toArray) w):Q2 P t (.pointer (some a)) w K:=by
 unfold Q2
 have:=run_loadCells_list (P:=P) w a cs b
 rw[c] at this
 rw[X9 (v:= .agg cs.toArray) (w':=w) (by simp[Instr.loadAt,Instr.sureAddr,loadVar,Za tg,W4 tz,this])]
 exact h
theorem ld {σ:Q4} {t:TypeId} [TG P t false] {a:Addr} {cs:List Value} {i:Nat} {v:Value} (b:X4 w σ) (c:Z2 σ a cs) (d:cs[i]? =some v) (h:K v w):Q2 P t (.pointer (some (a.add i))) w K:=
 Qg (c.cell b d) h
theorem X8 {σ:Q4} {t:TypeId} [TG P t false] {a:Addr} {cs:List Value} {v:Value} (b:X4 w σ) (c:Z2 σ a cs) (d:cs[0]? =some v) (h:K v w):Q2 P t (.pointer (some a)) w K:=by
 have:=ld (P:=P) (t:=t) b c d h
 rwa [add_zero] at this
theorem Y7 {σ:Q4} {t:TypeId} {sz by_:Nat} {z:Value} [TG P t true] [TZ P t sz by_ z] {a:Addr} {cs:List Value} (b:X4 w σ) (d:Z2 σ a cs) (f:cs.length=sz) (h:K (.agg cs.toArray) w):Q2 P t (.pointer (some a)) w K:=
 Dv f (fun _ _ c=>d.cell b c) h
theorem Ub {σ:Q4} {t:TypeId} [TG P t false] {b:Nat} {cs:List Value} {i:Nat} {v:Value} (a:Z5 σ w b cs) (c:cs[i]? =some v) (h:K v w):Q2 P t (.pointer (some ((⟨b,0,none⟩:Addr).add i))) w K:=
 Qg (a.cell c) h
theorem Q9k {σ:Q4} {t:TypeId} [TG P t false] {b:Nat} {cs:List Value} {v:Value} (a:Z5 σ w b cs) (c:cs[0]? =some v) (h:K v w):Q2 P t (.pointer (some ⟨b,0,none⟩)) w K:=by
 have:=Ub (P:=P) (t:=t) a c h
 rwa [add_zero] at this
theorem Q6y {σ:Q4} {t:TypeId} {sz by_:Nat} {z:Value} [TG P t true] [TZ P t sz by_ z] {b:Nat} {cs:List Value} (a:Z5 σ w b cs) (d:cs.length=sz) (h:K (.agg cs.toArray) w):Q2 P t (.pointer (some ⟨b,0,none⟩)) w K:=
 Dv d (fun _ _ c=>a.cell c) h
theorem W1 {t:TypeId} {sz by_:Nat} {z:Value} [tg:TG P t true] [tz:TZ P t sz by_ z] {σ:Q4} {b:Nat} {cs:List Value} {K:Value→Prop} (a:Z5 σ w b cs) (d:cs.length=sz) (h:K (.agg cs.toArray)):V4 P t (.pointer (some ⟨b,0,none⟩)) w K:=by
 rw[Q1s]
 refine ⟨_,?_,h⟩
 have:=run_loadCells_list (P:=P) w ⟨b,0,none⟩ cs (fun _ _ c=>a.cell c)
 rw[d] at this
 simp[asAddr,loadVar,Za tg,W4 tz,this]
structure Upd (w : World) (b : Nat) (w' : World) : Prop where
  os : w'.os = w.os
  tape : w'.tape = w.tape
  output : w'.output = w.output
  size : w'.heap.size = w.heap.size
  block : ∀ k, k ≠ b → w'.heap[k]? = w.heap[k]?
theorem Upd.stp {σ0 σ:Q4} {b:Nat} (c:Upd w b w') (a:Stp w0 σ0 w σ) (h:w0.heap.size≤b) (f:σ b=none):Stp w0 σ0 w' σ:=by
 refine ⟨⟨c.os.trans a.bel.os,c.tape.trans a.bel.tape,c.output.trans a.bel.output,by rw[c.size];exact a.bel.size,fun k g=>(c.block k (by omega)).trans (a.bel.block k g)⟩,?_,a.le,a.old⟩
 intro k o d
 rw[c.block k (by intro e;subst e;rw[f] at d;cases d)]
 exact a.sat k o d
theorem Z5.upd {σ:Q4} {b k:Nat} {cs:List Value} (h:Z5 σ w k cs) (d:Upd w b w') (a:k≠b):Z5 σ w' k cs:=by
 obtain ⟨c,e,f⟩:=h
 exact ⟨c,e,(d.block k a).trans f⟩
theorem Dh {b:Nat} {cs:Array Value} {a:Array Value} {e:TypeId} (h:w.heap[b]? =some (.cells a e (0,0))):Upd w b (w.setRow b cs)∧(w.setRow b cs).heap[b]? =some (.cells cs e (0,0)):=by
 have c:=(Array.getElem?_eq_some_iff.1 h).1
 refine ⟨⟨rfl,rfl,rfl,by simp[World.setRow],fun k d=>?_⟩,?_⟩
 ·simp only[World.setRow,Array.getElem?_modify]
  rw[if_neg (by omega)]
 ·simp only[World.setRow,Array.getElem?_modify,if_true,h]
  rfl
theorem sta {t:TypeId} {sz by_:Nat} {z:Value} [tz:TZ P t sz by_ z] {σ:Q4} {b:Nat} {cs ds:List Value} (g:Z5 σ w b cs) (k:cs.length=sz) (d:ds.length=sz) (j:ds.toArray.all (·.oneCell')=true)
 (h: ∀w',Upd w b w'→Z5 σ w' b ds→K undef w'):Z3 P t (.pointer (some ⟨b,0,none⟩)) (.agg ds.toArray) w K:=by
 obtain ⟨f,e,c⟩:=g
 unfold Z3
 obtain ⟨i,m,a,_⟩:=tz.info
 have:=run_storeVar_row (P:=P) w b e t cs.toArray ds.toArray c (by simp[m,a,d]) (by simp[k,d]) j
 rw[My (w':=w.setRow b ds.toArray) (by simpa [Instr.storeAt,Instr.sureAddr] using this)]
 obtain ⟨l,hh⟩:=Dh (cs:=ds.toArray) c
 exact h _ l ⟨f,e,hh⟩
theorem X0H {cs:List Value} {i:Nat} {v:Value} (a:i<cs.length):(cs.take i++[v]++cs.drop (i+1))=cs.set i v:=by
 rw[List.set_eq_take_append_cons_drop,if_pos a];simp
theorem Lv {t:TypeId} {by_:Nat} {z:Value} [tz:TZ P t 1 by_ z] {σ:Q4} {b i:Nat} {cs:List Value} {v:Value} (f:Z5 σ w b cs) (l:i<cs.length) (j:v.cells= #[v]) (g:v.oneCell'=true)
 (h: ∀w',Upd w b w'→Z5 σ w' b (cs.set i v)→K undef w'):Z3 P t (.pointer (some ((⟨b,0,none⟩:Addr).add i))) v w K:=by
 obtain ⟨d,e,c⟩:=f
 unfold Z3
 have a:(⟨b,0,none⟩:Addr).add i=⟨b,i,none⟩:=by unfold Addr.add;split<;>simp_all
 have:=run_storeCells_at P b i e [v] 0 cs.toArray w c (by simp;omega) (by simpa using g)
 simp only[Nat.add_zero] at this
 obtain ⟨k,hh⟩:=Dh (cs:=(cs.set i v).toArray) c
 have m:(List.take i cs.toArray.toList++[v]++List.drop (i+[v].length) cs.toArray.toList).toArray=(cs.set i v).toArray:=by
  rw[←X0H l];simp
 rw[m] at this
 rw[My (w':=w.setRow b (cs.set i v).toArray) (by simp[Instr.storeAt,Instr.sureAddr,a,storeVar,W4 tz,j,this])]
 exact h _ k ⟨d,e,hh⟩
theorem st0 {t:TypeId} {by_:Nat} {z:Value} [tz:TZ P t 1 by_ z] {σ:Q4} {b:Nat} {cs:List Value} {v:Value} (c:Z5 σ w b cs) (f:0<cs.length) (a:v.cells= #[v]) (d:v.oneCell'=true)
 (h: ∀w',Upd w b w'→Z5 σ w' b (cs.set 0 v)→K undef w'):Z3 P t (.pointer (some ⟨b,0,none⟩)) v w K:=by
 have:=Lv (P:=P) (t:=t) c f a d h
 rwa [add_zero] at this
class NZ (n : Nat) : Prop where
  h : (n == 0) = false
instance (n:Nat):NZ (n+1):=⟨rfl⟩
theorem fa {t:TypeId} {k b:Nat} {d:TypeId} {sz by_:Nat} {z:Value} [tf:TF P t k b d] [tz:TZ P d sz by_ z] [nz:NZ sz] {a:Addr}:fieldAddr P t (.pointer (some a)) k w K=K (.pointer (some (a.add b))) w:=by
 unfold fieldAddr
 have hh:=tf.h
 unfold Q2g at hh
 split at hh
 ·rename_i n g
  obtain ⟨f,j,c⟩:=Option.map_eq_some_iff.1 hh
  simp only[Prod.mk.injEq] at c
  obtain ⟨i,m⟩:=c
  subst m i
  have l: ¬sz=0:=by simpa using nz.h
  exact X9 (by simp[Instr.fieldAt,run_underlying g,j,Instr.sureAddr,fieldPlace,W4 tz,l])
 ·cases hh
theorem Cd {t e:TypeId} {sz by_:Nat} {z:Value} [ts:TS P t e] [tz:TZ P e sz by_ z] {a:Addr} {n b:Nat} {k:IntKind} {i:Int} (d:0≤i) (c:i<n):indexAddr P t (.slice (some a) n b) (.int k i) w K=K (.pointer (some (a.add (i.toNat*sz)))) w:=by
 unfold indexAddr
 exact X9 (by simp[Instr.indexAt,run_underlying ts.h,asIntOf,W4 tz,d,c])
theorem Q82 {t e:TypeId} {n sz by_:Nat} {z:Value} [ta:TA P t n e] [tz:TZ P e sz by_ z] {a:Addr} {k:IntKind} {i:Int} (c:0≤i) (b:i<n):indexAddr P t (.pointer (some a)) (.int k i) w K=K (.pointer (some (a.add (i.toNat*sz)))) w:=by
 unfold indexAddr
 exact X9 (by simp[Instr.indexAt,run_underlying ta.h,asIntOf,Instr.sureAddr,W4 tz,c,b])
theorem E6 {a:Addr}:nilCheck P (.pointer (some a)) w K=K (.pointer (some a)) w:=by
 unfold nilCheck
 rw[Qr];unfold T6
 simp[execOp]
class Rep {α : Type} (R : Q4 → α → List Value → Prop) : Prop where
  up : ∀ {σ σ' : Q4} {x : α} {cs : List Value}, (∀ b o, σ b = some o → σ' b = some o) → R σ x cs → R σ' x cs
  one : ∀ {σ : Q4} {x : α} {cs : List Value}, R σ x cs → ∀ u ∈ cs, u.oneCell' = true
def Sl {α:Type} (sz:Nat) (R:Q4→α→List Value→Prop) (σ:Q4) (v:Value) (xs:List α):Prop:=
 ∃a c,v= .slice a xs.length c∧xs.length≤c∧c≤maxLen∧(a=none→c=0)∧
  ∀b,a=some b→(0<xs.length→b.spot=none)∧ ∀i x,xs[i]? =some x→ ∃cs,Z2 σ (b.add (i*sz)) cs∧cs.length=sz∧R σ x cs
theorem Z2.le {σ σ':Q4} {a:Addr} {cs:List Value} (h:Z2 σ a cs) (g: ∀b o,σ b=some o→σ' b=some o):Z2 σ' a cs:=by
 obtain ⟨d,H5,e,c,i,f⟩:=h
 exact ⟨d,H5,e,c,g _ _ i,f⟩
section
variable {α : Type} {R : Q4 → α → List Value → Prop} {sz : Nat} {σ σ' : Q4} {v : Value} {xs : List α}
theorem Sl.le [hr:Rep R] (h:Sl sz R σ v xs) (f: ∀b o,σ b=some o→σ' b=some o):Sl sz R σ' v xs:=by
 obtain ⟨a,c,n,j,r,m,g⟩:=h
 refine ⟨a,c,n,j,r,m,fun b d=>⟨(g b d).1,fun i x p=>?_⟩⟩
 obtain ⟨cs,q,k,l⟩:=(g b d).2 i x p
 exact ⟨cs,q.le f,k,hr.up f l⟩
theorem Sl.up [Rep R] (h:Sl sz R σ v xs) (a:Stp w σ w' σ'):Sl sz R σ' v xs:=h.le a.le
theorem Sl.max (h:Sl sz R σ v xs):xs.length≤9223372036854775807:=by
 obtain ⟨a,b,f,g,c,d⟩:=h
 simp only[maxLen] at c;omega
theorem Sl.nil:Sl sz R σ (.slice none 0 0) ([]:List α):=⟨none,0,rfl,by simp,by simp,fun _=>rfl,fun b a=>by cases a⟩
theorem Q5V {c e t:TypeId} {cs:List Bool} [ts:TS P c e] {a:Option Addr} {n b:Nat}:X6 P .len [c] t cs [.slice a n b] w K=K (I n) w:=by
 have h:(Builtin.len_ #[c] t #[.slice a n b]).run P w= .ok (I n) w:=by
  simp[Builtin.len_,run_underlying ts.h,goInt]
 exact X9 h
theorem X1G {b e t:TypeId} {cs:List Bool} [ts:TS P b e] (h:Sl sz R σ v xs):X6 P .len [b] t cs [v] w K=K (I xs.length) w:=by
 obtain ⟨a,c,rfl,_⟩:=h
 exact Q5V
theorem X23 {t e:TypeId} {by_:Nat} {z:Value} [TS P t e] [TZ P e sz by_ z] (h:Sl sz R σ v xs) {k:IntKind} {i:Int} (m:0≤i) (j:i.toNat<xs.length)
 (c: ∀a cs,Z2 σ a cs→cs.length=sz→R σ xs[i.toNat] cs→K (.pointer (some a)) w):indexAddr P t v (.int k i) w K:=by
 obtain ⟨a,l,rfl,p,q,g,o⟩:=h
 cases a with
 | none=>have:=g rfl;omega
 | some b=>
  rw[Cd m (by omega)]
  obtain ⟨cs,n,d,f⟩:=(o b rfl).2 i.toNat xs[i.toNat] (by simp[j])
  exact c _ cs n d f
end
theorem Stp.turn {σ0 σ:Q4} {row:Option Nat} (b:w.grownBy w' row) (a:Stp w0 σ0 w σ) (f: ∀k,row=some k→w0.heap.size≤k∧σ k=none):Stp w0 σ0 w' σ:=by
 refine ⟨⟨b.os.trans a.bel.os,b.tape.trans a.bel.tape,b.output.trans a.bel.output,Nat.le_trans a.bel.size b.size,fun k d=>?_⟩,?_,a.le,a.old⟩
 ·refine (b.block k (Nat.lt_of_lt_of_le d a.bel.size) ?_).trans (a.bel.block k d)
  intro e;have:=(f k e.symm).1;omega
 ·intro k o c
  refine (b.block k (a.sat.lt c) ?_).trans (a.sat k o c)
  intro e;rw[(f k e.symm).2] at c;cases c
def V5 {α:Type} (B:Nat) (e:TypeId) (sz:Nat) (R:Q4→α→List Value→Prop) (σ:Q4) (w:World) (v:Value) (xs:List α):Prop:=
 ∃cells,w.ownsRow B e sz v xs.length cells∧(∀k,v.ownBlock=some k→σ k=none)∧ ∀i x,xs[i]? =some x→R σ x ((cells.drop (i*sz)).take sz)
section
variable {α : Type} {R : Q4 → α → List Value → Prop} {B sz : Nat} {e : TypeId} {σ σ' : Q4} {v u : Value} {xs ys : List α}
theorem V5.nil:V5 B e sz R σ w (.slice none 0 0) ([]:List α):=⟨[],World.ownsRow_nil w B e sz,by intro k a;simp[Value.ownBlock] at a,by intro i x h;simp at h⟩
theorem V5.mem (h:V5 B e sz R σ w v xs): ∀k,v.ownBlock=some k→B≤k∧k<w.heap.size∧σ k=none:=by
 obtain ⟨cells,d,f,_⟩:=h
 intro k c
 obtain ⟨a,b⟩:=d.lt k c
 exact ⟨a,b,f k c⟩
theorem V5.up [hr:Rep R] (h:V5 B e sz R σ w v xs) (a:Stp w σ w' σ'):V5 B e sz R σ' w' v xs:=by
 obtain ⟨cells,c,j,g⟩:=h
 refine ⟨cells,c.kept ⟨a.bel.os,a.bel.tape,a.bel.output,a.bel.size,fun k f _=>a.bel.block k f⟩ (by cases b:v.ownBlock<;>simp) (row:=none),?_,fun i x d=>hr.up a.le (g i x d)⟩
 intro k b
 rw[a.old k (c.lt k b).2];exact j k b
theorem Sl.cells (h:Sl sz R σ v xs) (E:X4 w σ) [hr:Rep R]: ∃(a:Option Addr) (d:Nat) (c:List Value),v= .slice a xs.length d∧(a=none→d=0)∧c.length=xs.length*sz∧(∀b,a=some b→ ∀j u,c[j]? =some u→w.cell? (b.add j)=some u)∧(∀u∈c,u.oneCell'=true)∧
 ∀i x,xs[i]? =some x→R σ x ((c.drop (i*sz)).take sz):=by
 obtain ⟨a,d,rfl,L,Q,l,A⟩:=h
 cases a with
 | none=>
  have M:=l rfl
  have f:xs=[]:=List.eq_nil_of_length_eq_zero (by omega)
  subst f
  exact ⟨none,d,[],rfl,l,by simp,fun b C=>(by cases C),by simp,by simp⟩
 | some b=>
  obtain ⟨H,o⟩:=A b rfl
  clear A
  have key: ∀(ys:List α) (k:Nat),(∀i x,ys[i]? =some x→ ∃cs,Z2 σ (b.add ((k+i)*sz)) cs∧cs.length=sz∧R σ x cs)→
   ∃c:List Value,c.length=ys.length*sz∧(∀j u,c[j]? =some u→w.cell? (b.add (k*sz+j))=some u)∧(∀u∈c,u.oneCell'=true)∧ ∀i x,ys[i]? =some x→R σ x ((c.drop (i*sz)).take sz):=by
   intro ys
   induction ys with
   | nil=>intro k _;exact ⟨[],by simp,by simp,by simp,by simp⟩
   | cons y r D=>
    intro k z
    obtain ⟨cs,J,t,s⟩:=z 0 y rfl
    obtain ⟨c,m,n,p,q⟩:=D (k+1) (fun i x f=>by
     have:=z (i+1) x (by simpa using f)
     rwa [show k+1+i=k+(i+1) by omega])
    refine ⟨cs++c,by simp[m,t,Nat.add_mul,Nat.add_comm],?_,?_,?_⟩
    ·intro j u hu
     by_cases O:j<sz
     ·rw[List.getElem?_append_left (by omega)] at hu
      have:=J.cell E hu
      rwa [Sr,Nat.add_zero] at this
     ·rw[List.getElem?_append_right (by omega)] at hu
      have:=n _ _ hu
      rwa [t,show (k+1)*sz+(j-sz)=k*sz+j by rw[Nat.add_mul];omega] at this
    ·intro u hu
     rcases List.mem_append.1 hu with hu | hu
     ·exact hr.one s u hu
     ·exact p u hu
    ·intro i x f
     cases i with
     | zero=>
      simp at f;subst f
      simp only[Nat.zero_mul,List.drop_zero]
      rw[List.take_append_of_le_length (by omega),List.take_of_length_le (by omega)];exact s
     | succ i=>
      have:=q i x (by simpa using f)
      rw[show (i+1)*sz=cs.length+i*sz by rw[Nat.add_mul];omega,List.drop_append]
      simpa [List.drop_eq_nil_of_le] using this
  obtain ⟨c,m,n,p,q⟩:=key xs 0 (fun i x f=>by rw[Nat.zero_add];exact o i x f)
  refine ⟨some b,d,c,rfl,l,m,?_,p,q⟩
  intro N g j u hu
  cases g
  have:=n j u hu
  rwa [Nat.zero_mul,Nat.zero_add] at this
end
section
variable {α : Type} {R : Q4 → α → List Value → Prop} {sz : Nat} {e : TypeId} {σ σ0 : Q4} {v u : Value} {xs ys : List α}
theorem Eh (cells a:List Value) (n i:Nat) (c:cells.length=n*sz) (b:i<n):((cells++a).drop (i*sz)).take sz=(cells.drop (i*sz)).take sz:=by
 have h:i*sz+sz≤n*sz:=by rw[←Nat.succ_mul];exact Nat.mul_le_mul_right _ b
 rw[List.drop_append_of_le_length (by omega),List.take_append_of_le_length (by simp only[List.length_drop];omega)]
theorem app {t s:TypeId} {by_:Nat} {z:Value} {cs:List Bool} [ts:TS P t e] [tz:TZ P e sz by_ z] [hr:Rep R] (C:Stp w0 σ0 w σ) (Y:V5 w0.heap.size e sz R σ w v xs) (V:Sl sz R σ u ys) (E:(z.cells.size==sz&&decide (0<sz))=true)
 (Z:(xs.length+ys.length)*by_≤140737488355328) (hm:xs.length+ys.length≤9223372036854775807)
 (h: ∀d w',w.grownBy w' v.ownBlock→Stp w0 σ0 w' σ→V5 w0.heap.size e sz R σ w' d (xs++ys)→(d.ownBlock=v.ownBlock∨ ∀k,d.ownBlock=some k→w.heap.size≤k)→K d w'):X6 P .append [t,t] s cs [v,u] w K:=by
 obtain ⟨cells,r,N,h3⟩:=Y
 obtain ⟨a,m,c,rfl,Q,U,n3,n4,n5⟩:=V.cells C.sat
 obtain ⟨i,L,M,J,o⟩:=tz.info
 have p: ∀d w',(Builtin.append_ #[t,t] s #[v, .slice a ys.length m]).run P w= .ok d w'→w'.ownsRow w0.heap.size e sz d (xs.length+ys.length) (cells++c)→w.grownBy w' v.ownBlock→(d.ownBlock=v.ownBlock∨d.ownBlock=some w.heap.size)→X6 P .append [t,t] s cs [v, .slice a ys.length m] w K:=by
  intro d w' y f l hat
  have q:(builtin .append #[t,t] s cs.toArray #[v, .slice a ys.length m]).run P w= .ok (.value d) w':=by
   simp[builtin,y]
  unfold X6
  rw[Qr];unfold T6
  rw[q]
  refine h d w' l (Stp.turn l C fun k n=>⟨(r.lt k n).1,N k n⟩) ⟨cells++c,by rw[List.length_append];exact f,?_,?_⟩ ?_
  ·intro k n
   rcases hat with hat | hat
   ·exact N k (hat▸n)
   ·rw[hat] at n;cases n;exact C.sat.none (Nat.le_refl _)
  ·intro j x A
   by_cases W:j<xs.length
   ·rw[List.getElem?_append_left W] at A
    rw[Eh cells c xs.length j r.1 W]
    exact h3 j x A
   ·rw[List.getElem?_append_right (by omega)] at A
    have:=n5 _ _ A
    rw[show j*sz=cells.length+(j-xs.length)*sz by rw[r.1,←Nat.add_mul];congr 1;omega,List.drop_append]
    simpa [List.drop_eq_nil_of_le] using this
  ·rcases hat with hat | hat
   ·exact .inl hat
   ·right;intro k n;rw[hat] at n;cases n;exact Nat.le_refl _
 simp only[Bool.and_eq_true,beq_iff_eq,decide_eq_true_eq] at E
 cases a with
 | some b=>
  obtain ⟨d,w',g1,g2,g3,_,g5⟩:=run_append_own_at (P:=P) w w0.heap.size t s e i z sz by_ ts.h L o M J E.1 E.2 v xs.length cells r b ys.length m c U (n3 b rfl) n4 (by simp only[maxLen];omega) Z C.bel.size
  exact p d w' g1 g2 g3 g5
 | none=>
  have hy:ys=[]:=List.eq_nil_of_length_eq_zero (by obtain ⟨a',O,X,q1,_,q3,_⟩:=V;injection X with _ e2 e3;have:=Q rfl;subst e3;omega)
  have D:=Q rfl
  subst hy D
  have hn:c=[]:=List.eq_nil_of_length_eq_zero (by simpa using U)
  subst hn
  have f:=r
  rcases r.2 with ⟨rfl,h0⟩ | ⟨g,m,ah,rfl,ae,hg,H,_⟩
  ·refine p (.slice none 0 0) w ?_ (by simpa using f) (World.grownBy.refl w _) (.inl rfl)
   simp[Builtin.append_,run_underlying ts.h,sizeOf,typeInfo,L,Builtin.lenOf,Builtin.firstCells]
  ·refine p _ w ?_ (by simpa using f) (World.grownBy.refl w _) (.inl rfl)
   simp[Builtin.append_,run_underlying ts.h,sizeOf,typeInfo,L,Builtin.lenOf,Builtin.firstCells,H,storeCells]
end
section
variable {α : Type} {R : Q4 → α → List Value → Prop} {sz : Nat} {e : TypeId} {σ σ0 : Q4} {v u : Value} {xs ys : List α}
theorem Q4.put_le {w:World} (d:X4 w σ) {b:Nat} (h:σ b=none) (o:Obj): ∀k p,σ k=some p→(σ.put b o) k=some p:=by
 intro k p c
 by_cases a:k=b
 ·subst a;rw[h] at c;cases c
 ·simp only[Q4.put,if_neg a];exact c
theorem Stp.put {b:Nat} {o:Obj} (d:Stp w0 σ0 w σ) (f:σ b=none) (h:w0.heap.size≤b) (g:w.heap[b]? =some o):Stp w0 σ0 w (σ.put b o):=by
 refine ⟨d.bel,?_,fun k p a=>Q4.put_le d.sat f o k p (d.le k p a),?_⟩
 ·intro k p a
  by_cases c:k=b
  ·subst c;simp only[Q4.put,if_true] at a;cases a;exact g
  ·simp only[Q4.put,if_neg c] at a;exact d.sat k p a
 ·intro k a
  simp only[Q4.put];rw[if_neg (by omega)];exact d.old k a
theorem V5.keep [hr:Rep R] (h:V5 w0.heap.size e sz R σ w v xs) (p:Stp w0 σ0 w σ): ∃σ',Stp w0 σ0 w σ'∧Sl sz R σ' v xs∧(∀k o,σ k=some o→σ' k=some o)∧(∀k,some k≠v.ownBlock→σ' k=σ k):=by
 obtain ⟨cells,s,A,J⟩:=h
 rcases s.2 with ⟨rfl,C⟩ | ⟨g,n,d,rfl,y,H,l,f,E,m⟩
 ·have:xs=[]:=List.eq_nil_of_length_eq_zero C
  subst this
  exact ⟨σ,p,Sl.nil,fun _ _ h=>h,fun _ _=>rfl⟩
 ·have r:=A g rfl
  have a:=Q4.put_le p.sat r (.cells d e (0,0))
  refine ⟨σ.put g (.cells d e (0,0)),p.put r y H,⟨_,n,rfl,l,f,by simp,?_⟩,a,?_⟩
  ·intro b q
   cases q
   refine ⟨fun _=>rfl,fun i x t=>⟨(cells.drop (i*sz)).take sz,⟨G5 rfl _,d,e,(0,0),by rw[C1];simp[Q4.put],?_⟩,?_,hr.up a (J i x t)⟩⟩
   ·intro j u c
    rw[Xq]
    rw[List.getElem?_take] at c
    split at c
    ·rw[List.getElem?_drop,←m,List.getElem?_take] at c
     split at c
     ·simpa using c
     ·cases c
    ·cases c
   ·have D:i<xs.length:=(List.getElem?_eq_some_iff.1 t).1
    have h:i*sz+sz≤xs.length*sz:=by rw[←Nat.succ_mul];exact Nat.mul_le_mul_right _ D
    rw[List.length_take,List.length_drop,s.1];omega
  ·intro k z
   have:k≠g:=by intro e;subst e;exact z rfl
   simp only[Q4.put,if_neg this]
theorem Sl.piece {a:Option Addr} {n d:Nat} (h:Sl sz R σ (.slice a n d) xs) (l m:Nat) (M:l+m≤xs.length):Sl sz R σ (.slice (if d=l then a else a.map (·.add (l*sz))) m (d-l)) ((xs.drop l).take m):=by
 obtain ⟨N,j,y,L,O,z,p⟩:=h
 injection y with C H J
 subst C H J
 have c:((xs.drop l).take m).length=m:=by simp;omega
 refine ⟨_,d-l,by rw[c],by rw[c];omega,by omega,?_,?_⟩
 ·intro k
  split at k
  ·omega
  ·cases a with
   | none=>have:=z rfl;omega
   | some b=>simp at k
 ·intro b f
  split at f
  ·rename_i r
   obtain ⟨o,q⟩:=p b f
   have A:m=0:=by omega
   subst A
   exact ⟨fun h=>by simp at h,by simp⟩
  ·cases a with
   | none=>simp at f
   | some E=>
    simp only[Option.map_some,Option.some.injEq] at f
    obtain ⟨o,q⟩:=p E rfl
    subst f
    refine ⟨fun h=>G5 (o (by rw[c] at h;omega)) _,fun i x g=>?_⟩
    rw[List.getElem?_take] at g
    split at g
    ·rw[List.getElem?_drop] at g
     obtain ⟨cs,D,t,s⟩:=q _ _ g
     refine ⟨cs,?_,t,s⟩
     rw[Sr,←Nat.add_mul];exact D
    ·cases g
theorem Cp {t:TypeId} {by_:Nat} {z:Value} [ts:TS P t e] [tz:TZ P e sz by_ z] (h:Sl sz R σ v xs) (c d:Option Value) (l m:Nat) (i:c=none∧l=0∨c=some (I l)) (f:d=none∧m=xs.length∨d=some (I m)) (g:l≤m) (s:m≤xs.length)
 (k: ∀j,Sl sz R σ j ((xs.drop l).take (m-l))→K j w):H3 P t v c d none w K:=by
 have o:=h
 obtain ⟨a,b,rfl,q,C,r,A⟩:=h
 have hh: ∀w:World,(Instr.sliceBounds true xs.length b c d none).run P w= .ok (l,m,b) w:=by
  intro w
  have p:(m:Int)≤b:=by omega
  have y:(l:Int)≤m:=by omega
  have n:m≤b:=by omega
  rcases i with ⟨rfl,rfl⟩ | rfl<;>rcases f with ⟨rfl,rfl⟩ | rfl<;>
   simp[Instr.sliceBounds,Instr.sliceBound,asIntOf,n,g]<;>intros<;>omega
 unfold H3
 have:(Instr.sliceAt t (.slice a xs.length b) c d none).run P w= .ok (.slice (if b=l then a else a.map (·.add (l*sz))) (m-l) (b-l)) w:=by
  simp[Instr.sliceAt,run_underlying ts.h,Instr.slice,hh,W4 tz]
 rw[X9 this]
 exact k _ (o.piece l (m-l) (by omega))
def en:Nat→List Value→List (Nat×Value)
 | _,[]=>[]
 | i,v::r=>(i,v)::en (i+1) r
theorem Q8k (off:Nat): ∀(vs:List Value) (k:Nat) (cs:Array Value),off+k+vs.length≤cs.size→
 ((vs.zipIdx k).foldl (fun cs (p:Value×Nat)=>cs.setIfInBounds (off+p.2) p.1) cs).toList=cs.toList.take (off+k)++vs++cs.toList.drop (off+k+vs.length):=by
 intro vs
 induction vs with
 | nil=>intro k cs _;simp
 | cons v r ih=>
  intro k cs h
  simp only[List.length_cons] at h
  rw[List.zipIdx_cons,List.foldl_cons,ih (k+1) _ (by simp;omega)]
  simp only[Array.toList_setIfInBounds,List.length_cons]
  apply List.ext_getElem?
  intro i
  simp only[List.getElem?_append,List.length_take,List.length_set,Array.length_toList,List.getElem?_take,List.getElem?_drop,List.length_append,List.getElem?_set,List.length_cons]
  rcases Nat.lt_trichotomy i (off+k) with hi | hi | hi
  ·simp[show i<off+(k+1) by omega,hi,show i<min (off+(k+1)) cs.size by omega,show i<min (off+(k+1)) cs.size+r.length by omega,show i<min (off+k) cs.size by omega,show i<min (off+k) cs.size+(r.length+1) by omega,show off+k≠i by omega]
  ·subst hi
   simp[show off+k<off+(k+1) by omega,show off+k<min (off+(k+1)) cs.size by omega,show off+k<min (off+(k+1)) cs.size+r.length by omega,show¬off+k<min (off+k) cs.size by omega,show off+k<min (off+k) cs.size+(r.length+1) by omega,show off+k<cs.size by omega,show off+k-min (off+k) cs.size=0 by omega]
  ·by_cases h2:i<off+(k+1)+r.length
   ·simp[show¬i<min (off+(k+1)) cs.size by omega,show i<min (off+(k+1)) cs.size+r.length by omega,show¬i<min (off+k) cs.size by omega,show i<min (off+k) cs.size+(r.length+1) by omega,show i-min (off+k) cs.size=(i-min (off+(k+1)) cs.size)+1 by omega]
   ·simp only[show¬i<min (off+(k+1)) cs.size+r.length by omega,show¬i<min (off+k) cs.size+(r.length+1) by omega,if_false]
    rw[show off+(k+1)+r.length+(i-(min (off+(k+1)) cs.size+r.length))=i by omega,show off+k+(r.length+1)+(i-(min (off+k) cs.size+(r.length+1)))=i by omega,if_neg (by omega)]
theorem Q5U (sz:Nat): ∀(vs:List Value) (i:Nat) (cs:Array Value),(i+vs.length)*sz≤cs.size→(∀v∈vs,v.cells.size=sz)→
 ∃cs',Instr.fill (fun i=>some (i*sz,sz)) cs (en i vs)=some cs'∧cs'.toList=cs.toList.take (i*sz)++vs.flatMap (·.cells.toList)++cs.toList.drop ((i+vs.length)*sz):=by
 intro vs
 induction vs with
 | nil=>intro i cs _ _;exact ⟨cs,rfl,by simp⟩
 | cons v r ih=>
  intro i cs h hv
  have hv0:=hv v (by simp)
  simp only[List.length_cons] at h
  have h1:i*sz+sz≤cs.size:=by
   have:(i+1)*sz≤(i+(r.length+1))*sz:=Nat.mul_le_mul_right _ (by omega)
   rw[Nat.succ_mul] at this;omega
  have hset:=Q8k (i*sz) v.cells.toList 0 cs (by simp;omega)
  simp only[Nat.add_zero] at hset
  have e1:v.cells.zipIdx.foldl (fun cs (p:Value×Nat)=>cs.setIfInBounds (i*sz+p.2) p.1) cs=(v.cells.toList.zipIdx 0).foldl (fun cs (p:Value×Nat)=>cs.setIfInBounds (i*sz+p.2) p.1) cs:=by
   rw[←Array.foldl_toList,Array.toList_zipIdx]
  have hsz':((v.cells.toList.zipIdx 0).foldl (fun cs (p:Value×Nat)=>cs.setIfInBounds (i*sz+p.2) p.1) cs).size=cs.size:=by
   rw[←Array.length_toList,hset]
   simp;omega
  obtain ⟨cs',q1,q2⟩:=ih (i+1) _ (by rw[hsz'];rw[show i+1+r.length=i+(r.length+1) by omega];exact h) (fun u hu=>hv u (by simp[hu]))
  refine ⟨cs',?_,?_⟩
  ·simp only[en,Instr.fill]
   rw[if_neg (by simp[hv0];omega)]
   rw[e1];exact q1
  ·rw[q2,hset]
   simp only[List.flatMap_cons,List.length_cons,Array.length_toList,hv0]
   have e2:(i+1)*sz=i*sz+sz:=by rw[Nat.succ_mul]
   have e3:(i+(r.length+1))*sz=i*sz+sz+r.length*sz:=by rw[Nat.add_mul,Nat.succ_mul];omega
   have e4:(i+1+r.length)*sz=i*sz+sz+r.length*sz:=by rw[Nat.add_mul,Nat.succ_mul]
   rw[e2,e3,e4]
   have t1:(cs.toList.take (i*sz)).length=i*sz:=by simp;omega
   have t2:(cs.toList.take (i*sz)++v.cells.toList).length=i*sz+sz:=by rw[List.length_append,t1];simp[hv0]
   have k1: ∀C:List Value,(cs.toList.take (i*sz)++v.cells.toList++C).take (i*sz+sz)=cs.toList.take (i*sz)++v.cells.toList:=by
    intro C
    rw[List.take_append_of_le_length (by omega),List.take_of_length_le (by omega)]
   have k2: ∀(C:List Value) (n:Nat),(cs.toList.take (i*sz)++v.cells.toList++C).drop (i*sz+sz+n)=C.drop n:=by
    intro C n
    rw[List.drop_append,t2,List.drop_eq_nil_of_le (by omega),List.nil_append]
    congr 1;omega
   rw[k1,k2,List.drop_drop]
   simp only[List.append_assoc]
theorem On {t:TypeId} {by_:Nat} {z:Value} [ts:TS P t e] [tz:TZ P e sz by_ z] (vs:List Value) (hv: ∀v∈vs,v.cells.size=sz) (hsm:vs.length*sz≤16777216) (w:World):
 ∃cells:Array Value,(Instr.buildSlice t vs.length (en 0 vs).toArray).run P w= .ok (.slice (some ⟨w.heap.size,0,none⟩) vs.length vs.length) (w.alloc (.cells cells e))∧cells.toList=vs.flatMap (·.cells.toList):=by
 have h2: ¬vs.length*sz>2 ^ 24:=by omega
 by_cases h:vs.length*sz=0
 ·obtain ⟨cells,hf,hl⟩:=Q5U sz vs 0 ((Array.range (vs.length*sz)).map ((#[]:Array Value)[· % (#[]:Array Value).size]!)) (by simp) hv
  refine ⟨cells,?_,by rw[hl];simp⟩
  simp only[Instr.buildSlice,Sem.run_bind,run_underlying ts.h,Result.andThen_ok,W4 tz,if_neg h2,if_pos h,Sem.run_pure,hf]
  simp[newRow]
 ·obtain ⟨cells,hf,hl⟩:=Q5U sz vs 0 ((Array.range (vs.length*sz)).map (z.cells[· % z.cells.size]!)) (by simp) hv
  refine ⟨cells,?_,by rw[hl];simp⟩
  simp only[Instr.buildSlice,Sem.run_bind,run_underlying ts.h,Result.andThen_ok,W4 tz,if_neg h2,if_neg h,Sem.run_pure,Xs tz,hf]
  simp[newRow]
theorem Q7m {vs:List Value} (d: ∀v∈vs,v.cells.size=sz) (i:Nat) (v:Value) (h:vs[i]? =some v):((vs.flatMap (·.cells.toList)).drop (i*sz)).take sz=v.cells.toList:=by
 induction vs generalizing i with
 | nil=>simp at h
 | cons a r f=>
  have b:=d a (by simp)
  cases i with
  | zero=>
   simp at h;subst h
   rw[List.flatMap_cons,Nat.zero_mul,List.drop_zero,List.take_append_of_le_length (by simp[b]),List.take_of_length_le (by simp[b])]
  | succ i=>
   rw[List.flatMap_cons,Nat.succ_mul,List.drop_append,List.drop_eq_nil_of_le (by simp[b]),List.nil_append]
   rw[show i*sz+sz-a.cells.toList.length=i*sz by simp[b]]
   exact f (fun v c=>d v (by simp[c])) i (by simpa using h)
theorem Q16 {vs:List Value} (b: ∀v∈vs,v.cells.size=sz):(vs.flatMap (·.cells.toList)).length=vs.length*sz:=by
 induction vs with
 | nil=>simp
 | cons a r c=>
  rw[List.flatMap_cons,List.length_append,c (fun v h=>b v (by simp[h]))]
  simp[b a (by simp),Nat.succ_mul,Nat.add_comm]
def Tv (R:Q4→α→List Value→Prop) (σ:Q4):List Value→List α→Prop
 | [],[]=>True
 | v::vs,x::xs=>R σ x v.cells.toList∧Tv R σ vs xs
 | _,_=>False
theorem Tv.len {vs:List Value} (h:Tv R σ vs xs):vs.length=xs.length:=by
 induction vs generalizing xs with
 | nil=>cases xs with
  | nil=>rfl
  | cons=>exact h.elim
 | cons v r a=>cases xs with
  | nil=>exact h.elim
  | cons x y=>simp[a h.2]
theorem Tv.get {vs:List Value} (h:Tv R σ vs xs) {i:Nat} {x:α} (a:xs[i]? =some x): ∃v,vs[i]? =some v∧R σ x v.cells.toList:=by
 induction vs generalizing xs i with
 | nil=>cases xs with
  | nil=>simp at a
  | cons=>exact h.elim
 | cons v r b=>cases xs with
  | nil=>exact h.elim
  | cons y ys=>
   cases i with
   | zero=>simp at a;subst a;exact ⟨v,rfl,h.1⟩
   | succ i=>obtain ⟨u,c,d⟩:=b h.2 (i:=i) (by simpa using a);exact ⟨u,by simpa using c,d⟩
theorem Qh {t:TypeId} {by_:Nat} {z:Value} {n:Nat} {a:List (Nat×Value)} [ts:TS P t e] [tz:TZ P e sz by_ z] (j:Stp w0 σ0 w σ) (vs:List Value) (xs:List α) (r:n=vs.length) (q:a=en 0 vs) (c: ∀v∈vs,v.cells.size=sz) (b:(decide (0<sz)&&decide (vs.length*sz≤16777216))=true) (m:Tv R σ vs xs)
 (h: ∀v w',Stp w σ w' σ→V5 w0.heap.size e sz R σ w' v xs→(∀k,v.ownBlock=some k→w.heap.size≤k)→K v w'):buildSlice P t n a w K:=by
 subst r q
 simp only[Bool.and_eq_true,decide_eq_true_eq] at b
 obtain ⟨l,b⟩:=b
 obtain ⟨cells,o,d⟩:=On (P:=P) (t:=t) vs c b w
 unfold buildSlice
 rw[X9 o]
 have f:=m.len
 refine h _ _ (Stp.own j.sat _) ⟨cells.toList,⟨by rw[d,Q16 c,f], .inr ⟨_,_,cells,by rw[f],j.bel.size,heap_alloc_new w _,by omega,?_,?_,?_⟩⟩,?_,?_⟩ ?_
 ·simp only[maxLen]
  have:vs.length*1≤vs.length*sz:=Nat.mul_le_mul_left _ l
  omega
 ·rw[←Array.length_toList,d,Q16 c,f]
 ·rw[List.take_of_length_le (by rw[d,Q16 c,f];exact Nat.le_refl _)]
 ·intro k g;cases g;exact j.sat.none (Nat.le_refl _)
 ·intro i x p
  obtain ⟨v,s,y⟩:=m.get p
  rw[d,Q7m c i v s];exact y
 ·intro k g;cases g;exact Nat.le_refl _
theorem D6 [Rep R] {t:TypeId} {by_:Nat} {z:Value} {n:Nat} {a:List (Nat×Value)} [ts:TS P t e] [tz:TZ P e sz by_ z] (i:X4 w σ) (vs:List Value) (xs:List α) (l:n=vs.length) (k:a=en 0 vs) (m: ∀v∈vs,v.cells.size=sz) (b:(decide (0<sz)&&decide (vs.length*sz≤16777216))=true) (g:Tv R σ vs xs)
 (h: ∀v w' σ',Stp w σ w' σ'→Sl sz R σ' v xs→K v w'):buildSlice P t n a w K:=by
 refine Qh (Stp.refl i) vs xs l k m b g fun v w' d c _=>?_
 obtain ⟨σ',j,f,_⟩:=c.keep d
 exact h v w' σ' j f
theorem X0v {t:TypeId} {k a:Nat} {c:TypeId} [tf:TF P t k a c] [tg:TG P c false] {cs:Array Value} {v:Value} (j:cs[a]? =some v):Vv P t (.agg cs) k w K=K v w:=by
 unfold Vv
 have hh:=tf.h
 unfold Q2g at hh
 split at hh
 ·rename_i m d
  obtain ⟨f,i,b⟩:=Option.map_eq_some_iff.1 hh
  simp only[Prod.mk.injEq] at b
  obtain ⟨g,l⟩:=b
  subst l g
  exact X9 (by simp[Instr.field,run_underlying d,i,asAgg,part,Za tg,j])
 ·cases hh
theorem Qf {f:Fn} {first caps:List Value}:M4 P f first caps w K=K (.func f first.toArray caps.toArray) w:=X9 (by simp[Instr.makeFunc])
theorem W0 {t:TypeId} {a:List (Nat×Value)} {cells:Array Value} (h:P.built t a=some cells) (b:K (.agg cells) w):N1 P t a w K:=by
 unfold N1
 rw[X9 (run_build w t a.toArray cells h)];exact b
end
def M9 (o:Option Obj) (m:List (List UInt8×Value)):Prop:=
 ∃es a,o=some (.map es a)∧es.toList.map (fun e=>(e.key,e.val))=m.map (fun p=>(S p.1,p.2))∧(es.toList.map (·.born)).Pairwise (· < ·)∧ ∀e∈es.toList,e.born<a
def L9 (m:List (List UInt8×Value)) (k:List UInt8):Option Value:=match m with
 | []=>none
 | p::r=>if p.1=k then some p.2 else L9 r k
def Qu (m:List (List UInt8×Value)) (k:List UInt8) (v:Value):List (List UInt8×Value):=match m with
 | []=>[(k,v)]
 | p::r=>if p.1=k then (k,v)::r else p::Qu r k v
theorem Rk (a b:List UInt8):((⟨a.toArray⟩:ByteArray)==⟨b.toArray⟩)=decide (a=b):=by
 rw[←Q2v]
 show (a.toArray==b.toArray)=_
 simp
theorem Ro (k:List UInt8): ∀(es:List MapEntry) (m:List (List UInt8×Value)) (i:Nat),es.map (fun e=>(e.key,e.val))=m.map (fun p=>(S p.1,p.2))→
 ∃r,Instr.findNow .string (S k) es i=some r∧r.map (·.2)=L9 m k∧(∀j v,r=some (j,v)→i≤j∧(∃e,es[j-i]? =some e∧e.key=S k)∧ ∀u,(es.modify (j-i) fun e=>{e with key:=S k,val:=u}).map (fun e=>(e.key,e.val))=(Qu m k u).map (fun p=>(S p.1,p.2)))∧
  (r=none→ ∀u,Qu m k u=m++[(k,u)]):=by
 intro es
 induction es with
 | nil=>
  intro m i h
  cases m with
  | nil=>exact ⟨none,rfl,rfl,(by simp),fun _ u=>rfl⟩
  | cons=>simp at h
 | cons e r o=>
  intro m i h
  cases m with
  | nil=>simp at h
  | cons p q=>
   simp only[List.map_cons,List.cons.injEq,Prod.mk.injEq] at h
   obtain ⟨⟨c,f⟩,g⟩:=h
   simp only[Instr.findNow,c,Instr.sameNow,Rk]
   by_cases a:p.1=k
   ·have d:decide (k=p.1)=true:=by simp[a]
    simp only[d]
    refine ⟨_,rfl,by simp[L9,a,f],?_,by simp⟩
    intro j v b
    cases b
    refine ⟨Nat.le_refl _,⟨e,by simp,by rw[c,a]⟩,fun u=>?_⟩
    simp[Qu,a,g]
   ·have d:decide (k=p.1)=false:=by simp;exact fun e=>a e.symm
    simp only[d]
    obtain ⟨n,A,C,t,y⟩:=o q (i+1) g
    refine ⟨n,A,by simp[L9,a,C],?_,?_⟩
    ·intro j v b
     obtain ⟨D,s,l⟩:=t j v b
     refine ⟨by omega,by rw[show j-i=(j-(i+1))+1 by omega];simpa using s,fun u=>?_⟩
     have:=l u
     rw[show j-i=(j-(i+1))+1 by omega]
     simp[Qu,a,c,f,this]
    ·intro z u
     simp[Qu,a,y z u]
theorem C6 {t:TypeId} (a:P.underlying t=some .string) (b:Bool) (k:List UInt8) (w:World):(Instr.checkKey b 10000 t (S k)).run P w= .ok () w:=by
 unfold Instr.checkKey
 simp[run_underlying a]
theorem Q0Y {t f d:TypeId} {sz by_:Nat} {z:Value} [tm:TM P t f d] [tz:TZ P d sz by_ z] (b:P.underlying f=some .string) {r:Nat} {m:List (List UInt8×Value)} (l:M9 (w.heap[r]?) m) (k:List UInt8):
 lookup P t (.map (some r)) (S k) true w K=K (match L9 m k with | some v=> .tuple #[v, .bool true] | none=> .tuple #[z, .bool false]) w:=by
 obtain ⟨es,a,n,i,y,q⟩:=l
 obtain ⟨j,g,c,s,A⟩:=Ro k es.toList m 0 i
 unfold lookup
 refine X9 ?_
 simp only[Instr.lookup,Sem.run_bind,run_underlying tm.h,Result.andThen_ok,Instr.findKey,run_underlying b,g,C6 b]
 have o:(getObj r).run P w= .ok (.map es a) w:=by simp[getObj,Sem.run,n]
 simp only[o,Result.andThen_ok,Sem.run_bind,Sem.run_pure,C6 b,run_underlying b,g]
 cases j with
 | none=>simp at c;rw[←c];simp[Xs tz]
 | some p=>simp at c;rw[←c];simp
theorem Q3h {t f c:TypeId} {sz by_:Nat} {z:Value} [tm:TM P t f c] [tz:TZ P c sz by_ z] (d:P.underlying f=some .string) {r:Nat} {m:List (List UInt8×Value)} (j:M9 (w.heap[r]?) m) (k:List UInt8):
 lookup P t (.map (some r)) (S k) false w K=K ((L9 m k).getD z) w:=by
 obtain ⟨es,a,l,g,y,q⟩:=j
 obtain ⟨i,o,b,s,A⟩:=Ro k es.toList m 0 g
 unfold lookup
 refine X9 ?_
 have n:(getObj r).run P w= .ok (.map es a) w:=by simp[getObj,Sem.run,l]
 simp only[Instr.lookup,Sem.run_bind,run_underlying tm.h,Result.andThen_ok,Instr.findKey,run_underlying d,o,C6 d,n,Sem.run_pure]
 cases i with
 | none=>simp at b;rw[←b];simp[Xs tz]
 | some p=>simp at b;rw[←b];simp
def D7 (σ:Q4) (w:World) (r:Nat) (m:List (List UInt8×Value)):Prop:=σ r=none∧M9 (w.heap[r]?) m
def I2 (σ:Q4) (r:Nat) (m:List (List UInt8×Value)):Prop:=M9 (σ r) m
theorem I2.is {σ:Q4} {r:Nat} {m:List (List UInt8×Value)} (h:I2 σ r m) (b:X4 w σ):M9 (w.heap[r]?) m:=by
 obtain ⟨es,a,c,d⟩:=h
 exact ⟨es,a,b _ _ c,d⟩
theorem I2.le {σ σ':Q4} {r:Nat} {m:List (List UInt8×Value)} (h:I2 σ r m) (d: ∀b o,σ b=some o→σ' b=some o):I2 σ' r m:=by
 obtain ⟨es,a,c,f⟩:=h
 exact ⟨es,a,d _ _ c,f⟩
theorem I2.up {σ σ':Q4} {r:Nat} {m:List (List UInt8×Value)} (h:I2 σ r m) (a:Stp w σ w' σ'):I2 σ' r m:=h.le a.le
theorem D7.lt {σ:Q4} {r:Nat} {m:List (List UInt8×Value)} (h:D7 σ w r m):r<w.heap.size:=by
 obtain ⟨_,es,a,b,_⟩:=h
 exact (Array.getElem?_eq_some_iff.1 b).1
theorem D7.up {σ σ':Q4} {r:Nat} {m:List (List UInt8×Value)} (h:D7 σ w r m) (b:Stp w σ w' σ'):D7 σ' w' r m:=by
 have a:=h.lt
 exact ⟨(b.old r a).trans h.1,(b.bel.block r a).symm▸h.2⟩
theorem An {t:TypeId} {σ:Q4} (a:X4 w σ) (h: ∀r w',w.heap.size≤r→Stp w σ w' σ→D7 σ w' r []→K (.map (some r)) w'):Re P t none w K:=by
 unfold Re
 rw[X9 (v:= .map (some w.heap.size)) (w':=w.alloc (.map #[] 0)) (by simp[Instr.makeMap])]
 exact h _ _ (Nat.le_refl _) (Stp.own a _) ⟨a.none (Nat.le_refl _), #[],0,heap_alloc_new w _,rfl,by simp,by simp⟩
theorem D7.keep {σ σ0:Q4} {r:Nat} {m:List (List UInt8×Value)} (h:D7 σ w r m) (c:Stp w0 σ0 w σ) (f:w0.heap.size≤r): ∃σ',Stp w0 σ0 w σ'∧I2 σ' r m∧(∀k o,σ k=some o→σ' k=some o)∧(∀k,k≠r→σ' k=σ k):=by
 obtain ⟨b,es,a,d,i⟩:=h
 exact ⟨σ.put r (.map es a),c.put b f d,⟨es,a,by simp[Q4.put],i⟩,Q4.put_le c.sat b _,fun k g=>by simp only[Q4.put,if_neg g]⟩
theorem De {t Q W:TypeId} [tm:TM P t Q W] (s:P.underlying Q=some .string) {σ:Q4} {r:Nat} {m:List (List UInt8×Value)} (Z:D7 σ w r m) (k:List UInt8) (v:Value)
 (h: ∀w',Upd w r w'→D7 σ w' r (Qu m k v)→K undef w'):mapUpdate P t (.map (some r)) (S k) v w K:=by
 obtain ⟨O,es,d,D,L,N,C⟩:=Z
 obtain ⟨Y,V,q2,q3,q4⟩:=Ro k es.toList m 0 L
 have U:(getObj r).run P w= .ok (.map es d) w:=by simp[getObj,Sem.run,D]
 have hl:=(Array.getElem?_eq_some_iff.1 D).1
 have l: ∀o,o=Obj.map es d∨True→(∀c e f,o≠ .cells c e f)→(setObj r o).run P w= .ok () {w with heap:=w.heap.setIfInBounds r o}:=by
  intro o _ _
  simp[setObj,Sem.run,D]
 have z: ∀o,Upd w r {w with heap:=w.heap.setIfInBounds r o}:=fun o=>⟨rfl,rfl,rfl,by simp,fun k s=>by simp only[Array.getElem?_setIfInBounds];rw[if_neg (by omega)]⟩
 have A: ∀o,({w with heap:=w.heap.setIfInBounds r o}:World).heap[r]? =some o:=fun o=>by simp[Array.getElem?_setIfInBounds,hl]
 unfold mapUpdate
 cases Y with
 | none=>
  rw[My (w':={w with heap:=w.heap.setIfInBounds r (.map (es.push {key:=S k,val:=v,born:=d}) (d+1))}) (by
   simp only[Instr.mapUpdate,Sem.run_bind,run_underlying tm.h,Result.andThen_ok,Instr.findKey,run_underlying s,V,C6 s,U,Sem.run_pure]
   exact l _ (.inr trivial) (by intros;simp))]
  refine h _ (z _) ⟨O,_,_,A _,?_,?_,?_⟩
  ·rw[q4 rfl];simp[L]
  ·simp only[Array.toList_push,List.map_append,List.map_cons,List.map_nil]
   rw[List.pairwise_append]
   refine ⟨N,by simp,?_⟩
   intro a X b H
   simp at H;subst H
   obtain ⟨e,q,rfl⟩:=List.mem_map.1 X
   exact C e q
  ·intro e q
   simp at q
   rcases q with q | rfl
   ·have:=C e (by simpa using q);omega
   ·simp
 | some p=>
  obtain ⟨j,u⟩:=p
  obtain ⟨z1,z2,J⟩:=q3 j u rfl
  obtain ⟨e,M,e2⟩:=z2
  simp only[Nat.sub_zero] at M J
  have g:((es.modify j fun e=>{e with key:=S k,val:=v}).toList.map (·.born))=es.toList.map (·.born):=by
   apply List.ext_getElem?
   intro i
   simp only[Array.toList_modify,List.getElem?_map,List.getElem?_modify]
   by_cases E:j=i<;>cases es.toList[i]? <;>simp[E]
  have n:(Instr.keyThatStays (S k) (S k)).run P w= .ok (S k) w:=by
   simp[Instr.keyThatStays,Instr.sameBits,Rk]
  rw[My (w':={w with heap:=w.heap.setIfInBounds r (.map (es.modify j fun e=>{e with key:=S k,val:=v}) d)}) (by
   simp only[Instr.mapUpdate,Sem.run_bind,run_underlying tm.h,Result.andThen_ok,Instr.findKey,run_underlying s,V,C6 s,U,Sem.run_pure]
   rw[show ((es[j]?).map (·.key)).getD (S k)=S k by rw[←Array.getElem?_toList,M];simp[e2]]
   simp only[n,Result.andThen_ok]
   exact l _ (.inr trivial) (by intros;simp))]
  refine h _ (z _) ⟨O,_,_,A _,?_,?_,?_⟩
  ·simp only[Array.toList_modify];exact J v
  ·rw[g];exact N
  ·intro x hx
   have:x.born∈es.toList.map (·.born):=by rw[←g];exact List.mem_map.2 ⟨x,hx,rfl⟩
   obtain ⟨y,hy,e⟩:=List.mem_map.1 this
   rw[←e];exact C y hy
end Go.Emb

namespace Go.Emb
open Go.RowKit
variable {P : Program} {w w0 w1 w' w'' : World} {K : Value → World → Prop}
theorem Z4 {c b:Bool} {a:World→(Value→World→Prop)→Prop} (d:c=b→a w K) (e:c=(!b)→K undef w):Q1 (.bool c) b w a K:=by
 cases c<;>cases b
 ·rw[Vl];exact d rfl
 ·rw[Jo];exact e rfl
 ·rw[Pp];exact e rfl
 ·rw[G4];exact d rfl
theorem Q5 {c:Bool} {t e:Prop} (a:c=true→t) (b:c=false→e):X1 (.bool c) t e:=by
 cases c
 ·rw[Uy];exact b rfl
 ·rw[Nd];exact a rfl
theorem Q8 {α:Type} {R:Q4→α→List Value→Prop} {sz:Nat} {σ:Q4} {v:Value} {xs:List α} {a e t:TypeId} {cs:List Bool} [ts:TS P a e] (h:Sl sz R σ v xs) (b:K (I xs.length) w):X6 P .len [a] t cs [v] w K:=by
 rw[X1G h];exact b
structure Kpt (D : Nat → Prop) (w w' : World) : Prop where
  os : w'.os = w.os
  tape : w'.tape = w.tape
  output : w'.output = w.output
  size : w.heap.size ≤ w'.heap.size
  block : ∀ k, k < w.heap.size → ¬ D k → w'.heap[k]? = w.heap[k]?
theorem Kpt.refl {D:Nat→Prop}:Kpt D w w:=⟨rfl,rfl,rfl,Nat.le_refl _,fun _ _ _=>rfl⟩
theorem Kpt.trans {D:Nat→Prop} (h:Kpt D w w') (k:Kpt D w' w''):Kpt D w w'':=
 ⟨k.os.trans h.os,k.tape.trans h.tape,k.output.trans h.output,Nat.le_trans h.size k.size,fun i b a=>(k.block i (Nat.lt_of_lt_of_le b h.size) a).trans (h.block i b a)⟩
theorem Kpt.of_below {D:Nat→Prop} (h:Below w.heap.size w w'):Kpt D w w':=⟨h.os,h.tape,h.output,h.size,fun k a _=>h.block k a⟩
theorem Kpt.of_grown {D:Nat→Prop} {row:Option Nat} (h:w.grownBy w' row) (c: ∀k,row=some k→D k):Kpt D w w':=⟨h.os,h.tape,h.output,h.size,fun k b a=>h.block k b (fun e=>a (c k e.symm))⟩
theorem Kpt.of_upd {D:Nat→Prop} {b:Nat} (h:Upd w b w') (c:D b):Kpt D w w':=⟨h.os,h.tape,h.output,by rw[h.size];exact Nat.le_refl _,fun k d a=>h.block k (fun e=>a (e▸c))⟩
theorem Kpt.mono {D a:Nat→Prop} (h:Kpt D w w') (c: ∀k,k<w.heap.size→D k→a k):Kpt a w w':=⟨h.os,h.tape,h.output,h.size,fun k b d=>h.block k b (fun e=>d (c k b e))⟩
theorem Kpt.below {D:Nat→Prop} (h:Kpt D w w') (a: ∀k,¬D k):Below w.heap.size w w':=⟨h.os,h.tape,h.output,h.size,fun k b=>h.block k b (a k)⟩
theorem Stp.kp {σ0 σ:Q4} {D:Nat→Prop} (a:Stp w0 σ0 w σ) (b:Kpt D w w') (f: ∀k,D k→w0.heap.size≤k∧σ k=none):Stp w0 σ0 w' σ:=by
 refine ⟨⟨b.os.trans a.bel.os,b.tape.trans a.bel.tape,b.output.trans a.bel.output,Nat.le_trans a.bel.size b.size,fun k c=>?_⟩,?_,a.le,a.old⟩
 ·refine (b.block k (Nat.lt_of_lt_of_le c a.bel.size) ?_).trans (a.bel.block k c)
  intro e;have:=(f k e).1;omega
 ·intro k o d
  refine (b.block k (a.sat.lt d) ?_).trans (a.sat k o d)
  intro e;rw[(f k e).2] at d;cases d
theorem Z5.kp {σ:Q4} {D:Nat→Prop} {k:Nat} {cs:List Value} (h:Z5 σ w k cs) (d:Kpt D w w') (a: ¬D k):Z5 σ w' k cs:=by
 have c:=h.lt
 obtain ⟨b,e,f⟩:=h
 exact ⟨b,e,(d.block k c a).trans f⟩
theorem D7.kp {σ:Q4} {D:Nat→Prop} {r:Nat} {m:List (List UInt8×Value)} (h:D7 σ w r m) (b:Kpt D w w') (a: ¬D r):D7 σ w' r m:=
 ⟨h.1,(b.block r h.lt a).symm▸h.2⟩
theorem V5.kp {α:Type} {R:Q4→α→List Value→Prop} {B sz:Nat} {e:TypeId} {σ:Q4} {v:Value} {xs:List α} {D:Nat→Prop} (h:V5 B e sz R σ w v xs) (l:Kpt D w w') (b: ∀k,v.ownBlock=some k→ ¬D k):V5 B e sz R σ w' v xs:=by
 obtain ⟨cells,f,m,o⟩:=h
 refine ⟨cells,⟨f.1,?_⟩,m,o⟩
 rcases f.2 with n | ⟨g,c,d,rfl,j,i,a⟩
 ·exact .inl n
 ·refine .inr ⟨g,c,d,rfl,j,?_,a⟩
  rw[l.block g (Array.getElem?_eq_some_iff.1 i).1 (b g rfl)];exact i
theorem bt {w w1 a:World} (b:Below w.heap.size w w1) (c:Below w1.heap.size w1 a):Below w.heap.size w a:=b.trans (c.mono b.size)
abbrev J3:Nat:=140737488351232
def Y0 (_:Q4) (s:List UInt8) (cs:List Value):Prop:=cs=[S s]∧s.length≤J3
instance:Rep Y0:=⟨fun _ h=>h,fun h u hu=>by rw[h.1] at hu;simp at hu;subst hu;rfl⟩
def Uo (_:Q4) (n:Int) (cs:List Value):Prop:=cs=[I n]∧ -9223372036854775808≤n∧n≤9223372036854775807
instance:Rep Uo:=⟨fun _ h=>h,fun h u hu=>by rw[h.1] at hu;simp at hu;subst hu;rfl⟩
def Q73 (_:Q4) (b:Bool) (cs:List Value):Prop:=cs=[.bool b]
instance:Rep Q73:=⟨fun _ h=>h,fun h u hu=>by rw[h] at hu;simp at hu;subst hu;rfl⟩
def UpI (N:Nat) (a:Nat→World→Prop) (x:Value) (w:World):Prop:= ∃n:Nat,x=I n∧n≤N∧a n w
def UpM (N:Nat) (x:Value):Nat:=match x with | .int _ n=>N-n.toNat | _=>0
theorem Z8 {A:(Value→World→Prop)→Value→(Nat→Value)→World→Prop} (N:Nat) (a:Nat→World→Prop) (e:a 0 w)
 (b: ∀n w d,n≤N→a n w→A (fun y w'=>UpI N a y w'∧UpM N y<UpM N (I n)) (I n) d w):lp (α:=Value) (.int .i64 0) w A:=by
 refine Zv (UpI N a) (fun x _=>UpM N x) ⟨0,rfl,Nat.zero_le _,e⟩ ?_
 rintro _ d w' ⟨n,rfl,c,f⟩
 exact b n w' d c f
theorem Y2 {N n:Nat} {a:Nat→World→Prop} (d:N≤9223372036854775807) (b:n<N) (c:a (n+1) w):UpI N a (.int .i64 (IntKind.i64.wrap (n+1))) w∧UpM N (.int .i64 (IntKind.i64.wrap (n+1)))<UpM N (I n):=by
 rw[B5 (by omega) (by omega)]
 exact ⟨⟨n+1,rfl,b,c⟩,by simp only[UpM];omega⟩
def Rs {α:Type} (N:Nat) (a:Nat→α→World→Prop) (x:α×Value) (w:World):Prop:= ∃n:Nat,x.2=I n∧n≤N∧a n x.1 w
def Vx {α:Type} (N:Nat) (x:α×Value):Nat:=UpM N x.2
theorem O8 {α:Type} {A:(α×Value→World→Prop)→α×Value→(Nat→Value)→World→Prop} {a:α} (N:Nat) (b:Nat→α→World→Prop) (h:b 0 a w)
 (c: ∀n a w d,n≤N→b n a w→A (fun y w'=>Rs N b y w'∧Vx N y<Vx N (a,I n)) (a,I n) d w):lp (α:=α×Value) (a, .int .i64 0) w A:=by
 refine Zv (Rs N b) (fun x _=>Vx N x) ⟨0,rfl,Nat.zero_le _,h⟩ ?_
 rintro ⟨a,x⟩ d w' ⟨n,e,g,f⟩
 simp only at e f
 subst e
 exact c n a w' d g f
theorem Z6 {α:Type} {a c:α} {N n:Nat} {b:Nat→α→World→Prop} (f:N≤9223372036854775807) (d:n<N) (e:b (n+1) c w):Rs N b (c, .int .i64 (IntKind.i64.wrap (n+1))) w∧Vx N (c, .int .i64 (IntKind.i64.wrap (n+1)))<Vx N (a,I n):=by
 rw[B5 (by omega) (by omega)]
 exact ⟨⟨n+1,rfl,d,e⟩,by simp only[Vx,UpM];omega⟩
theorem L7 {α:Type} {R:Q4→α→List Value→Prop} {sz:Nat} {σ:Q4} {v:Value} {xs:List α} {t e:TypeId} {by_:Nat} {z:Value} [TS P t e] [TZ P e sz by_ z] (h:Sl sz R σ v xs) {n:Nat} (f:n<xs.length)
 (b: ∀a cs,Z2 σ a cs→cs.length=sz→R σ xs[n] cs→K (.pointer (some a)) w):indexAddr P t v (I n) w K:=
 X23 h (by omega) (by simpa using f) (fun a cs d c g=>b a cs d c (by simpa using g))
theorem Y6 {t:TypeId} {sz by_:Nat} {z:Value} {A:Value→Value→World→Prop} [tz:TZ P t sz by_ z] {σ:Q4} {cs:List Value} (j:X4 w σ) (k:z.cells.size=sz) (m:cs.length=sz) (l: ∀u∈cs,u.oneCell'=true)
 (h: ∀a w' c,Stp w σ w' c→Z2 c a cs→A (.pointer (some a)) undef w'):W3 P t w (fun p w=>Z3 P t p (.agg cs.toArray) w (fun u w=>A p u w)):=by
 refine Hi j fun b w1 e g f=>?_
 refine sta f (by simpa using k) m (by rw[List.all_toArray];exact List.all_eq_true.2 l) fun n o d=>?_
 have q:Stp w σ n σ:=o.stp g e f.1
 obtain ⟨c,r,i,_⟩:=d.keep q e
 exact h _ _ _ r i
theorem U0 {t:TypeId} {by_:Nat} {z:Value} {A:Value→Value→World→Prop} [tz:TZ P t 1 by_ z] {σ:Q4} {v:Value} (k:X4 w σ) (l:z.cells.size=1) (q:v.cells= #[v]) (m:v.oneCell'=true)
 (h: ∀a w' d,Stp w σ w' d→Z2 d a [v]→A (.pointer (some a)) undef w'):W3 P t w (fun p w=>Z3 P t p v w (fun u w=>A p u w)):=by
 refine Hi k fun b w1 f i g=>?_
 have n:z.cells.toList.length=1:=by simpa using l
 refine st0 g (by omega) q m fun o r c=>?_
 have s:Stp w σ o σ:=r.stp i f g.1
 have e:z.cells.toList.set 0 v=[v]:=by
  match hzl:z.cells.toList,n with
  | [x],_=>rfl
 rw[e] at c
 obtain ⟨d,y,j,_⟩:=c.keep s f
 exact h _ _ _ y j
theorem M3 {α:Type} {xs:List α} {p:α→Bool} {n:Nat} (h:n<xs.length):(xs.take (n+1)).any p=((xs.take n).any p||p xs[n]):=by
 rw[List.take_add_one,List.getElem?_eq_getElem h,List.any_append];simp
theorem C0 {α:Type} {xs:List α} {p:α→Bool} {n:Nat} (h:n<xs.length) (a:p xs[n]=true):xs.any p=true:=List.any_eq_true.2 ⟨_,List.getElem_mem h,a⟩
theorem O9 {α:Type} {xs:List α} {p:α→Bool} {n:Nat} (h: ¬n<xs.length):(xs.take n).any p=xs.any p:=by rw[List.take_of_length_le (by omega)]
end Go.Emb

namespace Go.Hm
open Go.Kd
structure Fld where
  name : X0
  kind : X0
  tr : Bool
deriving DecidableEq
structure Ins where
  op : X0
  n : Int
  s : X0
deriving DecidableEq
structure Cat where
  frm : Int
  to : Int
  at_ : Int
  cls : X0
deriving DecidableEq
structure Met where
  name : X0
  params : List X0
  result : X0
  abs : Bool
  locals : Int
  code : List Ins
  catches : List Cat
deriving DecidableEq
structure Cla where
  name : X0
  super : X0
  like : List X0
  iface : Bool
  abs : Bool
  fin : Bool
  fields : List Fld
  methods : List Hm.Met
deriving DecidableEq
def Fld.zero:Fld:=⟨[],[],false⟩
def Met.zero:Hm.Met:=⟨[],[],[],false,0,[],[]⟩
def Cla.zero:Cla:=⟨[],[],[],false,false,false,[],[]⟩
end Go.Hm

namespace Go.Emb
open Go.RowKit Go.Hm
abbrev Q0Q (n:Int):Prop:= -9223372036854775808≤n∧n≤9223372036854775807
def E0 (_:Q4) (f:Fld) (cs:List Value):Prop:=cs=[S f.name,S f.kind, .bool f.tr]∧f.name.length≤J3∧f.kind.length≤J3
def I3 (_:Q4) (i:Ins) (cs:List Value):Prop:=cs=[S i.op,I i.n,S i.s]∧i.op.length≤J3∧Q0Q i.n∧i.s.length≤J3
def Yo (_:Q4) (c:Cat) (cs:List Value):Prop:=cs=[I c.frm,I c.to,I c.at_,S c.cls]∧Q0Q c.frm∧Q0Q c.to∧Q0Q c.at_∧c.cls.length≤J3
def M5 (σ:Q4) (m:Hm.Met) (cs:List Value):Prop:= ∃pv b a,cs=[S m.name,pv,S m.result, .bool m.abs,I m.locals,b,a]∧Sl 1 Y0 σ pv m.params∧Sl 3 I3 σ b m.code∧Sl 4 Yo σ a m.catches∧m.name.length≤J3∧m.result.length≤J3∧Q0Q m.locals
def U5 (σ:Q4) (c:Cla) (cs:List Value):Prop:= ∃a b mv,cs=[S c.name,S c.super,a, .bool c.iface, .bool c.abs, .bool c.fin,b,mv]∧Sl 1 Y0 σ a c.like∧Sl 3 E0 σ b c.fields∧Sl 7 M5 σ mv c.methods∧c.name.length≤J3∧c.super.length≤J3
theorem F5 {α:Type} {sz:Nat} {R:Q4→α→List Value→Prop} {σ:Q4} {v:Value} {xs:List α} (h:Sl sz R σ v xs):v.oneCell'=true:=by
 obtain ⟨a,b,rfl,_⟩:=h;rfl
instance:Rep E0:=⟨fun _ h=>h,fun h u hu=>by rw[h.1] at hu;simp at hu;rcases hu with rfl | rfl | rfl<;>rfl⟩
instance:Rep I3:=⟨fun _ h=>h,fun h u hu=>by rw[h.1] at hu;simp at hu;rcases hu with rfl | rfl | rfl<;>rfl⟩
instance:Rep Yo:=⟨fun _ h=>h,fun h u hu=>by rw[h.1] at hu;simp at hu;rcases hu with rfl | rfl | rfl | rfl<;>rfl⟩
instance:Rep M5:=⟨fun hk ⟨pv,cv,hv,h1,h2,h3,h4,h5⟩=>⟨pv,cv,hv,h1,h2.le hk,h3.le hk,h4.le hk,h5⟩,fun ⟨pv,cv,hv,h1,h2,h3,h4,h5⟩ u hu=>by
 rw[h1] at hu;simp at hu;rcases hu with rfl | rfl | rfl | rfl | rfl | rfl | rfl
 ·rfl
 ·exact F5 h2
 ·rfl
 ·rfl
 ·rfl
 ·exact F5 h3
 ·exact F5 h4⟩
instance:Rep U5:=⟨fun hk ⟨pv,cv,hv,h1,h2,h3,h4,h5⟩=>⟨pv,cv,hv,h1,h2.le hk,h3.le hk,h4.le hk,h5⟩,fun ⟨pv,cv,hv,h1,h2,h3,h4,h5⟩ u hu=>by
 rw[h1] at hu;simp at hu;rcases hu with rfl | rfl | rfl | rfl | rfl | rfl | rfl | rfl
 ·rfl
 ·rfl
 ·exact F5 h2
 ·rfl
 ·rfl
 ·rfl
 ·exact F5 h3
 ·exact F5 h4⟩
end Go.Emb

namespace Go.Proofs.YtfppjenblllfaaaGreatDoor
open Go.Emb
instance z_x:TZ P T.x 1 0 (.tuple #[]):=⟨by kernel_rfl⟩
instance g_x:TG P T.x false:=⟨by kernel_rfl⟩
instance z_int64:TZ P T.al 1 8 (.int .i64 0):=⟨by kernel_rfl⟩
instance g_int64:TG P T.al false:=⟨by kernel_rfl⟩
instance z_int:TZ P T.e 1 8 (.int .i64 0):=⟨by kernel_rfl⟩
instance g_int:TG P T.e false:=⟨by kernel_rfl⟩
instance z_bool:TZ P T.m 1 1 (.bool false):=⟨by kernel_rfl⟩
instance g_bool:TG P T.m false:=⟨by kernel_rfl⟩
instance z_uint8:TZ P T.w 1 1 (.int .u8 0):=⟨by kernel_rfl⟩
instance g_uint8:TG P T.w false:=⟨by kernel_rfl⟩
instance z_string:TZ P T.b 1 16 (.string ⟨#[]⟩):=⟨by kernel_rfl⟩
instance g_string:TG P T.b false:=⟨by kernel_rfl⟩
instance z_uintptr:TZ P T.ao 1 8 (.int .u64 0):=⟨by kernel_rfl⟩
instance g_uintptr:TG P T.ao false:=⟨by kernel_rfl⟩
instance z_int32:TZ P T.af 1 4 (.int .i32 0):=⟨by kernel_rfl⟩
instance g_int32:TG P T.af false:=⟨by kernel_rfl⟩
instance z_S_string:TZ P T.d 1 24 (.slice none 0 0):=⟨by kernel_rfl⟩
instance g_S_string:TG P T.d false:=⟨by kernel_rfl⟩
instance s_S_string:TS P T.d 9:=⟨by kernel_rfl⟩
instance z_api_Shape:TZ P T.f 3 56 (.agg #[.bool false, .slice none 0 0, .slice none 0 0]):=⟨by kernel_rfl⟩
instance g_api_Shape:TG P T.f true:=⟨by kernel_rfl⟩
instance f_api_Shape_0:TF P T.f 0 0 4:=⟨by kernel_rfl⟩
instance f_api_Shape_1:TF P T.f 1 1 22:=⟨by kernel_rfl⟩
instance f_api_Shape_2:TF P T.f 2 2 22:=⟨by kernel_rfl⟩
instance z_P_hier_Table:TZ P T.s 1 8 (.pointer none):=⟨by kernel_rfl⟩
instance g_P_hier_Table:TG P T.s false:=⟨by kernel_rfl⟩
instance z_S_api_Class:TZ P T.h 1 24 (.slice none 0 0):=⟨by kernel_rfl⟩
instance g_S_api_Class:TG P T.h false:=⟨by kernel_rfl⟩
instance s_S_api_Class:TS P T.h 82:=⟨by kernel_rfl⟩
instance z_api_Errno:TZ P T.r 1 8 (.int .i64 0):=⟨by kernel_rfl⟩
instance g_api_Errno:TG P T.r false:=⟨by kernel_rfl⟩
instance z_S_api_Instr:TZ P T.l 1 24 (.slice none 0 0):=⟨by kernel_rfl⟩
instance g_S_api_Instr:TG P T.l false:=⟨by kernel_rfl⟩
instance s_S_api_Instr:TS P T.l 42:=⟨by kernel_rfl⟩
instance z_S_api_Catch:TZ P T.o 1 24 (.slice none 0 0):=⟨by kernel_rfl⟩
instance g_S_api_Catch:TG P T.o false:=⟨by kernel_rfl⟩
instance s_S_api_Catch:TS P T.o 159:=⟨by kernel_rfl⟩
instance z_api_Method:TZ P T.c 7 120 (.agg #[.string ⟨#[]⟩, .slice none 0 0, .string ⟨#[]⟩, .bool false, .int .i64 0, .slice none 0 0, .slice none 0 0]):=⟨by kernel_rfl⟩
instance g_api_Method:TG P T.c true:=⟨by kernel_rfl⟩
instance f_api_Method_0:TF P T.c 0 0 9:=⟨by kernel_rfl⟩
instance f_api_Method_1:TF P T.c 1 1 22:=⟨by kernel_rfl⟩
instance f_api_Method_2:TF P T.c 2 2 9:=⟨by kernel_rfl⟩
instance f_api_Method_3:TF P T.c 3 3 4:=⟨by kernel_rfl⟩
instance f_api_Method_4:TF P T.c 4 4 3:=⟨by kernel_rfl⟩
instance f_api_Method_5:TF P T.c 5 5 37:=⟨by kernel_rfl⟩
instance f_api_Method_6:TF P T.c 6 6 38:=⟨by kernel_rfl⟩
instance z_api_Instr:TZ P T.n 3 40 (.agg #[.string ⟨#[]⟩, .int .i64 0, .string ⟨#[]⟩]):=⟨by kernel_rfl⟩
instance g_api_Instr:TG P T.n true:=⟨by kernel_rfl⟩
instance f_api_Instr_0:TF P T.n 0 0 9:=⟨by kernel_rfl⟩
instance f_api_Instr_1:TF P T.n 1 1 2:=⟨by kernel_rfl⟩
instance f_api_Instr_2:TF P T.n 2 2 9:=⟨by kernel_rfl⟩
instance z_A2_api_Shape:TZ P T.ak 6 112 (.agg #[.bool false, .slice none 0 0, .slice none 0 0, .bool false, .slice none 0 0, .slice none 0 0]):=⟨by kernel_rfl⟩
instance g_A2_api_Shape:TG P T.ak true:=⟨by kernel_rfl⟩
instance a_A2_api_Shape:TA P T.ak 2 24:=⟨by kernel_rfl⟩
instance z_func_string_bool:TZ P T.y 1 8 .nilFunc:=⟨by kernel_rfl⟩
instance g_func_string_bool:TG P T.y false:=⟨by kernel_rfl⟩
instance z_S_int:TZ P T.z 1 24 (.slice none 0 0):=⟨by kernel_rfl⟩
instance g_S_int:TG P T.z false:=⟨by kernel_rfl⟩
instance s_S_int:TS P T.z 3:=⟨by kernel_rfl⟩
instance z_step_doer:TZ P T.t 15 232 (.agg #[.pointer none, .string ⟨#[]⟩, .slice none 0 0, .string ⟨#[]⟩, .bool false, .int .i64 0, .slice none 0 0, .slice none 0 0, .string ⟨#[]⟩, .int .i64 0, .string ⟨#[]⟩, .bool false, .slice none 0 0, .slice none 0 0, .int .i64 0]):=⟨by kernel_rfl⟩
instance g_step_doer:TG P T.t true:=⟨by kernel_rfl⟩
instance f_step_doer_0:TF P T.t 0 0 25:=⟨by kernel_rfl⟩
instance f_step_doer_1:TF P T.t 1 1 40:=⟨by kernel_rfl⟩
instance f_step_doer_2:TF P T.t 2 8 42:=⟨by kernel_rfl⟩
instance f_step_doer_3:TF P T.t 3 11 24:=⟨by kernel_rfl⟩
instance f_step_doer_4:TF P T.t 4 14 31:=⟨by kernel_rfl⟩
instance z_M_string_funcP_step_doer:TZ P T.j 1 8 (.map none):=⟨by kernel_rfl⟩
instance g_M_string_funcP_step_doer:TG P T.j false:=⟨by kernel_rfl⟩
instance m_M_string_funcP_step_doer:TM P T.j 9 69:=⟨by kernel_rfl⟩
instance z_M_string_int:TZ P T.v 1 8 (.map none):=⟨by kernel_rfl⟩
instance g_M_string_int:TG P T.v false:=⟨by kernel_rfl⟩
instance m_M_string_int:TM P T.v 9 3:=⟨by kernel_rfl⟩
instance z_hier_Table:TZ P T.u 2 32 (.agg #[.slice none 0 0, .map none]):=⟨by kernel_rfl⟩
instance g_hier_Table:TG P T.u true:=⟨by kernel_rfl⟩
instance f_hier_Table_0:TF P T.u 0 0 26:=⟨by kernel_rfl⟩
instance f_hier_Table_1:TF P T.u 1 1 76:=⟨by kernel_rfl⟩
instance z_S_api_Field:TZ P T.i 1 24 (.slice none 0 0):=⟨by kernel_rfl⟩
instance g_S_api_Field:TG P T.i false:=⟨by kernel_rfl⟩
instance s_S_api_Field:TS P T.i 89:=⟨by kernel_rfl⟩
instance z_S_api_Method:TZ P T.g 1 24 (.slice none 0 0):=⟨by kernel_rfl⟩
instance g_S_api_Method:TG P T.g false:=⟨by kernel_rfl⟩
instance s_S_api_Method:TS P T.g 40:=⟨by kernel_rfl⟩
instance z_api_Class:TZ P T.a 8 112 (.agg #[.string ⟨#[]⟩, .string ⟨#[]⟩, .slice none 0 0, .bool false, .bool false, .bool false, .slice none 0 0, .slice none 0 0]):=⟨by kernel_rfl⟩
instance g_api_Class:TG P T.a true:=⟨by kernel_rfl⟩
instance f_api_Class_0:TF P T.a 0 0 9:=⟨by kernel_rfl⟩
instance f_api_Class_1:TF P T.a 1 1 9:=⟨by kernel_rfl⟩
instance f_api_Class_2:TF P T.a 2 2 22:=⟨by kernel_rfl⟩
instance f_api_Class_3:TF P T.a 3 3 4:=⟨by kernel_rfl⟩
instance f_api_Class_4:TF P T.a 4 4 4:=⟨by kernel_rfl⟩
instance f_api_Class_5:TF P T.a 5 5 4:=⟨by kernel_rfl⟩
instance f_api_Class_6:TF P T.a 6 6 79:=⟨by kernel_rfl⟩
instance f_api_Class_7:TF P T.a 7 7 80:=⟨by kernel_rfl⟩
instance z_api_Field:TZ P T.k 3 40 (.agg #[.string ⟨#[]⟩, .string ⟨#[]⟩, .bool false]):=⟨by kernel_rfl⟩
instance g_api_Field:TG P T.k true:=⟨by kernel_rfl⟩
instance f_api_Field_0:TF P T.k 0 0 9:=⟨by kernel_rfl⟩
instance f_api_Field_1:TF P T.k 1 1 9:=⟨by kernel_rfl⟩
instance f_api_Field_2:TF P T.k 2 2 4:=⟨by kernel_rfl⟩
instance z_S_S_bool:TZ P T.a1 1 24 (.slice none 0 0):=⟨by kernel_rfl⟩
instance g_S_S_bool:TG P T.a1 false:=⟨by kernel_rfl⟩
instance s_S_S_bool:TS P T.a1 94:=⟨by kernel_rfl⟩
instance z_S_bool:TZ P T.a0 1 24 (.slice none 0 0):=⟨by kernel_rfl⟩
instance g_S_bool:TG P T.a0 false:=⟨by kernel_rfl⟩
instance s_S_bool:TS P T.a0 4:=⟨by kernel_rfl⟩
instance z_A10_string:TZ P T.ah 10 160 (.agg #[.string ⟨#[]⟩, .string ⟨#[]⟩, .string ⟨#[]⟩, .string ⟨#[]⟩, .string ⟨#[]⟩, .string ⟨#[]⟩, .string ⟨#[]⟩, .string ⟨#[]⟩, .string ⟨#[]⟩, .string ⟨#[]⟩]):=⟨by kernel_rfl⟩
instance g_A10_string:TG P T.ah true:=⟨by kernel_rfl⟩
instance a_A10_string:TA P T.ah 10 9:=⟨by kernel_rfl⟩
instance g_strings_asciiSet:TG P T.a4 true:=⟨by kernel_rfl⟩
instance a_strings_asciiSet:TA P T.a4 256 4:=⟨by kernel_rfl⟩
instance z_A6_string:TZ P T.ag 6 96 (.agg #[.string ⟨#[]⟩, .string ⟨#[]⟩, .string ⟨#[]⟩, .string ⟨#[]⟩, .string ⟨#[]⟩, .string ⟨#[]⟩]):=⟨by kernel_rfl⟩
instance g_A6_string:TG P T.ag true:=⟨by kernel_rfl⟩
instance a_A6_string:TA P T.ag 6 9:=⟨by kernel_rfl⟩
instance z_func_int:TZ P T.ai 1 8 .nilFunc:=⟨by kernel_rfl⟩
instance g_func_int:TG P T.ai false:=⟨by kernel_rfl⟩
instance z_M_string_string:TZ P T.q 1 8 (.map none):=⟨by kernel_rfl⟩
instance g_M_string_string:TG P T.q false:=⟨by kernel_rfl⟩
instance m_M_string_string:TM P T.q 9 9:=⟨by kernel_rfl⟩
instance z_func_api_Method_string:TZ P T.a2 1 8 .nilFunc:=⟨by kernel_rfl⟩
instance g_func_api_Method_string:TG P T.a2 false:=⟨by kernel_rfl⟩
instance z_func_api_Method_bool:TZ P T.a7 1 8 .nilFunc:=⟨by kernel_rfl⟩
instance g_func_api_Method_bool:TG P T.a7 false:=⟨by kernel_rfl⟩
instance z_func_string_string:TZ P T.a5 1 8 .nilFunc:=⟨by kernel_rfl⟩
instance g_func_string_string:TG P T.a5 false:=⟨by kernel_rfl⟩
instance z_func_api_Field_string:TZ P T.a3 1 8 .nilFunc:=⟨by kernel_rfl⟩
instance g_func_api_Field_string:TG P T.a3 false:=⟨by kernel_rfl⟩
instance z_func_api_Field_bool:TZ P T.a9 1 8 .nilFunc:=⟨by kernel_rfl⟩
instance g_func_api_Field_bool:TG P T.a9 false:=⟨by kernel_rfl⟩
instance z_api_Catch:TZ P T.p 4 40 (.agg #[.int .i64 0, .int .i64 0, .int .i64 0, .string ⟨#[]⟩]):=⟨by kernel_rfl⟩
instance g_api_Catch:TG P T.p true:=⟨by kernel_rfl⟩
instance f_api_Catch_0:TF P T.p 0 0 3:=⟨by kernel_rfl⟩
instance f_api_Catch_1:TF P T.p 1 1 3:=⟨by kernel_rfl⟩
instance f_api_Catch_2:TF P T.p 2 2 3:=⟨by kernel_rfl⟩
instance f_api_Catch_3:TF P T.p 3 3 9:=⟨by kernel_rfl⟩
instance z_func_api_Catch_bool:TZ P T.aa 1 8 .nilFunc:=⟨by kernel_rfl⟩
instance g_func_api_Catch_bool:TG P T.aa false:=⟨by kernel_rfl⟩
instance z_func_api_Instr_bool:TZ P T.ab 1 8 .nilFunc:=⟨by kernel_rfl⟩
instance g_func_api_Instr_bool:TG P T.ab false:=⟨by kernel_rfl⟩
instance z_S_uint8:TZ P T.am 1 24 (.slice none 0 0):=⟨by kernel_rfl⟩
instance g_S_uint8:TG P T.am false:=⟨by kernel_rfl⟩
instance s_S_uint8:TS P T.am 5:=⟨by kernel_rfl⟩
instance z_strings_Builder:TZ P T.ad 2 32 (.agg #[.pointer none, .slice none 0 0]):=⟨by kernel_rfl⟩
instance g_strings_Builder:TG P T.ad true:=⟨by kernel_rfl⟩
instance f_strings_Builder_0:TF P T.ad 0 0 185:=⟨by kernel_rfl⟩
instance f_strings_Builder_1:TF P T.ad 1 1 186:=⟨by kernel_rfl⟩
instance z_P_uint8:TZ P T.ap 1 8 (.pointer none):=⟨by kernel_rfl⟩
instance g_P_uint8:TG P T.ap false:=⟨by kernel_rfl⟩
instance g_A256_uint8:TG P T.an true:=⟨by kernel_rfl⟩
instance a_A256_uint8:TA P T.an 256 5:=⟨by kernel_rfl⟩
instance z_utf8_acceptRange:TZ P T.ac 2 2 (.agg #[.int .u8 0, .int .u8 0]):=⟨by kernel_rfl⟩
instance g_utf8_acceptRange:TG P T.ac true:=⟨by kernel_rfl⟩
instance f_utf8_acceptRange_0:TF P T.ac 0 0 5:=⟨by kernel_rfl⟩
instance f_utf8_acceptRange_1:TF P T.ac 1 1 5:=⟨by kernel_rfl⟩
instance z_A16_utf8_acceptRange:TZ P T.ae 32 32 (.agg #[.int .u8 0, .int .u8 0, .int .u8 0, .int .u8 0, .int .u8 0, .int .u8 0, .int .u8 0, .int .u8 0, .int .u8 0, .int .u8 0, .int .u8 0, .int .u8 0, .int .u8 0, .int .u8 0, .int .u8 0, .int .u8 0, .int .u8 0, .int .u8 0, .int .u8 0, .int .u8 0, .int .u8 0, .int .u8 0, .int .u8 0, .int .u8 0, .int .u8 0, .int .u8 0, .int .u8 0, .int .u8 0, .int .u8 0, .int .u8 0, .int .u8 0, .int .u8 0]):=⟨by kernel_rfl⟩
instance g_A16_utf8_acceptRange:TG P T.ae true:=⟨by kernel_rfl⟩
instance a_A16_utf8_acceptRange:TA P T.ae 16 202:=⟨by kernel_rfl⟩
instance z_code_op:TZ P T.a6 3 24 (.agg #[.string ⟨#[]⟩, .bool false, .bool false]):=⟨by kernel_rfl⟩
instance g_code_op:TG P T.a6 true:=⟨by kernel_rfl⟩
instance f_code_op_0:TF P T.a6 0 0 9:=⟨by kernel_rfl⟩
instance f_code_op_1:TF P T.a6 1 1 4:=⟨by kernel_rfl⟩
instance f_code_op_2:TF P T.a6 2 2 4:=⟨by kernel_rfl⟩
instance g_A42_code_op:TG P T.a8 true:=⟨by kernel_rfl⟩
instance a_A42_code_op:TA P T.a8 42 206:=⟨by kernel_rfl⟩
instance z_S_code_op:TZ P T.aj 1 24 (.slice none 0 0):=⟨by kernel_rfl⟩
instance g_S_code_op:TG P T.aj false:=⟨by kernel_rfl⟩
instance s_S_code_op:TS P T.aj 206:=⟨by kernel_rfl⟩
instance z_uint32:TZ P T.aq 1 4 (.int .u32 0):=⟨by kernel_rfl⟩
instance g_uint32:TG P T.aq false:=⟨by kernel_rfl⟩
instance z_uint64:TZ P T.ar 1 8 (.int .u64 0):=⟨by kernel_rfl⟩
instance g_uint64:TG P T.ar false:=⟨by kernel_rfl⟩
end Go.Proofs.YtfppjenblllfaaaGreatDoor

namespace Go.Emb
theorem aS {p:Prop} (h:p:=by (first | assumption | exact Stp.sat (by assumption) | exact Hst.sat (by assumption))):p:=h
theorem aL {p:Prop} (h:p:=by (first | assumption | exact Sl.lift (by assumption) (by (repeat (first | exact SLe.refl _ | refine SLe.more ?_ (by assumption) | refine SLe.more ?_ (Nxt.le (by assumption)) | refine SLe.step ?_ (by assumption)))) | exact Z2.lift (by assumption) (by (repeat (first | exact SLe.refl _ | refine SLe.more ?_ (by assumption) | refine SLe.more ?_ (Nxt.le (by assumption)) | refine SLe.step ?_ (by assumption)))) | exact I2.lift (by assumption) (by (repeat (first | exact SLe.refl _ | refine SLe.more ?_ (by assumption) | refine SLe.more ?_ (Nxt.le (by assumption)) | refine SLe.step ?_ (by assumption)))) | exact RCl_lift (by assumption) (by (repeat (first | exact SLe.refl _ | refine SLe.more ?_ (by assumption) | refine SLe.more ?_ (Nxt.le (by assumption)) | refine SLe.step ?_ (by assumption)))) | exact RMe_lift (by assumption) (by (repeat (first | exact SLe.refl _ | refine SLe.more ?_ (by assumption) | refine SLe.more ?_ (Nxt.le (by assumption)) | refine SLe.step ?_ (by assumption)))) | exact Glb.lift (by assumption) (by (repeat (first | exact SLe.refl _ | refine SLe.more ?_ (by assumption) | refine SLe.more ?_ (Nxt.le (by assumption)) | refine SLe.step ?_ (by assumption)))) | exact Tab.lift (by assumption) (by (repeat (first | exact SLe.refl _ | refine SLe.more ?_ (by assumption) | refine SLe.more ?_ (Nxt.le (by assumption)) | refine SLe.step ?_ (by assumption)))) | exact RIn_any (by assumption) | exact RFd_any (by assumption) | exact RCa_any (by assumption))):p:=h
theorem aR {p:Prop} (h:p:=by with_unfolding_all rfl):p:=h
theorem aF {p:Prop} (a:p:=by (refine Eq.subst (motive:=fun b=>K b _) ?_ (h _ _ (by (repeat (first | exact Stp.refl (by (first | assumption | exact Stp.sat (by assumption) | exact Hst.sat (by assumption))) | assumption | refine Stp.trans ?_ (by first | assumption | exact Hst.stp (by assumption))))));clear h;(try clear hA);(try clear hB);(try clear hC);first | rfl | ((try simp only[Bool.not_eq_true',Bool.not_eq_false',Bool.not_true,Bool.not_false,Bool.not_eq_true] at*);simp only[*,Mb,reduceIte];done) | (simp[*];done) | simp_all)):p:=a
theorem au {p:Prop} (h:p:=by (first | assumption | (first | assumption | exact Stp.sat (by assumption) | exact Hst.sat (by assumption)) | (first | assumption | exact Sl.lift (by assumption) (by (repeat (first | exact SLe.refl _ | refine SLe.more ?_ (by assumption) | refine SLe.more ?_ (Nxt.le (by assumption)) | refine SLe.step ?_ (by assumption)))) | exact Z2.lift (by assumption) (by (repeat (first | exact SLe.refl _ | refine SLe.more ?_ (by assumption) | refine SLe.more ?_ (Nxt.le (by assumption)) | refine SLe.step ?_ (by assumption)))) | exact I2.lift (by assumption) (by (repeat (first | exact SLe.refl _ | refine SLe.more ?_ (by assumption) | refine SLe.more ?_ (Nxt.le (by assumption)) | refine SLe.step ?_ (by assumption)))) | exact RCl_lift (by assumption) (by (repeat (first | exact SLe.refl _ | refine SLe.more ?_ (by assumption) | refine SLe.more ?_ (Nxt.le (by assumption)) | refine SLe.step ?_ (by assumption)))) | exact RMe_lift (by assumption) (by (repeat (first | exact SLe.refl _ | refine SLe.more ?_ (by assumption) | refine SLe.more ?_ (Nxt.le (by assumption)) | refine SLe.step ?_ (by assumption)))) | exact Glb.lift (by assumption) (by (repeat (first | exact SLe.refl _ | refine SLe.more ?_ (by assumption) | refine SLe.more ?_ (Nxt.le (by assumption)) | refine SLe.step ?_ (by assumption)))) | exact Tab.lift (by assumption) (by (repeat (first | exact SLe.refl _ | refine SLe.more ?_ (by assumption) | refine SLe.more ?_ (Nxt.le (by assumption)) | refine SLe.step ?_ (by assumption)))) | exact RIn_any (by assumption) | exact RFd_any (by assumption) | exact RCa_any (by assumption)) | exact Nat.le_trans (by assumption) (by decide) | omega)):p:=h
end Go.Emb
namespace Go.Proofs.YtfppjenblllfaaaGreatDoor
open Go.Emb
theorem X2e {a:List UInt8} {cs:List Bool} {r:TypeId} {w:World} {K:Value→World→Prop}:X6 P .len [T.b] r cs [S a] w K=K (I a.length) w:=D0 X7
theorem Q6U {c d:Operand} {a b:Bool} {w:World} {K:Value→World→Prop}:Q3 P .eql T.m c d (.bool a) (.bool b) w K=K (.bool (a==b)) w:=Q4u Pq
theorem X1Z {c d:Operand} {a b:Bool} {w:World} {K:Value→World→Prop}:Q3 P .neq T.m c d (.bool a) (.bool b) w K=K (.bool (!(a==b))) w:=Q54 Pq
def Mm:=And.intro @fa <| And.intro @E6 <| And.intro @Qf <| And.intro @X2e <| And.intro @Q6U @X1Z
def M1:=And.intro Mm Mr
def M2:=And.intro Mm Mp
end Go.Proofs.YtfppjenblllfaaaGreatDoor

namespace Go.Proofs.YtfppjenblllfaaaGreatDoor
open Go.Emb Go.RowKit Go.Kd Go.Hm
variable {w : World} {K : Value → World → Prop} {σ : Q4}
def Uh (m:Hm.Met):Bool:=decide (32<m.params.length)||decide (32<m.catches.length)||decide (200<m.code.length)||decide (64<m.locals)
def Xv (c:Cla):Bool:=c.methods.any Uh||decide (32<c.like.length)||decide (32<c.fields.length)||decide (32<c.methods.length)
theorem X1i {c : Cla} {cs : List Value} (hs : X4 w σ) (hc : U5 σ c cs) (h : ∀ w', Below w.heap.size w w' → K (.bool (Xv c)) w') : Q0 P F.ct [.agg cs.toArray] w K := Q3J (by
  obtain ⟨lv, fv, mv, rfl, hl, hf, hm, hn, hsu⟩ := hc
  unfold Tb
  refine M8 hs fun a w1 σ1 hk ha => ?_
  have hs := hk.sat
  replace hl := hl.up hk
  replace hf := hf.up hk
  replace hm := hm.up hk
  simp only [Value.cells] at ha
  ((try simp only [↓M1, M1, Mb, reduceIte]); repeat ((first | refine ld (by assumption) (by assumption) rfl ?_ | refine X8 (by assumption) (by assumption) rfl ?_ | refine Q8 (by assumption) ?_); (try simp only [↓M1, M1, Mb, reduceIte])))
  refine Z8 c.methods.length (fun n w' => Below w1.heap.size w1 w' ∧ ((c.methods.take n).any Uh) = false) ⟨Below.refl _ _, by simp⟩ fun n w2 d hn hi => ?_
  obtain ⟨hb, hp⟩ := hi
  have hs2 := hs.below hb
  ((try simp only [↓M1, M1, Mb, reduceIte]); repeat ((first | refine ld (by assumption) (by assumption) rfl ?_ | refine X8 (by assumption) (by assumption) rfl ?_ | refine Q8 (by assumption) ?_); (try simp only [↓M1, M1, Mb, reduceIte])))
  refine Q5 (fun hc => ?_) (fun hc => ?_)
  · have hn' : n < c.methods.length := by simpa using hc
    refine L7 hm hn' fun p cs hl1 hlen hr => ?_
    refine Y7 hs2 hl1 hlen ?_
    refine Y6 hs2 (by rfl) hlen (Rep.one hr) fun q w3 σ3 hk3 hq => ?_
    obtain ⟨pv, cv, hv, rfl, g1, g2, g3, g4⟩ := hr
    have hs3 := hk3.sat
    replace g1 := g1.up hk3
    replace g2 := g2.up hk3
    replace g3 := g3.up hk3
    ((try simp only [↓M1, M1, Mb, reduceIte]); repeat ((first | refine ld (by assumption) (by assumption) rfl ?_ | refine X8 (by assumption) (by assumption) rfl ?_ | refine Q8 (by assumption) ?_); (try simp only [↓M1, M1, Mb, reduceIte])))
    (repeat' ((first | refine Z4 (fun hh => ?_) (fun hh => ?_) | refine Q5 (fun hh => ?_) (fun hh => ?_)) <;> (try simp only [hh, Bool.not_true, Bool.not_false, ↓M1, M1, Mb, reduceIte]) <;> ((try simp only [↓M1, M1, Mb, reduceIte]); repeat ((first | refine ld (by assumption) (by assumption) rfl ?_ | refine X8 (by assumption) (by assumption) rfl ?_ | refine Q8 (by assumption) ?_); (try simp only [↓M1, M1, Mb, reduceIte])))))
    all_goals first
      | refine Y2 hm.max hn' ⟨bt hb hk3.bel, ?_⟩
        rw [M3 hn', hp]; simp only [Uh]; (first | (simp only [decide_eq_true_eq, decide_eq_false_iff_not, Bool.not_true, Bool.not_false, Bool.not_eq_true', Bool.not_eq_false', Bool.or_eq_true, Bool.and_eq_true, Bool.or_eq_false_iff, Bool.and_eq_false_iff, Bool.false_or, Bool.true_and, Bool.or_false, Bool.and_true] at *; first | omega | (and_intros <;> omega)) | (rw [Bool.eq_iff_iff]; (simp only [decide_eq_true_eq, decide_eq_false_iff_not, Bool.not_true, Bool.not_false, Bool.not_eq_true', Bool.not_eq_false', Bool.or_eq_true, Bool.and_eq_true, Bool.or_eq_false_iff, Bool.and_eq_false_iff, Bool.false_or, Bool.true_and, Bool.or_false, Bool.and_true] at *; first | omega | (and_intros <;> omega))))
      | have e : Xv c = true := by
          have : Uh c.methods[n] = true := by simp only [Uh]; (first | (simp only [decide_eq_true_eq, decide_eq_false_iff_not, Bool.not_true, Bool.not_false, Bool.not_eq_true', Bool.not_eq_false', Bool.or_eq_true, Bool.and_eq_true, Bool.or_eq_false_iff, Bool.and_eq_false_iff, Bool.false_or, Bool.true_and, Bool.or_false, Bool.and_true] at *; first | omega | (and_intros <;> omega)) | (rw [Bool.eq_iff_iff]; (simp only [decide_eq_true_eq, decide_eq_false_iff_not, Bool.not_true, Bool.not_false, Bool.not_eq_true', Bool.not_eq_false', Bool.or_eq_true, Bool.and_eq_true, Bool.or_eq_false_iff, Bool.and_eq_false_iff, Bool.false_or, Bool.true_and, Bool.or_false, Bool.and_true] at *; first | omega | (and_intros <;> omega))))
          simp [Xv, C0 hn' this]
        rw [← e]; exact h _ (bt hk.bel (bt hb hk3.bel))
  · have hn' : ¬ n < c.methods.length := by simpa using hc
    rw [O9 hn'] at hp
    have h := h w2 (bt hk.bel hb)
    ((try simp only [↓M1, M1, Mb, reduceIte]); repeat ((first | refine ld (by assumption) (by assumption) rfl ?_ | refine X8 (by assumption) (by assumption) rfl ?_ | refine Q8 (by assumption) ?_); (try simp only [↓M1, M1, Mb, reduceIte])))
    (repeat' ((first | refine Z4 (fun hh => ?_) (fun hh => ?_) | refine Q5 (fun hh => ?_) (fun hh => ?_)) <;> (try simp only [hh, Bool.not_true, Bool.not_false, ↓M1, M1, Mb, reduceIte]) <;> ((try simp only [↓M1, M1, Mb, reduceIte]); repeat ((first | refine ld (by assumption) (by assumption) rfl ?_ | refine X8 (by assumption) (by assumption) rfl ?_ | refine Q8 (by assumption) ?_); (try simp only [↓M1, M1, Mb, reduceIte])))))
    all_goals
      refine Eq.subst (motive := fun b => K (.bool b) w2) ?_ h
      simp only [Xv, hp]
      (first | (simp only [decide_eq_true_eq, decide_eq_false_iff_not, Bool.not_true, Bool.not_false, Bool.not_eq_true', Bool.not_eq_false', Bool.or_eq_true, Bool.and_eq_true, Bool.or_eq_false_iff, Bool.and_eq_false_iff, Bool.false_or, Bool.true_and, Bool.or_false, Bool.and_true] at *; first | omega | (and_intros <;> omega)) | (rw [Bool.eq_iff_iff]; (simp only [decide_eq_true_eq, decide_eq_false_iff_not, Bool.not_true, Bool.not_false, Bool.not_eq_true', Bool.not_eq_false', Bool.or_eq_true, Bool.and_eq_true, Bool.or_eq_false_iff, Bool.and_eq_false_iff, Bool.false_or, Bool.true_and, Bool.or_false, Bool.and_true] at *; first | omega | (and_intros <;> omega)))))
end Go.Proofs.YtfppjenblllfaaaGreatDoor
