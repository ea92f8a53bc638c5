/- Parts of a proof about the given program: its functions as texts of their own, what each computes, plain laws of that. The conditions of each stand in its statement. -/
import Derived.Test.YtjdiakhipmggjaaGreatDoorB1
import Derived.Below
import Derived.Maps.AppendAt
set_option linter.unnecessarySimpa false
set_option linter.defProp false
set_option linter.unusedSectionVars false
set_option linter.unusedVariables false
set_option linter.unusedSimpArgs false
set_option maxRecDepth 100000
namespace Go.Proofs.YtjdiakhipmggjaaGreatDoor
open Go.Emb
def Ab:V6:=[none,none,none,none,none,none,some ([38],[4,5,6,38,39,40,41,42,43,44,45,46,47,48,49,50,51]),none,none,none,none,none,none,none]
def Oa (a0 a1:Value) (w:World) (K:Value→World→Prop):Prop:= box P T.m a1 w fun e w=>dr w fun b d=>Q6 b (fun φ7=> ∀w,d w→fieldAddr P T.m e 0 w (dk b φ7 w)) fun φ7=>Q6 b (fun φ8=> ∀t7 w,d w→φ7 t7 w→Q2 P T.c t7 w (dk b φ8 w)) fun φ8=>Q6 b (fun φ9=> ∀t8 w,d w→φ8 t8 w→Q1 P F.c5 [t8] w (dk b φ9 w)) fun φ9=>Q6 b (fun g=> ∀t9 w,d w→φ9 t9 w→Q3 P .eql T.c (.tmp 9) (.const (.string ⟨#[]⟩)) t9 (.string ⟨#[]⟩) w (dk b g w)) fun g=>Q6 b (fun u=> ∀c w,d w→g c w→Q0 c true w (fun w J=>J a0 w) (dk b u w)) fun u=>Q6 b (fun O=> ∀c C w,d w→g c w→u C w→Q0 c true w (nilCheck P C) (dk b O w)) fun O=>Q6 b (fun v=> ∀c ag w,d w→g c w→O ag w→Q0 c true w (fieldAddr P T.p ag 0) (dk b v w)) fun v=>Q6 b (fun ad=> ∀c w,d w→g c w→Q0 c true w (fieldAddr P T.m e 0) (dk b ad w)) fun ad=>Q6 b (fun L=> ∀c Z w,d w→g c w→v Z w→Q0 c true w (Q2 P T.r Z) (dk b L w)) fun L=>Q6 b (fun E=> ∀c o w,d w→g c w→ad o w→Q0 c true w (Q2 P T.c o) (dk b E w)) fun E=>Q6 b (fun af=> ∀c r Q w,d w→g c w→L r w→E Q w→Q0 c true w (Q1 P F.aC [r,Q]) (dk b af w)) fun af=>Q6 b (fun ae=> ∀c ab w,d w→g c w→af ab w→Q0 c true w (J6 P .not ab) (dk b ae w)) fun ae=>Q6 b (fun f=> ∀c aa w,d w→g c w→ae aa w→Q0 c true w (fun w J=>J aa w) (dk b f w)) fun f=>Q6 b (fun l=> ∀a w,d w→f a w→Q0 a false w (fieldAddr P T.m e 1) (dk b l w)) fun l=>Q6 b (fun j=> ∀a w,d w→f a w→Q0 a false w (fun w J=>J a0 w) (dk b j w)) fun j=>Q6 b (fun n=> ∀a V w,d w→f a w→j V w→Q0 a false w (nilCheck P V) (dk b n w)) fun n=>Q6 b (fun M=> ∀a s w,d w→f a w→n s w→Q0 a false w (fieldAddr P T.p s 0) (dk b M w)) fun M=>Q6 b (fun y=> ∀a w,d w→f a w→Q0 a false w (fieldAddr P T.m e 0) (dk b y w)) fun y=>Q6 b (fun X=> ∀a i w,d w→f a w→l i w→Q0 a false w (Q2 P T.l i) (dk b X w)) fun X=>Q6 b (fun al=> ∀a p w,d w→f a w→X p w→Q0 a false w (X3 P .len [T.l] T.e [false] [p]) (dk b al w)) fun al=>Q6 b (fun ah=> ∀a t w,d w→f a w→M t w→Q0 a false w (Q2 P T.r t) (dk b ah w)) fun ah=>Q6 b (fun m=> ∀a D w,d w→f a w→y D w→Q0 a false w (Q2 P T.c D) (dk b m w)) fun m=>Q6 b (fun W=> ∀a q ac w,d w→f a w→ah q w→m ac w→Q0 a false w (Q1 P F.a2 [q,ac]) (dk b W w)) fun W=>Q6 b (fun am=> ∀a U w,d w→f a w→W U w→Q0 a false w (X3 P .len [T.k] T.e [false] [U]) (dk b am w)) fun am=>∀t7 t8 t9 c C ag Z o r Q ab aa a i V s t D p av q ac U az w,d w→φ7 t7 w→φ8 t8 w→φ9 t9 w→g c w→u C w→O ag w→v Z w→ad o w→L r w→E Q w→af ab w→ae aa w→f a w→l i w→j V w→n s w→M t w→y D w→X p w→al av w→ah q w→m ac w→W U w→am az w→ Q0 a false w (Q3 P .neq T.e (.tmp 23) (.tmp 31) av az) fun be w=>Q0 c true w (pick P a (.bool true) be) fun bj w=>pick P c bj (.bool false) w fun bf w=>X1 bf (K (.bool false) w) (fieldAddr P T.m e 1 w fun bb w=>Q2 P T.l bb w fun ay w=>X3 P .len [T.l] T.e [false] [ay] w fun bc w=>lp (α:=Value) (.int .i64 0) w fun B x6 d_ w=>Q3 P .lss T.e (.tmp 38) (.tmp 37) x6 bc w fun bh w=>X1 bh (indexAddr P T.l ay x6 w fun bk w=>Q2 P T.g bk w fun a9 w=>V9 P T.g w fun h w=>Y0 P T.g h a9 w fun _u w=>dr w fun b d=>Q6 b (fun an=> ∀w,d w→Q2 P T.g h w (dk b an w)) fun an=>Q6 b (fun H=> ∀w,d w→Q2 P T.m e w (dk b H w)) fun H=>Q6 b (fun ak=> ∀R w,d w→H R w→Q1 P F.aB [a0,R,x6] w (dk b ak w)) fun ak=>∀aw R ax w,d w→an aw w→H R w→ak ax w→ Q1 P F.aA [a0,aw,ax] w fun ba w=>J6 P .not ba w fun bi w=>X1 bi (K (.bool false) w) (Q3 P .add T.e (.tmp 38) (.const (.int .i64 1)) x6 (.int .i64 1) w fun bd w=>B bd w)) (dr w fun b d=>Q6 b (fun z=> ∀w,d w→nilCheck P a0 w (dk b z w)) fun z=>Q6 b (fun N=> ∀ai w,d w→z ai w→fieldAddr P T.p ai 0 w (dk b N w)) fun N=>Q6 b (fun A=> ∀w,d w→fieldAddr P T.m e 0 w (dk b A w)) fun A=>Q6 b (fun aj=> ∀k w,d w→N k w→Q2 P T.r k w (dk b aj w)) fun aj=>Q6 b (fun ao=> ∀Y w,d w→A Y w→Q2 P T.c Y w (dk b ao w)) fun ao=>∀ai k Y ap aq w,d w→z ai w→N k w→A Y w→aj ap w→ao aq w→ Q1 P F.s [ap,aq] w fun bg w=>K bg w))
theorem Q04 {a b:Value} {w:World} {K:Value→World→Prop} (h:Oa a b w K):Q1 P F.bD [a,b] w K:=Q9 Ab Tryz.func55 rfl (by decide) (by kernel_rfl) h
def Lm (f g:Value) (w:World) (K:Value→World→Prop):Prop:= box P T.m f w fun a w=>Q2 P T.a5 g w fun b w=>Q2 P T.m a w fun e w=>Q1 P F.bD [b,e] w fun d w=>J6 P .not d w fun c w=>K c w
theorem Fx {a b:Value} {w:World} {K:Value→World→Prop} (h:Lm a b w K):Q1 P F.cs [a,b] w K:=Q9 (List.replicate 2 none) Tryz.func54 rfl (by decide) (by kernel_rfl) h
def Oj (h:Value) (w:World) (K:Value→World→Prop):Prop:= box P T.a5 h w fun a w=>Q2 P T.a5 a w fun i w=>nilCheck P i w fun d w=>fieldAddr P T.p d 3 w fun g w=>Q2 P T.f g w fun f w=>E8 P (.func F.cs) [] [a] w fun e w=>Q1 P F.o [f,e] w fun c w=>J6 P .not c w fun b w=>K b w
theorem Aa {a:Value} {w:World} {K:Value→World→Prop} (h:Oj a w K):Q1 P F.aP [a] w K:=Q9 (List.replicate 2 none) Tryz.func23 rfl (by decide) (by kernel_rfl) h
def Q36 (h e:Value) (w:World) (K:Value→World→Prop):Prop:= Q3 P .lss T.e (.tmp 6) (.const (.int .i64 0)) e (.int .i64 0) w fun a w=>Q0 a false w (fun w J=>J e w) fun g w=>Q0 a false w (Q3 P .gtr T.e (.tmp 9) (.const (.int .i64 1048576)) g (.int .i64 1048576)) fun b w=>pick P a (.bool true) b w fun d w=>X1 d (K (.tuple #[(.pointer none),(.int .i64 90)]) w) (H1 P T.p [(0,h),(1,e)] w fun c w=>box P T.p c w fun f w=>K (.tuple #[f,(.int .i64 0)]) w)
theorem Q8n {a b:Value} {w:World} {K:Value→World→Prop} (h:Q36 a b w K):Q1 P F.cO [a,b] w K:=Q9 (List.replicate 5 none) Tryz.func15 rfl (by decide) (by kernel_rfl) h
def Gy:V6:=[none,none,none,none,none,some ([1,3],[1,3,10,11,12,13,14,15,16,17,18,19,20,21,22,23]),none,none,none,none]
def Ni (w:World) (K:Value→World→Prop):Prop:= H1 P T.b [(0,(.string ⟨#[79,98,106,101,99,116]⟩))] w fun p w=>H1 P T.o [(0,(.string ⟨#[119,104,97,116]⟩)),(1,(.string ⟨#[116,101,120,116]⟩))] w fun o w=>buildSlice P T.k 1 [(0,o)] w fun n w=>H1 P T.b [(0,(.string ⟨#[70,97,117,108,116]⟩)),(1,(.string ⟨#[79,98,106,101,99,116]⟩)),(6,n)] w fun m w=>buildSlice P T.i 2 [(0,p),(1,m)] w fun l w=>buildSlice P T.h 6 [(0,(.string ⟨#[78,117,108,108,70,97,117,108,116]⟩)),(1,(.string ⟨#[73,110,100,101,120,70,97,117,108,116]⟩)),(2,(.string ⟨#[67,97,115,116,70,97,117,108,116]⟩)),(3,(.string ⟨#[90,101,114,111,70,97,117,108,116]⟩)),(4,(.string ⟨#[82,111,111,109,70,97,117,108,116]⟩)),(5,(.string ⟨#[67,97,108,108,70,97,117,108,116]⟩))] w fun k w=>lp (α:=Value×Value) (l,(.int .i64 0)) w fun a b q w=>X3 P .len [T.h] T.e [false] [k] w fun i w=>Q3 P .lss T.e (.tmp 10) (.tmp 12) b.2 i w fun j w=>X1 j (indexAddr P T.h k b.2 w fun g w=>Q2 P T.c g w fun d w=>H1 P T.b [(0,d),(1,(.string ⟨#[70,97,117,108,116]⟩)),(5,(.bool true))] w fun c w=>buildSlice P T.i 1 [(0,c)] w fun e w=>X3 P .append [T.i,T.i] T.i [false,false] [b.1,e] w fun h w=>Q3 P .add T.e (.tmp 14) (.const (.int .i64 1)) b.2 (.int .i64 1) w fun f w=>a (h,f) w) (K b.1 w)
theorem Kh {w:World} {K:Value→World→Prop} (h:Ni w K):Q1 P F.bq [] w K:=Q9 Gy Tryz.func99 rfl (by decide) (by kernel_rfl) h
def Tv:V6:=[none,none,none,some ([3],[2,3,4,5,6,7,8,9,10,11,12,13,14,15,16,17,18,19,20,21,22,23,24,25,26,27,28,29,30,31,32,33,34,35,36,37]),none,none,none,none,none,none,none]
def Ot (a0:Value) (w:World) (K:Value→World→Prop):Prop:= box P T.b a0 w fun a w=>lp (α:=Value) (.int .i64 0) w fun h D d_ w=>fieldAddr P T.b a 7 w fun t6 w=>Q2 P T.j t6 w fun t7 w=>X3 P .len [T.j] T.e [false] [t7] w fun Z w=>Q3 P .lss T.e (.tmp 5) (.tmp 8) D Z w fun Y w=>X1 Y (fieldAddr P T.b a 7 w fun O w=>Q2 P T.j O w fun R w=>indexAddr P T.j R D w fun r w=>Q2 P T.d r w fun m w=>V9 P T.d w fun b w=>Y0 P T.d b m w fun _u w=>fieldAddr P T.d b 1 w fun t w=>Q2 P T.h t w fun J w=>X3 P .len [T.h] T.e [false] [J] w fun A w=>Q3 P .gtr T.e (.tmp 19) (.const (.int .i64 32)) A (.int .i64 32) w fun c w=>Q0 c false w (fieldAddr P T.d b 6) fun p w=>Q0 c false w (Q2 P T.s p) fun N w=>Q0 c false w (X3 P .len [T.s] T.e [false] [N]) fun v w=>Q0 c false w (Q3 P .gtr T.e (.tmp 24) (.const (.int .i64 32)) v (.int .i64 32)) fun s w=>pick P c (.bool true) s w fun d w=>Q0 d false w (fieldAddr P T.d b 5) fun Q w=>Q0 d false w (Q2 P T.q Q) fun M w=>Q0 d false w (X3 P .len [T.q] T.e [false] [M]) fun y w=>Q0 d false w (Q3 P .gtr T.e (.tmp 30) (.const (.int .i64 200)) y (.int .i64 200)) fun V w=>pick P d (.bool true) V w fun g w=>Q0 g false w (fieldAddr P T.d b 4) fun L w=>Q0 g false w (Q2 P T.e L) fun j w=>Q0 g false w (Q3 P .gtr T.e (.tmp 35) (.const (.int .i64 64)) j (.int .i64 64)) fun U w=>pick P g (.bool true) U w fun l w=>X1 l (K (.bool true) w) (Q3 P .add T.e (.tmp 10) (.const (.int .i64 1)) D (.int .i64 1) w fun E w=>h E w)) (fieldAddr P T.b a 2 w fun k w=>Q2 P T.h k w fun q w=>X3 P .len [T.h] T.e [false] [q] w fun B w=>Q3 P .gtr T.e (.tmp 40) (.const (.int .i64 32)) B (.int .i64 32) w fun e w=>Q0 e false w (fieldAddr P T.b a 6) fun W w=>Q0 e false w (Q2 P T.k W) fun n w=>Q0 e false w (X3 P .len [T.k] T.e [false] [n]) fun u w=>Q0 e false w (Q3 P .gtr T.e (.tmp 45) (.const (.int .i64 32)) u (.int .i64 32)) fun z w=>pick P e (.bool true) z w fun f w=>Q0 f false w (fieldAddr P T.b a 7) fun i w=>Q0 f false w (Q2 P T.j i) fun C w=>Q0 f false w (X3 P .len [T.j] T.e [false] [C]) fun o w=>Q0 f false w (Q3 P .gtr T.e (.tmp 51) (.const (.int .i64 32)) o (.int .i64 32)) fun H w=>pick P f (.bool true) H w fun X w=>K X w)
theorem Aq {a:Value} {w:World} {K:Value→World→Prop} (h:Ot a w K):Q1 P F.bI [a] w K:=Q9 Tv Tryz.func147 rfl (by decide) (by kernel_rfl) h
def Al:V6:=[none,none,none,some ([0,3],[0,3,4,5,6,7,8,9,10,11,12,13,14,15,16,17,18,19,20,21]),none,none,none,none]
def Ol (p:Value) (w:World) (K:Value→World→Prop):Prop:= lp (α:=Value×Value) (p,(.int .i64 0)) w fun a c q w=>X3 P .len [T.c] T.e [false] [c.1] w fun o w=>Q3 P .geq T.e (.tmp 5) (.const (.int .i64 2)) o (.int .i64 2) w fun b w=>Q0 b true w (fun w J=>J c.1 w) fun n w=>Q0 b true w (fun w J=>J c.1 w) fun m w=>Q0 b true w (X3 P .len [T.c] T.e [false] [m]) fun k w=>Q0 b true w (Q3 P .sub T.e (.tmp 10) (.const (.int .i64 2)) k (.int .i64 2)) fun i w=>Q0 b true w (R6 P T.c n (some i) none none) fun j w=>Q0 b true w (Q3 P .eql T.c (.tmp 12) (.const (.string ⟨#[91,93]⟩)) j (.string ⟨#[91,93]⟩)) fun l w=>pick P b l (.bool false) w fun g w=>X1 g (Q3 P .add T.e (.tmp 15) (.const (.int .i64 1)) c.2 (.int .i64 1) w fun f w=>X3 P .len [T.c] T.e [false] [c.1] w fun h w=>Q3 P .sub T.e (.tmp 19) (.const (.int .i64 2)) h (.int .i64 2) w fun e w=>R6 P T.c c.1 none (some e) none w fun d w=>a (d,f) w) (K c.2 w)
theorem Aj {a:Value} {w:World} {K:Value→World→Prop} (h:Ol a w K):Q1 P F.a1 [a] w K:=Q9 Al Tryz.func107 rfl (by decide) (by kernel_rfl) h
def Ph:V6:=[none,none,none,some ([4],[4,5,6,7]),none,none,none,none]
def Mi (a:Value) (w:World) (K:Value→World→Prop):Prop:= jn (α:=Value) w (fun b w=>Q3 P .eql T.c (.tmp 3) (.const (.string ⟨#[105,110,116]⟩)) a (.string ⟨#[105,110,116]⟩) w fun d w=>X1 d (b d w) (Q3 P .eql T.c (.tmp 3) (.const (.string ⟨#[98,111,111,108]⟩)) a (.string ⟨#[98,111,111,108]⟩) w fun c w=>X1 c (b c w) (Q3 P .eql T.c (.tmp 3) (.const (.string ⟨#[116,101,120,116]⟩)) a (.string ⟨#[116,101,120,116]⟩) w fun e w=>b e w))) fun f g w=>X1 f (K (.bool true) w) (K (.bool false) w)
theorem Pv {a:Value} {w:World} {K:Value→World→Prop} (h:Mi a w K):Q1 P F.x [a] w K:=Q9 Ph Tryz.func111 rfl (by decide) (by kernel_rfl) h
def Az:V6:=[none,none,none,some ([3],[2,3,4,5,6,7,8,9,10,11,12,13,14,15,16,17,18,19,20,21,22,23,24,25,26,27,28,29,30,31,32,33,34,35,36,37,38,39,40,41,42,43,44,45,46,47,48,49,50]),none,none,none,none,none,none,none]
def Og (h:Value) (w:World) (K:Value→World→Prop):Prop:= lp (α:=Value) (.int .i64 0) w fun j g d_ w=>X3 P .len [T.c] T.e [false] [h] w fun t7 w=>Q3 P .lss T.e (.tmp 5) (.tmp 7) g t7 w fun t8 w=>X1 t8 (S9 P T.c h g w fun V w=>Q3 P .geq T.a3 (.tmp 13) (.const (.int .u8 97)) V (.int .u8 97) w fun f w=>Q0 f true w (fun w J=>J h w) fun o w=>Q0 f true w (fun w J=>J g w) fun s w=>Q0 f true w (S9 P T.c o s) fun M w=>Q0 f true w (Q3 P .leq T.a3 (.tmp 18) (.const (.int .u8 122)) M (.int .u8 122)) fun B w=>pick P f B (.bool false) w fun a w=>Q0 a false w (fun w J=>J h w) fun p w=>Q0 a false w (fun w J=>J g w) fun Q w=>Q0 a false w (S9 P T.c p Q) fun y w=>Q0 a false w (Q3 P .geq T.a3 (.tmp 24) (.const (.int .u8 65)) y (.int .u8 65)) fun t w=>Q0 a false w (fun w J=>J t w) fun e w=>Q0 e true w (fun w J=>J h w) fun q w=>Q0 e true w (fun w J=>J g w) fun R w=>Q0 e true w (S9 P T.c q R) fun N w=>Q0 e true w (Q3 P .leq T.a3 (.tmp 29) (.const (.int .u8 90)) N (.int .u8 90)) fun z w=>Q0 a false w (pick P e z (.bool false)) fun Y w=>pick P a (.bool true) Y w fun C w=>J6 P .not C w fun b w=>Q0 b true w (fun w J=>J g w) fun X w=>Q0 b true w (Q3 P .eql T.e (.tmp 36) (.const (.int .i64 0)) X (.int .i64 0)) fun n w=>Q0 b true w (fun w J=>J n w) fun c w=>Q0 c false w (fun w J=>J h w) fun aa w=>Q0 c false w (fun w J=>J g w) fun D w=>Q0 c false w (S9 P T.c aa D) fun O w=>Q0 c false w (Q3 P .lss T.a3 (.tmp 41) (.const (.int .u8 48)) O (.int .u8 48)) fun k w=>Q0 b true w (pick P c (.bool true) k) fun Z w=>Q0 b true w (fun w J=>J Z w) fun d w=>Q0 d false w (fun w J=>J h w) fun u w=>Q0 d false w (fun w J=>J g w) fun v w=>Q0 d false w (S9 P T.c u v) fun W w=>Q0 d false w (Q3 P .gtr T.a3 (.tmp 47) (.const (.int .u8 57)) W (.int .u8 57)) fun A w=>Q0 b true w (pick P d (.bool true) A) fun l w=>pick P b l (.bool false) w fun E w=>X1 E (K (.bool false) w) (Q3 P .add T.e (.tmp 9) (.const (.int .i64 1)) g (.int .i64 1) w fun U w=>j U w)) (X3 P .len [T.c] T.e [false] [h] w fun H w=>Q3 P .geq T.e (.tmp 52) (.const (.int .i64 1)) H (.int .i64 1) w fun i w=>Q0 i true w (fun w J=>J h w) fun m w=>Q0 i true w (X3 P .len [T.c] T.e [false] [m]) fun L w=>Q0 i true w (Q3 P .leq T.e (.tmp 56) (.const (.int .i64 32)) L (.int .i64 32)) fun r w=>pick P i r (.bool false) w fun ab w=>K ab w)
theorem Ad {a:Value} {w:World} {K:Value→World→Prop} (h:Og a w K):Q1 P F.b0 [a] w K:=Q9 Az Tryz.func190 rfl (by decide) (by kernel_rfl) h
def Mc (b:Value) (w:World) (K:Value→World→Prop):Prop:= Q1 P F.b0 [b] w fun a w=>Q0 a true w (fun w J=>J b w) fun f w=>Q0 a true w (S9 P T.c f (.int .i64 0)) fun e w=>Q0 a true w (Q3 P .leq T.a3 (.tmp 7) (.const (.int .u8 90)) e (.int .u8 90)) fun d w=>pick P a d (.bool false) w fun c w=>K c w
theorem Kj {a:Value} {w:World} {K:Value→World→Prop} (h:Mc a w K):Q1 P F.d [a] w K:=Q9 (List.replicate 2 none) Tryz.func160 rfl (by decide) (by kernel_rfl) h
def Ms (j:Value) (w:World) (K:Value→World→Prop):Prop:= Q1 P F.a1 [j] w fun m w=>X3 P .len [T.c] T.e [false] [j] w fun n w=>Q3 P .mul T.e (.const (.int .i64 2)) (.tmp 10) (.int .i64 2) m w fun h w=>Q3 P .sub T.e (.tmp 9) (.tmp 11) n h w fun e w=>R6 P T.c j none (some e) none w fun c w=>Q3 P .leq T.e (.tmp 14) (.const (.int .i64 3)) m (.int .i64 3) w fun a w=>Q0 a true w (fun w J=>J c w) fun l w=>Q0 a true w (Q1 P F.x [l]) fun k w=>Q0 a true w (fun w J=>J k w) fun b w=>Q0 b false w (fun w J=>J c w) fun g w=>Q0 b false w (Q1 P F.d [g]) fun f w=>Q0 a true w (pick P b (.bool true) f) fun i w=>pick P a i (.bool false) w fun d w=>K d w
theorem Kv {a:Value} {w:World} {K:Value→World→Prop} (h:Ms a w K):Q1 P F.e [a] w K:=Q9 (List.replicate 4 none) Tryz.func118 rfl (by decide) (by kernel_rfl) h
def Wv (b:Value) (w:World) (K:Value→World→Prop):Prop:= Q1 P F.b0 [b] w fun a w=>Q0 a true w (fun w J=>J b w) fun f w=>Q0 a true w (S9 P T.c f (.int .i64 0)) fun e w=>Q0 a true w (Q3 P .geq T.a3 (.tmp 7) (.const (.int .u8 97)) e (.int .u8 97)) fun d w=>pick P a d (.bool false) w fun c w=>K c w
theorem Gv {a:Value} {w:World} {K:Value→World→Prop} (h:Wv a w K):Q1 P F.u [a] w K:=Q9 (List.replicate 2 none) Tryz.func181 rfl (by decide) (by kernel_rfl) h
def Nt (j l:Value) (w:World) (K:Value→World→Prop):Prop:= X3 P .len [T.c] T.e [false] [j] w fun n w=>Q3 P .lss T.e (.tmp 5) (.tmp 7) l n w fun b w=>Q0 b true w (fun w J=>J j w) fun e w=>Q0 b true w (fun w J=>J l w) fun i w=>Q0 b true w (S9 P T.c e i) fun d w=>Q0 b true w (Q3 P .geq T.a3 (.tmp 12) (.const (.int .u8 128)) d (.int .u8 128)) fun f w=>pick P b f (.bool false) w fun a w=>Q0 a true w (fun w J=>J j w) fun c w=>Q0 a true w (fun w J=>J l w) fun m w=>Q0 a true w (S9 P T.c c m) fun k w=>Q0 a true w (Q3 P .lss T.a3 (.tmp 18) (.const (.int .u8 192)) k (.int .u8 192)) fun g w=>pick P a g (.bool false) w fun h w=>K h w
theorem Pj {a b:Value} {w:World} {K:Value→World→Prop} (h:Nt a b w K):Q1 P F.r [a,b] w K:=Q9 (List.replicate 2 none) Tryz.func154 rfl (by decide) (by kernel_rfl) h
def Ax:V6:=[none,none,some ([],[2,4,5,9,10,11,12,13,14,15,16,17,18,19,20,21,22,23,24,25,26,27,28,29,30,31,32,33,34,35,36,37,38,39,40,41,42,43,44,45,46,47,48,49,50,51,52,53,54,55,56,57,58,59,60,61,62,63,64,65,66,67,68,69,70,71,72,73,74,75,76,77,78,79,80,81,82,83,84,85,86,87,88,89,90,91,92,93,94,95,96,97,98,99,100,101,102,103,104,105,106]),none,none,none,none,none,none,none,none,none,none,none,none,none]
def Ou (c:Value) (w:World) (K:Value→World→Prop):Prop:= S9 P T.c c (.int .i64 0) w fun t7 w=>conv P T.a3 T.e t7 w fun H w=>jn (α:=Unit) w (fun J2 w=>Q3 P .lss T.e (.tmp 10) (.const (.int .i64 128)) H (.int .i64 128) w fun bv w=>X1 bv (K (.int .i64 1) w) (Q3 P .geq T.e (.tmp 13) (.const (.int .i64 194)) H (.int .i64 194) w fun aq w=>Q0 aq true w (fun w J=>J H w) fun be w=>Q0 aq true w (Q3 P .lss T.e (.tmp 16) (.const (.int .i64 224)) be (.int .i64 224)) fun bs w=>pick P aq bs (.bool false) w fun av w=>Q0 av true w (fun w J=>J c w) fun ba w=>Q0 av true w (Q1 P F.r [ba,(.int .i64 1)]) fun a8 w=>pick P av a8 (.bool false) w fun bg w=>X1 bg (K (.int .i64 2) w) (Q3 P .geq T.e (.tmp 24) (.const (.int .i64 224)) H (.int .i64 224) w fun ak w=>Q0 ak true w (fun w J=>J H w) fun b1 w=>Q0 ak true w (Q3 P .lss T.e (.tmp 27) (.const (.int .i64 240)) b1 (.int .i64 240)) fun bk w=>pick P ak bk (.bool false) w fun ax w=>Q0 ax true w (fun w J=>J c w) fun b0 w=>Q0 ax true w (Q1 P F.r [b0,(.int .i64 1)]) fun bj w=>pick P ax bj (.bool false) w fun aw w=>Q0 aw true w (fun w J=>J c w) fun bc w=>Q0 aw true w (Q1 P F.r [bc,(.int .i64 2)]) fun bx w=>pick P aw bx (.bool false) w fun bd w=>X1 bd (dr w fun a b=>Q6 a (fun R=> ∀w,b w→Q3 P .rem T.e (.tmp 38) (.const (.int .i64 16)) H (.int .i64 16) w (dk a R w)) fun R=>Q6 a (fun h=> ∀V w,b w→R V w→Q3 P .mul T.e (.tmp 39) (.const (.int .i64 4096)) V (.int .i64 4096) w (dk a h w)) fun h=>Q6 a (fun j=> ∀w,b w→S9 P T.c c (.int .i64 1) w (dk a j w)) fun j=>Q6 a (fun t=> ∀i w,b w→j i w→Q3 P .rem T.a3 (.tmp 42) (.const (.int .u8 64)) i (.int .u8 64) w (dk a t w)) fun t=>Q6 a (fun g=> ∀w,b w→S9 P T.c c (.int .i64 2) w (dk a g w)) fun g=>Q6 a (fun C=> ∀X w,b w→g X w→Q3 P .rem T.a3 (.tmp 48) (.const (.int .u8 64)) X (.int .u8 64) w (dk a C w)) fun C=>Q6 a (fun U=> ∀ad w,b w→t ad w→conv P T.a3 T.e ad w (dk a U w)) fun U=>Q6 a (fun y=> ∀O w,b w→U O w→Q3 P .mul T.e (.tmp 44) (.const (.int .i64 64)) O (.int .i64 64) w (dk a y w)) fun y=>Q6 a (fun am=> ∀v W w,b w→h v w→y W w→Q3 P .add T.e (.tmp 40) (.tmp 45) v W w (dk a am w)) fun am=>Q6 a (fun al=> ∀k w,b w→C k w→conv P T.a3 T.e k w (dk a al w)) fun al=>∀V v i ad X k O W a4 a6 w,b w→R V w→h v w→j i w→t ad w→g X w→C k w→U O w→y W w→am a4 w→al a6 w→ Q3 P .add T.e (.tmp 46) (.tmp 50) a4 a6 w fun ah w=>Q3 P .geq T.e (.tmp 52) (.const (.int .i64 2048)) ah (.int .i64 2048) w fun d w=>Q0 d true w (fun w J=>J ah w) fun bb w=>Q0 d true w (Q3 P .lss T.e (.tmp 55) (.const (.int .i64 55296)) bb (.int .i64 55296)) fun bu w=>Q0 d true w (fun w J=>J bu w) fun ai w=>Q0 ai false w (fun w J=>J ah w) fun bm w=>Q0 ai false w (Q3 P .gtr T.e (.tmp 58) (.const (.int .i64 57343)) bm (.int .i64 57343)) fun bh w=>Q0 d true w (pick P ai (.bool true) bh) fun bn w=>pick P d bn (.bool false) w fun bf w=>X1 bf (K (.int .i64 3) w) (J2 () w)) (Q3 P .geq T.e (.tmp 63) (.const (.int .i64 240)) H (.int .i64 240) w fun ap w=>Q0 ap true w (fun w J=>J H w) fun a9 w=>Q0 ap true w (Q3 P .lss T.e (.tmp 66) (.const (.int .i64 245)) a9 (.int .i64 245)) fun a7 w=>pick P ap a7 (.bool false) w fun ar w=>Q0 ar true w (fun w J=>J c w) fun bl w=>Q0 ar true w (Q1 P F.r [bl,(.int .i64 1)]) fun br w=>pick P ar br (.bool false) w fun an w=>Q0 an true w (fun w J=>J c w) fun bi w=>Q0 an true w (Q1 P F.r [bi,(.int .i64 2)]) fun bp w=>pick P an bp (.bool false) w fun aj w=>Q0 aj true w (fun w J=>J c w) fun bz w=>Q0 aj true w (Q1 P F.r [bz,(.int .i64 3)]) fun bq w=>pick P aj bq (.bool false) w fun bo w=>X1 bo (dr w fun a b=>Q6 a (fun z=> ∀w,b w→Q3 P .rem T.e (.tmp 81) (.const (.int .i64 8)) H (.int .i64 8) w (dk a z w)) fun z=>Q6 a (fun N=> ∀l w,b w→z l w→Q3 P .mul T.e (.tmp 82) (.const (.int .i64 262144)) l (.int .i64 262144) w (dk a N w)) fun N=>Q6 a (fun ab=> ∀w,b w→S9 P T.c c (.int .i64 1) w (dk a ab w)) fun ab=>Q6 a (fun M=> ∀Q w,b w→ab Q w→Q3 P .rem T.a3 (.tmp 85) (.const (.int .u8 64)) Q (.int .u8 64) w (dk a M w)) fun M=>Q6 a (fun r=> ∀w,b w→S9 P T.c c (.int .i64 2) w (dk a r w)) fun r=>Q6 a (fun u=> ∀aa w,b w→r aa w→Q3 P .rem T.a3 (.tmp 91) (.const (.int .u8 64)) aa (.int .u8 64) w (dk a u w)) fun u=>Q6 a (fun B=> ∀w,b w→S9 P T.c c (.int .i64 3) w (dk a B w)) fun B=>Q6 a (fun D=> ∀Y w,b w→B Y w→Q3 P .rem T.a3 (.tmp 97) (.const (.int .u8 64)) Y (.int .u8 64) w (dk a D w)) fun D=>Q6 a (fun m=> ∀ae w,b w→M ae w→conv P T.a3 T.e ae w (dk a m w)) fun m=>Q6 a (fun A=> ∀p w,b w→m p w→Q3 P .mul T.e (.tmp 87) (.const (.int .i64 4096)) p (.int .i64 4096) w (dk a A w)) fun A=>Q6 a (fun q=> ∀s Z w,b w→N s w→A Z w→Q3 P .add T.e (.tmp 83) (.tmp 88) s Z w (dk a q w)) fun q=>Q6 a (fun af=> ∀ac w,b w→u ac w→conv P T.a3 T.e ac w (dk a af w)) fun af=>Q6 a (fun E=> ∀n w,b w→af n w→Q3 P .mul T.e (.tmp 93) (.const (.int .i64 64)) n (.int .i64 64) w (dk a E w)) fun E=>Q6 a (fun ao=> ∀L o w,b w→q L w→E o w→Q3 P .add T.e (.tmp 89) (.tmp 94) L o w (dk a ao w)) fun ao=>Q6 a (fun ay=> ∀f w,b w→D f w→conv P T.a3 T.e f w (dk a ay w)) fun ay=>∀l s Q ae aa ac Y f p Z L n o a1 a5 w,b w→z l w→N s w→ab Q w→M ae w→r aa w→u ac w→B Y w→D f w→m p w→A Z w→q L w→af n w→E o w→ao a1 w→ay a5 w→ Q3 P .add T.e (.tmp 95) (.tmp 99) a1 a5 w fun ag w=>Q3 P .geq T.e (.tmp 101) (.const (.int .i64 65536)) ag (.int .i64 65536) w fun e w=>Q0 e true w (fun w J=>J ag w) fun a3 w=>Q0 e true w (Q3 P .leq T.e (.tmp 104) (.const (.int .i64 1114111)) a3 (.int .i64 1114111)) fun az w=>pick P e az (.bool false) w fun a2 w=>X1 a2 (K (.int .i64 4) w) (J2 () w)) (J2 () w))))) fun z2 d_ w=>K (.int .i64 0) w
theorem Av {a:Value} {w:World} {K:Value→World→Prop} (h:Ou a w K):Q1 P F.bF [a] w K:=Q9 Ax Tryz.func113 rfl (by decide) (by kernel_rfl) h
def Kk:V6:=[none,none,some ([0],[0,2,3,4,5,6,7,8,9,10,11,12]),none,none,none,none,none,none,none]
def Mx (g:Value) (w:World) (K:Value→World→Prop):Prop:= lp (α:=Value) g w fun a c h w=>Q3 P .neq T.c (.tmp 4) (.const (.string ⟨#[]⟩)) c (.string ⟨#[]⟩) w fun f w=>X1 f (Q1 P F.bF [c] w fun d w=>Q3 P .eql T.e (.tmp 8) (.const (.int .i64 0)) d (.int .i64 0) w fun e w=>X1 e (K (.bool false) w) (R6 P T.c c (some d) none none w fun b w=>a b w)) (K (.bool true) w)
theorem Ik {a:Value} {w:World} {K:Value→World→Prop} (h:Mx a w K):Q1 P F.aJ [a] w K:=Q9 Kk Tryz.func65 rfl (by decide) (by kernel_rfl) h
def Dz (w:World) (K:Value→World→Prop):Prop:= buildSlice P T.h 42 [(0,(.string ⟨#[105,110,116]⟩)),(1,(.string ⟨#[116,114,117,101]⟩)),(2,(.string ⟨#[102,97,108,115,101]⟩)),(3,(.string ⟨#[119,111,114,100]⟩)),(4,(.string ⟨#[110,117,108,108]⟩)),(5,(.string ⟨#[108,111,97,100]⟩)),(6,(.string ⟨#[115,116,111,114,101]⟩)),(7,(.string ⟨#[112,111,112]⟩)),(8,(.string ⟨#[100,117,112]⟩)),(9,(.string ⟨#[115,119,97,112]⟩)),(10,(.string ⟨#[97,100,100]⟩)),(11,(.string ⟨#[115,117,98]⟩)),(12,(.string ⟨#[109,117,108]⟩)),(13,(.string ⟨#[100,105,118]⟩)),(14,(.string ⟨#[114,101,109]⟩)),(15,(.string ⟨#[110,101,103]⟩)),(16,(.string ⟨#[108,101,115,115]⟩)),(17,(.string ⟨#[115,97,109,101]⟩)),(18,(.string ⟨#[110,111,116]⟩)),(19,(.string ⟨#[98,111,116,104]⟩)),(20,(.string ⟨#[106,111,105,110]⟩)),(21,(.string ⟨#[115,105,122,101]⟩)),(22,(.string ⟨#[106,117,109,112]⟩)),(23,(.string ⟨#[98,114,97,110,99,104]⟩)),(24,(.string ⟨#[110,101,119]⟩)),(25,(.string ⟨#[103,101,116]⟩)),(26,(.string ⟨#[112,117,116]⟩)),(27,(.string ⟨#[99,97,108,108]⟩)),(28,(.string ⟨#[97,114,114,97,121]⟩)),(29,(.string ⟨#[97,116]⟩)),(30,(.string ⟨#[115,101,116]⟩)),(31,(.string ⟨#[105,115]⟩)),(32,(.string ⟨#[99,97,115,116]⟩)),(33,(.string ⟨#[114,101,116,117,114,110]⟩)),(34,(.string ⟨#[116,104,114,111,119]⟩)),(35,(.string ⟨#[111,117,116]⟩)),(36,(.string ⟨#[101,113,117,97,108]⟩)),(37,(.string ⟨#[97,110,100]⟩)),(38,(.string ⟨#[111,114]⟩)),(39,(.string ⟨#[120,111,114]⟩)),(40,(.string ⟨#[115,104,108]⟩)),(41,(.string ⟨#[115,104,114]⟩))] w fun a w=>K a w
theorem Q0h {w:World} {K:Value→World→Prop} (h:Dz w K):Q1 P F.bV [] w K:=Q9 (List.replicate 2 none) Tryz.func233 rfl (by decide) (by kernel_rfl) h
def Fk:V6:=[none,none,none,none,some ([4],[2,4,6,7,8,9,10,11,12,13,14,15,16,17,18]),none,none,none,none,none,none]
def Lq (j:Value) (w:World) (K:Value→World→Prop):Prop:= Q1 P F.bV [] w fun g w=>lp (α:=Value) (.int .i64 0) w fun a b k w=>X3 P .len [T.h] T.e [false] [g] w fun i w=>Q3 P .lss T.e (.tmp 6) (.tmp 8) b i w fun h w=>X1 h (indexAddr P T.h g b w fun c w=>Q2 P T.c c w fun e w=>Q3 P .eql T.c (.tmp 15) (.tmp 16) e j w fun f w=>X1 f (K b w) (Q3 P .add T.e (.tmp 10) (.const (.int .i64 1)) b (.int .i64 1) w fun d w=>a d w)) (K (.int .i64 (-1)) w)
theorem Gj {a:Value} {w:World} {K:Value→World→Prop} (h:Lq a w K):Q1 P F.bi [a] w K:=Q9 Fk Tryz.func230 rfl (by decide) (by kernel_rfl) h
def Kw:V6:=[none,none,none,some ([4],[4,5,6,7,8,9]),none,none,none,none,none,some ([10],[10,11,12,13,14,15,16,17,18]),none,none,none,none,none,none,none,none,none,none,none,none]
def Nq (a:Value) (w:World) (K:Value→World→Prop):Prop:= jn (α:=Value) w (fun c w=>Q3 P .eql T.c (.tmp 3) (.const (.string ⟨#[105,110,116]⟩)) a (.string ⟨#[105,110,116]⟩) w fun q w=>X1 q (c q w) (Q3 P .eql T.c (.tmp 3) (.const (.string ⟨#[108,111,97,100]⟩)) a (.string ⟨#[108,111,97,100]⟩) w fun p w=>X1 p (c p w) (Q3 P .eql T.c (.tmp 3) (.const (.string ⟨#[115,116,111,114,101]⟩)) a (.string ⟨#[115,116,111,114,101]⟩) w fun o w=>X1 o (c o w) (Q3 P .eql T.c (.tmp 3) (.const (.string ⟨#[106,117,109,112]⟩)) a (.string ⟨#[106,117,109,112]⟩) w fun n w=>X1 n (c n w) (Q3 P .eql T.c (.tmp 3) (.const (.string ⟨#[98,114,97,110,99,104]⟩)) a (.string ⟨#[98,114,97,110,99,104]⟩) w fun r w=>c r w))))) fun t u w=>X1 t (K (.int .i64 1) w) (jn (α:=Value) w (fun b w=>Q3 P .eql T.c (.tmp 3) (.const (.string ⟨#[119,111,114,100]⟩)) a (.string ⟨#[119,111,114,100]⟩) w fun h w=>X1 h (b h w) (Q3 P .eql T.c (.tmp 3) (.const (.string ⟨#[110,101,119]⟩)) a (.string ⟨#[110,101,119]⟩) w fun i w=>X1 i (b i w) (Q3 P .eql T.c (.tmp 3) (.const (.string ⟨#[103,101,116]⟩)) a (.string ⟨#[103,101,116]⟩) w fun j w=>X1 j (b j w) (Q3 P .eql T.c (.tmp 3) (.const (.string ⟨#[112,117,116]⟩)) a (.string ⟨#[112,117,116]⟩) w fun g w=>X1 g (b g w) (Q3 P .eql T.c (.tmp 3) (.const (.string ⟨#[99,97,108,108]⟩)) a (.string ⟨#[99,97,108,108]⟩) w fun e w=>X1 e (b e w) (Q3 P .eql T.c (.tmp 3) (.const (.string ⟨#[97,114,114,97,121]⟩)) a (.string ⟨#[97,114,114,97,121]⟩) w fun d w=>X1 d (b d w) (Q3 P .eql T.c (.tmp 3) (.const (.string ⟨#[105,115]⟩)) a (.string ⟨#[105,115]⟩) w fun f w=>X1 f (b f w) (Q3 P .eql T.c (.tmp 3) (.const (.string ⟨#[99,97,115,116]⟩)) a (.string ⟨#[99,97,115,116]⟩) w fun m w=>b m w)))))))) fun s u w=>X1 s (K (.int .i64 2) w) (Q1 P F.bi [a] w fun l w=>Q3 P .lss T.e (.tmp 20) (.const (.int .i64 0)) l (.int .i64 0) w fun k w=>X1 k (K (.int .i64 (-1)) w) (K (.int .i64 0) w)))
theorem Pd {a:Value} {w:World} {K:Value→World→Prop} (h:Nq a w K):Q1 P F.bz [a] w K:=Q9 Kw Tryz.func225 rfl (by decide) (by kernel_rfl) h
def Px:V6:=[none,none,none,some ([5],[2,3,4,5,6,7,8,9,10,11,12,13,14,15,16,17,18,19,20,21,22,23,24,25,26,27,28,29,30,31,32,33]),none,none,none,none,none,none]
def Md (z:Value) (w:World) (K:Value→World→Prop):Prop:= lp (α:=Value) (.int .i64 0) w fun s v N w=>X3 P .len [T.c] T.e [false] [z] w fun M w=>Q3 P .lss T.e (.tmp 6) (.tmp 8) v M w fun L w=>X1 L (S9 P T.c z v w fun E w=>Q3 P .eql T.a3 (.tmp 14) (.const (.int .u8 46)) E (.int .u8 46) w fun D w=>X1 D (dr w fun b d=>Q6 b (fun y=> ∀w,d w→R6 P T.c z none (some v) none w (dk b y w)) fun y=>Q6 b (fun f=> ∀w,d w→Q3 P .add T.e (.tmp 20) (.const (.int .i64 1)) v (.int .i64 1) w (dk b f w)) fun f=>Q6 b (fun u=> ∀e w,d w→f e w→R6 P T.c z (some e) none none w (dk b u w)) fun u=>Q6 b (fun h=> ∀w,d w→R6 P T.c z none (some v) none w (dk b h w)) fun h=>Q6 b (fun c=> ∀j w,d w→h j w→Q1 P F.d [j] w (dk b c w)) fun c=>Q6 b (fun l=> ∀a w,d w→c a w→Q0 a true w (fun w J=>J z w) (dk b l w)) fun l=>Q6 b (fun g=> ∀a w,d w→c a w→Q0 a true w (fun w J=>J v w) (dk b g w)) fun g=>Q6 b (fun m=> ∀a o w,d w→c a w→g o w→Q0 a true w (Q3 P .add T.e (.tmp 29) (.const (.int .i64 1)) o (.int .i64 1)) (dk b m w)) fun m=>Q6 b (fun i=> ∀a q k w,d w→c a w→l q w→m k w→Q0 a true w (R6 P T.c q (some k) none none) (dk b i w)) fun i=>Q6 b (fun p=> ∀a r w,d w→c a w→i r w→Q0 a true w (Q1 P F.u [r]) (dk b p w)) fun p=>Q6 b (fun t=> ∀a n w,d w→c a w→p n w→pick P a n (.bool false) w (dk b t w)) fun t=>∀B e A j a q o k r n C w,d w→y B w→f e w→u A w→h j w→c a w→l q w→g o w→m k w→i r w→p n w→t C w→ K (.tuple #[B,A,C]) w) (Q3 P .add T.e (.tmp 10) (.const (.int .i64 1)) v (.int .i64 1) w fun H w=>s H w)) (K (.tuple #[(.string ⟨#[]⟩),(.string ⟨#[]⟩),(.bool false)]) w)
theorem Il {a:Value} {w:World} {K:Value→World→Prop} (h:Md a w K):Q1 P F.bA [a] w K:=Q9 Px Tryz.func226 rfl (by decide) (by kernel_rfl) h
def Kq:V6:=[none,none,none,none,none,none,some ([4],[4,5,6,7,8,30,31,32,33,34,35,36,37,38,39,40,41,42,43,44,45,46,47,48,49,50,51,52,53,54,55,56,57,58,59,60,61,62,63,64,65,66,67,68,69,70,71,72,73,74,75,76,77,78,79,80,81,82,83,84,85,86,87,88,89,90,91,92,93,94,95,96,97,98,99,100,101,102,103,104,105,106,107,108,109,110]),none,none,none,none,none,some ([4,5],[4,5,59,60,61,62,63,64,65,66,67,68,69,70,71,72,73]),none,none,none,none,some ([82],[82,83,84]),none,none,none,none,none,none,none]
def Nl (a0:Value) (w:World) (K:Value→World→Prop):Prop:= box P T.v a0 w fun d w=>fieldAddr P T.v d 0 w fun t9 w=>Q2 P T.c t9 w fun af w=>Q1 P F.bz [af] w fun l w=>Q3 P .lss T.e (.tmp 12) (.const (.int .i64 0)) l (.int .i64 0) w fun a9 w=>X1 a9 (K (.int .i64 40) w) (Q3 P .eql T.e (.tmp 14) (.const (.int .i64 1)) l (.int .i64 1) w fun i w=>Q0 i false w (fieldAddr P T.v d 1) fun aw w=>Q0 i false w (Q2 P T.a0 aw) fun a5 w=>Q0 i false w (Q3 P .eql T.a0 (.tmp 18) (.const (.int .i64 0)) a5 (.int .i64 0)) fun az w=>pick P i (.bool true) az w fun e w=>Q0 e true w (fun w J=>J l w) fun Q w=>Q0 e true w (Q3 P .eql T.e (.tmp 22) (.const (.int .i64 2)) Q (.int .i64 2)) fun ad w=>Q0 e true w (fun w J=>J ad w) fun k w=>Q0 k false w (fieldAddr P T.v d 2) fun W w=>Q0 k false w (Q2 P T.c W) fun X w=>Q0 k false w (Q3 P .eql T.c (.tmp 26) (.const (.string ⟨#[]⟩)) X (.string ⟨#[]⟩)) fun be w=>Q0 e true w (pick P k (.bool true) be) fun ae w=>pick P e ae (.bool false) w fun a w=>jn (α:=Value) w (fun n w=>Q3 P .eql T.e (.tmp 30) (.const (.int .i64 2)) l (.int .i64 2) w fun bb w=>X1 bb (fieldAddr P T.v d 0 w fun aa w=>Q2 P T.c aa w fun h w=>Q3 P .eql T.c (.tmp 33) (.const (.string ⟨#[119,111,114,100]⟩)) h (.string ⟨#[119,111,114,100]⟩) w fun ax w=>X1 ax (Q0 a true w (fieldAddr P T.v d 2) fun C w=>Q0 a true w (Q2 P T.c C) fun a2 w=>Q0 a true w (X3 P .len [T.c] T.e [false] [a2]) fun M w=>Q0 a true w (Q3 P .leq T.e (.tmp 51) (.const (.int .i64 64)) M (.int .i64 64)) fun a3 w=>pick P a a3 (.bool false) w fun j w=>Q0 j true w (fieldAddr P T.v d 2) fun D w=>Q0 j true w (Q2 P T.c D) fun ay w=>Q0 j true w (Q1 P F.aJ [ay]) fun R w=>pick P j R (.bool false) w fun ah w=>lp (α:=Value×Value) (ah,(.int .i64 0)) w fun f b d_ w=>fieldAddr P T.v d 2 w fun ai w=>Q2 P T.c ai w fun O w=>X3 P .len [T.c] T.e [false] [O] w fun a7 w=>Q3 P .lss T.e (.tmp 59) (.tmp 62) b.2 a7 w fun Y w=>X1 Y (Q0 b.1 true w (fieldAddr P T.v d 2) fun a4 w=>Q0 b.1 true w (Q2 P T.c a4) fun a8 w=>Q0 b.1 true w (fun w J=>J b.2 w) fun ag w=>Q0 b.1 true w (S9 P T.c a8 ag) fun av w=>Q0 b.1 true w (Q3 P .neq T.a3 (.tmp 71) (.const (.int .u8 10)) av (.int .u8 10)) fun al w=>pick P b.1 al (.bool false) w fun ab w=>Q3 P .add T.e (.tmp 64) (.const (.int .i64 1)) b.2 (.int .i64 1) w fun ak w=>f (ab,ak) w) (n b.1 w)) (Q3 P .eql T.c (.tmp 33) (.const (.string ⟨#[110,101,119]⟩)) h (.string ⟨#[110,101,119]⟩) w fun aq w=>X1 aq (Q0 a true w (fieldAddr P T.v d 2) fun ba w=>Q0 a true w (Q2 P T.c ba) fun ar w=>Q0 a true w (Q1 P F.d [ar]) fun ap w=>pick P a ap (.bool false) w fun U w=>n U w) (jn (α:=Value) w (fun y w=>Q3 P .eql T.c (.tmp 33) (.const (.string ⟨#[105,115]⟩)) h (.string ⟨#[105,115]⟩) w fun o w=>X1 o (y o w) (Q3 P .eql T.c (.tmp 33) (.const (.string ⟨#[99,97,115,116]⟩)) h (.string ⟨#[99,97,115,116]⟩) w fun V w=>y V w)) fun an d_ w=>X1 an (Q0 a true w (fieldAddr P T.v d 2) fun N w=>Q0 a true w (Q2 P T.c N) fun a1 w=>Q0 a true w (Q1 P F.e [a1]) fun am w=>pick P a am (.bool false) w fun g w=>Q0 g true w (fieldAddr P T.v d 2) fun a6 w=>Q0 g true w (Q2 P T.c a6) fun H w=>Q0 g true w (Q1 P F.x [H]) fun L w=>Q0 g true w (J6 P .not L) fun ac w=>pick P g ac (.bool false) w fun aj w=>n aj w) (Q3 P .eql T.c (.tmp 33) (.const (.string ⟨#[97,114,114,97,121]⟩)) h (.string ⟨#[97,114,114,97,121]⟩) w fun B w=>X1 B (Q0 a true w (fieldAddr P T.v d 2) fun r w=>Q0 a true w (Q2 P T.c r) fun t w=>Q0 a true w (Q1 P F.e [t]) fun p w=>pick P a p (.bool false) w fun c w=>Q0 c true w (fieldAddr P T.v d 2) fun q w=>Q0 c true w (Q2 P T.c q) fun z w=>Q0 c true w (Q1 P F.a1 [z]) fun A w=>Q0 c true w (Q3 P .lss T.e (.tmp 108) (.const (.int .i64 3)) A (.int .i64 3)) fun u w=>pick P c u (.bool false) w fun v w=>n v w) (fieldAddr P T.v d 2 w fun E w=>Q2 P T.c E w fun bc w=>Q1 P F.bA [bc] w fun m w=>ext P m 0 w fun bj w=>ext P m 1 w fun bk w=>ext P m 2 w fun Z w=>Q0 a true w (fun w J=>J Z w) fun bd w=>pick P a bd (.bool false) w fun ao w=>n ao w))))) (n a w)) fun z6 d_ w=>J6 P .not z6 w fun s w=>X1 s (K (.int .i64 41) w) (K (.int .i64 0) w))
theorem Pq {a:Value} {w:World} {K:Value→World→Prop} (h:Nl a w K):Q1 P F.bx [a] w K:=Q9 Kq Tryz.func215 rfl (by decide) (by kernel_rfl) h
def Q0J:V6:=[none,none,none,some ([3],[2,3,4,5,6,7,8,9,10,11,12,13,14,15,16,17,18]),none,none,none,none,none,none,none]
def Ey (h:Value) (w:World) (K:Value→World→Prop):Prop:= lp (α:=Value) (.int .i64 0) w fun a f k w=>X3 P .len [T.q] T.e [false] [h] w fun j w=>Q3 P .lss T.e (.tmp 5) (.tmp 7) f j w fun i w=>X1 i (indexAddr P T.q h f w fun e w=>Q2 P T.v e w fun d w=>Q1 P F.bx [d] w fun b w=>Q3 P .neq T.y (.tmp 16) (.const (.int .i64 0)) b (.int .i64 0) w fun g w=>X1 g (K b w) (Q3 P .add T.e (.tmp 9) (.const (.int .i64 1)) f (.int .i64 1) w fun c w=>a c w)) (K (.int .i64 0) w)
theorem Q16 {a:Value} {w:World} {K:Value→World→Prop} (h:Ey a w K):Q1 P F.b5 [a] w K:=Q9 Q0J Tryz.func203 rfl (by decide) (by kernel_rfl) h
def Fm:V6:=[none,none,none,none,some ([3,4],[3,4,21,22,23,24,25,26,27,28,29,30,31,32,33,34,35,36]),none,none,none,none,none,none,none,none,none,some ([3,6],[3,6,7,60,61,62,63,64,65,66,67,68,69,70,71,72,73,74,75,76,77,78,79,80,81,82,83,84,85,86,87,88,89,90,91,92,93,94,95,96,97,98,99,100,101,102,103,104,105,106]),none,none,none,none,none]
def Lf (a0:Value) (w:World) (K:Value→World→Prop):Prop:= box P T.d a0 w fun e w=>fieldAddr P T.d e 0 w fun t8 w=>Q2 P T.c t8 w fun t9 w=>Q1 P F.u [t9] w fun h w=>Q0 h true w (fieldAddr P T.d e 2) fun ay w=>Q0 h true w (Q2 P T.c ay) fun bu w=>Q0 h true w (Q3 P .eql T.c (.tmp 13) (.const (.string ⟨#[]⟩)) bu (.string ⟨#[]⟩)) fun bj w=>Q0 h true w (fun w J=>J bj w) fun n w=>Q0 n false w (fieldAddr P T.d e 2) fun ah w=>Q0 n false w (Q2 P T.c ah) fun ba w=>Q0 n false w (Q1 P F.e [ba]) fun bo w=>Q0 h true w (pick P n (.bool true) bo) fun bl w=>pick P h bl (.bool false) w fun Z w=>lp (α:=Value×Value) (Z,(.int .i64 0)) w fun p d d_ w=>fieldAddr P T.d e 1 w fun al w=>Q2 P T.h al w fun ax w=>X3 P .len [T.h] T.e [false] [ax] w fun bd w=>Q3 P .lss T.e (.tmp 21) (.tmp 24) d.2 bd w fun ap w=>X1 ap (Q0 d.1 true w (fieldAddr P T.d e 1) fun bc w=>Q0 d.1 true w (Q2 P T.h bc) fun bw w=>Q0 d.1 true w (fun w J=>J d.2 w) fun av w=>Q0 d.1 true w (indexAddr P T.h bw av) fun bp w=>Q0 d.1 true w (Q2 P T.c bp) fun aw w=>Q0 d.1 true w (Q1 P F.e [aw]) fun ac w=>pick P d.1 ac (.bool false) w fun bv w=>Q3 P .add T.e (.tmp 26) (.const (.int .i64 1)) d.2 (.int .i64 1) w fun bz w=>p (bv,bz) w) (fieldAddr P T.d e 3 w fun af w=>Q2 P T.u af w fun a5 w=>X1 a5 (Q0 d.1 true w (fieldAddr P T.d e 4) fun bq w=>Q0 d.1 true w (Q2 P T.e bq) fun X w=>Q0 d.1 true w (Q3 P .eql T.e (.tmp 42) (.const (.int .i64 0)) X (.int .i64 0)) fun bx w=>pick P d.1 bx (.bool false) w fun l w=>Q0 l true w (fieldAddr P T.d e 5) fun bb w=>Q0 l true w (Q2 P T.q bb) fun a1 w=>Q0 l true w (X3 P .len [T.q] T.e [false] [a1]) fun bf w=>Q0 l true w (Q3 P .eql T.e (.tmp 48) (.const (.int .i64 0)) bf (.int .i64 0)) fun aa w=>pick P l aa (.bool false) w fun m w=>Q0 m true w (fieldAddr P T.d e 6) fun bk w=>Q0 m true w (Q2 P T.s bk) fun az w=>Q0 m true w (X3 P .len [T.s] T.e [false] [az]) fun W w=>Q0 m true w (Q3 P .eql T.e (.tmp 54) (.const (.int .i64 0)) W (.int .i64 0)) fun ab w=>pick P m ab (.bool false) w fun bh w=>K bh w) (fieldAddr P T.d e 5 w fun am w=>Q2 P T.q am w fun a3 w=>X3 P .len [T.q] T.e [false] [a3] w fun r w=>lp (α:=Value×Value) (d.1,(.int .i64 0)) w fun i b d_ w=>fieldAddr P T.d e 6 w fun aj w=>Q2 P T.s aj w fun bs w=>X3 P .len [T.s] T.e [false] [bs] w fun ar w=>Q3 P .lss T.e (.tmp 60) (.tmp 63) b.2 ar w fun be w=>X1 be (fieldAddr P T.d e 6 w fun V w=>Q2 P T.s V w fun bn w=>indexAddr P T.s bn b.2 w fun a2 w=>Q2 P T.t a2 w fun a9 w=>V9 P T.t w fun q w=>Y0 P T.t q a9 w fun _u w=>Q0 b.1 true w (fieldAddr P T.t q 0) fun aq w=>Q0 b.1 true w (Q2 P T.e aq) fun a6 w=>Q0 b.1 true w (Q3 P .geq T.e (.tmp 75) (.const (.int .i64 0)) a6 (.int .i64 0)) fun ao w=>pick P b.1 ao (.bool false) w fun g w=>Q0 g true w (fieldAddr P T.t q 0) fun a8 w=>Q0 g true w (Q2 P T.e a8) fun a7 w=>Q0 g true w (fieldAddr P T.t q 1) fun an w=>Q0 g true w (Q2 P T.e an) fun ad w=>Q0 g true w (Q3 P .lss T.e (.tmp 80) (.tmp 82) a7 ad) fun ak w=>pick P g ak (.bool false) w fun j w=>Q0 j true w (fieldAddr P T.t q 1) fun b0 w=>Q0 j true w (Q2 P T.e b0) fun ai w=>Q0 j true w (fun w J=>J r w) fun bm w=>Q0 j true w (Q3 P .leq T.e (.tmp 87) (.tmp 88) ai bm) fun a4 w=>pick P j a4 (.bool false) w fun o w=>Q0 o true w (fieldAddr P T.t q 2) fun br w=>Q0 o true w (Q2 P T.e br) fun ae w=>Q0 o true w (Q3 P .geq T.e (.tmp 93) (.const (.int .i64 0)) ae (.int .i64 0)) fun ag w=>pick P o ag (.bool false) w fun k w=>Q0 k true w (fieldAddr P T.t q 2) fun bi w=>Q0 k true w (Q2 P T.e bi) fun U w=>Q0 k true w (fun w J=>J r w) fun bg w=>Q0 k true w (Q3 P .lss T.e (.tmp 98) (.tmp 99) U bg) fun L w=>pick P k L (.bool false) w fun f w=>Q0 f true w (fieldAddr P T.t q 3) fun z w=>Q0 f true w (Q2 P T.c z) fun H w=>Q0 f true w (Q1 P F.d [H]) fun t w=>pick P f t (.bool false) w fun C w=>Q3 P .add T.e (.tmp 65) (.const (.int .i64 1)) b.2 (.int .i64 1) w fun Y w=>i (C,Y) w) (Q0 b.1 true w (fun w J=>J r w) fun M w=>Q0 b.1 true w (Q3 P .gtr T.e (.tmp 109) (.const (.int .i64 0)) M (.int .i64 0)) fun N w=>pick P b.1 N (.bool false) w fun a w=>Q0 a true w (fieldAddr P T.d e 4) fun D w=>Q0 a true w (Q2 P T.e D) fun A w=>Q0 a true w (fieldAddr P T.d e 1) fun O w=>Q0 a true w (Q2 P T.h O) fun u w=>Q0 a true w (X3 P .len [T.h] T.e [false] [u]) fun y w=>Q0 a true w (Q3 P .gtr T.e (.tmp 114) (.tmp 117) A y) fun R w=>pick P a R (.bool false) w fun c w=>Q0 c true w (fieldAddr P T.d e 5) fun s w=>Q0 c true w (Q2 P T.q s) fun v w=>Q0 c true w (Q1 P F.b5 [v]) fun Q w=>Q0 c true w (Q3 P .eql T.y (.tmp 123) (.const (.int .i64 0)) Q (.int .i64 0)) fun B w=>pick P c B (.bool false) w fun E w=>K E w)))
theorem Fy {a:Value} {w:World} {K:Value→World→Prop} (h:Lf a w K):Q1 P F.a4 [a] w K:=Q9 Fm Tryz.func182 rfl (by decide) (by kernel_rfl) h
end Go.Proofs.YtjdiakhipmggjaaGreatDoor

set_option maxRecDepth 100000
namespace Go.Proofs.YtjdiakhipmggjaaGreatDoor
open Go.Emb
def Ij:V6:=[none,none,none,none,some ([3,4],[3,4,5,26,27,28,29,30,31,32,33,34,35,36,37,38,39,40,41,42,43,44,45,46,47,48,49,50,51,52,53,54,55,56,57,58,59,60,61,62,63,64,65,66,67,68,69,70]),none,none,none,none,none,some ([3,5],[3,5,52,53,54,55,56,57,58,59,60,61,62,63,64,65,66,67,68,69,70]),none,none,none,none,none,some ([3,6],[3,6,7,71,72,73,74,75,76,77,78,79,80,81,82,83,84,85,86,87,88,89,90,91,92,93,94,95,96,97,98,99,100,101,102,103,104,105,106,107,108,109,110,111,112,113,114,115,116,117,118,119,120,121,122]),none,none,none,none,none,some ([3,7],[3,7,102,103,104,105,106,107,108,109,110,111,112,113,114,115,116,117,118,119,120,121,122]),none,none,none,none,none,some ([3,8],[3,8,9,10,123,124,125,126,127,128,129,130,131,132,133,134,135,136,137,138,139,140,141,142,143,144,145,146,147,148,149,150,151,152,153,154,155,156,157,158,159,160,161,162,163,164,165,166,167,168,169,170,171,172,173,174]),none,none,none,none,none,none,some ([3,10],[3,10,158,159,160,161,162,163,164,165,166,167,168,169,170,171,172,173,174]),none,none,none,none]
def Lu (a0:Value) (w:World) (K:Value→World→Prop):Prop:= box P T.b a0 w fun i w=>fieldAddr P T.b i 0 w fun eb w=>Q2 P T.c eb w fun d6 w=>Q1 P F.d [d6] w fun b1 w=>Q0 b1 true w (fieldAddr P T.b i 1) fun ep w=>Q0 b1 true w (Q2 P T.c ep) fun ek w=>Q0 b1 true w (Q1 P F.d [ek]) fun e3 w=>pick P b1 e3 (.bool false) w fun ah w=>Q0 ah true w (fieldAddr P T.b i 0) fun eg w=>Q0 ah true w (Q2 P T.c eg) fun ee w=>Q0 ah true w (fieldAddr P T.b i 1) fun em w=>Q0 ah true w (Q2 P T.c em) fun d5 w=>Q0 ah true w (Q3 P .neq T.c (.tmp 21) (.tmp 23) ee d5) fun e4 w=>pick P ah e4 (.bool false) w fun eq w=>lp (α:=Value×Value) (eq,(.int .i64 0)) w fun bs y d_ w=>fieldAddr P T.b i 2 w fun ed w=>Q2 P T.h ed w fun ew w=>X3 P .len [T.h] T.e [false] [ew] w fun e6 w=>Q3 P .lss T.e (.tmp 26) (.tmp 29) y.2 e6 w fun d8 w=>X1 d8 (dr w fun a b=>Q6 a (fun bo=> ∀w,b w→Q0 y.1 true w (fieldAddr P T.b i 2) (dk a bo w)) fun bo=>Q6 a (fun bu=> ∀w,b w→Q0 y.1 true w (fun w J=>J y.2 w) (dk a bu w)) fun bu=>Q6 a (fun bi=> ∀bl w,b w→bo bl w→Q0 y.1 true w (Q2 P T.h bl) (dk a bi w)) fun bi=>Q6 a (fun a5=> ∀b2 az w,b w→bi b2 w→bu az w→Q0 y.1 true w (indexAddr P T.h b2 az) (dk a a5 w)) fun a5=>Q6 a (fun bx=> ∀bb w,b w→a5 bb w→Q0 y.1 true w (Q2 P T.c bb) (dk a bx w)) fun bx=>Q6 a (fun ax=> ∀b4 w,b w→bx b4 w→Q0 y.1 true w (Q1 P F.d [b4]) (dk a ax w)) fun ax=>Q6 a (fun j=> ∀a4 w,b w→ax a4 w→pick P y.1 a4 (.bool false) w (dk a j w)) fun j=>Q6 a (fun a3=> ∀c w,b w→j c w→Q0 c true w (fieldAddr P T.b i 2) (dk a a3 w)) fun a3=>Q6 a (fun bp=> ∀c w,b w→j c w→Q0 c true w (fun w J=>J y.2 w) (dk a bp w)) fun bp=>Q6 a (fun bk=> ∀c w,b w→j c w→Q0 c true w (fieldAddr P T.b i 0) (dk a bk w)) fun bk=>Q6 a (fun bc=> ∀c b3 w,b w→j c w→a3 b3 w→Q0 c true w (Q2 P T.h b3) (dk a bc w)) fun bc=>Q6 a (fun bq=> ∀c br bd w,b w→j c w→bc br w→bp bd w→Q0 c true w (indexAddr P T.h br bd) (dk a bq w)) fun bq=>Q6 a (fun ca=> ∀c be w,b w→j c w→bq be w→Q0 c true w (Q2 P T.c be) (dk a ca w)) fun ca=>Q6 a (fun cc=> ∀c bz w,b w→j c w→bk bz w→Q0 c true w (Q2 P T.c bz) (dk a cc w)) fun cc=>∀bl az b2 bb b4 a4 c b3 bd bz br be cn c7 w,b w→bo bl w→bu az w→bi b2 w→a5 bb w→bx b4 w→ax a4 w→j c w→a3 b3 w→bp bd w→bk bz w→bc br w→bq be w→ca cn w→cc c7 w→ Q0 c true w (Q3 P .neq T.c (.tmp 47) (.tmp 49) cn c7) fun e5 w=>pick P c e5 (.bool false) w fun el w=>lp (α:=Value×Value) (el,(.int .i64 0)) w fun al e d_ w=>Q3 P .lss T.e (.tmp 52) (.tmp 53) e.2 y.2 w fun ef w=>X1 ef (dr w fun a b=>Q6 a (fun a2=> ∀w,b w→Q0 e.1 true w (fieldAddr P T.b i 2) (dk a a2 w)) fun a2=>Q6 a (fun bh=> ∀w,b w→Q0 e.1 true w (fun w J=>J e.2 w) (dk a bh w)) fun bh=>Q6 a (fun a6=> ∀w,b w→Q0 e.1 true w (fieldAddr P T.b i 2) (dk a a6 w)) fun a6=>Q6 a (fun bn=> ∀w,b w→Q0 e.1 true w (fun w J=>J y.2 w) (dk a bn w)) fun bn=>Q6 a (fun bg=> ∀a1 w,b w→a2 a1 w→Q0 e.1 true w (Q2 P T.h a1) (dk a bg w)) fun bg=>Q6 a (fun bw=> ∀a7 bm w,b w→bg a7 w→bh bm w→Q0 e.1 true w (indexAddr P T.h a7 bm) (dk a bw w)) fun bw=>Q6 a (fun cb=> ∀b0 w,b w→bw b0 w→Q0 e.1 true w (Q2 P T.c b0) (dk a cb w)) fun cb=>Q6 a (fun bv=> ∀bf w,b w→a6 bf w→Q0 e.1 true w (Q2 P T.h bf) (dk a bv w)) fun bv=>Q6 a (fun ba=> ∀a9 ay w,b w→bv a9 w→bn ay w→Q0 e.1 true w (indexAddr P T.h a9 ay) (dk a ba w)) fun ba=>Q6 a (fun b9=> ∀bj w,b w→ba bj w→Q0 e.1 true w (Q2 P T.c bj) (dk a b9 w)) fun b9=>∀a1 bm bf ay a7 b0 df a9 bj dx w,b w→a2 a1 w→bh bm w→a6 bf w→bn ay w→bg a7 w→bw b0 w→cb df w→bv a9 w→ba bj w→b9 dx w→ Q0 e.1 true w (Q3 P .neq T.c (.tmp 63) (.tmp 68) df dx) fun e8 w=>pick P e.1 e8 (.bool false) w fun ex w=>Q3 P .add T.e (.tmp 55) (.const (.int .i64 1)) e.2 (.int .i64 1) w fun ea w=>al (ex,ea) w) (Q3 P .add T.e (.tmp 31) (.const (.int .i64 1)) y.2 (.int .i64 1) w fun es w=>bs (e.1,es) w)) (lp (α:=Value×Value) (y.1,(.int .i64 0)) w fun aw f d_ w=>fieldAddr P T.b i 6 w fun ez w=>Q2 P T.k ez w fun et w=>X3 P .len [T.k] T.e [false] [et] w fun er w=>Q3 P .lss T.e (.tmp 71) (.tmp 74) f.2 er w fun d7 w=>X1 d7 (Q0 f.1 true w (fieldAddr P T.b i 6) fun e1 w=>Q0 f.1 true w (Q2 P T.k e1) fun d3 w=>Q0 f.1 true w (fun w J=>J f.2 w) fun eh w=>Q0 f.1 true w (indexAddr P T.k d3 eh) fun d2 w=>Q0 f.1 true w (fieldAddr P T.o d2 0) fun eo w=>Q0 f.1 true w (Q2 P T.c eo) fun e2 w=>Q0 f.1 true w (Q1 P F.u [e2]) fun e9 w=>pick P f.1 e9 (.bool false) w fun n w=>Q0 n true w (fieldAddr P T.b i 6) fun e0 w=>Q0 n true w (Q2 P T.k e0) fun ey w=>Q0 n true w (fun w J=>J f.2 w) fun ec w=>Q0 n true w (indexAddr P T.k ey ec) fun e7 w=>Q0 n true w (fieldAddr P T.o e7 1) fun ei w=>Q0 n true w (Q2 P T.c ei) fun ej w=>Q0 n true w (Q1 P F.e [ej]) fun d4 w=>pick P n d4 (.bool false) w fun a8 w=>Q0 a8 true w (fieldAddr P T.b i 3) fun d1 w=>Q0 a8 true w (Q2 P T.u d1) fun d9 w=>Q0 a8 true w (J6 P .not d9) fun cy w=>pick P a8 cy (.bool false) w fun dl w=>lp (α:=Value×Value) (dl,(.int .i64 0)) w fun ar d d_ w=>Q3 P .lss T.e (.tmp 102) (.tmp 103) d.2 f.2 w fun cv w=>X1 cv (dr w fun a b=>Q6 a (fun p=> ∀w,b w→Q0 d.1 true w (fieldAddr P T.b i 6) (dk a p w)) fun p=>Q6 a (fun z=> ∀w,b w→Q0 d.1 true w (fun w J=>J d.2 w) (dk a z w)) fun z=>Q6 a (fun v=> ∀w,b w→Q0 d.1 true w (fieldAddr P T.b i 6) (dk a v w)) fun v=>Q6 a (fun aa=> ∀w,b w→Q0 d.1 true w (fun w J=>J f.2 w) (dk a aa w)) fun aa=>Q6 a (fun U=> ∀M w,b w→p M w→Q0 d.1 true w (Q2 P T.k M) (dk a U w)) fun U=>Q6 a (fun ae=> ∀N ac w,b w→U N w→z ac w→Q0 d.1 true w (indexAddr P T.k N ac) (dk a ae w)) fun ae=>Q6 a (fun V=> ∀E w,b w→ae E w→Q0 d.1 true w (fieldAddr P T.o E 0) (dk a V w)) fun V=>Q6 a (fun aq=> ∀D w,b w→V D w→Q0 d.1 true w (Q2 P T.c D) (dk a aq w)) fun aq=>Q6 a (fun ab=> ∀O w,b w→v O w→Q0 d.1 true w (Q2 P T.k O) (dk a ab w)) fun ab=>Q6 a (fun t=> ∀s u w,b w→ab s w→aa u w→Q0 d.1 true w (indexAddr P T.k s u) (dk a t w)) fun t=>Q6 a (fun r=> ∀ag w,b w→t ag w→Q0 d.1 true w (fieldAddr P T.o ag 0) (dk a r w)) fun r=>Q6 a (fun am=> ∀L w,b w→r L w→Q0 d.1 true w (Q2 P T.c L) (dk a am w)) fun am=>∀M ac O u N E D b8 s ag L b6 w,b w→p M w→z ac w→v O w→aa u w→U N w→ae E w→V D w→aq b8 w→ab s w→t ag w→r L w→am b6 w→ Q0 d.1 true w (Q3 P .neq T.c (.tmp 114) (.tmp 120) b8 b6) fun c5 w=>pick P d.1 c5 (.bool false) w fun ci w=>Q3 P .add T.e (.tmp 105) (.const (.int .i64 1)) d.2 (.int .i64 1) w fun cp w=>ar (ci,cp) w) (Q3 P .add T.e (.tmp 76) (.const (.int .i64 1)) f.2 (.int .i64 1) w fun eu w=>aw (d.1,eu) w)) (lp (α:=Value×Value) (f.1,(.int .i64 0)) w fun ao h d_ w=>fieldAddr P T.b i 7 w fun di w=>Q2 P T.j di w fun ds w=>X3 P .len [T.j] T.e [false] [ds] w fun cf w=>Q3 P .lss T.e (.tmp 123) (.tmp 126) h.2 cf w fun ck w=>X1 ck (fieldAddr P T.b i 7 w fun dy w=>Q2 P T.j dy w fun dw w=>indexAddr P T.j dw h.2 w fun c1 w=>Q2 P T.d c1 w fun dn w=>V9 P T.d w fun t9 w=>Y0 P T.d t9 dn w fun _u w=>Q0 h.1 true w (Q2 P T.d t9) fun cx w=>Q0 h.1 true w (Q1 P F.a4 [cx]) fun du w=>pick P h.1 du (.bool false) w fun l w=>Q0 l true w (fieldAddr P T.d t9 3) fun cu w=>Q0 l true w (Q2 P T.u cu) fun c6 w=>Q0 l true w (J6 P .not c6) fun ce w=>Q0 l true w (fun w J=>J ce w) fun aj w=>Q0 aj false w (fieldAddr P T.b i 4) fun dq w=>Q0 aj false w (Q2 P T.u dq) fun cz w=>Q0 l true w (pick P aj (.bool true) cz) fun cq w=>pick P l cq (.bool false) w fun k w=>Q0 k true w (fieldAddr P T.b i 3) fun dm w=>Q0 k true w (Q2 P T.u dm) fun c4 w=>Q0 k true w (J6 P .not c4) fun d0 w=>Q0 k true w (fun w J=>J d0 w) fun ak w=>Q0 ak false w (fieldAddr P T.d t9 3) fun de w=>Q0 ak false w (Q2 P T.u de) fun c8 w=>Q0 k true w (pick P ak (.bool true) c8) fun cr w=>pick P k cr (.bool false) w fun c2 w=>lp (α:=Value×Value) (c2,(.int .i64 0)) w fun av g d_ w=>Q3 P .lss T.e (.tmp 158) (.tmp 159) g.2 h.2 w fun ct w=>X1 ct (dr w fun a b=>Q6 a (fun af=> ∀w,b w→Q0 g.1 true w (fieldAddr P T.b i 7) (dk a af w)) fun af=>Q6 a (fun A=> ∀w,b w→Q0 g.1 true w (fun w J=>J g.2 w) (dk a A w)) fun A=>Q6 a (fun Q=> ∀w,b w→Q0 g.1 true w (fieldAddr P T.d t9 0) (dk a Q w)) fun Q=>Q6 a (fun Z=> ∀R w,b w→af R w→Q0 g.1 true w (Q2 P T.j R) (dk a Z w)) fun Z=>Q6 a (fun W=> ∀B q w,b w→Z B w→A q w→Q0 g.1 true w (indexAddr P T.j B q) (dk a W w)) fun W=>Q6 a (fun X=> ∀C w,b w→W C w→Q0 g.1 true w (fieldAddr P T.d C 0) (dk a X w)) fun X=>Q6 a (fun ai=> ∀H w,b w→X H w→Q0 g.1 true w (Q2 P T.c H) (dk a ai w)) fun ai=>Q6 a (fun an=> ∀ad w,b w→Q ad w→Q0 g.1 true w (Q2 P T.c ad) (dk a an w)) fun an=>∀R q ad B C H b7 b5 w,b w→af R w→A q w→Q ad w→Z B w→W C w→X H w→ai b7 w→an b5 w→ Q0 g.1 true w (Q3 P .neq T.c (.tmp 170) (.tmp 172) b7 b5) fun cj w=>pick P g.1 cj (.bool false) w fun dd w=>Q3 P .add T.e (.tmp 161) (.const (.int .i64 1)) g.2 (.int .i64 1) w fun dv w=>av (dd,dv) w) (Q3 P .add T.e (.tmp 128) (.const (.int .i64 1)) h.2 (.int .i64 1) w fun dg w=>ao (g.1,dg) w)) (Q0 h.1 true w (fieldAddr P T.b i 3) fun dp w=>Q0 h.1 true w (Q2 P T.u dp) fun cw w=>Q0 h.1 true w (J6 P .not cw) fun dc w=>Q0 h.1 true w (fun w J=>J dc w) fun o w=>Q0 o false w (fieldAddr P T.b i 4) fun cs w=>Q0 o false w (Q2 P T.u cs) fun cd w=>Q0 o false w (fun w J=>J cd w) fun Y w=>Q0 Y true w (fieldAddr P T.b i 1) fun dh w=>Q0 Y true w (Q2 P T.c dh) fun ch w=>Q0 Y true w (Q3 P .eql T.c (.tmp 185) (.const (.string ⟨#[79,98,106,101,99,116]⟩)) ch (.string ⟨#[79,98,106,101,99,116]⟩)) fun dz w=>Q0 o false w (pick P Y dz (.bool false)) fun cm w=>Q0 h.1 true w (pick P o (.bool true) cm) fun dj w=>pick P h.1 dj (.bool false) w fun m w=>Q0 m true w (fieldAddr P T.b i 4) fun c0 w=>Q0 m true w (Q2 P T.u c0) fun dt w=>Q0 m true w (fun w J=>J dt w) fun ap w=>Q0 ap true w (fieldAddr P T.b i 5) fun da w=>Q0 ap true w (Q2 P T.u da) fun db w=>Q0 m true w (pick P ap db (.bool false)) fun cg w=>Q0 m true w (J6 P .not cg) fun cl w=>pick P m cl (.bool false) w fun c9 w=>K c9 w)))
theorem Pe {a:Value} {w:World} {K:Value→World→Prop} (h:Lu a w K):Q1 P F.bt [a] w K:=Q9 Ij Tryz.func148 rfl (by decide) (by kernel_rfl) h
def Nr (f:Value) (w:World) (K:Value→World→Prop):Prop:= box P T.b f w fun a w=>Q2 P T.b a w fun g w=>Q1 P F.bI [g] w fun b w=>X1 b (K (.int .i64 51) w) (Q2 P T.b a w fun e w=>Q1 P F.bt [e] w fun d w=>J6 P .not d w fun c w=>X1 c (K (.int .i64 50) w) (K (.int .i64 0) w))
theorem Kc {a:Value} {w:World} {K:Value→World→Prop} (h:Nr a w K):Q1 P F.br [a] w K:=Q9 (List.replicate 8 none) Tryz.func100 rfl (by decide) (by kernel_rfl) h
def Tz:V6:=[none,none,none,some ([5],[4,5,6,7,8,9,10,11,12,13,14,15,16,17,18,19]),none,none,none,none,none,none]
def Dg (h k:Value) (w:World) (K:Value→World→Prop):Prop:= lp (α:=Value) (.int .i64 0) w fun a b l w=>X3 P .len [T.i] T.e [false] [h] w fun j w=>Q3 P .lss T.e (.tmp 6) (.tmp 8) b j w fun i w=>X1 i (indexAddr P T.i h b w fun d w=>fieldAddr P T.b d 0 w fun g w=>Q2 P T.c g w fun c w=>Q3 P .eql T.c (.tmp 16) (.tmp 17) c k w fun f w=>X1 f (K b w) (Q3 P .add T.e (.tmp 10) (.const (.int .i64 1)) b (.int .i64 1) w fun e w=>a e w)) (K (.int .i64 (-1)) w)
theorem Tx {a b:Value} {w:World} {K:Value→World→Prop} (h:Dg a b w K):Q1 P F.b [a,b] w K:=Q9 Tz Tryz.func101 rfl (by decide) (by kernel_rfl) h
def Fw:V6:=[none,none,none,none,none,none,none,some ([6],[4,6,7,28,29,30,31,32,33,34,35,36,37,38,39,40,41,42,43,44,45,46,47,48,49,50,51]),none,none,none,none,none,none,none]
def Lr (g W:Value) (w:World) (K:Value→World→Prop):Prop:= box P T.b W w fun a w=>fieldAddr P T.b a 1 w fun V w=>Q2 P T.c V w fun N w=>Q1 P F.b [g,N] w fun f w=>Q3 P .lss T.e (.tmp 12) (.const (.int .i64 0)) f (.int .i64 0) w fun d w=>Q0 d false w (fun w J=>J g w) fun p w=>Q0 d false w (fun w J=>J f w) fun l w=>Q0 d false w (indexAddr P T.i p l) fun t w=>Q0 d false w (fieldAddr P T.b t 3) fun E w=>Q0 d false w (Q2 P T.u E) fun B w=>pick P d (.bool true) B w fun c w=>Q0 c false w (fun w J=>J g w) fun n w=>Q0 c false w (fun w J=>J f w) fun M w=>Q0 c false w (indexAddr P T.i n M) fun u w=>Q0 c false w (fieldAddr P T.b u 5) fun q w=>Q0 c false w (Q2 P T.u q) fun r w=>pick P c (.bool true) r w fun o w=>X1 o (K (.int .i64 61) w) (lp (α:=Value) (.int .i64 0) w fun e i X w=>fieldAddr P T.b a 2 w fun L w=>Q2 P T.h L w fun v w=>X3 P .len [T.h] T.e [false] [v] w fun R w=>Q3 P .lss T.e (.tmp 28) (.tmp 31) i R w fun A w=>X1 A (fieldAddr P T.b a 2 w fun Q w=>Q2 P T.h Q w fun k w=>indexAddr P T.h k i w fun U w=>Q2 P T.c U w fun C w=>Q1 P F.b [g,C] w fun h w=>Q3 P .lss T.e (.tmp 42) (.const (.int .i64 0)) h (.int .i64 0) w fun b w=>Q0 b false w (fun w J=>J g w) fun s w=>Q0 b false w (fun w J=>J h w) fun y w=>Q0 b false w (indexAddr P T.i s y) fun O w=>Q0 b false w (fieldAddr P T.b O 3) fun z w=>Q0 b false w (Q2 P T.u z) fun j w=>Q0 b false w (J6 P .not j) fun D w=>pick P b (.bool true) D w fun m w=>X1 m (K (.int .i64 62) w) (Q3 P .add T.e (.tmp 33) (.const (.int .i64 1)) i (.int .i64 1) w fun H w=>e H w)) (K (.int .i64 0) w))
theorem Gq {a b:Value} {w:World} {K:Value→World→Prop} (h:Lr a b w K):Q1 P F.bg [a,b] w K:=Q9 Fw Tryz.func102 rfl (by decide) (by kernel_rfl) h
def Ki:V6:=[none,none,none,none,some ([3,4],[3,4,5,6,7,8,13,14,15,16,17,18,19,20,21,22,23,24,25,26,27,28,29,30,31,32,33,34,35,36,37,38,39,40,41,42,43,44,45,46,47,48,49,50,51,52,53,54]),none,none,none,none,none,none,none,some ([7],[7,8,34,35,36,37,38,39,40,41,42,43,44,45,46,47,48,49,50]),none,none,some ([],[8,40,41,42,43,44,45,46,47,48,49,50]),none,none,none,none,some ([9],[9,10,11,55,56,57,58,59,60,61,62,63,64,65,66,67,68,69,70,71,72,73,74,75,76,77,78,79,80,81,82,83,84,85,86,87,88,89,90,91,92,93,94,95,96,97,98,99,100,101,102,103]),none,none,none,none,some ([10],[10,11,61,62,63,64,65,66,67,68,69,70,71,72,73,74,75,76,77,78,79,80,81,82,83,84,85,86,87,88,89,90,91,92,93,94,95,96,97,98,99,100,101,102,103]),none,none,none,none,some ([11],[11,67,68,69,70,71,72,73,74,75,76,77,78,79,80,81,82,83,84,85,86,87,88,89,90,91,92,93,94,95,96,97,98,99,100,101,102,103]),none,none,none,none]
def My (a0:Value) (w:World) (K:Value→World→Prop):Prop:= buildSlice P T.a8 0 [] w fun bn w=>lp (α:=Value×Value) (bn,(.int .i64 0)) w fun ai r d_ w=>X3 P .len [T.i] T.e [false] [a0] w fun bl w=>Q3 P .lss T.e (.tmp 13) (.tmp 15) r.2 bl w fun bj w=>X1 bj (X3 P .len [T.i] T.e [false] [a0] w fun a7 w=>Ww P T.a6 a7 a7 w fun a6 w=>dr w fun b d=>Q6 b (fun t=> ∀w,d w→indexAddr P T.i a0 r.2 w (dk b t w)) fun t=>Q6 b (fun v=> ∀am w,d w→t am w→fieldAddr P T.b am 1 w (dk b v w)) fun v=>Q6 b (fun an=> ∀w,d w→indexAddr P T.i a0 r.2 w (dk b an w)) fun an=>Q6 b (fun ah=> ∀al w,d w→an al w→fieldAddr P T.b al 2 w (dk b ah w)) fun ah=>Q6 b (fun aa=> ∀L w,d w→v L w→Q2 P T.c L w (dk b aa w)) fun aa=>Q6 b (fun a5=> ∀M w,d w→aa M w→buildSlice P T.h 1 [(0,M)] w (dk b a5 w)) fun a5=>Q6 b (fun a2=> ∀ax w,d w→ah ax w→Q2 P T.h ax w (dk b a2 w)) fun a2=>∀am L al ax M bf a9 w,d w→t am w→v L w→an al w→ah ax w→aa M w→a5 bf w→a2 a9 w→ X3 P .append [T.h,T.h] T.h [false,false] [bf,a9] w fun be w=>lp (α:=Value) (.int .i64 0) w fun l a3 d_ w=>X3 P .len [T.h] T.e [false] [be] w fun b2 w=>Q3 P .lss T.e (.tmp 34) (.tmp 36) a3 b2 w fun bi w=>X1 bi (jn (α:=Unit) w (fun bb w=>indexAddr P T.h be a3 w fun b3 w=>Q2 P T.c b3 w fun bv w=>Q1 P F.b [a0,bv] w fun bd w=>Q3 P .geq T.e (.tmp 46) (.const (.int .i64 0)) bd (.int .i64 0) w fun bo w=>X1 bo (indexAddr P T.a6 a6 bd w fun bz w=>Y0 P T.u bz (.bool true) w fun _u w=>bb () w) (bb () w)) fun b4 d_ w=>Q3 P .add T.e (.tmp 38) (.const (.int .i64 1)) a3 (.int .i64 1) w fun bw w=>l bw w) (buildSlice P T.a8 1 [(0,a6)] w fun bq w=>X3 P .append [T.a8,T.a8] T.a8 [false,false] [r.1,bq] w fun bg w=>Q3 P .add T.e (.tmp 17) (.const (.int .i64 1)) r.2 (.int .i64 1) w fun b0 w=>ai (bg,b0) w)) (lp (α:=Value) (.int .i64 0) w fun o af d_ w=>X3 P .len [T.i] T.e [false] [a0] w fun bk w=>Q3 P .lss T.e (.tmp 55) (.tmp 57) af bk w fun br w=>X1 br (lp (α:=Value) (.int .i64 0) w fun p k d_ w=>X3 P .len [T.i] T.e [false] [a0] w fun bm w=>Q3 P .lss T.e (.tmp 61) (.tmp 63) k bm w fun bx w=>X1 bx (lp (α:=Value) (.int .i64 0) w fun q n d_ w=>X3 P .len [T.i] T.e [false] [a0] w fun b1 w=>Q3 P .lss T.e (.tmp 67) (.tmp 69) n b1 w fun bp w=>X1 bp (dr w fun b d=>Q6 b (fun W=> ∀w,d w→indexAddr P T.a8 r.1 k w (dk b W w)) fun W=>Q6 b (fun U=> ∀w,d w→indexAddr P T.a8 r.1 k w (dk b U w)) fun U=>Q6 b (fun a4=> ∀ak w,d w→W ak w→Q2 P T.a6 ak w (dk b a4 w)) fun a4=>Q6 b (fun ae=> ∀aj w,d w→U aj w→Q2 P T.a6 aj w (dk b ae w)) fun ae=>Q6 b (fun ag=> ∀E w,d w→ae E w→indexAddr P T.a6 E n w (dk b ag w)) fun ag=>Q6 b (fun e=> ∀C w,d w→ag C w→Q2 P T.u C w (dk b e w)) fun e=>Q6 b (fun ad=> ∀a w,d w→e a w→Q0 a false w (fun w J=>J r.1 w) (dk b ad w)) fun ad=>Q6 b (fun u=> ∀a w,d w→e a w→Q0 a false w (fun w J=>J k w) (dk b u w)) fun u=>Q6 b (fun O=> ∀a ay z w,d w→e a w→ad ay w→u z w→Q0 a false w (indexAddr P T.a8 ay z) (dk b O w)) fun O=>Q6 b (fun H=> ∀a w,d w→e a w→Q0 a false w (fun w J=>J af w) (dk b H w)) fun H=>Q6 b (fun A=> ∀a aq w,d w→e a w→O aq w→Q0 a false w (Q2 P T.a6 aq) (dk b A w)) fun A=>Q6 b (fun B=> ∀a ab Y w,d w→e a w→A ab w→H Y w→Q0 a false w (indexAddr P T.a6 ab Y) (dk b B w)) fun B=>Q6 b (fun N=> ∀a ar w,d w→e a w→B ar w→Q0 a false w (Q2 P T.u ar) (dk b N w)) fun N=>Q6 b (fun f=> ∀a av w,d w→e a w→N av w→Q0 a false w (fun w J=>J av w) (dk b f w)) fun f=>Q6 b (fun X=> ∀c w,d w→f c w→Q0 c true w (fun w J=>J r.1 w) (dk b X w)) fun X=>Q6 b (fun ac=> ∀c w,d w→f c w→Q0 c true w (fun w J=>J af w) (dk b ac w)) fun ac=>Q6 b (fun D=> ∀c y Q w,d w→f c w→X y w→ac Q w→Q0 c true w (indexAddr P T.a8 y Q) (dk b D w)) fun D=>Q6 b (fun V=> ∀c w,d w→f c w→Q0 c true w (fun w J=>J n w) (dk b V w)) fun V=>Q6 b (fun R=> ∀c Z w,d w→f c w→D Z w→Q0 c true w (Q2 P T.a6 Z) (dk b R w)) fun R=>Q6 b (fun aw=> ∀c ap s w,d w→f c w→R ap w→V s w→Q0 c true w (indexAddr P T.a6 ap s) (dk b aw w)) fun aw=>Q6 b (fun h=> ∀c ao w,d w→f c w→aw ao w→Q0 c true w (Q2 P T.u ao) (dk b h w)) fun h=>Q6 b (fun i=> ∀a c j w,d w→e a w→f c w→h j w→Q0 a false w (pick P c j (.bool false)) (dk b i w)) fun i=>Q6 b (fun m=> ∀a g w,d w→e a w→i g w→pick P a (.bool true) g w (dk b m w)) fun m=>∀ak aj a8 E C a ay z aq Y ab ar av c y Q Z s ap ao j g a1 w,d w→W ak w→U aj w→a4 a8 w→ae E w→ag C w→e a w→ad ay w→u z w→O aq w→H Y w→A ab w→B ar w→N av w→f c w→X y w→ac Q w→D Z w→V s w→R ap w→aw ao w→h j w→i g w→m a1 w→ indexAddr P T.a6 a8 n w fun ba w=>Y0 P T.u ba a1 w fun _u w=>Q3 P .add T.e (.tmp 71) (.const (.int .i64 1)) n (.int .i64 1) w fun bu w=>q bu w) (Q3 P .add T.e (.tmp 65) (.const (.int .i64 1)) k (.int .i64 1) w fun bh w=>p bh w)) (Q3 P .add T.e (.tmp 59) (.const (.int .i64 1)) af (.int .i64 1) w fun bs w=>o bs w)) (K r.1 w))
theorem Pa {a:Value} {w:World} {K:Value→World→Prop} (h:My a w K):Q1 P F.ah [a] w K:=Q9 Ki Tryz.func103 rfl (by decide) (by kernel_rfl) h
def Q0Z:V6:=[none,none,none,none,none,none,some ([9],[8,9,16,17,18,19,20,21,22,23,24,25,26,27,28]),none,none,none,none,none,none,none,none,some ([1,11],[1,11,41,42,43,44,45,46,47,48,49,50,51,52,53,54,55,56]),none,none,none,none]
def Eb (y v X t:Value) (w:World) (K:Value→World→Prop):Prop:= Q3 P .lss T.e (.tmp 12) (.tmp 13) t X w fun N w=>X1 N (K v w) (lp (α:=Value) (.int .i64 0) w fun l z Y w=>X3 P .len [T.a7] T.e [false] [v] w fun R w=>Q3 P .lss T.e (.tmp 16) (.tmp 18) z R w fun O w=>X1 O (indexAddr P T.a7 v z w fun M w=>Q2 P T.e M w fun J w=>Q3 P .eql T.e (.tmp 25) (.tmp 26) J t w fun H w=>X1 H (K v w) (Q3 P .add T.e (.tmp 20) (.const (.int .i64 1)) z (.int .i64 1) w fun A w=>l A w)) (dr w fun a o=>Q6 a (fun f=> ∀w,o w→indexAddr P T.i y t w (dk a f w)) fun f=>Q6 a (fun k=> ∀n w,o w→f n w→fieldAddr P T.b n 1 w (dk a k w)) fun k=>Q6 a (fun h=> ∀w,o w→indexAddr P T.i y t w (dk a h w)) fun h=>Q6 a (fun m=> ∀e w,o w→h e w→fieldAddr P T.b e 2 w (dk a m w)) fun m=>Q6 a (fun g=> ∀i w,o w→k i w→Q2 P T.c i w (dk a g w)) fun g=>Q6 a (fun q=> ∀j w,o w→g j w→buildSlice P T.h 1 [(0,j)] w (dk a q w)) fun q=>Q6 a (fun p=> ∀d w,o w→m d w→Q2 P T.h d w (dk a p w)) fun p=>∀n i e d j s u w,o w→f n w→k i w→h e w→m d w→g j w→q s w→p u w→ X3 P .append [T.h,T.h] T.h [false,false] [s,u] w fun r w=>lp (α:=Value×Value) (v,(.int .i64 0)) w fun b c Y w=>X3 P .len [T.h] T.e [false] [r] w fun V w=>Q3 P .lss T.e (.tmp 41) (.tmp 43) c.2 V w fun D w=>X1 D (indexAddr P T.h r c.2 w fun U w=>Q2 P T.c U w fun B w=>Q1 P F.b [y,B] w fun C w=>Q1 P F.b3 [y,c.1,X,C] w fun Q w=>Q3 P .add T.e (.tmp 45) (.const (.int .i64 1)) c.2 (.int .i64 1) w fun L w=>b (Q,L) w) (buildSlice P T.a7 1 [(0,t)] w fun E w=>X3 P .append [T.a7,T.a7] T.a7 [false,false] [c.1,E] w fun W w=>K W w)))
theorem Q0L {c d a b:Value} {w:World} {K:Value→World→Prop} (h:Eb c d a b w K):Q1 P F.b3 [c,d,a,b] w K:=Q9 Q0Z Tryz.func104 rfl (by decide) (by kernel_rfl) h
def Xq (u A:Value) (w:World) (K:Value→World→Prop):Prop:= Q1 P F.b [u,A] w fun v w=>Q3 P .lss T.e (.tmp 9) (.const (.int .i64 0)) v (.int .i64 0) w fun z w=>X1 z (K (.slice none 0 0) w) (dr w fun a b=>Q6 a (fun d=> ∀w,b w→indexAddr P T.i u v w (dk a d w)) fun d=>Q6 a (fun m=> ∀h w,b w→d h w→fieldAddr P T.b h 1 w (dk a m w)) fun m=>Q6 a (fun i=> ∀w,b w→indexAddr P T.i u v w (dk a i w)) fun i=>Q6 a (fun j=> ∀f w,b w→i f w→fieldAddr P T.b f 6 w (dk a j w)) fun j=>Q6 a (fun c=> ∀w,b w→buildSlice P T.k 0 [] w (dk a c w)) fun c=>Q6 a (fun p=> ∀e w,b w→m e w→Q2 P T.c e w (dk a p w)) fun p=>Q6 a (fun n=> ∀g w,b w→p g w→Q1 P F.k [u,g] w (dk a n w)) fun n=>Q6 a (fun r=> ∀k l w,b w→c k w→n l w→X3 P .append [T.k,T.k] T.k [false,false] [k,l] w (dk a r w)) fun r=>Q6 a (fun q=> ∀o w,b w→j o w→Q2 P T.k o w (dk a q w)) fun q=>∀h e f o k g l t s w,b w→d h w→m e w→i f w→j o w→c k w→p g w→n l w→r t w→q s w→ X3 P .append [T.k,T.k] T.k [false,false] [t,s] w fun y w=>K y w)
theorem Wz {a b:Value} {w:World} {K:Value→World→Prop} (h:Xq a b w K):Q1 P F.k [a,b] w K:=Q9 (List.replicate 6 none) Tryz.func73 rfl (by decide) (by kernel_rfl) h
def Iz:V6:=[none,none,none,none,some ([8],[6,8,12,13,14,15,16,17,18,19,20,21,22,23,24,25]),none,none,none,none,none,none]
def Nj (l m k:Value) (w:World) (K:Value→World→Prop):Prop:= Q1 P F.k [l,m] w fun b w=>lp (α:=Value) (.int .i64 0) w fun a c n w=>X3 P .len [T.k] T.e [false] [b] w fun f w=>Q3 P .lss T.e (.tmp 12) (.tmp 14) c f w fun i w=>X1 i (indexAddr P T.k b c w fun g w=>fieldAddr P T.o g 0 w fun e w=>Q2 P T.c e w fun h w=>Q3 P .eql T.c (.tmp 22) (.tmp 23) h k w fun d w=>X1 d (K c w) (Q3 P .add T.e (.tmp 16) (.const (.int .i64 1)) c (.int .i64 1) w fun j w=>a j w)) (K (.int .i64 (-1)) w)
theorem Iv {b c a:Value} {w:World} {K:Value→World→Prop} (h:Nj b c a w K):Q1 P F.bu [b,c,a] w K:=Q9 Iz Tryz.func149 rfl (by decide) (by kernel_rfl) h
def Om (b:Value) (w:World) (K:Value→World→Prop):Prop:= X3 P .len [T.c] T.e [false] [b] w fun f w=>Q1 P F.a1 [b] w fun e w=>Q3 P .mul T.e (.const (.int .i64 2)) (.tmp 7) (.int .i64 2) e w fun d w=>Q3 P .sub T.e (.tmp 5) (.tmp 8) f d w fun c w=>R6 P T.c b none (some c) none w fun a w=>K a w
theorem To {a:Value} {w:World} {K:Value→World→Prop} (h:Om a w K):Q1 P F.aZ [a] w K:=Q9 (List.replicate 2 none) Tryz.func153 rfl (by decide) (by kernel_rfl) h
def Ob (r d:Value) (w:World) (K:Value→World→Prop):Prop:= Q3 P .eql T.c (.tmp 5) (.const (.string ⟨#[110,117,108,108]⟩)) d (.string ⟨#[110,117,108,108]⟩) w fun c w=>Q0 c false w (fun w J=>J d w) fun q w=>Q0 c false w (Q1 P F.e [q]) fun p w=>Q0 c false w (fun w J=>J p w) fun b w=>Q0 b true w (fun w J=>J d w) fun l w=>Q0 b true w (Q1 P F.aZ [l]) fun n w=>Q0 b true w (Q1 P F.x [n]) fun o w=>Q0 b true w (fun w J=>J o w) fun a w=>Q0 a false w (fun w J=>J r w) fun i w=>Q0 a false w (fun w J=>J d w) fun g w=>Q0 a false w (Q1 P F.aZ [g]) fun j w=>Q0 a false w (Q1 P F.b [i,j]) fun m w=>Q0 a false w (Q3 P .geq T.e (.tmp 18) (.const (.int .i64 0)) m (.int .i64 0)) fun k w=>Q0 b true w (pick P a (.bool true) k) fun f w=>Q0 c false w (pick P b f (.bool false)) fun e w=>pick P c (.bool true) e w fun h w=>K h w
theorem Q03 {a b:Value} {w:World} {K:Value→World→Prop} (h:Ob a b w K):Q1 P F.a0 [a,b] w K:=Q9 (List.replicate 2 none) Tryz.func106 rfl (by decide) (by kernel_rfl) h
def Lz (g d:Value) (w:World) (K:Value→World→Prop):Prop:= Q3 P .neq T.c (.tmp 5) (.const (.string ⟨#[110,117,108,108]⟩)) d (.string ⟨#[110,117,108,108]⟩) w fun a w=>Q0 a true w (fun w J=>J g w) fun f w=>Q0 a true w (fun w J=>J d w) fun e w=>Q0 a true w (Q1 P F.a0 [f,e]) fun b w=>pick P a b (.bool false) w fun c w=>K c w
theorem Km {a b:Value} {w:World} {K:Value→World→Prop} (h:Lz a b w K):Q1 P F.bv [a,b] w K:=Q9 (List.replicate 2 none) Tryz.func150 rfl (by decide) (by kernel_rfl) h
def Au:V6:=[none,none,none,none,some ([3,4],[3,4,5,6,7,8,9,10,11,12,13,14,15,16,17,18,19,20,21,22]),none,none,none,some ([3],[3,12,13,14,15]),none,none]
def De (v:Value) (w:World) (K:Value→World→Prop):Prop:= box P T.d v w fun a w=>lp (α:=Value×Value) ((.string ⟨#[40]⟩),(.int .i64 0)) w fun b c y w=>fieldAddr P T.d a 1 w fun t w=>Q2 P T.h t w fun s w=>X3 P .len [T.h] T.e [false] [s] w fun r w=>Q3 P .lss T.e (.tmp 5) (.tmp 8) c.2 r w fun q w=>X1 q (jn (α:=Value) w (fun p w=>Q3 P .gtr T.e (.tmp 12) (.const (.int .i64 0)) c.2 (.int .i64 0) w fun n w=>X1 n (Q3 P .add T.c (.tmp 14) (.const (.string ⟨#[44]⟩)) c.1 (.string ⟨#[44]⟩) w fun g w=>p g w) (p c.1 w)) fun u y w=>fieldAddr P T.d a 1 w fun j w=>Q2 P T.h j w fun m w=>indexAddr P T.h m c.2 w fun e w=>Q2 P T.c e w fun d w=>Q3 P .add T.c (.tmp 16) (.tmp 21) u d w fun f w=>Q3 P .add T.e (.tmp 10) (.const (.int .i64 1)) c.2 (.int .i64 1) w fun l w=>b (f,l) w) (Q3 P .add T.c (.tmp 23) (.const (.string ⟨#[41]⟩)) c.1 (.string ⟨#[41]⟩) w fun k w=>fieldAddr P T.d a 2 w fun h w=>Q2 P T.c h w fun i w=>Q3 P .add T.c (.tmp 24) (.tmp 26) k i w fun o w=>K o w)
theorem Ap {a:Value} {w:World} {K:Value→World→Prop} (h:De a w K):Q1 P F.aY [a] w K:=Q9 Au Tryz.func151 rfl (by decide) (by kernel_rfl) h
def Q0n:V6:=[none,none,none,some ([5],[4,5,6,7,8,9,10,11,12,13,14,15,16,17,18,19,20,21]),none,none,none,none,none,none]
def Ep (o p:Value) (w:World) (K:Value→World→Prop):Prop:= box P T.b o w fun a w=>lp (α:=Value) (.int .i64 0) w fun b c q w=>fieldAddr P T.b a 7 w fun n w=>Q2 P T.j n w fun m w=>X3 P .len [T.j] T.e [false] [m] w fun l w=>Q3 P .lss T.e (.tmp 6) (.tmp 9) c l w fun j w=>X1 j (fieldAddr P T.b a 7 w fun k w=>Q2 P T.j k w fun g w=>indexAddr P T.j g c w fun e w=>fieldAddr P T.d e 0 w fun f w=>Q2 P T.c f w fun h w=>Q3 P .eql T.c (.tmp 18) (.tmp 19) h p w fun d w=>X1 d (K c w) (Q3 P .add T.e (.tmp 11) (.const (.int .i64 1)) c (.int .i64 1) w fun i w=>b i w)) (K (.int .i64 (-1)) w)
theorem Q0P {a b:Value} {w:World} {K:Value→World→Prop} (h:Ep a b w K):Q1 P F.b4 [a,b] w K:=Q9 Q0n Tryz.func183 rfl (by decide) (by kernel_rfl) h
def Ix:V6:=[none,none,none,some ([9],[6,8,9,10,11,12,13,14,15,16,17,18,19,20,21,22,23,24,25,26,27,28,29,30,31,32,33,34,35,36,37,38,39,40,41,42,43,44,45,46,47,48,49,50,51,52,53,54]),none,none,none,none,none,none,none,none,none,none,none,none]
def Nn (W a1 a2:Value) (w:World) (K:Value→World→Prop):Prop:= box P T.b a1 w fun d w=>V9 P T.d w fun s w=>lp (α:=Value) (.int .i64 0) w fun n V d_ w=>fieldAddr P T.b d 2 w fun D w=>Q2 P T.h D w fun J w=>X3 P .len [T.h] T.e [false] [J] w fun X w=>Q3 P .lss T.e (.tmp 15) (.tmp 18) V X w fun R w=>X1 R (fieldAddr P T.b d 2 w fun N w=>Q2 P T.h N w fun L w=>indexAddr P T.h L V w fun H w=>Q2 P T.c H w fun Z w=>Q1 P F.b [W,Z] w fun Y w=>indexAddr P T.i W Y w fun O w=>Q2 P T.b O w fun ab w=>V9 P T.b w fun a w=>Y0 P T.b a ab w fun _u w=>Q2 P T.b a w fun Q w=>Q1 P F.b4 [Q,a2] w fun y w=>Q3 P .geq T.e (.tmp 35) (.const (.int .i64 0)) y (.int .i64 0) w fun aa w=>X1 aa (dr w fun b e=>Q6 b (fun j=> ∀w,e w→fieldAddr P T.b a 0 w (dk b j w)) fun j=>Q6 b (fun k=> ∀w,e w→fieldAddr P T.b a 7 w (dk b k w)) fun k=>Q6 b (fun r=> ∀i w,e w→j i w→Q2 P T.c i w (dk b r w)) fun r=>Q6 b (fun f=> ∀m w,e w→k m w→Q2 P T.j m w (dk b f w)) fun f=>Q6 b (fun h=> ∀l w,e w→f l w→indexAddr P T.j l y w (dk b h w)) fun h=>Q6 b (fun p=> ∀g w,e w→h g w→Q2 P T.d g w (dk b p w)) fun p=>∀i m u l g z w,e w→j i w→k m w→r u w→f l w→h g w→p z w→ Y0 P T.d s z w fun _u w=>Y8 P T.d s w fun v=>K (.tuple #[u,v,(.bool true)]) w) (Q2 P T.b a w fun M w=>Q1 P F.aM [W,M,a2] w fun q w=>ext P q 0 w fun B w=>ext P q 1 w fun U w=>ext P q 2 w fun E w=>V9 P T.d w fun c w=>Y0 P T.d c U w fun _u w=>X1 E (dr w fun b e=>Q6 b (fun o=> ∀w,e w→Q2 P T.d c w (dk b o w)) fun o=>∀t w,e w→o t w→ Y0 P T.d s t w fun _u w=>Y8 P T.d s w fun v=>K (.tuple #[B,v,(.bool true)]) w) (Q3 P .add T.e (.tmp 20) (.const (.int .i64 1)) V (.int .i64 1) w fun A w=>n A w))) (H1 P T.d [] w fun C w=>Y0 P T.d s C w fun _u w=>Y8 P T.d s w fun v=>K (.tuple #[(.string ⟨#[]⟩),v,(.bool false)]) w)
theorem Kg {b c a:Value} {w:World} {K:Value→World→Prop} (h:Nn b c a w K):Q1 P F.aM [b,c,a] w K:=Q9 Ix Tryz.func184 rfl (by decide) (by kernel_rfl) h
def Gg:V6:=[none,none,none,some ([9],[6,8,9,10,18,19,20,21,22,23,24,25,26,27,28,29,30,31,32,33,34,35,36,37,38,39,40,41,42,43,44,45,46,47]),none,none,none,none,none,none,none,none,some ([11],[6,8,11,12,13,14,51,52,53,54,55,56,57,58,59,60,61,62,63,64,65,66,67,68,69,70,71,72,73]),none,none,none,none,none,none,none]
def La (c a1 a2:Value) (w:World) (K:Value→World→Prop):Prop:= V9 P T.d w fun y w=>Q1 P F.b [c,a1] w fun N w=>lp (α:=Value) N w fun q B d_ w=>Q3 P .geq T.e (.tmp 18) (.const (.int .i64 0)) B (.int .i64 0) w fun X w=>X1 X (indexAddr P T.i c B w fun ad w=>Q2 P T.b ad w fun U w=>Q1 P F.b4 [U,a2] w fun A w=>Q3 P .geq T.e (.tmp 33) (.const (.int .i64 0)) A (.int .i64 0) w fun ac w=>X1 ac (dr w fun a b=>Q6 a (fun j=> ∀w,b w→indexAddr P T.i c B w (dk a j w)) fun j=>Q6 a (fun n=> ∀h w,b w→j h w→fieldAddr P T.b h 0 w (dk a n w)) fun n=>Q6 a (fun f=> ∀w,b w→indexAddr P T.i c B w (dk a f w)) fun f=>Q6 a (fun k=> ∀e w,b w→f e w→fieldAddr P T.b e 7 w (dk a k w)) fun k=>Q6 a (fun u=> ∀g w,b w→n g w→Q2 P T.c g w (dk a u w)) fun u=>Q6 a (fun l=> ∀o w,b w→k o w→Q2 P T.j o w (dk a l w)) fun l=>Q6 a (fun p=> ∀i w,b w→l i w→indexAddr P T.j i A w (dk a p w)) fun p=>Q6 a (fun t=> ∀m w,b w→p m w→Q2 P T.d m w (dk a t w)) fun t=>∀h g e o H i m E w,b w→j h w→n g w→f e w→k o w→u H w→l i w→p m w→t E w→ Y0 P T.d y E w fun _u w=>Y8 P T.d y w fun z=>K (.tuple #[H,z,(.bool true)]) w) (indexAddr P T.i c B w fun ae w=>fieldAddr P T.b ae 1 w fun V w=>Q2 P T.c V w fun O w=>Q1 P F.b [c,O] w fun Q w=>q Q w)) (Q1 P F.b [c,a1] w fun Z w=>lp (α:=Value) Z w fun d s d_ w=>Q3 P .geq T.e (.tmp 51) (.const (.int .i64 0)) s (.int .i64 0) w fun aa w=>X1 aa (indexAddr P T.i c s w fun W w=>Q2 P T.b W w fun J w=>Q1 P F.aM [c,J,a2] w fun r w=>ext P r 0 w fun ab w=>ext P r 1 w fun af w=>ext P r 2 w fun ag w=>V9 P T.d w fun D w=>Y0 P T.d D af w fun _u w=>X1 ag (dr w fun a b=>Q6 a (fun v=> ∀w,b w→Q2 P T.d D w (dk a v w)) fun v=>∀C w,b w→v C w→ Y0 P T.d y C w fun _u w=>Y8 P T.d y w fun z=>K (.tuple #[ab,z,(.bool true)]) w) (indexAddr P T.i c s w fun Y w=>fieldAddr P T.b Y 1 w fun M w=>Q2 P T.c M w fun ah w=>Q1 P F.b [c,ah] w fun L w=>d L w)) (H1 P T.d [] w fun R w=>Y0 P T.d y R w fun _u w=>Y8 P T.d y w fun z=>K (.tuple #[(.string ⟨#[]⟩),z,(.bool false)]) w))
theorem Gu {b c a:Value} {w:World} {K:Value→World→Prop} (h:La b c a w K):Q1 P F.bh [b,c,a] w K:=Q9 Gg Tryz.func152 rfl (by decide) (by kernel_rfl) h
def Fe:V6:=[none,none,none,none,some ([6],[4,6,24,25,26,27,28,29,30,31,32,33,34,35,36,37,38,39,40,41]),none,none,none,none,none,none,none,none,some ([7,8],[7,8,43,44,45,46,47,48,49,50,51,52,53,54,55,56,57,58]),none,none,none,none,none,some ([7,9],[7,9,59,60,61,62,63,64,65,66,67,68,69,70,71,72,73,74,75,76,77,78,79,80,81,82,83,84,85,86,87,88,89]),none,none,some ([7],[7,66,67,68,69,70,71,72,73,74,75,76,77,78,79,80,81,82,83,84,85,86,87,88,89]),none,none,none,none,some ([10],[4,10,90,91,92,93,94,95,96,97,98,99,100,101,102]),none,none,none,none,none,none,none,none,none,some ([12,13],[12,13,106,107,108,109,110,111,112,113,114,115,116,117,118,119,120,121,122,123,124,125,126,127,128,129,130]),none,none,some ([12],[12,112,113,114,115,116,117,118,119,120,121,122,123,124,125,126,127,128,129,130]),none,none,none,some ([14],[4,14,15,131,132,133,134,135,136,137,138,139,140,141,142,143,144,145,146,147,148,149,150,151,152,153,154,155,156,157,158,159,160,161,162,163,164,165]),none,none,none,none,some ([15],[4,15,137,138,139,140,141,142,143,144,145,146,147,148,149,150,151,152,153,154,155,156,157,158,159,160,161,162,163,164,165]),none,none,none,none,none,none,none,some ([16],[4,16,17,18,19,166,167,168,169,170,171,172,173,174,175,176,177,178,179,180,181,182,183,184,185,186,187,188,189,190,191,192,193,194,195]),none,none,none,none,none,none,none]
def Vy (a0 a1:Value) (w:World) (K:Value→World→Prop):Prop:= indexAddr P T.i a0 a1 w fun dy w=>Q2 P T.b dy w fun c4 w=>V9 P T.b w fun t5 w=>Y0 P T.b t5 c4 w fun _u w=>lp (α:=Value) (.int .i64 0) w fun bd x4 d_ w=>fieldAddr P T.b t5 6 w fun dz w=>Q2 P T.k dz w fun d0 w=>X3 P .len [T.k] T.e [false] [d0] w fun dn w=>Q3 P .lss T.e (.tmp 24) (.tmp 27) x4 dn w fun d5 w=>X1 d5 (dr w fun b c=>Q6 b (fun a4=> ∀w,c w→fieldAddr P T.b t5 1 w (dk b a4 w)) fun a4=>Q6 b (fun bc=> ∀w,c w→fieldAddr P T.b t5 6 w (dk b bc w)) fun bc=>Q6 b (fun bm=> ∀bb w,c w→a4 bb w→Q2 P T.c bb w (dk b bm w)) fun bm=>Q6 b (fun ba=> ∀a3 w,c w→bc a3 w→Q2 P T.k a3 w (dk b ba w)) fun ba=>Q6 b (fun be=> ∀a8 w,c w→ba a8 w→indexAddr P T.k a8 x4 w (dk b be w)) fun be=>Q6 b (fun a5=> ∀a2 w,c w→be a2 w→fieldAddr P T.o a2 0 w (dk b a5 w)) fun a5=>Q6 b (fun bn=> ∀a7 w,c w→a5 a7 w→Q2 P T.c a7 w (dk b bn w)) fun bn=>∀bb a3 cs a8 a2 a7 cw w,c w→a4 bb w→bc a3 w→bm cs w→ba a8 w→be a2 w→a5 a7 w→bn cw w→ Q1 P F.bu [a0,cs,cw] w fun c2 w=>Q3 P .geq T.e (.tmp 40) (.const (.int .i64 0)) c2 (.int .i64 0) w fun dj w=>X1 dj (K (.int .i64 64) w) (Q3 P .add T.e (.tmp 29) (.const (.int .i64 1)) x4 (.int .i64 1) w fun df w=>bd df w)) (buildSlice P T.h 0 [] w fun ds w=>lp (α:=Value×Value) (ds,(.int .i64 0)) w fun am al d_ w=>fieldAddr P T.b t5 6 w fun d9 w=>Q2 P T.k d9 w fun dd w=>X3 P .len [T.k] T.e [false] [dd] w fun de w=>Q3 P .lss T.e (.tmp 43) (.tmp 46) al.2 de w fun c5 w=>X1 c5 (fieldAddr P T.b t5 6 w fun dw w=>Q2 P T.k dw w fun di w=>indexAddr P T.k di al.2 w fun dq w=>fieldAddr P T.o dq 1 w fun cx w=>Q2 P T.c cx w fun dh w=>buildSlice P T.h 1 [(0,dh)] w fun c0 w=>X3 P .append [T.h,T.h] T.h [false,false] [al.1,c0] w fun c6 w=>Q3 P .add T.e (.tmp 48) (.const (.int .i64 1)) al.2 (.int .i64 1) w fun dt w=>am (c6,dt) w) (lp (α:=Value×Value) (al.1,(.int .i64 0)) w fun ai j d_ w=>fieldAddr P T.b t5 7 w fun c8 w=>Q2 P T.j c8 w fun dx w=>X3 P .len [T.j] T.e [false] [dx] w fun eg w=>Q3 P .lss T.e (.tmp 59) (.tmp 62) j.2 eg w fun d2 w=>X1 d2 (jn (α:=Value) w (fun cr w=>fieldAddr P T.b t5 7 w fun dp w=>Q2 P T.j dp w fun ee w=>indexAddr P T.j ee j.2 w fun d6 w=>fieldAddr P T.d d6 1 w fun dc w=>Q2 P T.h dc w fun d7 w=>X3 P .append [T.h,T.h] T.h [false,false] [j.1,d7] w fun ci w=>fieldAddr P T.b t5 7 w fun d1 w=>Q2 P T.j d1 w fun db w=>indexAddr P T.j db j.2 w fun d4 w=>fieldAddr P T.d d4 2 w fun dl w=>Q2 P T.c dl w fun ec w=>Q3 P .neq T.c (.tmp 79) (.const (.string ⟨#[]⟩)) ec (.string ⟨#[]⟩) w fun ea w=>X1 ea (fieldAddr P T.b t5 7 w fun du w=>Q2 P T.j du w fun cz w=>indexAddr P T.j cz j.2 w fun eb w=>fieldAddr P T.d eb 2 w fun eh w=>Q2 P T.c eh w fun cy w=>buildSlice P T.h 1 [(0,cy)] w fun ed w=>X3 P .append [T.h,T.h] T.h [false,false] [ci,ed] w fun d8 w=>cr d8 w) (cr ci w)) fun d3 d_ w=>Q3 P .add T.e (.tmp 64) (.const (.int .i64 1)) j.2 (.int .i64 1) w fun c9 w=>ai (d3,c9) w) (lp (α:=Value) (.int .i64 0) w fun aj bj d_ w=>X3 P .len [T.h] T.e [false] [j.1] w fun ef w=>Q3 P .lss T.e (.tmp 90) (.tmp 92) bj ef w fun dv w=>X1 dv (indexAddr P T.h j.1 bj w fun dg w=>Q2 P T.c dg w fun b5 w=>Q1 P F.bv [a0,b5] w fun cl w=>J6 P .not cl w fun b3 w=>X1 b3 (K (.int .i64 65) w) (Q3 P .add T.e (.tmp 94) (.const (.int .i64 1)) bj (.int .i64 1) w fun c3 w=>aj c3 w)) (Q1 P F.ah [a0] w fun b2 w=>buildSlice P T.j 0 [] w fun cc w=>lp (α:=Value×Value) (cc,(.int .i64 0)) w fun an f d_ w=>X3 P .len [T.i] T.e [false] [a0] w fun cv w=>Q3 P .lss T.e (.tmp 106) (.tmp 108) f.2 cv w fun b6 w=>X1 b6 (jn (α:=Value) w (fun cn w=>Q3 P .eql T.e (.tmp 112) (.tmp 113) f.2 a1 w fun g w=>Q0 g false w (fun w J=>J b2 w) fun bo w=>Q0 g false w (fun w J=>J a1 w) fun bs w=>Q0 g false w (indexAddr P T.a8 bo bs) fun cu w=>Q0 g false w (Q2 P T.a6 cu) fun b4 w=>Q0 g false w (fun w J=>J f.2 w) fun b9 w=>Q0 g false w (indexAddr P T.a6 b4 b9) fun cb w=>Q0 g false w (Q2 P T.u cb) fun bp w=>pick P g (.bool true) bp w fun b7 w=>X1 b7 (indexAddr P T.i a0 f.2 w fun br w=>fieldAddr P T.b br 7 w fun bx w=>Q2 P T.j bx w fun cj w=>X3 P .append [T.j,T.j] T.j [false,false] [f.1,cj] w fun ct w=>cn ct w) (cn f.1 w)) fun dm d_ w=>Q3 P .add T.e (.tmp 110) (.const (.int .i64 1)) f.2 (.int .i64 1) w fun cp w=>an (dm,cp) w) (lp (α:=Value) (.int .i64 0) w fun ao ak d_ w=>X3 P .len [T.j] T.e [false] [f.1] w fun ca w=>Q3 P .lss T.e (.tmp 131) (.tmp 133) ak ca w fun cm w=>X1 cm (lp (α:=Value) (.int .i64 0) w fun ax a9 d_ w=>Q3 P .lss T.e (.tmp 137) (.tmp 138) a9 ak w fun ck w=>X1 ck (dr w fun b c=>Q6 b (fun v=> ∀w,c w→indexAddr P T.j f.1 ak w (dk b v w)) fun v=>Q6 b (fun ab=> ∀u w,c w→v u w→fieldAddr P T.d u 0 w (dk b ab w)) fun ab=>Q6 b (fun ag=> ∀w,c w→indexAddr P T.j f.1 a9 w (dk b ag w)) fun ag=>Q6 b (fun r=> ∀ae w,c w→ag ae w→fieldAddr P T.d ae 0 w (dk b r w)) fun r=>Q6 b (fun V=> ∀Z w,c w→ab Z w→Q2 P T.c Z w (dk b V w)) fun V=>Q6 b (fun R=> ∀Y w,c w→r Y w→Q2 P T.c Y w (dk b R w)) fun R=>Q6 b (fun d=> ∀L N w,c w→V L w→R N w→Q3 P .eql T.c (.tmp 146) (.tmp 151) L N w (dk b d w)) fun d=>Q6 b (fun A=> ∀a w,c w→d a w→Q0 a true w (fun w J=>J f.1 w) (dk b A w)) fun A=>Q6 b (fun l=> ∀a w,c w→d a w→Q0 a true w (fun w J=>J ak w) (dk b l w)) fun l=>Q6 b (fun af=> ∀a W O w,c w→d a w→A W w→l O w→Q0 a true w (indexAddr P T.j W O) (dk b af w)) fun af=>Q6 b (fun s=> ∀a w,c w→d a w→Q0 a true w (fun w J=>J f.1 w) (dk b s w)) fun s=>Q6 b (fun ac=> ∀a w,c w→d a w→Q0 a true w (fun w J=>J a9 w) (dk b ac w)) fun ac=>Q6 b (fun p=> ∀a D z w,c w→d a w→s D w→ac z w→Q0 a true w (indexAddr P T.j D z) (dk b p w)) fun p=>Q6 b (fun y=> ∀a t w,c w→d a w→af t w→Q0 a true w (Q2 P T.d t) (dk b y w)) fun y=>Q6 b (fun aw=> ∀a M w,c w→d a w→y M w→Q0 a true w (Q1 P F.aY [M]) (dk b aw w)) fun aw=>Q6 b (fun av=> ∀a o w,c w→d a w→p o w→Q0 a true w (Q2 P T.d o) (dk b av w)) fun av=>∀u Z ae Y L N a W O t D z o M bg bi w,c w→v u w→ab Z w→ag ae w→r Y w→V L w→R N w→d a w→A W w→l O w→af t w→s D w→ac z w→p o w→y M w→aw bg w→av bi w→ Q0 a true w (Q1 P F.aY [bi]) fun b0 w=>Q0 a true w (Q3 P .neq T.c (.tmp 158) (.tmp 163) bg b0) fun bw w=>pick P a bw (.bool false) w fun b8 w=>X1 b8 (K (.int .i64 66) w) (Q3 P .add T.e (.tmp 140) (.const (.int .i64 1)) a9 (.int .i64 1) w fun b1 w=>ax b1 w)) (Q3 P .add T.e (.tmp 135) (.const (.int .i64 1)) ak (.int .i64 1) w fun co w=>ao co w)) (lp (α:=Value) (.int .i64 0) w fun aq bl d_ w=>X3 P .len [T.j] T.e [false] [f.1] w fun bv w=>Q3 P .lss T.e (.tmp 166) (.tmp 168) bl bv w fun E w=>Q0 E true w (fieldAddr P T.b t5 4) fun cq w=>Q0 E true w (Q2 P T.u cq) fun bz w=>Q0 E true w (J6 P .not bz) fun bq w=>pick P E bq (.bool false) w fun ch w=>X1 ch (dr w fun b c=>Q6 b (fun q=> ∀w,c w→fieldAddr P T.b t5 0 w (dk b q w)) fun q=>Q6 b (fun ad=> ∀w,c w→indexAddr P T.j f.1 bl w (dk b ad w)) fun ad=>Q6 b (fun n=> ∀aa w,c w→ad aa w→fieldAddr P T.d aa 0 w (dk b n w)) fun n=>Q6 b (fun C=> ∀U w,c w→q U w→Q2 P T.c U w (dk b C w)) fun C=>Q6 b (fun H=> ∀X w,c w→n X w→Q2 P T.c X w (dk b H w)) fun H=>Q6 b (fun h=> ∀Q m w,c w→C Q w→H m w→Q1 P F.bh [a0,Q,m] w (dk b h w)) fun h=>Q6 b (fun ay=> ∀e w,c w→h e w→ext P e 0 w (dk b ay w)) fun ay=>Q6 b (fun B=> ∀e w,c w→h e w→ext P e 1 w (dk b B w)) fun B=>Q6 b (fun az=> ∀e w,c w→h e w→ext P e 2 w (dk b az w)) fun az=>Q6 b (fun bf=> ∀w,c w→V9 P T.d w (dk b bf w)) fun bf=>Ry b (fun ar=> ∀k i w,c w→bf k w→B i w→Y0 P T.d k i w (dk b (ar [k,i]) w)) fun ar=>∀U aa X Q m e bu i bh k da w,c w→q U w→ad aa w→n X w→C Q w→H m w→h e w→ay bu w→B i w→az bh w→bf k w→ar [k,i] da w→ J6 P .not bh w fun ap w=>Q0 ap false w (fieldAddr P T.d k 3) fun cg w=>Q0 ap false w (Q2 P T.u cg) fun ce w=>pick P ap (.bool true) ce w fun cf w=>X1 cf (K (.int .i64 67) w) (Q3 P .add T.e (.tmp 175) (.const (.int .i64 1)) bl (.int .i64 1) w fun cd w=>aq cd w)) (K (.int .i64 0) w)))))))
theorem Bp {a b:Value} {w:World} {K:Value→World→Prop} (h:Vy a b w K):Q1 P F.bb [a,b] w K:=Q9 Fe Tryz.func105 rfl (by decide) (by kernel_rfl) h
end Go.Proofs.YtjdiakhipmggjaaGreatDoor

set_option maxRecDepth 100000
namespace Go.Proofs.YtjdiakhipmggjaaGreatDoor
open Go.Emb
def Q0d:V6:=[none,none,none,none,none,some ([5,7],[2,3,4,5,7,8,21,22,23,24,25,26,27,28,29,30,31,32,33,34,35,36,37,38,39,40,41,42]),none,none,none,none,none,none,none,none,none,some ([9],[2,3,4,9,43,44,45,46,47,48,49,50,51,52,53,54,55,56,57,58,59,60]),none,none,none,none,none,none,none,some ([10],[2,3,4,10,11,61,62,63,64,65,66,67,68,69,70,71,72,73,74,75,76]),none,none,none,none,none,none,none,none,none,some ([13],[2,3,4,13,79,80,81,82,83,84,85,86,87,88,89,90,91,92,93,94,95,96]),none,none,none,none,none,none,none,none,some ([14,15],[14,15,98,99,100,101,102,103,104,105,106,107,108,109,110]),none,none,none,none,none,some ([16],[2,3,4,16,17,111,112,113,114,115,116,117,118,119,120,121,122,123,124,125,126,127,128,129,130,131]),none,none,none,none,none,none,none]
def Ez (o:Value) (w:World) (K:Value→World→Prop):Prop:= Q1 P F.bq [] w fun C w=>X3 P .len [T.i] T.e [false] [C] w fun b w=>lp (α:=Value×Value) (C,(.int .i64 0)) w fun n c J w=>X3 P .len [T.i] T.e [false] [o] w fun az w=>Q3 P .lss T.e (.tmp 21) (.tmp 23) c.2 az w fun ai w=>X1 ai (indexAddr P T.i o c.2 w fun aw w=>Q2 P T.b aw w fun aj w=>Q1 P F.br [aj] w fun N w=>Q3 P .neq T.y (.tmp 32) (.const (.int .i64 0)) N (.int .i64 0) w fun av w=>X1 av (K (.tuple #[(.slice none 0 0),c.2,N]) w) (indexAddr P T.i o c.2 w fun ad w=>Q2 P T.b ad w fun ao w=>buildSlice P T.i 1 [(0,ao)] w fun ax w=>X3 P .append [T.i,T.i] T.i [false,false] [c.1,ax] w fun Q w=>Q3 P .add T.e (.tmp 25) (.const (.int .i64 1)) c.2 (.int .i64 1) w fun af w=>n (Q,af) w)) (lp (α:=Value) (.int .i64 0) w fun d g J w=>X3 P .len [T.i] T.e [false] [o] w fun ag w=>Q3 P .lss T.e (.tmp 43) (.tmp 45) g ag w fun ah w=>X1 ah (indexAddr P T.i o g w fun ar w=>fieldAddr P T.b ar 0 w fun a1 w=>Q2 P T.c a1 w fun O w=>Q1 P F.b [c.1,O] w fun V w=>Q3 P .add T.e (.tmp 56) (.tmp 57) b g w fun U w=>Q3 P .neq T.e (.tmp 55) (.tmp 58) V U w fun aa w=>X1 aa (K (.tuple #[(.slice none 0 0),g,(.int .i64 60)]) w) (Q3 P .add T.e (.tmp 47) (.const (.int .i64 1)) g (.int .i64 1) w fun an w=>d an w)) (lp (α:=Value) (.int .i64 0) w fun i l J w=>X3 P .len [T.i] T.e [false] [o] w fun al w=>Q3 P .lss T.e (.tmp 61) (.tmp 63) l al w fun am w=>X1 am (indexAddr P T.i o l w fun a2 w=>Q2 P T.b a2 w fun ae w=>Q1 P F.bg [c.1,ae] w fun t w=>Q3 P .neq T.y (.tmp 73) (.const (.int .i64 0)) t (.int .i64 0) w fun ak w=>X1 ak (K (.tuple #[(.slice none 0 0),l,t]) w) (Q3 P .add T.e (.tmp 65) (.const (.int .i64 1)) l (.int .i64 1) w fun R w=>i R w)) (Q1 P F.ah [c.1] w fun a3 w=>lp (α:=Value) (.int .i64 0) w fun f e J w=>X3 P .len [T.i] T.e [false] [o] w fun ab w=>Q3 P .lss T.e (.tmp 79) (.tmp 81) e ab w fun X w=>X1 X (Q3 P .add T.e (.tmp 86) (.tmp 87) b e w fun ap w=>indexAddr P T.a8 a3 ap w fun W w=>Q2 P T.a6 W w fun a4 w=>Q3 P .add T.e (.tmp 91) (.tmp 92) b e w fun Y w=>indexAddr P T.a6 a4 Y w fun Z w=>Q2 P T.u Z w fun ay w=>X1 ay (K (.tuple #[(.slice none 0 0),e,(.int .i64 63)]) w) (Q3 P .add T.e (.tmp 83) (.const (.int .i64 1)) e (.int .i64 1) w fun ac w=>f ac w)) (buildSlice P T.a7 0 [] w fun aq w=>lp (α:=Value×Value) (aq,(.int .i64 0)) w fun h a J w=>X3 P .len [T.i] T.e [false] [o] w fun y w=>Q3 P .lss T.e (.tmp 98) (.tmp 100) a.2 y w fun D w=>X1 D (Q3 P .add T.e (.tmp 107) (.tmp 108) b a.2 w fun B w=>Q1 P F.b3 [c.1,a.1,b,B] w fun E w=>Q3 P .add T.e (.tmp 102) (.const (.int .i64 1)) a.2 (.int .i64 1) w fun z w=>h (E,z) w) (lp (α:=Value) (.int .i64 0) w fun k m J w=>X3 P .len [T.a7] T.e [false] [a.1] w fun r w=>Q3 P .lss T.e (.tmp 111) (.tmp 113) m r w fun A w=>X1 A (indexAddr P T.a7 a.1 m w fun L w=>Q2 P T.e L w fun s w=>Q1 P F.bb [c.1,s] w fun p w=>Q3 P .neq T.y (.tmp 123) (.const (.int .i64 0)) p (.int .i64 0) w fun M w=>X1 M (dr w fun Tr Br=>Q6 Tr (fun j=> ∀w,Br w→indexAddr P T.a7 a.1 m w (dk Tr j w)) fun j=>∀q w,Br w→j q w→ Q2 P T.e q w fun u w=>Q3 P .sub T.e (.tmp 128) (.tmp 129) u b w fun H w=>K (.tuple #[(.slice none 0 0),H,p]) w) (Q3 P .add T.e (.tmp 115) (.const (.int .i64 1)) m (.int .i64 1) w fun v w=>k v w)) (K (.tuple #[c.1,(.int .i64 0),(.int .i64 0)]) w))))))
theorem Q0T {a:Value} {w:World} {K:Value→World→Prop} (h:Ez a w K):Q1 P F.bN [a] w K:=Q9 Q0d Tryz.func56 rfl (by decide) (by kernel_rfl) h
def Nw (D:Value) (w:World) (K:Value→World→Prop):Prop:= V9 P T.a w fun e w=>Q1 P F.ay [] w fun t w=>Q1 P F.cN [t] w fun b w=>ext P b 0 w fun g w=>ext P b 1 w fun C w=>ext P b 2 w fun v w=>Q1 P F.ay [] w fun j w=>Q1 P F.bN [j] w fun a w=>ext P a 0 w fun p w=>ext P a 1 w fun E w=>ext P a 2 w fun s w=>Q3 P .rem T.aq (.tmp 25) (.const (.int .u16 301)) D (.int .u16 301) w fun q w=>conv P T.aq T.e q w fun i w=>Q3 P .neq T.y (.tmp 28) (.const (.int .i64 0)) v (.int .i64 0) w fun d w=>Q0 d false w (fun w J=>J s w) fun A w=>Q0 d false w (Q3 P .neq T.y (.tmp 31) (.const (.int .i64 0)) A (.int .i64 0)) fun u w=>pick P d (.bool true) u w fun c w=>Q0 c false w (fun w J=>J g w) fun k w=>Q0 c false w (Q3 P .eql T.r (.tmp 35) (.const (.pointer none)) k (.pointer none)) fun z w=>pick P c (.bool true) z w fun m w=>X1 m (H1 P T.a [] w fun l w=>Y0 P T.a e l w fun _u w=>Y8 P T.a e w fun h=>K (.tuple #[(.pointer none),h]) w) (Q1 P F.cO [g,i] w fun f w=>ext P f 0 w fun B w=>ext P f 1 w fun n w=>Q3 P .neq T.y (.tmp 45) (.const (.int .i64 0)) n (.int .i64 0) w fun r w=>X1 r (H1 P T.a [] w fun y w=>Y0 P T.a e y w fun _u w=>Y8 P T.a e w fun h=>K (.tuple #[(.pointer none),h]) w) (H1 P T.a [(0,p),(1,i)] w fun o w=>Y0 P T.a e o w fun _u w=>Y8 P T.a e w fun h=>K (.tuple #[B,h]) w))
theorem Kz {a:Value} {w:World} {K:Value→World→Prop} (h:Nw a w K):Q1 P F.ag [a] w K:=Q9 (List.replicate 12 none) Tryz.func24 rfl (by decide) (by kernel_rfl) h
def Q26 (f:Value) (w:World) (K:Value→World→Prop):Prop:= V9 P T.g w fun a w=>Q3 P .eql T.c (.tmp 3) (.const (.string ⟨#[105,110,116]⟩)) f (.string ⟨#[105,110,116]⟩) w fun j w=>X1 j (H1 P T.g [(0,(.int .i64 1))] w fun i w=>Y0 P T.g a i w fun _u w=>Y8 P T.g a w fun b=>K b w) (Q3 P .eql T.c (.tmp 3) (.const (.string ⟨#[98,111,111,108]⟩)) f (.string ⟨#[98,111,111,108]⟩) w fun h w=>X1 h (H1 P T.g [(0,(.int .i64 2))] w fun g w=>Y0 P T.g a g w fun _u w=>Y8 P T.g a w fun b=>K b w) (Q3 P .eql T.c (.tmp 3) (.const (.string ⟨#[116,101,120,116]⟩)) f (.string ⟨#[116,101,120,116]⟩) w fun e w=>X1 e (H1 P T.g [(0,(.int .i64 3))] w fun c w=>Y0 P T.g a c w fun _u w=>Y8 P T.g a w fun b=>K b w) (H1 P T.g [] w fun d w=>Y0 P T.g a d w fun _u w=>Y8 P T.g a w fun b=>K b w)))
theorem Q6L {a:Value} {w:World} {K:Value→World→Prop} (h:Q26 a w K):Q1 P F.cv [a] w K:=Q9 (List.replicate 10 none) Tryz.func29 rfl (by decide) (by kernel_rfl) h
def Hr (a z v:Value) (w:World) (K:Value→World→Prop):Prop:= nilCheck P a w fun y w=>fieldAddr P T.p y 2 w fun r w=>Q2 P T.e r w fun m w=>X3 P .len [T.l] T.e [false] [v] w fun s w=>Q3 P .add T.e (.const (.int .i64 1)) (.tmp 13) (.int .i64 1) s w fun k w=>Q3 P .add T.e (.tmp 11) (.tmp 14) m k w fun g w=>nilCheck P a w fun e w=>fieldAddr P T.p e 2 w fun j w=>Y0 P T.e j g w fun _u w=>nilCheck P a w fun c w=>fieldAddr P T.p c 3 w fun b w=>Q2 P T.f b w fun f w=>H1 P T.m [(0,z),(1,v)] w fun h w=>buildSlice P T.f 1 [(0,h)] w fun i w=>X3 P .append [T.f,T.f] T.f [false,false] [f,i] w fun u w=>nilCheck P a w fun q w=>fieldAddr P T.p q 3 w fun p w=>Y0 P T.f p u w fun _u w=>nilCheck P a w fun t w=>fieldAddr P T.p t 3 w fun l w=>Q2 P T.f l w fun n w=>X3 P .len [T.f] T.e [false] [n] w fun o w=>Q3 P .sub T.e (.tmp 34) (.const (.int .i64 1)) o (.int .i64 1) w fun d w=>K (.tuple #[d,(.int .i64 0)]) w
theorem Q1Z {b c a:Value} {w:World} {K:Value→World→Prop} (h:Hr b c a w K):Q1 P F.b9 [b,c,a] w K:=Q9 (List.replicate 4 none) Tryz.func67 rfl (by decide) (by kernel_rfl) h
def Kp:V6:=[none,none,none,none,none,none,none,none,none,none,none,some ([7,31],[7,9,31,32,33,34,35,36,37,38,39,40,41]),none,none,none,none,none]
def Mw (f J:Value) (w:World) (K:Value→World→Prop):Prop:= nilCheck P f w fun t w=>fieldAddr P T.p t 0 w fun A w=>Q2 P T.r A w fun C w=>Q1 P F.aC [C,J] w fun l w=>J6 P .not l w fun j w=>X1 j (K (.tuple #[(.int .i64 0),(.int .i64 91)]) w) (nilCheck P f w fun u w=>fieldAddr P T.p u 0 w fun r w=>Q2 P T.r r w fun g w=>Q1 P F.a2 [g,J] w fun d w=>X3 P .len [T.k] T.e [false] [d] w fun n w=>Q3 P .add T.e (.const (.int .i64 1)) (.tmp 24) (.int .i64 1) n w fun m w=>Q1 P F.a7 [f] w fun k w=>Q3 P .gtr T.e (.tmp 25) (.tmp 27) m k w fun B w=>X1 B (K (.tuple #[(.int .i64 0),(.int .i64 90)]) w) (X3 P .len [T.k] T.e [false] [d] w fun o w=>lp (α:=Value×Value) ((.slice none 0 0),(.int .i64 0)) w fun b a L w=>Q3 P .lss T.e (.tmp 31) (.tmp 30) a.2 o w fun q w=>X1 q (indexAddr P T.k d a.2 w fun v w=>Q2 P T.o v w fun y w=>V9 P T.o w fun c w=>Y0 P T.o c y w fun _u w=>fieldAddr P T.o c 1 w fun E w=>Q2 P T.c E w fun i w=>Q1 P F.cv [i] w fun h w=>buildSlice P T.l 1 [(0,h)] w fun H w=>X3 P .append [T.l,T.l] T.l [false,false] [a.1,H] w fun s w=>Q3 P .add T.e (.tmp 31) (.const (.int .i64 1)) a.2 (.int .i64 1) w fun z w=>b (s,z) w) (Q1 P F.b9 [f,J,a.1] w fun e w=>ext P e 0 w fun p w=>ext P e 1 w fun D w=>K (.tuple #[p,D]) w)))
theorem Ka {a b:Value} {w:World} {K:Value→World→Prop} (h:Mw a b w K):Q1 P F.aI [a,b] w K:=Q9 Kp Tryz.func33 rfl (by decide) (by kernel_rfl) h
def Q4u (e:Value) (w:World) (K:Value→World→Prop):Prop:= Q1 P F.z [e] w fun h w=>J6 P .not h w fun a w=>Q0 a false w (fun w J=>J e w) fun g w=>Q0 a false w (Q1 P F.cw [g]) fun f w=>Q0 a false w (Q3 P .eql T.e (.tmp 9) (.const (.int .i64 3)) f (.int .i64 3)) fun b w=>pick P a (.bool true) b w fun d w=>X1 d (K (.tuple #[(.string ⟨#[]⟩),(.int .i64 30)]) w) (Q3 P .add T.c (.tmp 12) (.const (.string ⟨#[91,93]⟩)) e (.string ⟨#[91,93]⟩) w fun c w=>K (.tuple #[c,(.int .i64 0)]) w)
theorem Q91 {a:Value} {w:World} {K:Value→World→Prop} (h:Q4u a w K):Q1 P F.cS [a] w K:=Q9 (List.replicate 5 none) Tryz.func68 rfl (by decide) (by kernel_rfl) h
def An:V6:=[none,none,none,none,none,none,none,none,none,none,none,none,some ([45],[11,45,46,47,48,49,50,51,52,53]),none,none,none,none,none]
def Ox (C i h:Value) (w:World) (K:Value→World→Prop):Prop:= Q1 P F.cS [i] w fun g w=>ext P g 0 w fun r w=>ext P g 1 w fun l w=>Q3 P .neq T.y (.tmp 18) (.const (.int .i64 0)) l (.int .i64 0) w fun a w=>Q0 a false w (fun w J=>J C w) fun j w=>Q0 a false w (nilCheck P j) fun o w=>Q0 a false w (fieldAddr P T.p o 0) fun D w=>Q0 a false w (Q2 P T.r D) fun v w=>Q0 a false w (fun w J=>J i w) fun s w=>Q0 a false w (Q1 P F.s [v,s]) fun t w=>Q0 a false w (J6 P .not t) fun q w=>pick P a (.bool true) q w fun e w=>Q0 e false w (fun w J=>J i w) fun y w=>Q0 e false w (Q3 P .eql T.c (.tmp 30) (.const (.string ⟨#[110,117,108,108]⟩)) y (.string ⟨#[110,117,108,108]⟩)) fun H w=>pick P e (.bool true) H w fun z w=>X1 z (K (.tuple #[(.int .i64 0),(.int .i64 91)]) w) (Q3 P .lss T.a0 (.tmp 34) (.const (.int .i64 0)) h (.int .i64 0) w fun k w=>X1 k (K (.tuple #[(.int .i64 0),(.int .i64 93)]) w) (Q1 P F.a7 [C] w fun L w=>Q3 P .geq T.a0 (.tmp 37) (.tmp 39) h L w fun A w=>X1 A (K (.tuple #[(.int .i64 0),(.int .i64 90)]) w) (Ww P T.l h h w fun c w=>X3 P .len [T.l] T.e [false] [c] w fun m w=>lp (α:=Value) (.int .i64 0) w fun b d N w=>Q3 P .lss T.e (.tmp 45) (.tmp 44) d m w fun u w=>X1 u (Q1 P F.cv [i] w fun n w=>indexAddr P T.l c d w fun B w=>Y0 P T.g B n w fun _u w=>Q3 P .add T.e (.tmp 45) (.const (.int .i64 1)) d (.int .i64 1) w fun E w=>b E w) (Q1 P F.b9 [C,r,c] w fun f w=>ext P f 0 w fun M w=>ext P f 1 w fun p w=>K (.tuple #[M,p]) w))))
theorem Ak {b c a:Value} {w:World} {K:Value→World→Prop} (h:Ox b c a w K):Q1 P F.aR [b,c,a] w K:=Q9 An Tryz.func34 rfl (by decide) (by kernel_rfl) h
def Oe (d:Value) (w:World) (K:Value→World→Prop):Prop:= nilCheck P d w fun a w=>fieldAddr P T.p a 0 w fun c w=>Q2 P T.r c w fun b w=>K b w
theorem Q00 {a:Value} {w:World} {K:Value→World→Prop} (h:Oe a w K):Q1 P F.bC [a] w K:=Q9 (List.replicate 2 none) Tryz.func35 rfl (by decide) (by kernel_rfl) h
def Mu (w:World) (K:Value→World→Prop):Prop:= Q1 P F.ag [(.int .u16 10)] w fun t8 w=>ext P t8 0 w fun a w=>ext P t8 1 w fun U w=>V9 P T.a w fun t2 w=>Y0 P T.a t2 U w fun _u w=>Q3 P .eql T.a5 (.tmp 11) (.const (.pointer none)) a (.pointer none) w fun Q w=>X1 Q (K (.bool false) w) (Q1 P F.aI [a,(.string ⟨#[90,101,114,111,70,97,117,108,116]⟩)] w fun l w=>ext P l 0 w fun t w=>ext P l 1 w fun A w=>Q1 P F.aR [a,(.string ⟨#[105,110,116]⟩),(.int .i64 3)] w fun k w=>ext P k 0 w fun m w=>ext P k 1 w fun v w=>Q3 P .eql T.e (.tmp 23) (.const (.int .i64 0)) t (.int .i64 0) w fun g w=>Q0 g true w (fun w J=>J A w) fun B w=>Q0 g true w (Q3 P .eql T.y (.tmp 26) (.const (.int .i64 0)) B (.int .i64 0)) fun z w=>pick P g z (.bool false) w fun j w=>Q0 j true w (fun w J=>J m w) fun D w=>Q0 j true w (Q3 P .eql T.e (.tmp 30) (.const (.int .i64 1)) D (.int .i64 1)) fun W w=>pick P j W (.bool false) w fun h w=>Q0 h true w (fun w J=>J v w) fun O w=>Q0 h true w (Q3 P .eql T.y (.tmp 34) (.const (.int .i64 0)) O (.int .i64 0)) fun q w=>pick P h q (.bool false) w fun e w=>Q0 e true w (fun w J=>J a w) fun s w=>Q0 e true w (Q1 P F.a7 [s]) fun Y w=>Q0 e true w (Q3 P .eql T.e (.tmp 39) (.const (.int .i64 4)) Y (.int .i64 4)) fun M w=>pick P e M (.bool false) w fun d w=>Q0 d true w (fun w J=>J a w) fun X w=>Q0 d true w (Q1 P F.c2 [X]) fun u w=>Q0 d true w (Q3 P .eql T.e (.tmp 44) (.const (.int .i64 2)) u (.int .i64 2)) fun C w=>pick P d C (.bool false) w fun c w=>Q0 c true w (fun w J=>J a w) fun L w=>Q0 c true w (Q1 P F.az [L,(.int .i64 0)]) fun p w=>Q0 c true w (Q3 P .eql T.c (.tmp 49) (.const (.string ⟨#[90,101,114,111,70,97,117,108,116]⟩)) p (.string ⟨#[90,101,114,111,70,97,117,108,116]⟩)) fun N w=>pick P c N (.bool false) w fun b w=>Q0 b true w (fun w J=>J a w) fun V w=>Q0 b true w (Q1 P F.bL [V,(.int .i64 1)]) fun o w=>Q0 b true w (Q3 P .eql T.e (.tmp 54) (.const (.int .i64 3)) o (.int .i64 3)) fun r w=>pick P b r (.bool false) w fun i w=>Q0 i true w (fun w J=>J a w) fun Z w=>Q0 i true w (Q1 P F.aP [Z]) fun y w=>pick P i y (.bool false) w fun f w=>Q0 f true w (fun w J=>J a w) fun R w=>Q0 f true w (Q1 P F.bC [R]) fun E w=>Q0 f true w (Q3 P .neq T.r (.tmp 63) (.const (.pointer none)) E (.pointer none)) fun H w=>pick P f H (.bool false) w fun n w=>K n w)
theorem Ib {w:World} {K:Value→World→Prop} (h:Mu w K):Q1 P F.aH [] w K:=Q9 (List.replicate 8 none) Tryz.func14 rfl (by decide) (by kernel_rfl) h
def Df (q r p:Value) (w:World) (K:Value→World→Prop):Prop:= Q1 P F.aF [q,r] w fun n w=>J6 P .not n w fun k w=>X1 k (K (.int .i64 92) w) (Q3 P .lss T.a0 (.tmp 13) (.const (.int .i64 0)) p (.int .i64 0) w fun a w=>Q0 a false w (fun w J=>J p w) fun d w=>Q0 a false w (fun w J=>J q w) fun f w=>Q0 a false w (nilCheck P f) fun l w=>Q0 a false w (fieldAddr P T.p l 3) fun j w=>Q0 a false w (Q2 P T.f j) fun c w=>Q0 a false w (fun w J=>J r w) fun b w=>Q0 a false w (indexAddr P T.f c b) fun e w=>Q0 a false w (fieldAddr P T.m e 1) fun m w=>Q0 a false w (Q2 P T.l m) fun i w=>Q0 a false w (X3 P .len [T.l] T.e [false] [i]) fun g w=>Q0 a false w (Q3 P .geq T.a0 (.tmp 16) (.tmp 25) d g) fun h w=>pick P a (.bool true) h w fun o w=>X1 o (K (.int .i64 93) w) (K (.int .i64 0) w))
theorem Q05 {b c a:Value} {w:World} {K:Value→World→Prop} (h:Df b c a w K):Q1 P F.aT [b,c,a] w K:=Q9 (List.replicate 7 none) Tryz.func50 rfl (by decide) (by kernel_rfl) h
def Hk (o p n:Value) (w:World) (K:Value→World→Prop):Prop:= V9 P T.g w fun b w=>Q1 P F.aT [o,p,n] w fun a w=>Q3 P .neq T.y (.tmp 13) (.const (.int .i64 0)) a (.int .i64 0) w fun i w=>X1 i (H1 P T.g [] w fun f w=>Y0 P T.g b f w fun _u w=>Y8 P T.g b w fun d=>K (.tuple #[d,a]) w) (nilCheck P o w fun k w=>fieldAddr P T.p k 3 w fun j w=>Q2 P T.f j w fun c w=>indexAddr P T.f c p w fun e w=>fieldAddr P T.m e 1 w fun l w=>Q2 P T.l l w fun h w=>indexAddr P T.l h n w fun g w=>Q2 P T.g g w fun m w=>Y0 P T.g b m w fun _u w=>Y8 P T.g b w fun d=>K (.tuple #[d,(.int .i64 0)]) w)
theorem Q1K {b c a:Value} {w:World} {K:Value→World→Prop} (h:Hk b c a w K):Q1 P F.c1 [b,c,a] w K:=Q9 (List.replicate 6 none) Tryz.func16 rfl (by decide) (by kernel_rfl) h
def Ao:V6:=[none,none,none,none,some ([3,12],[3,5,6,12,13,14,15,16,17,18,19,20,21,22,23,24,25,26,27,28,29,30,31]),none,none,none,none,none,none,none]
def Oo (y:Value) (w:World) (K:Value→World→Prop):Prop:= nilCheck P y w fun v w=>fieldAddr P T.p v 3 w fun u w=>Q2 P T.f u w fun f w=>X3 P .len [T.f] T.e [false] [f] w fun p w=>lp (α:=Value×Value) ((.slice none 0 0),(.int .i64 0)) w fun b c A w=>Q3 P .lss T.e (.tmp 12) (.tmp 11) c.2 p w fun s w=>X1 s (indexAddr P T.f f c.2 w fun o w=>Q2 P T.m o w fun j w=>V9 P T.m w fun a w=>Y0 P T.m a j w fun _u w=>fieldAddr P T.m a 1 w fun h w=>Q2 P T.l h w fun m w=>X3 P .len [T.l] T.e [false] [m] w fun e w=>Ww P T.l e e w fun d w=>fieldAddr P T.m a 1 w fun g w=>Q2 P T.l g w fun i w=>X3 P .copy [T.l,T.l] T.e [false,false] [d,i] w fun z w=>fieldAddr P T.m a 0 w fun k w=>Q2 P T.c k w fun l w=>H1 P T.m [(0,l),(1,d)] w fun r w=>buildSlice P T.f 1 [(0,r)] w fun q w=>X3 P .append [T.f,T.f] T.f [false,false] [c.1,q] w fun n w=>Q3 P .add T.e (.tmp 12) (.const (.int .i64 1)) c.2 (.int .i64 1) w fun t w=>b (n,t) w) (K c.1 w)
theorem Q07 {a:Value} {w:World} {K:Value→World→Prop} (h:Oo a w K):Q1 P F.aO [a] w K:=Q9 Ao Tryz.func19 rfl (by decide) (by kernel_rfl) h
def Hj (H V N W:Value) (w:World) (K:Value→World→Prop):Prop:= box P T.g W w fun c w=>Q1 P F.aT [H,V,N] w fun M w=>Q3 P .neq T.y (.tmp 14) (.const (.int .i64 0)) M (.int .i64 0) w fun O w=>X1 O (K M w) (dr w fun a b=>Q6 a (fun e=> ∀w,b w→nilCheck P H w (dk a e w)) fun e=>Q6 a (fun n=> ∀d w,b w→e d w→fieldAddr P T.p d 3 w (dk a n w)) fun n=>Q6 a (fun B=> ∀w,b w→Q2 P T.g c w (dk a B w)) fun B=>Q6 a (fun o=> ∀k w,b w→n k w→Q2 P T.f k w (dk a o w)) fun o=>Q6 a (fun h=> ∀t w,b w→o t w→indexAddr P T.f t V w (dk a h w)) fun h=>Q6 a (fun f=> ∀l w,b w→h l w→Q2 P T.m l w (dk a f w)) fun f=>Q6 a (fun A=> ∀m w,b w→f m w→Q1 P F.aB [H,m,N] w (dk a A w)) fun A=>∀d k J t l m L w,b w→e d w→n k w→B J w→o t w→h l w→f m w→A L w→ Q1 P F.aA [H,J,L] w fun R w=>J6 P .not R w fun Q w=>X1 Q (K (.int .i64 91) w) (dr w fun a b=>Q6 a (fun s=> ∀w,b w→nilCheck P H w (dk a s w)) fun s=>Q6 a (fun i=> ∀p w,b w→s p w→fieldAddr P T.p p 3 w (dk a i w)) fun i=>Q6 a (fun u=> ∀q w,b w→i q w→Q2 P T.f q w (dk a u w)) fun u=>Q6 a (fun y=> ∀r w,b w→u r w→indexAddr P T.f r V w (dk a y w)) fun y=>Q6 a (fun j=> ∀v w,b w→y v w→fieldAddr P T.m v 1 w (dk a j w)) fun j=>Q6 a (fun C=> ∀g w,b w→j g w→Q2 P T.l g w (dk a C w)) fun C=>Q6 a (fun z=> ∀w,b w→Q2 P T.g c w (dk a z w)) fun z=>∀p q r v g D E w,b w→s p w→i q w→u r w→y v w→j g w→C D w→z E w→ indexAddr P T.l D N w fun U w=>Y0 P T.g U E w fun _u w=>K (.int .i64 0) w))
theorem Q1Y {c d a b:Value} {w:World} {K:Value→World→Prop} (h:Hj c d a b w K):Q1 P F.b6 [c,d,a,b] w K:=Q9 (List.replicate 10 none) Tryz.func22 rfl (by decide) (by kernel_rfl) h
def Dx (k:Value) (w:World) (K:Value→World→Prop):Prop:= box P T.n k w fun a w=>fieldAddr P T.n a 1 w fun l w=>Q2 P T.c l w fun h w=>X3 P .len [T.c] T.e [false] [h] w fun j w=>Q3 P .leq T.e (.tmp 5) (.const (.int .i64 100)) j (.int .i64 100) w fun b w=>Q0 b true w (fieldAddr P T.n a 4) fun i w=>Q0 b true w (fieldAddr P T.g i 2) fun g w=>Q0 b true w (Q2 P T.c g) fun d w=>Q0 b true w (X3 P .len [T.c] T.e [false] [d]) fun f w=>Q0 b true w (Q3 P .leq T.e (.tmp 11) (.const (.int .i64 5000)) f (.int .i64 5000)) fun c w=>pick P b c (.bool false) w fun e w=>K e w
theorem Q0l {a:Value} {w:World} {K:Value→World→Prop} (h:Dx a w K):Q1 P F.bM [a] w K:=Q9 (List.replicate 2 none) Tryz.func25 rfl (by decide) (by kernel_rfl) h
def Ys:V6:=[none,none,none,some ([8],[4,5,8,9,10,11,12,13,14,15,16,17,18]),none,none,none,none,none,none,none]
def G4 (g j:Value) (w:World) (K:Value→World→Prop):Prop:= X3 P .len [T.l] T.e [false] [g] w fun i w=>lp (α:=Value) (.int .i64 0) w fun a b k w=>Q3 P .lss T.e (.tmp 8) (.tmp 7) b i w fun h w=>X1 h (indexAddr P T.l g b w fun d w=>Q2 P T.g d w fun f w=>Z3 P j [f] w fun c w=>X1 c (K b w) (Q3 P .add T.e (.tmp 8) (.const (.int .i64 1)) b (.int .i64 1) w fun e w=>a e w)) (K (.int .i64 (-1)) w)
theorem Yg {a b:Value} {w:World} {K:Value→World→Prop} (h:G4 a b w K):Q1 P F.a3 [a,b] w K:=Q9 Ys Tryz.func119 rfl (by decide) (by kernel_rfl) h
def C9 (c d:Value) (w:World) (K:Value→World→Prop):Prop:= Q1 P F.a3 [c,d] w fun b w=>Q3 P .geq T.e (.tmp 7) (.const (.int .i64 0)) b (.int .i64 0) w fun a w=>K a w
theorem Xa {a b:Value} {w:World} {K:Value→World→Prop} (h:C9 a b w K):Q1 P F.l [a,b] w K:=Q9 (List.replicate 2 none) Tryz.func75 rfl (by decide) (by kernel_rfl) h
def Nz (j k:Value) (w:World) (K:Value→World→Prop):Prop:= box P T.g j w fun a w=>fieldAddr P T.g a 0 w fun g w=>Q2 P T.e g w fun i w=>Q3 P .eql T.e (.tmp 5) (.const (.int .i64 4)) i (.int .i64 4) w fun b w=>Q0 b true w (fieldAddr P T.g a 3) fun h w=>Q0 b true w (Q2 P T.e h) fun f w=>Q0 b true w (Q2 P T.e k) fun d w=>Q0 b true w (Q3 P .geq T.e (.tmp 9) (.tmp 10) f d) fun e w=>pick P b e (.bool false) w fun c w=>K c w
theorem Ay {a b:Value} {w:World} {K:Value→World→Prop} (h:Nz a b w K):Q1 P F.bE [a,b] w K:=Q9 (List.replicate 2 none) Tryz.func76 rfl (by decide) (by kernel_rfl) h
def Q1L:V6:=[none,none,none,none,some ([22],[5,22,23,24,25,26,27,28,29,30]),none,none,none,none,none,some ([],[6,31,32,33,34,35,36,37,38,39,40,41,42,43,44,45,46,47,48,49,50,51,52,53,54,55,56,57,58,59,60,61,62,63,64,65,66,67,68,69]),none,none,none,none]
def Hq (r a1:Value) (w:World) (K:Value→World→Prop):Prop:= box P T.e a1 w fun t3 w=>Q2 P T.e t3 w fun t7 w=>X3 P .max [T.e,T.e] T.e [false,true] [t7,(.int .i64 0)] w fun t8 w=>Y0 P T.e t3 t8 w fun _u w=>dr w fun a b=>Q6 a (fun n=> ∀w,b w→nilCheck P r w (dk a n w)) fun n=>Q6 a (fun d=> ∀A w,b w→n A w→fieldAddr P T.p A 3 w (dk a d w)) fun d=>Q6 a (fun D=> ∀w,b w→nilCheck P r w (dk a D w)) fun D=>Q6 a (fun W=> ∀m w,b w→D m w→fieldAddr P T.p m 3 w (dk a W w)) fun W=>Q6 a (fun ab=> ∀R w,b w→d R w→Q2 P T.f R w (dk a ab w)) fun ab=>Q6 a (fun J=> ∀w,b w→Q2 P T.e t3 w (dk a J w)) fun J=>Q6 a (fun B=> ∀j w,b w→W j w→Q2 P T.f j w (dk a B w)) fun B=>Q6 a (fun X=> ∀L w,b w→B L w→X3 P .len [T.f] T.e [false] [L] w (dk a X w)) fun X=>Q6 a (fun ad=> ∀Y U w,b w→J Y w→X U w→X3 P .min [T.e,T.e] T.e [false,false] [Y,U] w (dk a ad w)) fun ad=>∀A R m j aj Y L U am w,b w→n A w→d R w→D m w→W j w→ab aj w→J Y w→B L w→X U w→ad am w→ R6 P T.f aj none (some am) none w fun ag w=>X3 P .len [T.f] T.e [false] [ag] w fun aq w=>lp (α:=Value) (.int .i64 0) w fun H x4 d_ w=>Q3 P .lss T.e (.tmp 22) (.tmp 21) x4 aq w fun a5 w=>X1 a5 (indexAddr P T.f ag x4 w fun bc w=>Q2 P T.m bc w fun ay w=>V9 P T.m w fun t5 w=>Y0 P T.m t5 ay w fun _u w=>fieldAddr P T.m t5 1 w fun az w=>Q2 P T.l az w fun ax w=>E8 P (.func F.bE) [] [t3] w fun a6 w=>Q1 P F.l [ax,a6] w fun bf w=>X1 bf (K (.tuple #[]) w) (Q3 P .add T.e (.tmp 22) (.const (.int .i64 1)) x4 (.int .i64 1) w fun bb w=>H bb w)) (lp (α:=Unit) () w fun c bk d_ w=>dr w fun a b=>Q6 a (fun u=> ∀w,b w→nilCheck P r w (dk a u w)) fun u=>Q6 a (fun l=> ∀q w,b w→u q w→fieldAddr P T.p q 3 w (dk a l w)) fun l=>Q6 a (fun y=> ∀V w,b w→l V w→Q2 P T.f V w (dk a y w)) fun y=>Q6 a (fun ac=> ∀t w,b w→y t w→X3 P .len [T.f] T.e [false] [t] w (dk a ac w)) fun ac=>Q6 a (fun af=> ∀w,b w→Q2 P T.e t3 w (dk a af w)) fun af=>∀q V t ah an w,b w→u q w→l V w→y t w→ac ah w→af an w→ Q3 P .gtr T.e (.tmp 35) (.tmp 36) ah an w fun av w=>X1 av (nilCheck P r w fun ba w=>fieldAddr P T.p ba 3 w fun a4 w=>Q2 P T.f a4 w fun bg w=>X3 P .len [T.f] T.e [false] [bg] w fun ar w=>Q3 P .sub T.e (.tmp 42) (.const (.int .i64 1)) ar (.int .i64 1) w fun ao w=>dr w fun a b=>Q6 a (fun p=> ∀w,b w→nilCheck P r w (dk a p w)) fun p=>Q6 a (fun C=> ∀M w,b w→p M w→fieldAddr P T.p M 2 w (dk a C w)) fun C=>Q6 a (fun z=> ∀w,b w→nilCheck P r w (dk a z w)) fun z=>Q6 a (fun v=> ∀g w,b w→z g w→fieldAddr P T.p g 3 w (dk a v w)) fun v=>Q6 a (fun aa=> ∀N w,b w→C N w→Q2 P T.e N w (dk a aa w)) fun aa=>Q6 a (fun i=> ∀Q w,b w→v Q w→Q2 P T.f Q w (dk a i w)) fun i=>Q6 a (fun o=> ∀k w,b w→i k w→indexAddr P T.f k ao w (dk a o w)) fun o=>Q6 a (fun E=> ∀Z w,b w→o Z w→fieldAddr P T.m Z 1 w (dk a E w)) fun E=>Q6 a (fun e=> ∀f w,b w→E f w→Q2 P T.l f w (dk a e w)) fun e=>Q6 a (fun s=> ∀h w,b w→e h w→X3 P .len [T.l] T.e [false] [h] w (dk a s w)) fun s=>Q6 a (fun ae=> ∀O w,b w→s O w→Q3 P .add T.e (.const (.int .i64 1)) (.tmp 56) (.int .i64 1) O w (dk a ae w)) fun ae=>∀M N g Q ak k Z f h O ai w,b w→p M w→C N w→z g w→v Q w→aa ak w→i k w→o Z w→E f w→e h w→s O w→ae ai w→ Q3 P .sub T.e (.tmp 47) (.tmp 57) ak ai w fun a7 w=>nilCheck P r w fun aw w=>fieldAddr P T.p aw 2 w fun a8 w=>Y0 P T.e a8 a7 w fun _u w=>nilCheck P r w fun a3 w=>fieldAddr P T.p a3 3 w fun bd w=>Q2 P T.f bd w fun a9 w=>R6 P T.f a9 none (some ao) none w fun ap w=>nilCheck P r w fun be w=>fieldAddr P T.p be 3 w fun bh w=>Y0 P T.f bh ap w fun _u w=>c () w) (K (.tuple #[]) w))
theorem Q1P {a b:Value} {w:World} {K:Value→World→Prop} (h:Hq a b w K):Q1 P F.c4 [a,b] w K:=Q9 Q1L Tryz.func40 rfl (by decide) (by kernel_rfl) h
def Tq:V6:=[none,none,some ([],[5,6,7]),none,some ([],[8,9,10]),none,some ([],[11,12,13]),none,none]
def Oq (c:Value) (w:World) (K:Value→World→Prop):Prop:= V9 P T.g w fun i w=>H1 P T.g [] w fun p w=>V9 P T.g w fun a w=>Y0 P T.g a p w fun _u w=>jn (α:=Unit) w (fun j w=>Q3 P .eql T.c (.tmp 5) (.const (.string ⟨#[105,110,116]⟩)) c (.string ⟨#[105,110,116]⟩) w fun n w=>X1 n (fieldAddr P T.g a 0 w fun m w=>Y0 P T.e m (.int .i64 1) w fun _u w=>j () w) (j () w)) fun s k w=>jn (α:=Unit) w (fun h w=>Q3 P .eql T.c (.tmp 8) (.const (.string ⟨#[98,111,111,108]⟩)) c (.string ⟨#[98,111,111,108]⟩) w fun l w=>X1 l (fieldAddr P T.g a 0 w fun e w=>Y0 P T.e e (.int .i64 2) w fun _u w=>h () w) (h () w)) fun q k w=>jn (α:=Unit) w (fun g w=>Q3 P .eql T.c (.tmp 11) (.const (.string ⟨#[116,101,120,116]⟩)) c (.string ⟨#[116,101,120,116]⟩) w fun d w=>X1 d (fieldAddr P T.g a 0 w fun f w=>Y0 P T.e f (.int .i64 3) w fun _u w=>g () w) (g () w)) fun r k w=>Q2 P T.g a w fun b w=>Y0 P T.g i b w fun _u w=>Y8 P T.g i w fun o=>K o w
theorem Tt {a:Value} {w:World} {K:Value→World→Prop} (h:Oq a w K):Q1 P F.aQ [a] w K:=Q9 Tq Tryz.func30 rfl (by decide) (by kernel_rfl) h
def Tu:V6:=[none,none,none,none,some ([3,4],[3,4,7,8,9,10,11,12,13,14,15,16,17,18,19,20,21,22,23]),none,none,none,none]
def Dc (s:Value) (w:World) (K:Value→World→Prop):Prop:= box P T.a s w fun a w=>fieldAddr P T.a a 1 w fun r w=>Q2 P T.e r w fun q w=>lp (α:=Value×Value) (q,(.int .i64 0)) w fun b c t w=>fieldAddr P T.a a 2 w fun p w=>Q2 P T.f p w fun o w=>X3 P .len [T.f] T.e [false] [o] w fun m w=>Q3 P .lss T.e (.tmp 7) (.tmp 10) c.2 m w fun j w=>X1 j (fieldAddr P T.a a 2 w fun h w=>Q2 P T.f h w fun f w=>indexAddr P T.f f c.2 w fun k w=>fieldAddr P T.m k 1 w fun i w=>Q2 P T.l i w fun e w=>X3 P .len [T.l] T.e [false] [e] w fun d w=>Q3 P .add T.e (.const (.int .i64 1)) (.tmp 21) (.int .i64 1) d w fun g w=>Q3 P .sub T.e (.tmp 14) (.tmp 22) c.1 g w fun l w=>Q3 P .add T.e (.tmp 12) (.const (.int .i64 1)) c.2 (.int .i64 1) w fun n w=>b (l,n) w) (K c.1 w)
theorem Q06 {a:Value} {w:World} {K:Value→World→Prop} (h:Dc a w K):Q1 P F.aS [a] w K:=Q9 Tu Tryz.func37 rfl (by decide) (by kernel_rfl) h
def Vj (j k:Value) (w:World) (K:Value→World→Prop):Prop:= Q1 P F.b [j,k] w fun i w=>Q3 P .geq T.e (.tmp 9) (.const (.int .i64 0)) i (.int .i64 0) w fun a w=>Q0 a true w (fun w J=>J j w) fun c w=>Q0 a true w (fun w J=>J i w) fun e w=>Q0 a true w (indexAddr P T.i c e) fun d w=>Q0 a true w (fieldAddr P T.b d 4) fun f w=>Q0 a true w (Q2 P T.u f) fun b w=>Q0 a true w (J6 P .not b) fun h w=>pick P a h (.bool false) w fun g w=>K g w
theorem Bz {a b:Value} {w:World} {K:Value→World→Prop} (h:Vj a b w K):Q1 P F.aD [a,b] w K:=Q9 (List.replicate 3 none) Tryz.func72 rfl (by decide) (by kernel_rfl) h
def Gm:V6:=[none,none,none,none,none,none,none,none,none,none,none,some ([8],[8,28,29,30,31,32,33,34,35,36,37,38,39,40,41,42,43,44]),none,none,none,none,none]
def Lh (a0 a1:Value) (w:World) (K:Value→World→Prop):Prop:= box P T.a a0 w fun a w=>V9 P T.a w fun H w=>fieldAddr P T.a a 0 w fun t9 w=>Q2 P T.i t9 w fun ai w=>Q1 P F.aD [ai,a1] w fun ah w=>J6 P .not ah w fun ak w=>X1 ak (Q2 P T.a a w fun ad w=>Y0 P T.a H ad w fun _u w=>Y8 P T.a H w fun M=>K (.tuple #[M,(.int .i64 91)]) w) (fieldAddr P T.a a 0 w fun Z w=>Q2 P T.i Z w fun U w=>Q1 P F.k [U,a1] w fun D w=>X3 P .len [T.k] T.e [false] [D] w fun R w=>Q3 P .add T.e (.const (.int .i64 1)) (.tmp 20) (.int .i64 1) R w fun Q w=>Q2 P T.a a w fun X w=>Q1 P F.aS [X] w fun ag w=>Q3 P .gtr T.e (.tmp 21) (.tmp 23) Q ag w fun ab w=>X1 ab (Q2 P T.a a w fun aa w=>Y0 P T.a H aa w fun _u w=>Y8 P T.a H w fun M=>K (.tuple #[M,(.int .i64 90)]) w) (H1 P T.m [(0,a1)] w fun Y w=>V9 P T.m w fun c w=>Y0 P T.m c Y w fun _u w=>lp (α:=Value) (.int .i64 0) w fun e B d_ w=>X3 P .len [T.k] T.e [false] [D] w fun ac w=>Q3 P .lss T.e (.tmp 28) (.tmp 30) B ac w fun al w=>X1 al (dr w fun b d=>Q6 b (fun s=> ∀w,d w→fieldAddr P T.m c 1 w (dk b s w)) fun s=>Q6 b (fun r=> ∀w,d w→indexAddr P T.k D B w (dk b r w)) fun r=>Q6 b (fun j=> ∀h w,d w→r h w→fieldAddr P T.o h 1 w (dk b j w)) fun j=>Q6 b (fun C=> ∀p w,d w→s p w→Q2 P T.l p w (dk b C w)) fun C=>Q6 b (fun f=> ∀v w,d w→j v w→Q2 P T.c v w (dk b f w)) fun f=>Q6 b (fun o=> ∀n w,d w→f n w→Q1 P F.aQ [n] w (dk b o w)) fun o=>Q6 b (fun A=> ∀q w,d w→o q w→buildSlice P T.l 1 [(0,q)] w (dk b A w)) fun A=>∀p h v L n q J w,d w→s p w→r h w→j v w→C L w→f n w→o q w→A J w→ X3 P .append [T.l,T.l] T.l [false,false] [L,J] w fun am w=>fieldAddr P T.m c 1 w fun V w=>Y0 P T.l V am w fun _u w=>Q3 P .add T.e (.tmp 32) (.const (.int .i64 1)) B (.int .i64 1) w fun af w=>e af w) (dr w fun b d=>Q6 b (fun y=> ∀w,d w→fieldAddr P T.a a 2 w (dk b y w)) fun y=>Q6 b (fun m=> ∀w,d w→buildSlice P T.f 0 [] w (dk b m w)) fun m=>Q6 b (fun i=> ∀l w,d w→y l w→Q2 P T.f l w (dk b i w)) fun i=>Q6 b (fun z=> ∀k u w,d w→m k w→i u w→X3 P .append [T.f,T.f] T.f [false,false] [k,u] w (dk b z w)) fun z=>Q6 b (fun t=> ∀w,d w→Q2 P T.m c w (dk b t w)) fun t=>Q6 b (fun E=> ∀g w,d w→t g w→buildSlice P T.f 1 [(0,g)] w (dk b E w)) fun E=>∀l k u N g O w,d w→y l w→m k w→i u w→z N w→t g w→E O w→ X3 P .append [T.f,T.f] T.f [false,false] [N,O] w fun W w=>fieldAddr P T.a a 2 w fun ae w=>Y0 P T.f ae W w fun _u w=>Q2 P T.a a w fun aj w=>Y0 P T.a H aj w fun _u w=>Y8 P T.a H w fun M=>K (.tuple #[M,(.int .i64 0)]) w)))
theorem Gn {a b:Value} {w:World} {K:Value→World→Prop} (h:Lh a b w K):Q1 P F.be [a,b] w K:=Q9 Gm Tryz.func57 rfl (by decide) (by kernel_rfl) h
def Pn:V6:=[none,none,none,none,none,none,none,none,none,none,none,none,none,some ([9],[9,41,42,43,44,45,46,47,48,49,50,51,52]),none,none,none,none,none]
def Lw (a0 M N:Value) (w:World) (K:Value→World→Prop):Prop:= box P T.a a0 w fun a w=>V9 P T.a w fun u w=>Q3 P .eql T.c (.tmp 10) (.const (.string ⟨#[110,117,108,108]⟩)) M (.string ⟨#[110,117,108,108]⟩) w fun d w=>Q0 d false w (fieldAddr P T.a a 0) fun an w=>Q0 d false w (Q2 P T.i an) fun ag w=>Q0 d false w (fun w J=>J M w) fun ac w=>Q0 d false w (Q1 P F.a0 [ag,ac]) fun V w=>Q0 d false w (J6 P .not V) fun ab w=>pick P d (.bool true) ab w fun p w=>Q0 p false w (fun w J=>J M w) fun Q w=>Q0 p false w (Q1 P F.a1 [Q]) fun O w=>Q0 p false w (Q3 P .gtr T.e (.tmp 21) (.const (.int .i64 2)) O (.int .i64 2)) fun Y w=>pick P p (.bool true) Y w fun am w=>X1 am (Q2 P T.a a w fun af w=>Y0 P T.a u af w fun _u w=>Y8 P T.a u w fun z=>K (.tuple #[z,(.int .i64 91)]) w) (Q3 P .lss T.a0 (.tmp 25) (.const (.int .i64 0)) N (.int .i64 0) w fun ad w=>X1 ad (Q2 P T.a a w fun aa w=>Y0 P T.a u aa w fun _u w=>Y8 P T.a u w fun z=>K (.tuple #[z,(.int .i64 93)]) w) (Q3 P .gtr T.a0 (.tmp 28) (.const (.int .i64 1048576)) N (.int .i64 1048576) w fun e w=>Q0 e false w (fun w J=>J N w) fun ap w=>Q0 e false w (Q3 P .add T.e (.const (.int .i64 1)) (.tmp 31) (.int .i64 1) ap) fun ah w=>Q0 e false w (Q2 P T.a a) fun ak w=>Q0 e false w (Q1 P F.aS [ak]) fun al w=>Q0 e false w (Q3 P .gtr T.e (.tmp 32) (.tmp 34) ah al) fun R w=>pick P e (.bool true) R w fun ao w=>X1 ao (Q2 P T.a a w fun U w=>Y0 P T.a u U w fun _u w=>Y8 P T.a u w fun z=>K (.tuple #[z,(.int .i64 90)]) w) (Q3 P .add T.c (.tmp 38) (.const (.string ⟨#[91,93]⟩)) M (.string ⟨#[91,93]⟩) w fun ar w=>H1 P T.m [(0,ar)] w fun ai w=>V9 P T.m w fun c w=>Y0 P T.m c ai w fun _u w=>lp (α:=Value) (.int .i64 0) w fun g C d_ w=>Q3 P .lss T.a0 (.tmp 41) (.tmp 42) C N w fun aq w=>X1 aq (dr w fun b f=>Q6 b (fun t=> ∀w,f w→fieldAddr P T.m c 1 w (dk b t w)) fun t=>Q6 b (fun y=> ∀n w,f w→t n w→Q2 P T.l n w (dk b y w)) fun y=>Q6 b (fun q=> ∀w,f w→Q1 P F.aQ [M] w (dk b q w)) fun q=>Q6 b (fun B=> ∀j w,f w→q j w→buildSlice P T.l 1 [(0,j)] w (dk b B w)) fun B=>∀n H j D w,f w→t n w→y H w→q j w→B D w→ X3 P .append [T.l,T.l] T.l [false,false] [H,D] w fun W w=>fieldAddr P T.m c 1 w fun aj w=>Y0 P T.l aj W w fun _u w=>Q3 P .add T.a0 (.tmp 44) (.const (.int .i64 1)) C (.int .i64 1) w fun ae w=>g ae w) (dr w fun b f=>Q6 b (fun l=> ∀w,f w→fieldAddr P T.a a 2 w (dk b l w)) fun l=>Q6 b (fun o=> ∀w,f w→buildSlice P T.f 0 [] w (dk b o w)) fun o=>Q6 b (fun h=> ∀i w,f w→l i w→Q2 P T.f i w (dk b h w)) fun h=>Q6 b (fun A=> ∀s k w,f w→o s w→h k w→X3 P .append [T.f,T.f] T.f [false,false] [s,k] w (dk b A w)) fun A=>Q6 b (fun r=> ∀w,f w→Q2 P T.m c w (dk b r w)) fun r=>Q6 b (fun v=> ∀m w,f w→r m w→buildSlice P T.f 1 [(0,m)] w (dk b v w)) fun v=>∀i s k E m L w,f w→l i w→o s w→h k w→A E w→r m w→v L w→ X3 P .append [T.f,T.f] T.f [false,false] [E,L] w fun Z w=>fieldAddr P T.a a 2 w fun av w=>Y0 P T.f av Z w fun _u w=>Q2 P T.a a w fun X w=>Y0 P T.a u X w fun _u w=>Y8 P T.a u w fun z=>K (.tuple #[z,(.int .i64 0)]) w))))
theorem Kt {b c a:Value} {w:World} {K:Value→World→Prop} (h:Lw b c a w K):Q1 P F.bo [b,c,a] w K:=Q9 Pn Tryz.func58 rfl (by decide) (by kernel_rfl) h
def Q1Q:V6:=[none,none,some ([],[4,14,15,16,17,18,19,20,21,22,23,24,25,26,27,28,29,30,31,32,33,34,35,36,37,38,39,40,41,42,43,44,45,46,47,48,49,50,51,52,53,54,55,56,57,58,59,60,61,62,63,64,65,66,67,68,69,70,71,72,73,74,75,76,77,78,79,80,81,82,83,84,85,86,87,88,89,90]),none,none,none,none,none,none,none,none,none,none,none,none,none,none,none,none,none]
def Hi (a0 a1:Value) (w:World) (K:Value→World→Prop):Prop:= box P T.a a0 w fun t2 w=>box P T.g a1 w fun b w=>fieldAddr P T.g b 3 w fun t6 w=>Q2 P T.e t6 w fun t7 w=>Q3 P .eql T.e (.tmp 7) (.const (.int .i64 0)) t7 (.int .i64 0) w fun l w=>Q0 l true w (fieldAddr P T.g b 2) fun V w=>Q0 l true w (Q2 P T.c V) fun ao w=>Q0 l true w (Q3 P .eql T.c (.tmp 11) (.const (.string ⟨#[]⟩)) ao (.string ⟨#[]⟩)) fun Q w=>pick P l Q (.bool false) w fun a w=>jn (α:=Unit) w (fun k w=>fieldAddr P T.g b 0 w fun al w=>Q2 P T.e al w fun e w=>Q3 P .eql T.e (.tmp 15) (.const (.int .i64 0)) e (.int .i64 0) w fun ah w=>X1 ah (Q0 a true w (fieldAddr P T.g b 1) fun q w=>Q0 a true w (Q2 P T.a0 q) fun n w=>Q0 a true w (Q3 P .eql T.a0 (.tmp 21) (.const (.int .i64 0)) n (.int .i64 0)) fun z w=>pick P a z (.bool false) w fun O w=>X1 O (K (.string ⟨#[110,117,108,108]⟩) w) (k () w)) (Q3 P .eql T.e (.tmp 15) (.const (.int .i64 1)) e (.int .i64 1) w fun E w=>X1 E (X1 a (K (.string ⟨#[105,110,116]⟩) w) (k () w)) (Q3 P .eql T.e (.tmp 15) (.const (.int .i64 2)) e (.int .i64 2) w fun U w=>X1 U (Q0 a true w (fieldAddr P T.g b 1) fun az w=>Q0 a true w (Q2 P T.a0 az) fun M w=>Q0 a true w (Q3 P .eql T.a0 (.tmp 32) (.const (.int .i64 0)) M (.int .i64 0)) fun aq w=>Q0 a true w (fun w J=>J aq w) fun g w=>Q0 g false w (fieldAddr P T.g b 1) fun r w=>Q0 g false w (Q2 P T.a0 r) fun ax w=>Q0 g false w (Q3 P .eql T.a0 (.tmp 36) (.const (.int .i64 1)) ax (.int .i64 1)) fun t w=>Q0 a true w (pick P g (.bool true) t) fun ad w=>pick P a ad (.bool false) w fun a3 w=>X1 a3 (K (.string ⟨#[98,111,111,108]⟩) w) (k () w)) (Q3 P .eql T.e (.tmp 15) (.const (.int .i64 3)) e (.int .i64 3) w fun ar w=>X1 ar (fieldAddr P T.g b 1 w fun p w=>Q2 P T.a0 p w fun a2 w=>Q3 P .eql T.a0 (.tmp 43) (.const (.int .i64 0)) a2 (.int .i64 0) w fun j w=>Q0 j true w (fieldAddr P T.g b 3) fun ai w=>Q0 j true w (Q2 P T.e ai) fun X w=>Q0 j true w (Q3 P .eql T.e (.tmp 47) (.const (.int .i64 0)) X (.int .i64 0)) fun ak w=>pick P j ak (.bool false) w fun d w=>Q0 d true w (fieldAddr P T.g b 2) fun u w=>Q0 d true w (Q2 P T.c u) fun an w=>Q0 d true w (X3 P .len [T.c] T.e [false] [an]) fun W w=>Q0 d true w (Q3 P .leq T.e (.tmp 53) (.const (.int .i64 4096)) W (.int .i64 4096)) fun o w=>pick P d o (.bool false) w fun f w=>Q0 f true w (fieldAddr P T.g b 2) fun B w=>Q0 f true w (Q2 P T.c B) fun Y w=>Q0 f true w (Q1 P F.aJ [Y]) fun A w=>pick P f A (.bool false) w fun Z w=>X1 Z (K (.string ⟨#[116,101,120,116]⟩) w) (k () w)) (Q3 P .eql T.e (.tmp 15) (.const (.int .i64 4)) e (.int .i64 4) w fun av w=>X1 av (fieldAddr P T.g b 1 w fun L w=>Q2 P T.a0 L w fun aj w=>Q3 P .eql T.a0 (.tmp 64) (.const (.int .i64 0)) aj (.int .i64 0) w fun i w=>Q0 i true w (fieldAddr P T.g b 2) fun m w=>Q0 i true w (Q2 P T.c m) fun ap w=>Q0 i true w (Q3 P .eql T.c (.tmp 68) (.const (.string ⟨#[]⟩)) ap (.string ⟨#[]⟩)) fun aw w=>pick P i aw (.bool false) w fun h w=>Q0 h true w (fieldAddr P T.g b 3) fun ab w=>Q0 h true w (Q2 P T.e ab) fun N w=>Q0 h true w (Q3 P .geq T.e (.tmp 73) (.const (.int .i64 0)) N (.int .i64 0)) fun H w=>pick P h H (.bool false) w fun c w=>Q0 c true w (fieldAddr P T.g b 3) fun R w=>Q0 c true w (Q2 P T.e R) fun ay w=>Q0 c true w (fieldAddr P T.a t2 2) fun ag w=>Q0 c true w (Q2 P T.f ag) fun ae w=>Q0 c true w (X3 P .len [T.f] T.e [false] [ae]) fun C w=>Q0 c true w (Q3 P .lss T.e (.tmp 78) (.tmp 81) ay C) fun s w=>pick P c s (.bool false) w fun y w=>X1 y (fieldAddr P T.a t2 2 w fun D w=>Q2 P T.f D w fun af w=>fieldAddr P T.g b 3 w fun a4 w=>Q2 P T.e a4 w fun v w=>indexAddr P T.f af v w fun am w=>fieldAddr P T.m am 0 w fun ac w=>Q2 P T.c ac w fun aa w=>K aa w) (k () w)) (k () w)))))) fun z2 d_ w=>K (.string ⟨#[]⟩) w
theorem Q1O {a b:Value} {w:World} {K:Value→World→Prop} (h:Hi a b w K):Q1 P F.c3 [a,b] w K:=Q9 Q1Q Tryz.func32 rfl (by decide) (by kernel_rfl) h
def Eh (k j g:Value) (w:World) (K:Value→World→Prop):Prop:= Q1 P F.a0 [k,j] w fun O w=>J6 P .not O w fun b w=>Q0 b false w (fun w J=>J k w) fun M w=>Q0 b false w (fun w J=>J g w) fun A w=>Q0 b false w (Q1 P F.a0 [M,A]) fun t w=>Q0 b false w (J6 P .not t) fun B w=>pick P b (.bool true) B w fun d w=>Q0 d false w (fun w J=>J j w) fun r w=>Q0 d false w (fun w J=>J g w) fun o w=>Q0 d false w (Q3 P .eql T.c (.tmp 20) (.tmp 21) r o) fun v w=>pick P d (.bool true) v w fun V w=>X1 V (Q3 P .eql T.c (.tmp 24) (.tmp 25) j g w fun c w=>Q0 c true w (fun w J=>J k w) fun X w=>Q0 c true w (fun w J=>J j w) fun R w=>Q0 c true w (Q1 P F.a0 [X,R]) fun E w=>pick P c E (.bool false) w fun ab w=>K ab w) (Q1 P F.x [j] w fun h w=>Q0 h false w (fun w J=>J g w) fun s w=>Q0 h false w (Q1 P F.x [s]) fun aa w=>pick P h (.bool true) aa w fun f w=>Q0 f false w (fun w J=>J g w) fun z w=>Q0 f false w (Q3 P .eql T.c (.tmp 39) (.const (.string ⟨#[110,117,108,108]⟩)) z (.string ⟨#[110,117,108,108]⟩)) fun N w=>pick P f (.bool true) N w fun U w=>X1 U (K (.bool false) w) (Q3 P .eql T.c (.tmp 42) (.const (.string ⟨#[110,117,108,108]⟩)) j (.string ⟨#[110,117,108,108]⟩) w fun i w=>Q0 i false w (fun w J=>J g w) fun C w=>Q0 i false w (Q3 P .eql T.c (.tmp 45) (.const (.string ⟨#[79,98,106,101,99,116]⟩)) C (.string ⟨#[79,98,106,101,99,116]⟩)) fun D w=>pick P i (.bool true) D w fun Z w=>X1 Z (K (.bool true) w) (Q1 P F.b [k,j] w fun l w=>Q1 P F.b [k,g] w fun m w=>Q3 P .geq T.e (.tmp 54) (.const (.int .i64 0)) l (.int .i64 0) w fun e w=>Q0 e true w (fun w J=>J m w) fun y w=>Q0 e true w (Q3 P .geq T.e (.tmp 57) (.const (.int .i64 0)) y (.int .i64 0)) fun ac w=>pick P e ac (.bool false) w fun a w=>Q0 a true w (fun w J=>J k w) fun u w=>Q0 a true w (Q1 P F.ah [u]) fun W w=>Q0 a true w (fun w J=>J l w) fun H w=>Q0 a true w (indexAddr P T.a8 W H) fun L w=>Q0 a true w (Q2 P T.a6 L) fun p w=>Q0 a true w (fun w J=>J m w) fun q w=>Q0 a true w (indexAddr P T.a6 p q) fun n w=>Q0 a true w (Q2 P T.u n) fun Q w=>pick P a Q (.bool false) w fun Y w=>K Y w)))
theorem Q0S {b c a:Value} {w:World} {K:Value→World→Prop} (h:Eh b c a w K):Q1 P F.bS [b,c,a] w K:=Q9 (List.replicate 12 none) Tryz.func63 rfl (by decide) (by kernel_rfl) h
def Od (n o l:Value) (w:World) (K:Value→World→Prop):Prop:= box P T.a n w fun b w=>box P T.g o w fun c w=>Q2 P T.a b w fun m w=>Q2 P T.g c w fun k w=>Q1 P F.c3 [m,k] w fun d w=>Q3 P .neq T.c (.tmp 11) (.const (.string ⟨#[]⟩)) d (.string ⟨#[]⟩) w fun a w=>Q0 a true w (fieldAddr P T.a b 0) fun f w=>Q0 a true w (Q2 P T.i f) fun h w=>Q0 a true w (fun w J=>J d w) fun e w=>Q0 a true w (fun w J=>J l w) fun j w=>Q0 a true w (Q1 P F.bS [h,e,j]) fun i w=>pick P a i (.bool false) w fun g w=>K g w
theorem Ag {b c a:Value} {w:World} {K:Value→World→Prop} (h:Od b c a w K):Q1 P F.an [b,c,a] w K:=Q9 (List.replicate 3 none) Tryz.func28 rfl (by decide) (by kernel_rfl) h
def Ov (d:Value) (w:World) (K:Value→World→Prop):Prop:= X3 P .len [T.c] T.e [false] [d] w fun f w=>Q3 P .lss T.e (.tmp 6) (.const (.int .i64 3)) f (.int .i64 3) w fun c w=>Q0 c false w (fun w J=>J d w) fun s w=>Q0 c false w (fun w J=>J f w) fun p w=>Q0 c false w (Q3 P .sub T.e (.tmp 10) (.const (.int .i64 2)) p (.int .i64 2)) fun k w=>Q0 c false w (R6 P T.c s (some k) none none) fun n w=>Q0 c false w (Q3 P .neq T.c (.tmp 12) (.const (.string ⟨#[91,93]⟩)) n (.string ⟨#[91,93]⟩)) fun q w=>pick P c (.bool true) q w fun a w=>Q0 a false w (fun w J=>J d w) fun g w=>Q0 a false w (Q1 P F.a1 [g]) fun i w=>Q0 a false w (Q3 P .gtr T.e (.tmp 17) (.const (.int .i64 3)) i (.int .i64 3)) fun l w=>pick P a (.bool true) l w fun b w=>Q0 b false w (fun w J=>J d w) fun e w=>Q0 b false w (Q1 P F.e [e]) fun h w=>Q0 b false w (J6 P .not h) fun m w=>pick P b (.bool true) m w fun j w=>X1 j (K (.string ⟨#[]⟩) w) (Q3 P .sub T.e (.tmp 26) (.const (.int .i64 2)) f (.int .i64 2) w fun r w=>R6 P T.c d none (some r) none w fun o w=>K o w)
theorem Ty {a:Value} {w:World} {K:Value→World→Prop} (h:Ov a w K):Q1 P F.aV [a] w K:=Q9 (List.replicate 6 none) Tryz.func71 rfl (by decide) (by kernel_rfl) h
end Go.Proofs.YtjdiakhipmggjaaGreatDoor

set_option maxRecDepth 100000
namespace Go.Proofs.YtjdiakhipmggjaaGreatDoor
open Go.Emb
def Oh (p q o:Value) (w:World) (K:Value→World→Prop):Prop:= box P T.a p w fun b w=>box P T.m q w fun a w=>fieldAddr P T.m a 0 w fun n w=>Q2 P T.c n w fun m w=>Q1 P F.aV [m] w fun c w=>Q3 P .neq T.c (.tmp 11) (.const (.string ⟨#[]⟩)) c (.string ⟨#[]⟩) w fun l w=>X1 l (K c w) (fieldAddr P T.a b 0 w fun j w=>Q2 P T.i j w fun h w=>fieldAddr P T.m a 0 w fun f w=>Q2 P T.c f w fun i w=>Q1 P F.k [h,i] w fun k w=>indexAddr P T.k k o w fun e w=>fieldAddr P T.o e 1 w fun d w=>Q2 P T.c d w fun g w=>K g w)
theorem Ar {b c a:Value} {w:World} {K:Value→World→Prop} (h:Oh b c a w K):Q1 P F.ao [b,c,a] w K:=Q9 (List.replicate 6 none) Tryz.func74 rfl (by decide) (by kernel_rfl) h
def Nv (v t u:Value) (w:World) (K:Value→World→Prop):Prop:= box P T.a v w fun b w=>Q3 P .lss T.e (.tmp 7) (.const (.int .i64 0)) t (.int .i64 0) w fun c w=>Q0 c false w (fun w J=>J t w) fun q w=>Q0 c false w (fieldAddr P T.a b 2) fun m w=>Q0 c false w (Q2 P T.f m) fun o w=>Q0 c false w (X3 P .len [T.f] T.e [false] [o]) fun r w=>Q0 c false w (Q3 P .geq T.e (.tmp 10) (.tmp 13) q r) fun k w=>pick P c (.bool true) k w fun g w=>X1 g (K (.int .i64 92) w) (Q3 P .lss T.a0 (.tmp 16) (.const (.int .i64 0)) u (.int .i64 0) w fun a w=>Q0 a false w (fun w J=>J u w) fun l w=>Q0 a false w (fieldAddr P T.a b 2) fun e w=>Q0 a false w (Q2 P T.f e) fun d w=>Q0 a false w (fun w J=>J t w) fun f w=>Q0 a false w (indexAddr P T.f d f) fun n w=>Q0 a false w (fieldAddr P T.m n 1) fun j w=>Q0 a false w (Q2 P T.l j) fun h w=>Q0 a false w (X3 P .len [T.l] T.e [false] [h]) fun i w=>Q0 a false w (Q3 P .geq T.a0 (.tmp 19) (.tmp 26) l i) fun s w=>pick P a (.bool true) s w fun p w=>X1 p (K (.int .i64 93) w) (K (.int .i64 0) w))
theorem Kr {b c a:Value} {w:World} {K:Value→World→Prop} (h:Nv b c a w K):Q1 P F.aL [b,c,a] w K:=Q9 (List.replicate 8 none) Tryz.func108 rfl (by decide) (by kernel_rfl) h
def Eg (a0 B J a3:Value) (w:World) (K:Value→World→Prop):Prop:= box P T.a a0 w fun a w=>box P T.g a3 w fun c w=>V9 P T.a w fun s w=>Q2 P T.a a w fun Y w=>Q1 P F.aL [Y,B,J] w fun u w=>Q3 P .neq T.y (.tmp 17) (.const (.int .i64 0)) u (.int .i64 0) w fun R w=>X1 R (Q2 P T.a a w fun M w=>Y0 P T.a s M w fun _u w=>Y8 P T.a s w fun y=>K (.tuple #[y,u]) w) (dr w fun b n=>Q6 b (fun d=> ∀w,n w→fieldAddr P T.a a 2 w (dk b d w)) fun d=>Q6 b (fun o=> ∀w,n w→Q2 P T.a a w (dk b o w)) fun o=>Q6 b (fun q=> ∀w,n w→Q2 P T.g c w (dk b q w)) fun q=>Q6 b (fun i=> ∀w,n w→Q2 P T.a a w (dk b i w)) fun i=>Q6 b (fun e=> ∀g w,n w→d g w→Q2 P T.f g w (dk b e w)) fun e=>Q6 b (fun l=> ∀f w,n w→e f w→indexAddr P T.f f B w (dk b l w)) fun l=>Q6 b (fun h=> ∀m w,n w→l m w→Q2 P T.m m w (dk b h w)) fun h=>Q6 b (fun r=> ∀j k w,n w→i j w→h k w→Q1 P F.ao [j,k,J] w (dk b r w)) fun r=>∀g t z j f m k A w,n w→d g w→o t w→q z w→i j w→e f w→l m w→h k w→r A w→ Q1 P F.an [t,z,A] w fun ab w=>J6 P .not ab w fun L w=>X1 L (Q2 P T.a a w fun U w=>Y0 P T.a s U w fun _u w=>Y8 P T.a s w fun y=>K (.tuple #[y,(.int .i64 91)]) w) (buildSlice P T.f 0 [] w fun V w=>fieldAddr P T.a a 2 w fun E w=>Q2 P T.f E w fun aa w=>X3 P .append [T.f,T.f] T.f [false,false] [V,aa] w fun p w=>buildSlice P T.l 0 [] w fun H w=>indexAddr P T.f p B w fun W w=>fieldAddr P T.m W 1 w fun C w=>Q2 P T.l C w fun ac w=>X3 P .append [T.l,T.l] T.l [false,false] [H,ac] w fun v w=>Q2 P T.g c w fun Z w=>indexAddr P T.l v J w fun N w=>Y0 P T.g N Z w fun _u w=>indexAddr P T.f p B w fun Q w=>fieldAddr P T.m Q 1 w fun X w=>Y0 P T.l X v w fun _u w=>fieldAddr P T.a a 2 w fun D w=>Y0 P T.f D p w fun _u w=>Q2 P T.a a w fun O w=>Y0 P T.a s O w fun _u w=>Y8 P T.a s w fun y=>K (.tuple #[y,(.int .i64 0)]) w))
theorem Q0r {c d a b:Value} {w:World} {K:Value→World→Prop} (h:Eg c d a b w K):Q1 P F.bO [c,d,a,b] w K:=Q9 (List.replicate 14 none) Tryz.func59 rfl (by decide) (by kernel_rfl) h
def Er (q o n:Value) (w:World) (K:Value→World→Prop):Prop:= box P T.a q w fun a w=>V9 P T.g w fun c w=>Q2 P T.a a w fun p w=>Q1 P F.aL [p,o,n] w fun b w=>Q3 P .neq T.y (.tmp 13) (.const (.int .i64 0)) b (.int .i64 0) w fun l w=>X1 l (H1 P T.g [] w fun h w=>Y0 P T.g c h w fun _u w=>Y8 P T.g c w fun f=>K (.tuple #[f,b]) w) (fieldAddr P T.a a 2 w fun j w=>Q2 P T.f j w fun m w=>indexAddr P T.f m o w fun e w=>fieldAddr P T.m e 1 w fun d w=>Q2 P T.l d w fun g w=>indexAddr P T.l g n w fun k w=>Q2 P T.g k w fun i w=>Y0 P T.g c i w fun _u w=>Y8 P T.g c w fun f=>K (.tuple #[f,(.int .i64 0)]) w)
theorem Q0t {b c a:Value} {w:World} {K:Value→World→Prop} (h:Er b c a w K):Q1 P F.bP [b,c,a] w K:=Q9 (List.replicate 6 none) Tryz.func60 rfl (by decide) (by kernel_rfl) h
def Q0q:V6:=[none,some ([1],[1,8,9]),none,none,none,some ([5],[5,6,7,10,11,12,13,14,15,16,17,18,19,20,21,22,23,24,25,26,27,28,29,30,31,32,33,34,35,36,37,38,39,40,41,42,43,44,45,46,47,48,49,50,51]),none,none,none,none,some ([6],[6,7,22,23,24,25,26,27,28,29,30,31,32,33,34,35,36,37,38,39,40,41,42,43,44,45,46,47,48,49,50,51]),none,none,none,none,none,none,some ([],[52,53,54,55,56,57,58,59,60,61,62,63]),none,none]
def Ek (a0 a1:Value) (w:World) (K:Value→World→Prop):Prop:= box P T.a a0 w fun e w=>V9 P T.a w fun j w=>jn (α:=Value) w (fun J1 w=>Q3 P .lss T.e (.tmp 8) (.const (.int .i64 0)) a1 (.int .i64 0) w fun t9 w=>X1 t9 (J1 (.int .i64 0) w) (J1 a1 w)) fun i d_ w=>lp (α:=Value) (.int .i64 0) w fun d h d_ w=>Q3 P .lss T.e (.tmp 10) (.tmp 11) h i w fun a w=>Q0 a true w (fun w J=>J h w) fun Q w=>Q0 a true w (fieldAddr P T.a e 2) fun C w=>Q0 a true w (Q2 P T.f C) fun s w=>Q0 a true w (X3 P .len [T.f] T.e [false] [s]) fun B w=>Q0 a true w (Q3 P .lss T.e (.tmp 14) (.tmp 17) Q B) fun Y w=>pick P a Y (.bool false) w fun R w=>X1 R (lp (α:=Value) (.int .i64 0) w fun c f d_ w=>fieldAddr P T.a e 2 w fun ad w=>Q2 P T.f ad w fun H w=>indexAddr P T.f H h w fun D w=>fieldAddr P T.m D 1 w fun z w=>Q2 P T.l z w fun af w=>X3 P .len [T.l] T.e [false] [af] w fun ab w=>Q3 P .lss T.e (.tmp 22) (.tmp 29) f ab w fun L w=>X1 L (fieldAddr P T.a e 2 w fun Z w=>Q2 P T.f Z w fun aa w=>indexAddr P T.f aa h w fun ai w=>fieldAddr P T.m ai 1 w fun r w=>Q2 P T.l r w fun q w=>indexAddr P T.l q f w fun U w=>Q2 P T.g U w fun ac w=>V9 P T.g w fun m w=>Y0 P T.g m ac w fun _u w=>fieldAddr P T.g m 0 w fun n w=>Q2 P T.e n w fun aj w=>Q3 P .eql T.e (.tmp 43) (.const (.int .i64 4)) aj (.int .i64 4) w fun b w=>Q0 b true w (fieldAddr P T.g m 3) fun E w=>Q0 b true w (Q2 P T.e E) fun ag w=>Q0 b true w (fun w J=>J i w) fun O w=>Q0 b true w (Q3 P .geq T.e (.tmp 47) (.tmp 48) ag O) fun o w=>pick P b o (.bool false) w fun W w=>X1 W (Q2 P T.a e w fun t w=>Y0 P T.a j t w fun _u w=>Y8 P T.a j w fun u=>K u w) (Q3 P .add T.e (.tmp 31) (.const (.int .i64 1)) f (.int .i64 1) w fun V w=>c V w)) (Q3 P .add T.e (.tmp 20) (.const (.int .i64 1)) h (.int .i64 1) w fun k w=>d k w)) (jn (α:=Unit) w (fun g w=>fieldAddr P T.a e 2 w fun ak w=>Q2 P T.f ak w fun l w=>X3 P .len [T.f] T.e [false] [l] w fun p w=>Q3 P .lss T.e (.tmp 52) (.tmp 55) i p w fun X w=>X1 X (buildSlice P T.f 0 [] w fun A w=>fieldAddr P T.a e 2 w fun al w=>Q2 P T.f al w fun y w=>R6 P T.f y none (some i) none w fun v w=>X3 P .append [T.f,T.f] T.f [false,false] [A,v] w fun ae w=>fieldAddr P T.a e 2 w fun M w=>Y0 P T.f M ae w fun _u w=>g () w) (g () w)) fun ap d_ w=>Q2 P T.a e w fun N w=>Y0 P T.a j N w fun _u w=>Y8 P T.a j w fun u=>K u w)
theorem Q0a {a b:Value} {w:World} {K:Value→World→Prop} (h:Ek a b w K):Q1 P F.bQ [a,b] w K:=Q9 Q0q Tryz.func61 rfl (by decide) (by kernel_rfl) h
def Hl (a0 a1 a2:Value) (w:World) (K:Value→World→Prop):Prop:= box P T.a a1 w fun t4 w=>box P T.n a2 w fun r w=>V9 P T.a w fun t6 w=>fieldAddr P T.n r 0 w fun eg w=>Q2 P T.e eg w fun az w=>Q3 P .eql T.e (.tmp 23) (.const (.int .i64 0)) az (.int .i64 0) w fun ei w=>X1 ei (Q2 P T.a t4 w fun ec w=>fieldAddr P T.n r 1 w fun ek w=>Q2 P T.c ek w fun eq w=>Q1 P F.be [ec,eq] w fun dh w=>ext P dh 0 w fun et w=>ext P dh 1 w fun cu w=>V9 P T.a w fun t8 w=>Y0 P T.a t8 et w fun _u w=>fieldAddr P T.n r 1 w fun ee w=>Q2 P T.c ee w fun es w=>Q1 P F.aI [a0,es] w fun cz w=>ext P cz 0 w fun da w=>ext P cz 1 w fun eu w=>dr w fun a b=>Q6 a (fun l=> ∀w,b w→Q3 P .eql T.y (.tmp 41) (.tmp 42) cu eu w (dk a l w)) fun l=>Q6 a (fun b6=> ∀c w,b w→l c w→Q0 c true w (fun w J=>J cu w) (dk a b6 w)) fun b6=>Q6 a (fun cb=> ∀c bo w,b w→l c w→b6 bo w→Q0 c true w (Q3 P .neq T.y (.tmp 45) (.const (.int .i64 0)) bo (.int .i64 0)) (dk a cb w)) fun cb=>Q6 a (fun aw=> ∀c bp w,b w→l c w→cb bp w→Q0 c true w (fun w J=>J bp w) (dk a aw w)) fun aw=>Q6 a (fun bz=> ∀m w,b w→aw m w→Q0 m true w (fun w J=>J da w) (dk a bz w)) fun bz=>Q6 a (fun b9=> ∀m cf w,b w→aw m w→bz cf w→Q0 m true w (Q3 P .eql T.e (.tmp 48) (.const (.int .i64 0)) cf (.int .i64 0)) (dk a b9 w)) fun b9=>Q6 a (fun b8=> ∀c m b1 w,b w→l c w→aw m w→b9 b1 w→Q0 c true w (pick P m b1 (.bool false)) (dk a b8 w)) fun b8=>Q6 a (fun v=> ∀c ch w,b w→l c w→b8 ch w→Q0 c true w (fun w J=>J ch w) (dk a v w)) fun v=>Q6 a (fun bb=> ∀i w,b w→v i w→Q0 i false w (fun w J=>J cu w) (dk a bb w)) fun bb=>Q6 a (fun b7=> ∀i bs w,b w→v i w→bb bs w→Q0 i false w (Q3 P .eql T.y (.tmp 52) (.const (.int .i64 0)) bs (.int .i64 0)) (dk a b7 w)) fun b7=>Q6 a (fun t=> ∀i bk w,b w→v i w→b7 bk w→Q0 i false w (fun w J=>J bk w) (dk a t w)) fun t=>Q6 a (fun a8=> ∀g w,b w→t g w→Q0 g true w (fun w J=>J da w) (dk a a8 w)) fun a8=>Q6 a (fun bi=> ∀g w,b w→t g w→Q0 g true w (fieldAddr P T.a t4 2) (dk a bi w)) fun bi=>Q6 a (fun a9=> ∀w,b w→Q2 P T.a t8 w (dk a a9 w)) fun a9=>Q6 a (fun bx=> ∀g br w,b w→t g w→bi br w→Q0 g true w (Q2 P T.f br) (dk a bx w)) fun bx=>Q6 a (fun b0=> ∀g bg w,b w→t g w→bx bg w→Q0 g true w (X3 P .len [T.f] T.e [false] [bg]) (dk a b0 w)) fun b0=>Q6 a (fun be=> ∀g ba bl w,b w→t g w→a8 ba w→b0 bl w→Q0 g true w (Q3 P .eql T.e (.tmp 55) (.tmp 58) ba bl) (dk a be w)) fun be=>Q6 a (fun bu=> ∀i g bd w,b w→v i w→t g w→be bd w→Q0 i false w (pick P g bd (.bool false)) (dk a bu w)) fun bu=>Q6 a (fun bw=> ∀c i bm w,b w→l c w→v i w→bu bm w→Q0 c true w (pick P i (.bool true) bm) (dk a bw w)) fun bw=>Q6 a (fun cw=> ∀c b4 w,b w→l c w→bw b4 w→pick P c b4 (.bool false) w (dk a cw w)) fun cw=>Ry a (fun k=> ∀av w,b w→a9 av w→Y0 P T.a t6 av w (dk a (k [av]) w)) fun k=>∀c bo bp m cf b1 ch i bs bk g ba br av bg bl bd bm b4 d6 ct w,b w→l c w→b6 bo w→cb bp w→aw m w→bz cf w→b9 b1 w→b8 ch w→v i w→bb bs w→b7 bk w→t g w→a8 ba w→bi br w→a9 av w→bx bg w→b0 bl w→be bd w→bu bm w→bw b4 w→cw d6 w→k [av] ct w→ Y8 P T.a t6 w fun r0=>K (.tuple #[r0,d6]) w) (Q3 P .eql T.e (.tmp 23) (.const (.int .i64 1)) az (.int .i64 1) w fun d9 w=>X1 d9 (Q2 P T.a t4 w fun d8 w=>fieldAddr P T.n r 1 w fun ed w=>Q2 P T.c ed w fun ep w=>fieldAddr P T.n r 2 w fun er w=>Q2 P T.a0 er w fun el w=>Q1 P F.bo [d8,ep,el] w fun dg w=>ext P dg 0 w fun em w=>ext P dg 1 w fun cv w=>V9 P T.a w fun c4 w=>Y0 P T.a c4 em w fun _u w=>fieldAddr P T.n r 1 w fun eh w=>Q2 P T.c eh w fun ej w=>fieldAddr P T.n r 2 w fun ea w=>Q2 P T.a0 ea w fun eo w=>Q1 P F.aR [a0,ej,eo] w fun d1 w=>ext P d1 0 w fun c0 w=>ext P d1 1 w fun ef w=>dr w fun a b=>Q6 a (fun o=> ∀w,b w→Q3 P .eql T.y (.tmp 84) (.tmp 85) cv ef w (dk a o w)) fun o=>Q6 a (fun cl=> ∀d w,b w→o d w→Q0 d true w (fun w J=>J cv w) (dk a cl w)) fun cl=>Q6 a (fun b3=> ∀d cg w,b w→o d w→cl cg w→Q0 d true w (Q3 P .neq T.y (.tmp 88) (.const (.int .i64 0)) cg (.int .i64 0)) (dk a b3 w)) fun b3=>Q6 a (fun ar=> ∀d cc w,b w→o d w→b3 cc w→Q0 d true w (fun w J=>J cc w) (dk a ar w)) fun ar=>Q6 a (fun bc=> ∀n w,b w→ar n w→Q0 n true w (fun w J=>J c0 w) (dk a bc w)) fun bc=>Q6 a (fun b5=> ∀n bv w,b w→ar n w→bc bv w→Q0 n true w (Q3 P .eql T.e (.tmp 91) (.const (.int .i64 0)) bv (.int .i64 0)) (dk a b5 w)) fun b5=>Q6 a (fun ck=> ∀d n ci w,b w→o d w→ar n w→b5 ci w→Q0 d true w (pick P n ci (.bool false)) (dk a ck w)) fun ck=>Q6 a (fun u=> ∀d b2 w,b w→o d w→ck b2 w→Q0 d true w (fun w J=>J b2 w) (dk a u w)) fun u=>Q6 a (fun cd=> ∀h w,b w→u h w→Q0 h false w (fun w J=>J cv w) (dk a cd w)) fun cd=>Q6 a (fun bf=> ∀h bj w,b w→u h w→cd bj w→Q0 h false w (Q3 P .eql T.y (.tmp 95) (.const (.int .i64 0)) bj (.int .i64 0)) (dk a bf w)) fun bf=>Q6 a (fun s=> ∀h bn w,b w→u h w→bf bn w→Q0 h false w (fun w J=>J bn w) (dk a s w)) fun s=>Q6 a (fun ca=> ∀f w,b w→s f w→Q0 f true w (fun w J=>J c0 w) (dk a ca w)) fun ca=>Q6 a (fun cj=> ∀f w,b w→s f w→Q0 f true w (fieldAddr P T.a t4 2) (dk a cj w)) fun cj=>Q6 a (fun ce=> ∀w,b w→Q2 P T.a c4 w (dk a ce w)) fun ce=>Q6 a (fun O=> ∀f bq w,b w→s f w→cj bq w→Q0 f true w (Q2 P T.f bq) (dk a O w)) fun O=>Q6 a (fun V=> ∀f Y w,b w→s f w→O Y w→Q0 f true w (X3 P .len [T.f] T.e [false] [Y]) (dk a V w)) fun V=>Q6 a (fun ai=> ∀f a7 ak w,b w→s f w→ca a7 w→V ak w→Q0 f true w (Q3 P .eql T.e (.tmp 98) (.tmp 101) a7 ak) (dk a ai w)) fun ai=>Q6 a (fun M=> ∀h f X w,b w→u h w→s f w→ai X w→Q0 h false w (pick P f X (.bool false)) (dk a M w)) fun M=>Q6 a (fun af=> ∀d h L w,b w→o d w→u h w→M L w→Q0 d true w (pick P h (.bool true) L) (dk a af w)) fun af=>Q6 a (fun a3=> ∀d W w,b w→o d w→af W w→pick P d W (.bool false) w (dk a a3 w)) fun a3=>Ry a (fun k=> ∀aq w,b w→ce aq w→Y0 P T.a t6 aq w (dk a (k [aq]) w)) fun k=>∀d cg cc n bv ci b2 h bj bn f a7 bq aq Y ak X L W co ct w,b w→o d w→cl cg w→b3 cc w→ar n w→bc bv w→b5 ci w→ck b2 w→u h w→cd bj w→bf bn w→s f w→ca a7 w→cj bq w→ce aq w→O Y w→V ak w→ai X w→M L w→af W w→a3 co w→k [aq] ct w→ Y8 P T.a t6 w fun r0=>K (.tuple #[r0,co]) w) (Q3 P .eql T.e (.tmp 23) (.const (.int .i64 2)) az (.int .i64 2) w fun dp w=>X1 dp (Q2 P T.a t4 w fun dj w=>fieldAddr P T.n r 3 w fun dl w=>Q2 P T.e dl w fun d0 w=>fieldAddr P T.n r 2 w fun db w=>Q2 P T.a0 db w fun c7 w=>fieldAddr P T.n r 4 w fun dv w=>Q2 P T.g dv w fun dm w=>Q1 P F.bO [dj,d0,c7,dm] w fun cm w=>ext P cm 0 w fun c1 w=>ext P cm 1 w fun d7 w=>V9 P T.a w fun du w=>Y0 P T.a du c1 w fun _u w=>dr w fun a b=>Q6 a (fun ag=> ∀w,b w→fieldAddr P T.n r 3 w (dk a ag w)) fun ag=>Q6 a (fun al=> ∀w,b w→fieldAddr P T.n r 2 w (dk a al w)) fun al=>Q6 a (fun ab=> ∀w,b w→fieldAddr P T.n r 4 w (dk a ab w)) fun ab=>Q6 a (fun z=> ∀w,b w→Q2 P T.a du w (dk a z w)) fun z=>Q6 a (fun B=> ∀ad w,b w→ag ad w→Q2 P T.e ad w (dk a B w)) fun B=>Q6 a (fun R=> ∀Z w,b w→al Z w→Q2 P T.a0 Z w (dk a R w)) fun R=>Q6 a (fun y=> ∀am w,b w→ab am w→Q2 P T.g am w (dk a y w)) fun y=>Q6 a (fun N=> ∀D aj A w,b w→B D w→R aj w→y A w→Q1 P F.b6 [a0,D,aj,A] w (dk a N w)) fun N=>Q6 a (fun ay=> ∀E w,b w→N E w→Q3 P .eql T.y (.tmp 127) (.tmp 128) E d7 w (dk a ay w)) fun ay=>Ry a (fun a6=> ∀p w,b w→z p w→Y0 P T.a t6 p w (dk a (a6 [p]) w)) fun a6=>∀ad Z am p D aj A E cq eb w,b w→ag ad w→al Z w→ab am w→z p w→B D w→R aj w→y A w→N E w→ay cq w→a6 [p] eb w→ Y8 P T.a t6 w fun r0=>K (.tuple #[r0,cq]) w) (Q3 P .eql T.e (.tmp 23) (.const (.int .i64 3)) az (.int .i64 3) w fun d3 w=>X1 d3 (Q2 P T.a t4 w fun ds w=>fieldAddr P T.n r 3 w fun dx w=>Q2 P T.e dx w fun c8 w=>fieldAddr P T.n r 2 w fun dz w=>Q2 P T.a0 dz w fun di w=>Q1 P F.bP [ds,c8,di] w fun cr w=>ext P cr 0 w fun dw w=>ext P cr 1 w fun c2 w=>V9 P T.g w fun d5 w=>Y0 P T.g d5 dw w fun _u w=>fieldAddr P T.n r 3 w fun cx w=>Q2 P T.e cx w fun c9 w=>fieldAddr P T.n r 2 w fun dy w=>Q2 P T.a0 dy w fun dn w=>Q1 P F.c1 [a0,c9,dn] w fun cn w=>ext P cn 0 w fun dd w=>ext P cn 1 w fun d4 w=>V9 P T.g w fun dt w=>Y0 P T.g dt dd w fun _u w=>dr w fun a b=>Q6 a (fun H=> ∀w,b w→Q2 P T.a t4 w (dk a H w)) fun H=>Q6 a (fun ah=> ∀w,b w→Q2 P T.g d5 w (dk a ah w)) fun ah=>Q6 a (fun an=> ∀w,b w→Q2 P T.g dt w (dk a an w)) fun an=>Q6 a (fun j=> ∀ac ap w,b w→ah ac w→an ap w→Q3 P .eql T.g (.tmp 151) (.tmp 152) ac ap w (dk a j w)) fun j=>Q6 a (fun C=> ∀e w,b w→j e w→Q0 e true w (fun w J=>J c2 w) (dk a C w)) fun C=>Q6 a (fun ao=> ∀e w,b w→j e w→Q0 e true w (fun w J=>J d4 w) (dk a ao w)) fun ao=>Q6 a (fun U=> ∀e ae Q w,b w→j e w→C ae w→ao Q w→Q0 e true w (Q3 P .eql T.y (.tmp 155) (.tmp 156) ae Q) (dk a U w)) fun U=>Q6 a (fun a4=> ∀e aa w,b w→j e w→U aa w→pick P e aa (.bool false) w (dk a a4 w)) fun a4=>Ry a (fun cs=> ∀q w,b w→H q w→Y0 P T.a t6 q w (dk a (cs [q]) w)) fun cs=>∀q ac ap e ae Q aa cp u9 w,b w→H q w→ah ac w→an ap w→j e w→C ae w→ao Q w→U aa w→a4 cp w→cs [q] u9 w→ Y8 P T.a t6 w fun r0=>K (.tuple #[r0,cp]) w) (Q3 P .eql T.e (.tmp 23) (.const (.int .i64 4)) az (.int .i64 4) w fun dc w=>X1 dc (fieldAddr P T.n r 3 w fun d2 w=>Q2 P T.e d2 w fun de w=>Q1 P F.c4 [a0,de] w fun ew w=>Q2 P T.a t4 w fun dq w=>fieldAddr P T.n r 3 w fun c5 w=>Q2 P T.e c5 w fun cy w=>Q1 P F.bQ [dq,cy] w fun c6 w=>Y0 P T.a t6 c6 w fun _u w=>Y8 P T.a t6 w fun r0=>K (.tuple #[r0,(.bool true)]) w) (Q2 P T.a t4 w fun df w=>Y0 P T.a t6 df w fun _u w=>Y8 P T.a t6 w fun r0=>K (.tuple #[r0,(.bool true)]) w)))))
theorem Q1S {b c a:Value} {w:World} {K:Value→World→Prop} (h:Hl b c a w K):Q1 P F.b7 [b,c,a] w K:=Q9 (List.replicate 22 none) Tryz.func26 rfl (by decide) (by kernel_rfl) h
def Ih:V6:=[none,none,none,some ([3],[2,3,4,5,6,7,8,9,10,11,12,13,14,15,16,17,18,19,20,21,22,23,24,25,26,27,28,29,30,31,32,33,34,35,36,37,38,39,40,41,42,43,44,45,46,47,48,49,50,51,52,53,54,55,56,57,58,59,60]),none,none,none,none,none,none,none,none,none,some ([6],[2,6,44,45,46,47,48,49,50,51,52,53,54,55,56,57,58,59,60]),none,none,none,none,none,none]
def Nc (a0:Value) (w:World) (K:Value→World→Prop):Prop:= box P T.a a0 w fun b w=>lp (α:=Value) (.int .i64 0) w fun l x3 d_ w=>fieldAddr P T.a b 2 w fun t8 w=>Q2 P T.f t8 w fun t9 w=>X3 P .len [T.f] T.e [false] [t9] w fun ak w=>Q3 P .lss T.e (.tmp 7) (.tmp 10) x3 ak w fun ad w=>X1 ad (fieldAddr P T.a b 2 w fun Y w=>Q2 P T.f Y w fun R w=>indexAddr P T.f R x3 w fun Q w=>Q2 P T.m Q w fun ae w=>V9 P T.m w fun a w=>Y0 P T.m a ae w fun _u w=>fieldAddr P T.m a 1 w fun Z w=>Q2 P T.l Z w fun D w=>X3 P .len [T.l] T.e [false] [D] w fun y w=>fieldAddr P T.m a 0 w fun M w=>Q2 P T.c M w fun ai w=>Q1 P F.aV [ai] w fun V w=>Q3 P .eql T.c (.tmp 24) (.const (.string ⟨#[]⟩)) V (.string ⟨#[]⟩) w fun c w=>Q0 c true w (fieldAddr P T.a b 0) fun O w=>Q0 c true w (Q2 P T.i O) fun aj w=>Q0 c true w (fieldAddr P T.m a 0) fun ag w=>Q0 c true w (Q2 P T.c ag) fun W w=>Q0 c true w (Q1 P F.aD [aj,W]) fun an w=>Q0 c true w (J6 P .not an) fun aa w=>Q0 c true w (fun w J=>J aa w) fun d w=>Q0 d false w (fun w J=>J y w) fun af w=>Q0 d false w (fieldAddr P T.a b 0) fun E w=>Q0 d false w (Q2 P T.i E) fun am w=>Q0 d false w (fieldAddr P T.m a 0) fun L w=>Q0 d false w (Q2 P T.c L) fun H w=>Q0 d false w (Q1 P F.k [am,H]) fun ap w=>Q0 d false w (X3 P .len [T.k] T.e [false] [ap]) fun ab w=>Q0 d false w (Q3 P .neq T.e (.tmp 34) (.tmp 40) af ab) fun ah w=>Q0 c true w (pick P d (.bool true) ah) fun C w=>pick P c C (.bool false) w fun ao w=>X1 ao (K (.bool false) w) (lp (α:=Value) (.int .i64 0) w fun f j d_ w=>Q3 P .lss T.e (.tmp 44) (.tmp 45) j y w fun U w=>X1 U (dr w fun e s=>Q6 e (fun q=> ∀w,s w→fieldAddr P T.m a 1 w (dk e q w)) fun q=>Q6 e (fun v=> ∀w,s w→Q2 P T.a b w (dk e v w)) fun v=>Q6 e (fun i=> ∀o w,s w→q o w→Q2 P T.l o w (dk e i w)) fun i=>Q6 e (fun n=> ∀k w,s w→i k w→indexAddr P T.l k j w (dk e n w)) fun n=>Q6 e (fun u=> ∀r w,s w→n r w→Q2 P T.g r w (dk e u w)) fun u=>Q6 e (fun g=> ∀w,s w→Q2 P T.a b w (dk e g w)) fun g=>Q6 e (fun p=> ∀w,s w→Q2 P T.m a w (dk e p w)) fun p=>Q6 e (fun t=> ∀h m w,s w→g h w→p m w→Q1 P F.ao [h,m,j] w (dk e t w)) fun t=>∀o A k r z h m B w,s w→q o w→v A w→i k w→n r w→u z w→g h w→p m w→t B w→ Q1 P F.an [A,z,B] w fun N w=>J6 P .not N w fun aq w=>X1 aq (K (.bool false) w) (Q3 P .add T.e (.tmp 47) (.const (.int .i64 1)) j (.int .i64 1) w fun X w=>f X w)) (Q3 P .add T.e (.tmp 12) (.const (.int .i64 1)) x3 (.int .i64 1) w fun al w=>l al w))) (K (.bool true) w)
theorem Ta {a:Value} {w:World} {K:Value→World→Prop} (h:Nc a w K):Q1 P F.bl [a] w K:=Q9 Ih Tryz.func39 rfl (by decide) (by kernel_rfl) h
end Go.Proofs.YtjdiakhipmggjaaGreatDoor

set_option maxRecDepth 100000
namespace Go.Proofs.YtjdiakhipmggjaaGreatDoor
open Go.Emb
def Sd:V6:=[none,none,none,none,none,none,none,some ([7],[4,7,19,20,21,22,23,24,25,26,27,28,29,30,31,32,33,34,35,36,37,38,39,40,41,42,43,44,45,46,47,48,49,50,51,52,53,54,55,56]),none,none,none,some ([],[29,30,31,32,33,34,35,36,37,38,39,40]),none,none,none,none,none]
def Uc (a0 Z:Value) (w:World) (K:Value→World→Prop):Prop:= Q1 P F.ag [a0] w fun p w=>ext P p 0 w fun b w=>ext P p 1 w fun R w=>V9 P T.a w fun a w=>Y0 P T.a a R w fun _u w=>Q1 P F.aH [] w fun W w=>J6 P .not W w fun k w=>Q0 k false w (fun w J=>J b w) fun z w=>Q0 k false w (Q3 P .eql T.a5 (.tmp 16) (.const (.pointer none)) z (.pointer none)) fun A w=>pick P k (.bool true) A w fun O w=>X1 O (K (.bool false) w) (lp (α:=Value) (.int .i64 0) w fun g m d_ w=>X3 P .len [T.a1] T.e [false] [Z] w fun s w=>Q3 P .lss T.e (.tmp 19) (.tmp 21) m s w fun h w=>Q0 h true w (fun w J=>J m w) fun E w=>Q0 h true w (Q3 P .lss T.e (.tmp 24) (.const (.int .i64 60)) E (.int .i64 60)) fun B w=>pick P h B (.bool false) w fun C w=>X1 C (jn (α:=Unit) w (fun o w=>indexAddr P T.a1 Z m w fun X w=>Q2 P T.n X w fun L w=>Q1 P F.bM [L] w fun Q w=>X1 Q (dr w fun l r=>Q6 l (fun f=> ∀w,r w→indexAddr P T.a1 Z m w (dk l f w)) fun f=>Q6 l (fun j=> ∀w,r w→Q2 P T.a a w (dk l j w)) fun j=>Q6 l (fun i=> ∀c w,r w→f c w→Q2 P T.n c w (dk l i w)) fun i=>∀c n q w,r w→f c w→j n w→i q w→ Q1 P F.b7 [b,n,q] w fun ab w=>o () w) (o () w)) fun aa d_ w=>Q1 P F.aO [b] w fun u w=>fieldAddr P T.a a 2 w fun Y w=>Y0 P T.f Y u w fun _u w=>Q1 P F.aP [b] w fun D w=>J6 P .not D w fun e w=>Q0 e false w (Q2 P T.a a) fun H w=>Q0 e false w (Q1 P F.bl [H]) fun v w=>Q0 e false w (J6 P .not v) fun N w=>pick P e (.bool true) N w fun d w=>Q0 d false w (fun w J=>J b w) fun V w=>Q0 d false w (Q1 P F.a7 [V]) fun t w=>Q0 d false w (Q3 P .lss T.e (.tmp 54) (.const (.int .i64 0)) t (.int .i64 0)) fun y w=>pick P d (.bool true) y w fun M w=>X1 M (K (.bool false) w) (Q3 P .add T.e (.tmp 27) (.const (.int .i64 1)) m (.int .i64 1) w fun U w=>g U w)) (K (.bool true) w))
theorem St {a b:Value} {w:World} {K:Value→World→Prop} (h:Uc a b w K):Q1 P F.c7 [a,b] w K:=Q9 Sd Tryz.func8 rfl (by decide) (by kernel_rfl) h
end Go.Proofs.YtjdiakhipmggjaaGreatDoor


namespace Go.Emb
open Go.RowKit (Below)
variable {P : Program} {w w' : World} {K : Value → World → Prop}
theorem X9 {s:Sem Value} {v:Value} (h:s.run P w= .ok v w'):op P (sv s) w K=K v w':=by
 rw[P9];unfold K9 sv;simp[h]
theorem Li {s:Sem Unit} (h:s.run P w= .ok () w'):op P (su s) w K=K undef w':=by
 rw[P9];unfold K9 su;simp[h]
abbrev S (l:List UInt8):Value:= .string ⟨l.toArray⟩
abbrev I (n:Int):Value:= .int .i64 n
theorem Ej {b:Bool} {x y:Value}:pick P (.bool b) x y w K=K (if b then x else y) w:=by
 unfold pick;rw[P9];unfold K9;cases b<;>simp[asBool]
theorem M4 {x y:Value}:pick P (.bool true) x y w K=K x w:=by rw[Ej];rfl
theorem L1 {x y:Value}:pick P (.bool false) x y w K=K y w:=by rw[Ej];rfl
theorem X0u {a b:Bool} {u:Value}:pick P (.bool a) (if a=true then .bool b else u) (.bool false) w K=K (.bool (a&&b)) w:=by
 rw[Ej];cases a<;>rfl
theorem X1L {a b:Bool} {u:Value}:pick P (.bool a) (.bool true) (if a=false then .bool b else u) w K=K (.bool (a||b)) w:=by
 rw[Ej];cases a<;>rfl
theorem W5 {c:World→(Value→World→Prop)→Prop}:Q0 (.bool true) true w c K=c w K:=by rw[El];simp[Nu]
theorem W7 {c:World→(Value→World→Prop)→Prop}:Q0 (.bool false) false w c K=c w K:=by rw[El];simp[Nu]
theorem S1 {c:World→(Value→World→Prop)→Prop}:Q0 (.bool true) false w c K=K undef w:=by rw[El];simp[Nu]
theorem E1 {c:World→(Value→World→Prop)→Prop}:Q0 (.bool false) true w c K=K undef w:=by rw[El];simp[Nu]
theorem O6 {b:Bool} {c:World→(Value→World→Prop)→Prop}:Q0 undef b w c K=K undef w:=by rw[El];rfl
theorem X07 {a b:Bool} {v:Value}:Q0 (.bool a) b w (fun w J=>J v w) K=K (if a=b then v else undef) w:=by
 rw[El];unfold Nu;by_cases h:a=b<;>simp[h]
theorem Q5H {b:Bool} {t e:Prop}:X1 (.bool b) t e=if b=true then t else e:=by rw[Q5v];cases b<;>rfl
theorem H5 {t e:Prop}:X1 (.bool true) t e=t:=by rw[Q5H];simp
theorem M3 {t e:Prop}:X1 (.bool false) t e=e:=by rw[Q5H];simp
section ints
variable {k : IntKind} {t : TypeId} {ox oy : Operand} {a b : Int}
theorem Gi:Q3 P .add t ox oy (.int k a) (.int k b) w K=K (.int k (k.wrap (a+b))) w:=X9 (by simp[eqGuard,Go.binOp,Op.intArith])
theorem Q40:Q3 P .sub t ox oy (.int k a) (.int k b) w K=K (.int k (k.wrap (a-b))) w:=X9 (by simp[eqGuard,Go.binOp,Op.intArith])
theorem Q7E:Q3 P .mul t ox oy (.int k a) (.int k b) w K=K (.int k (k.wrap (a*b))) w:=X9 (by simp[eqGuard,Go.binOp,Op.intArith])
theorem Q3Y:Q3 P .lss t ox oy (.int k a) (.int k b) w K=K (.bool (decide (a<b))) w:=X9 (by simp[eqGuard,Go.binOp,Op.intCmp])
theorem Q3H:Q3 P .leq t ox oy (.int k a) (.int k b) w K=K (.bool (decide (a≤b))) w:=X9 (by simp[eqGuard,Go.binOp,Op.intCmp])
theorem Rj:Q3 P .gtr t ox oy (.int k a) (.int k b) w K=K (.bool (decide (b<a))) w:=X9 (by simp[eqGuard,Go.binOp,Op.intCmp])
theorem Q1q:Q3 P .geq t ox oy (.int k a) (.int k b) w K=K (.bool (decide (b≤a))) w:=X9 (by simp[eqGuard,Go.binOp,Op.intCmp])
theorem Q1x:Q3 P .eql t ox oy (.int k a) (.int k b) w K=K (.bool (decide (a=b))) w:=X9 (by
 simp[eqGuard,Go.binOp,Op.intCmp];rfl)
theorem Q3Z:Q3 P .neq t ox oy (.int k a) (.int k b) w K=K (.bool (!decide (a=b))) w:=X9 (by
 simp[eqGuard,Go.binOp,Op.intCmp];rfl)
end ints
theorem Q3O {b:Bool}:J6 P .not (.bool b) w K=K (.bool (!b)) w:=X9 (by simp[Op.unary])
section bools
variable {t : TypeId} {ox oy : Operand} {a b : Bool}
theorem Q2w (d:Nat) (h:P.underlying t=some .bool):(Op.equalIn (d+1) t (.bool a) (.bool b)).run P w= .ok (a==b) w:=by
 simp[Op.equalIn,run_underlying h]
theorem Fi (h:P.underlying t=some .bool):(Op.equal t (.bool a) (.bool b)).run P w= .ok (a==b) w:=Q2w 9999 h
theorem Q5p (h:P.underlying t=some .bool):Q3 P .eql t ox oy (.bool a) (.bool b) w K=K (.bool (a==b)) w:=X9 (by
 simp[eqGuard,Go.binOp,Fi h])
theorem Q6k (h:P.underlying t=some .bool):Q3 P .neq t ox oy (.bool a) (.bool b) w K=K (.bool (!(a==b))) w:=X9 (by
 simp[eqGuard,Go.binOp,Fi h])
end bools
theorem Jm {vs:List Value} {i:Nat} {v:Value} (h:vs[i]? =some v):ext P (.tuple vs.toArray) i w K=K v w:=X9 (by
 simp[Instr.extract,h])
theorem X2B {a b:Value}:ext P (.tuple #[a,b]) 0 w K=K a w:=Jm (vs:=[a,b]) rfl
theorem X2q {a b:Value}:ext P (.tuple #[a,b]) 1 w K=K b w:=Jm (vs:=[a,b]) rfl
theorem X1f {a b c:Value}:ext P (.tuple #[a,b,c]) 0 w K=K a w:=Jm (vs:=[a,b,c]) rfl
theorem X14 {a b c:Value}:ext P (.tuple #[a,b,c]) 1 w K=K b w:=Jm (vs:=[a,b,c]) rfl
theorem X18 {a b c:Value}:ext P (.tuple #[a,b,c]) 2 w K=K c w:=Jm (vs:=[a,b,c]) rfl
theorem G3 {n:Int} (d: -9223372036854775808≤n) (e:n≤9223372036854775807):IntKind.i64.wrap n=n:=by
 have c:n % 18446744073709551616=n∨n % 18446744073709551616=n+18446744073709551616:=by omega
 show (if (true&&decide (n % 18446744073709551616≥9223372036854775808))=true then n % 18446744073709551616-18446744073709551616 else n % 18446744073709551616)=n
 simp only[Bool.true_and,decide_eq_true_eq]
 split<;>omega
theorem w32 {n:Int} (c: -2147483648≤n) (d:n≤2147483647):IntKind.i32.wrap n=n:=by
 show (if (true&&decide (n % 4294967296≥2147483648))=true then n % 4294967296-4294967296 else n % 4294967296)=n
 simp only[Bool.true_and,decide_eq_true_eq]
 split<;>omega
section strs
variable {t : TypeId} {ox oy : Operand} {a b : List UInt8}
theorem Q3D (a b:List UInt8):(a==b)=decide (a=b):=by rw[Bool.eq_iff_iff];simp
theorem Bx:Q3 P .eql t ox oy (S a) (S b) w K=K (.bool (decide (a=b))) w:=X9 (by
 simp[eqGuard,Go.binOp,Op.stringOp,Q3D])
theorem By:Q3 P .neq t ox oy (S a) (S b) w K=K (.bool (!decide (a=b))) w:=X9 (by
 simp[eqGuard,Go.binOp,Op.stringOp,Q3D])
theorem I5 (l:List UInt8):(ByteArray.mk l.toArray).size=l.length:=by simp[ByteArray.size]
theorem Q9t (a b:List UInt8):ByteArray.mk a.toArray++ByteArray.mk b.toArray=ByteArray.mk (a++b).toArray:=by
 apply ByteArray.ext;simp
theorem X3F:IntKind.i64.max=9223372036854775807:=by decide
theorem Q2m (h:a.length+b.length≤9223372036854775807):Q3 P .add t ox oy (S a) (S b) w K=K (S (a++b)) w:=X9 (by
 have c: ¬(((a.length+b.length:Nat):Int)>IntKind.i64.max):=by rw[X3F];omega
 simp only[eqGuard,Go.binOp,Op.stringOp,I5,Q9t]
 simp only[if_neg c]
 simp)
theorem R3 {cs:List Bool} {r:TypeId} (c:P.underlying t=some .string):X3 P .len [t] r cs [S a] w K=K (I a.length) w:=by
 have h:(Builtin.len_ #[t] r #[S a]).run P w= .ok (I a.length) w:=by
  simp[Builtin.len_,run_underlying c,I5,goInt]
 exact X9 h
theorem Xm {i:Int} (c:P.underlying t=some .string) (d:0≤i) (h:i.toNat<a.length):S9 P t (S a) (I i) w K=K (.int .u8 (a[i.toNat]'h).toNat) w:=X9 (by
 simp only[Instr.index,asIntOf,Sem.run_bind,Sem.run_pure,Result.andThen_ok,run_underlying c,d,if_true]
 have:(ByteArray.mk a.toArray)[i.toNat]? =some (a[i.toNat]'h):=by
  rw[getElem?_pos _ _ (by rw[I5];exact h)]
  rfl
 rw[this];simp)
theorem Q3u (l:List UInt8) (i j:Nat):(ByteArray.mk l.toArray).extract i j=ByteArray.mk ((l.take j).drop i).toArray:=by
 apply ByteArray.ext
 apply Array.ext'
 simp[List.drop_take]
theorem Up {i:Int} (c:P.underlying t=some .string) (d:0≤i) (h:i≤a.length):R6 P t (S a) (some (I i)) none none w K=K (S (a.drop i.toNat)) w:=X9 (by
 simp[Instr.sliceAt,Instr.slice,Instr.sliceBounds,Instr.sliceBound,asIntOf,run_underlying c,d,h,I5,Q3u])
theorem T0 {i:Int} (c:P.underlying t=some .string) (d:0≤i) (h:i≤a.length):R6 P t (S a) none (some (I i)) none w K=K (S (a.take i.toNat)) w:=X9 (by
 simp[Instr.sliceAt,Instr.slice,Instr.sliceBounds,Instr.sliceBound,asIntOf,run_underlying c,d,h,I5,Q3u])
end strs
theorem Gx {s d:TypeId} {k j:IntKind} {n:Int} {ds:TypeDesc} (c:P.underlying s=some ds) (e:P.underlying d=some (.int k)):conv P s d (.int j n) w K=K (.int k (k.wrap n)) w:=X9 (by
 simp[Go.convert,run_underlying c,run_underlying e,Conv.intToInt])
def Q0z (w:World) (r:Nat) (o:Obj):World:={w with heap:=w.heap.setIfInBounds r o}
theorem Q4C {B r:Nat} {a w:World} {o:Obj} (h:Below B a w) (c:B≤r):Below B a (Q0z w r o):=
 h.trans ⟨rfl,rfl,rfl,by simp[Q0z],fun k d=>by simp only[Q0z];rw[Array.getElem?_setIfInBounds_ne (by omega)]⟩
theorem Q7j {w:World} {r:Nat} {o:Obj} (h:r<w.heap.size):(Q0z w r o).heap[r]? =some o:=by
 simp only[Q0z];rw[Array.getElem?_setIfInBounds_self_of_lt h]
theorem X22 {t:TypeId} {a:List UInt8} (c:P.underlying t=some .string):rng P t (S a) w K=K (.pointer (some ⟨w.heap.size,0,none⟩)) (w.alloc (.stringIter ⟨a.toArray⟩ 0)):=X9 (by
 simp[Instr.range,run_underlying c])
theorem X2e {t:TypeId} {r pos:Nat} {s:ByteArray} (h:w.heap[r]? =some (.stringIter s pos)) (d:pos<s.size):
 W3 P (.pointer (some ⟨r,0,none⟩)) true t w K=K (.tuple #[.bool true,I pos, .int .i32 (Utf8.decode s pos).1]) (Q0z w r (.stringIter s (pos+(Utf8.decode s pos).2))):=X9 (by
 have c: ∀(k:Obj→Sem Value),(getObj r>>=k).run P w=(k (.stringIter s pos)).run P w:=by
  intro k;rw[Sem.run_bind];simp[getObj,Sem.run,h]
 have e: ∀o,(setObj r o).run P w= .ok () (Q0z w r o):=by intro o;simp[setObj,Sem.run,h,Q0z]
 unfold Instr.next
 simp only[c,d,if_true]
 simp[e,goInt])
theorem Q6N {t:TypeId} {r pos:Nat} {s:ByteArray} (h:w.heap[r]? =some (.stringIter s pos)) (c: ¬pos<s.size):
 W3 P (.pointer (some ⟨r,0,none⟩)) true t w K=K (.tuple #[.bool false]) w:=X9 (by
 have d: ∀(k:Obj→Sem Value),(getObj r>>=k).run P w=(k (.stringIter s pos)).run P w:=by
  intro k;rw[Sem.run_bind];simp[getObj,Sem.run,h]
 unfold Instr.next
 simp only[d,c,if_false]
 simp)
theorem X0Z {a:Value}:ext P (.tuple #[a]) 0 w K=K a w:=Jm (vs:=[a]) rfl
theorem Q7K {s:ByteArray} {i:Nat} (h:(s.get! i).toNat<128):Utf8.decode s i=((s.get! i).toNat,1):=by
 unfold Utf8.decode
 simp only[Nat.add_zero]
 rw[if_pos h]
theorem Q6q {s:ByteArray} {i:Nat} (h: ¬(s.get! i).toNat<128):128≤(Utf8.decode s i).1:=by
 unfold Utf8.decode
 simp only[Nat.add_zero]
 rw[if_neg h]
 repeat' split
 all_goals (simp only[Utf8.runeError] at*;try omega)
 all_goals (simp only[Bool.and_eq_true,decide_eq_true_eq,ge_iff_le] at*;omega)
theorem Q69 {s:ByteArray} {i:Nat}:1≤(Utf8.decode s i).2:=by
 unfold Utf8.decode
 simp only
 repeat' split
 all_goals simp
def Pg (p:Int→Bool) (s:ByteArray):Nat→Nat→Bool
 | 0,_=>true
 | n+1,i=>if i<s.size then p (Utf8.decode s i).1&&Pg p s n (i+(Utf8.decode s i).2) else true
theorem Q3C {a:List UInt8} {i:Nat} (h:i<a.length):(ByteArray.mk a.toArray).get! i=a[i]:=by
 show (ByteArray.mk a.toArray).data[i]! =a[i]
 simp[h]
theorem Q8a (p:Int→Bool) (f: ∀c:Int,128≤c→p c=false) (a:List UInt8): ∀(n i:Nat),a.length-i≤n→Pg p ⟨a.toArray⟩ n i=(a.drop i).all (fun b=>p b.toNat):=by
 intro n
 induction n with
 | zero=>intro i h;rw[List.drop_eq_nil_of_le (by omega)];rfl
 | succ n g=>
  intro i h
  simp only[Pg,I5]
  split
  ·rename_i d
   rw[List.drop_eq_getElem_cons d,List.all_cons]
   by_cases e:a[i].toNat<128
   ·rw[Q7K (by rw[Q3C d];exact e),Q3C d]
    simp only
    rw[g (i+1) (by omega)]
   ·have j:=Q6q (s:=⟨a.toArray⟩) (i:=i) (by rw[Q3C d];exact e)
    rw[f _ (by omega),f _ (by omega)];rfl
  ·rename_i d;rw[List.drop_eq_nil_of_le (by omega)];rfl
theorem U9 {α:Type} {A:(α→World→Prop)→World→Prop} {B:α→(Nat→Value)→World→Prop} (h:A (fun x w=> ∀d,B x d w) w):jn w A B:=Zv _ h (fun _ d _ c=>c d)
theorem X4 {e:World→World→Prop} {A c:(Value→World→Prop)→Prop} (V:Value) (h:A (fun v _=>v=V)) (d:c (fun v _=>v=V)):Q6 e A c:=
 H0 _ (fun _ _ _ h _=>h) h d
theorem Ds {w w0:World} {A:(World→World→Prop)→(World→Prop)→Prop} (d:Below w0.heap.size w0 w)
 (h:A (fun w w'=>Below w.heap.size w w') (fun w'=>Below w0.heap.size w0 w')):dr w A:=
 Kf _ _ d.drew (fun _ _ c e=>c.trans (e.mono c.size)) h
theorem Q2Z {w w':World} {v V:Value} (c:Below w.heap.size w w') (h:v=V):dk (fun w w'=>Below w.heap.size w w') (fun v _=>v=V) w v w':=⟨c,h⟩
theorem X6 {w:World} {v V:Value} (h:v=V):dk (fun w w'=>Below w.heap.size w w') (fun v _=>v=V) w v w:=⟨Below.refl _ _,h⟩
theorem Q6W {n:Nat} {fn:Func} {e:Array Value→Sem Value} {xs:List Value} {v:Value} (o:P.funcs[n]? =some fn) (m:(fn.name== "runtime.NumGoroutine")=false) (g:fn.body.isNone=true)
 (i:(Extern.findNext fn).isNone=true) (j:Extern.find fn=some e) (l:(e xs.toArray).run P w= .ok v w) (h:K v w):Q1 P n xs w K:=by
 have f:Extern.findNext fn=none:=by simpa using i
 have c: ¬fn.name= "runtime.NumGoroutine":=by simpa using m
 have d:fn.body=none:=by simpa using g
 unfold Q1
 rw[P9]
 unfold K9 callFunc
 simp[o,c,d,f,j,l,h]
theorem Q3g {α:Type} (p:α→Bool) (c:Nat→Bool): ∀(l:List α),(∀i (h:i<l.length),c i=p l[i])→(List.range l.length).find? c=l.findIdx? p
 | [],_=>rfl
 | x::l,h=>by
  rw[List.length_cons,List.range_succ_eq_map,List.find?_cons,List.findIdx?_cons]
  have e:c 0=p x:=h 0 (by simp)
  rw[e]
  cases p x
  ·simp only[Bool.false_eq_true,if_false]
   rw[List.find?_map]
   have:=Q3g p (c ∘ Nat.succ) l (fun i d=>h (i+1) (by simpa using d))
   rw[this]
  ·rfl
def Mr:=And.intro @M4 <| And.intro @L1 <| And.intro @O6 <| And.intro @Gi <| And.intro @Q40 <| And.intro @Q7E <| And.intro @Q3Y <| And.intro @Q3H <| And.intro @Rj <| And.intro @Q1q <| And.intro @Q1x <| And.intro @Q3Z <| And.intro @Q3O <| And.intro @Bx <| And.intro @By <| And.intro @X2B <| And.intro @X2q <| And.intro @X1f <| And.intro @X14 <| And.intro @X18 <| And.intro @X0Z <| And.intro @X0u <| And.intro @X1L <| And.intro @W5 <| And.intro @W7 <| And.intro @S1 <| And.intro @E1 <| And.intro @X07 <| And.intro @H5 <| @M3
def Mp:=And.intro @M4 <| And.intro @L1 <| And.intro @O6 <| And.intro @Gi <| And.intro @Q40 <| And.intro @Q7E <| And.intro @Q3Y <| And.intro @Q3H <| And.intro @Rj <| And.intro @Q1q <| And.intro @Q1x <| And.intro @Q3Z <| And.intro @Q3O <| And.intro @Bx <| And.intro @By <| And.intro @X2B <| And.intro @X2q <| And.intro @X1f <| And.intro @X14 <| And.intro @X18 <| And.intro @X0Z <| And.intro @W5 <| And.intro @W7 <| And.intro @S1 <| And.intro @E1 <| And.intro @H5 <| @M3
def Mb:=And.intro @Bool.true_eq_false <| And.intro @Bool.false_eq_true <| And.intro @Bool.not_true <| And.intro @Bool.not_false <| And.intro @Bool.and_true <| And.intro @Bool.true_and <| And.intro @Bool.and_false <| And.intro @Bool.false_and <| And.intro @Bool.or_true <| And.intro @Bool.true_or <| And.intro @Bool.or_false <| @Bool.false_or
end Go.Emb

namespace Go.Kd
abbrev X0:=List UInt8
def Xh (c:Int):Bool:=decide (65≤c)&&decide (c≤90)
def A7 (c:Int):Bool:=decide (97≤c)&&decide (c≤122)
def F4 (c:Int):Bool:=decide (48≤c)&&decide (c≤57)
def S3 (c:Int):Bool:=Xh c||A7 c||F4 c
def name (s:X0):Bool:=match s with
 | []=>false
 | c::_=>decide (s.length≤32)&& !F4 c.toNat&&s.all (fun b=>S3 b.toNat)
def M6 (s:X0):Bool:=match s with
 | []=>false
 | c::_=>name s&&Xh c.toNat
def D7 (s:X0):Bool:=match s with
 | []=>false
 | c::_=>name s&&A7 c.toNat
def plain (s:X0):Bool:=decide (s=[105,110,116])||decide (s=[98,111,111,108])||decide (s=[116,101,120,116])
def arr (s:X0):Bool:=decide (2≤s.length)&&decide (s.drop (s.length-2)=[91,93])
def cutA (s:X0):X0:=s.take (s.length-2)
def Ym:Nat→X0→X0×Nat
 | 0,s=>(s,0)
 | n+1,s=>if arr s then ((Ym n (cutA s)).1,(Ym n (cutA s)).2+1) else (s,0)
def base (s:X0):X0×Nat:=Ym s.length s
def right (s:X0):Bool:=decide ((base s).2≤3)&&(plain (base s).1||M6 (base s).1)
def elem (s:X0):X0:=if arr s&&right s then cutA s else []
def Xi (s:X0):Nat:=if right s then (base s).2 else 0
def Qx (s:X0):X0×X0×Bool:=match s with
 | []=>([],[],false)
 | c::r=>if c=46 then ([],r,true) else ((c::(Qx r).1),(Qx r).2.1,(Qx r).2.2)
def Zf (s:X0):Bool:=(Qx s).2.2&&M6 (Qx s).1&&D7 (Qx s).2.1
def Q1A (c:UInt8) (s:X0):Int:=match s.findIdx? (fun b=>decide (b=c)) with
 | some i=>i
 | none=> -1
def Q2U (s:X0) (o:Option Nat):X0×X0×Bool:=match o with
 | some i=>(s.take i,s.drop (i+1),true)
 | none=>(s,[],false)
theorem Pc (s:X0):Qx s=Q2U s (s.findIdx? (fun b=>decide (b=46))):=by
 induction s with
 | nil=>rfl
 | cons c r a=>
  rw[List.findIdx?_cons]
  simp only[Qx]
  by_cases h:c=46
  ·simp[h,Q2U]
  ·simp only[h,if_false,decide_false,Bool.false_eq_true]
   rw[a]
   cases r.findIdx? (fun b=>decide (b=46)) with
   | none=>simp[Q2U]
   | some i=>simp[Q2U]
end Go.Kd

namespace Go.Proofs.YtjdiakhipmggjaaGreatDoor
open Go.Emb Go.RowKit Go.Kd
variable {w : World} {K : Value → World → Prop}
theorem X8:P.underlying T.c=some .string:=by kernel_rfl
theorem Q1I:P.underlying T.e=some (.int .i64):=by kernel_rfl
theorem Q39:P.underlying T.u=some .bool:=by kernel_rfl
theorem Q3B:P.underlying T.a3=some (.int .u8):=by kernel_rfl
theorem Q7u:P.underlying T.an=some (.int .i32):=by kernel_rfl
theorem Q7i (c:Int) (h:K (.bool (Xh c)) w):Q1 P F.ck [.int .i32 c] w K:=Q5Q (by
 unfold Q0s
 (try simp only[↓Mr,Mr,Mb,reduceIte])
 cases a:decide (65≤c)<;>simp only[a,↓Mr,Mr,Mb,reduceIte]<;>simpa [Xh,a] using h)
theorem Q7f (c:Int) (h:K (.bool (A7 c)) w):Q1 P F.cl [.int .i32 c] w K:=Q6g (by
 unfold Q17
 (try simp only[↓Mr,Mr,Mb,reduceIte])
 cases a:decide (97≤c)<;>simp only[a,↓Mr,Mr,Mb,reduceIte]<;>simpa [A7,a] using h)
theorem X1Q (c:Int) (h:K (.bool (S3 c)) w):Q1 P F.cc [.int .i32 c] w K:=Q4M (by
 unfold Tg
 refine Q7i c ?_
 cases a:Xh c
 ·(try simp only[↓Mr,Mr,Mb,reduceIte])
  refine Q7f c ?_
  cases b:A7 c
  ·(try simp only[↓Mr,Mr,Mb,reduceIte])
   cases d:decide (48≤c)
   ·(try simp only[↓Mr,Mr,Mb,reduceIte])
    simpa [S3,F4,a,b,d] using h
   ·(try simp only[↓Mr,Mr,Mb,reduceIte])
    simpa [S3,F4,a,b,d] using h
  ·(try simp only[↓Mr,Mr,Mb,reduceIte])
   simpa [S3,a,b] using h
 ·(try simp only[↓Mr,Mr,Mb,reduceIte])
  simpa [S3,a] using h)
theorem X3I (a:List UInt8) (f:Value) (p:Int→Bool) (l: ∀(c:Int) (w:World) (K:Value→World→Prop),K (.bool (p c)) w→Z3 P f [.int .i32 c] w K)
 (h: ∀w',Below w.heap.size w w'→K (.bool (Pg p ⟨a.toArray⟩ a.length 0)) w'):Q1 P F.cD [S a,f] w K:=Q7L (by
 unfold Q3t
 rw[X22 X8]
 refine Wc (fun _ w'=> ∃pos n:Nat,a.length-pos≤n∧Pg p ⟨a.toArray⟩ a.length 0=Pg p ⟨a.toArray⟩ n pos∧Below w.heap.size w w'∧w'.heap[w.heap.size]? =some (.stringIter ⟨a.toArray⟩ pos))
  (fun _ w'=>match w'.heap[w.heap.size]? with | some (.stringIter _ pos)=>a.length-pos | _=>0) ⟨0,a.length,by omega,rfl,(Below.refl _ _).alloc (Nat.le_refl _) _,heap_alloc_new w _⟩ ?_
 rintro _ _ w1 ⟨pos,n,q,b,j,e⟩
 by_cases g:pos<a.length
 ·rw[X2e e (by rw[I5];exact g)]
  (try simp only[↓Mr,Mr,Mb,reduceIte])
  refine l _ _ _ ?_
  obtain ⟨n,rfl⟩: ∃m,n=m+1:=⟨n-1,by omega⟩
  simp only[Pg,I5,g,if_true] at b
  have r:=Q69 (s:=⟨a.toArray⟩) (i:=pos)
  have d:w.heap.size<w1.heap.size:=(Array.getElem?_eq_some_iff.1 e).1
  cases k:p (Utf8.decode ⟨a.toArray⟩ pos).1
  ·(try simp only[↓Mr,Mr,Mb,reduceIte])
   rw[k] at b
   have:=h _ (Q4C (o:= .stringIter ⟨a.toArray⟩ (pos+(Utf8.decode ⟨a.toArray⟩ pos).2)) j (Nat.le_refl _))
   rw[b] at this
   exact this
  ·(try simp only[↓Mr,Mr,Mb,reduceIte])
   rw[k] at b
   refine ⟨⟨_,n,?_,b,Q4C j (Nat.le_refl _),Q7j d⟩,?_⟩
   ·omega
   ·simp only[Q7j d,e];omega
 ·rw[Q6N e (by rw[I5];exact g)]
  (try simp only[↓Mr,Mr,Mb,reduceIte])
  have:Pg p ⟨a.toArray⟩ n pos=true:=by
   cases n with
   | zero=>rfl
   | succ n=>simp only[Pg,I5,g,if_false]
  rw[←this,←b]
  exact h _ j)
theorem Q84 (c:Int) (h:128≤c):S3 c=false:=by
 simp[S3,Xh,A7,F4];omega
theorem Q6i (a:List UInt8) (n:a.length≤140737488355328) (h: ∀w',Below w.heap.size w w'→K (.bool (name a)) w'):Q1 P F.c6 [S a] w K:=Q6Z (by
 unfold Q2d
 have e: ∀c r,a=c::r→(decide (a.length≤32)&& !F4 c.toNat)=true→Q1 P F.cD [S a,(.func (.func F.cc) #[] #[])] w K:=by
  intro c r l b
  refine X3I a _ S3 (fun c w K h=>Z7 (first:=[]) (caps:=[]) (X1Q c h)) fun w' m=>?_
  rw[Q8a _ Q84 a _ _ (by omega)]
  have:=h w' m
  rw[l] at this b⊢
  simp only[name] at this
  rw[b,Bool.true_and] at this
  simpa using this
 cases a with
 | nil=>
  simp only[↓Mr,Mr,Mb,reduceIte,decide_true]
  exact h w (Below.refl _ _)
 | cons c r=>
  have f:decide (c::r=[])=false:=by simp
  simp only[↓Mr,Mr,Mb,reduceIte,f,R3 X8]
  by_cases k:(c::r).length≤32
  ·have d:r.length≤31:=by simpa using k
   have b:decide ((32:Int)<((c::r).length:Int))=false:=by simp only[decide_eq_false_iff_not];omega
   simp only[↓Mr,Mr,Mb,reduceIte,b]
   rw[Xm X8 (by omega) (by simp)]
   (try simp only[↓Mr,Mr,Mb,reduceIte])
   have j:(c::r)[(0:Int).toNat]'(by simp)=c:=rfl
   simp only[j]
   cases g:decide ((48:Int)≤(c.toNat:Int))
   ·(try simp only[↓Mr,Mr,Mb,reduceIte])
    exact e c r rfl (by simp[F4,d,g])
   ·(try simp only[↓Mr,Mr,Mb,reduceIte])
    rw[Xm X8 (by omega) (by simp)]
    simp only[↓Mr,Mr,Mb,reduceIte,j]
    cases i:decide ((c.toNat:Int)≤57)
    ·(try simp only[↓Mr,Mr,Mb,reduceIte])
     exact e c r rfl (by simp only[F4,g,i];simp[d])
    ·(try simp only[↓Mr,Mr,Mb,reduceIte])
     have:name (c::r)=false:=by simp only[name,F4,g,i];simp
     rw[←this];exact h w (Below.refl _ _)
  ·have b:decide ((32:Int)<((c::r).length:Int))=true:=by simp only[decide_eq_true_eq];omega
   simp only[↓Mr,Mr,Mb,reduceIte,b]
   have:name (c::r)=false:=by simp only[name];rw[decide_eq_false k];rfl
   rw[←this];exact h w (Below.refl _ _))
theorem Rh (a:List UInt8) (f:a.length≤140737488355328) (h: ∀w',Below w.heap.size w w'→K (.bool (M6 a)) w'):Q1 P F.ai [S a] w K:=Q64 (by
 unfold Q18
 refine Q6i a f fun w1 b=>?_
 cases a with
 | nil=>
  simp only[name,↓Mr,Mr,Mb,reduceIte]
  exact h w1 b
 | cons c r=>
  cases d:name (c::r)
  ·(try simp only[↓Mr,Mr,Mb,reduceIte])
   have:=h w1 b
   simp only[M6,d] at this
   simpa using this
  ·(try simp only[↓Mr,Mr,Mb,reduceIte])
   rw[Xm X8 (by omega) (by simp)]
   have e:(c::r)[(0:Int).toNat]'(by simp)=c:=rfl
   simp only[e]
   rw[Gx Q3B Q7u,w32 (by omega) (by have:=c.toNat_lt;omega)]
   refine Q7i _ ?_
   (try simp only[↓Mr,Mr,Mb,reduceIte])
   have:=h w1 b
   simp only[M6,d] at this
   simpa using this)
theorem Rf (a:List UInt8) (h:K (.bool (plain a)) w):Q1 P F.aN [S a] w K:=Q5X (by
 unfold Q0E
 (try simp only[↓Mr,Mr,Mb,reduceIte])
 cases b:decide (a=[105,110,116])<;>(try simp only[↓Mr,Mr,Mb,reduceIte])
 ·cases c:decide (a=[98,111,111,108])<;>(try simp only[↓Mr,Mr,Mb,reduceIte])<;>simpa [plain,b,c] using h
 ·simpa [plain,b] using h)
def Uk (a b:List UInt8):Bool:=decide (b.length≤a.length)&&decide (a.drop (a.length-b.length)=b)
theorem Dn (a b:List UInt8) (f:a.length≤140737488355328) (e:b.length≤140737488355328) (h:K (.bool (Uk a b)) w):Q1 P F.ab [S a,S b] w K:=Cn (by
 unfold Ux
 rw[R3 X8,R3 X8]
 (try simp only[↓Mr,Mr,Mb,reduceIte])
 by_cases d:b.length≤a.length
 ·have c:decide ((b.length:Int)≤a.length)=true:=by simp only[decide_eq_true_eq];omega
  simp only[↓Mr,Mr,Mb,reduceIte,c,R3 X8]
  rw[G3 (by omega) (by omega),Up X8 (by omega) (by omega)]
  (try simp only[↓Mr,Mr,Mb,reduceIte])
  rw[show ((a.length:Int)-b.length).toNat=a.length-b.length from by omega]
  simpa [Uk,d] using h
 ·have c:decide ((b.length:Int)≤a.length)=false:=by simp only[decide_eq_false_iff_not];omega
  simp only[↓Mr,Mr,Mb,reduceIte,c]
  simpa [Uk,d] using h)
theorem Q6J (a b:List UInt8) (d:a.length≤140737488355328) (c:b.length≤140737488355328) (h:K (.bool (Uk a b)) w):Q1 P F.bJ [S a,S b] w K:=Ah (by
 unfold Oz
 exact Dn a b d c h)
def Dp (a b:List UInt8):List UInt8:=if Uk a b then a.take (a.length-b.length) else a
theorem Q49 {a b:List UInt8} (h:Uk a b=true):b.length≤a.length:=by
 simp only[Uk,Bool.and_eq_true,decide_eq_true_eq] at h;exact h.1
theorem Q5w (a b:List UInt8) (e:a.length≤140737488355328) (d:b.length≤140737488355328) (h:K (S (Dp a b)) w):Q1 P F.bw [S a,S b] w K:=Pt (by
 unfold Mt
 refine Cb ?_
 unfold Ue
 refine Dn a b e d ?_
 cases c:Uk a b
 ·(try simp only[↓Mr,Mr,Mb,reduceIte])
  simpa [Dp,c] using h
 ·have f:=Q49 c
  simp only[↓Mr,Mr,Mb,reduceIte,R3 X8]
  rw[G3 (by omega) (by omega),T0 X8 (by omega) (by omega)]
  rw[show ((a.length:Int)-b.length).toNat=a.length-b.length from by omega]
  simpa [Dp,c] using h)
theorem Q73 (a b:List UInt8) (e:a.length≤140737488355328) (d:b.length≤140737488355328) (h:K (.tuple #[S (Dp a b), .bool (Uk a b)]) w):Q1 P F.bH [S a,S b] w K:=Tp (by
 unfold Ow
 refine Cl ?_
 unfold Va
 refine Dn a b e d ?_
 cases c:Uk a b
 ·(try simp only[↓Mr,Mr,Mb,reduceIte])
  simpa [Dp,c] using h
 ·have f:=Q49 c
  simp only[↓Mr,Mr,Mb,reduceIte,R3 X8]
  rw[G3 (by omega) (by omega),T0 X8 (by omega) (by omega)]
  rw[show ((a.length:Int)-b.length).toNat=a.length-b.length from by omega]
  (try simp only[↓Mr,Mr,Mb,reduceIte])
  simpa [Dp,c] using h)
theorem Q35 (a:List UInt8):Uk a [91,93]=arr a:=rfl
theorem Q2c (a:List UInt8):Dp a [91,93]=if arr a then Kd.cutA a else a:=rfl
theorem I9 {a:List UInt8} (h:arr a=true):(Kd.cutA a).length+2=a.length:=by
 simp only[arr,Bool.and_eq_true,decide_eq_true_eq] at h
 simp only[Kd.cutA,List.length_take];omega
theorem Q38: ∀(n m:Nat) (a:List UInt8),a.length≤n→a.length≤m→Ym n a=Ym m a
 | 0,0,a,_,_=>rfl
 | 0,m+1,a,h,_=>by
  have:a=[]:=List.eq_nil_of_length_eq_zero (by omega)
  subst this;rfl
 | n+1,0,a,_,h=>by
  have:a=[]:=List.eq_nil_of_length_eq_zero (by omega)
  subst this;rfl
 | n+1,m+1,a,c,b=>by
  simp only[Ym]
  split
  ·rename_i h
   have:=I9 h
   rw[Q38 n m (Kd.cutA a) (by omega) (by omega)]
  ·rfl
theorem Xj (a:List UInt8):base a=if arr a then ((base (Kd.cutA a)).1,(base (Kd.cutA a)).2+1) else (a,0):=by
 unfold base
 cases b:a.length with
 | zero=>
  have:a=[]:=List.eq_nil_of_length_eq_zero b
  subst this;rfl
 | succ n=>
  simp only[Ym]
  split
  ·rename_i h
   have:=I9 h
   rw[Q38 n (Kd.cutA a).length (Kd.cutA a) (by omega) (Nat.le_refl _)]
  ·rfl
theorem Q1m (a:List UInt8):(base a).1.length+2*(base a).2=a.length:=by
 have key: ∀n (a:List UInt8),(Ym n a).1.length+2*(Ym n a).2=a.length:=by
  intro n
  induction n with
  | zero=>intro a;simp[Ym]
  | succ n b=>
   intro a
   simp only[Ym]
   split
   ·rename_i h
    have:=I9 h
    have:=b (Kd.cutA a)
    simp only;omega
   ·simp
 exact key _ a
theorem Q8V (a:List UInt8) (g:a.length≤140737488355328) (h:K (.tuple #[S (base a).1,I (base a).2]) w):Q1 P F.cx [S a] w K:=Q6M (by
 unfold Q2k
 refine Wc (fun x w'=>w'=w∧ ∃(b:List UInt8) (n:Nat),x=(S b,I n)∧b.length+2*n=a.length∧base a=((base b).1,(base b).2+n)) (fun x _=>match x.1 with | .string s=>s.size | _=>0)
  ⟨rfl,a,0,rfl,by omega,rfl⟩ ?_
 rintro _ _ _ ⟨rfl,b,n,rfl,f,c⟩
 refine Q6J b _ (by omega) (by simp) ?_
 rw[Q35]
 cases d:arr b
 ·(try simp only[↓Mr,Mr,Mb,reduceIte])
  rw[Xj b,d] at c
  simp only[Bool.false_eq_true,if_false,Nat.zero_add] at c
  rw[c] at h;exact h
 ·(try simp only[↓Mr,Mr,Mb,reduceIte])
  refine Q5w b _ (by omega) (by simp) ?_
  rw[Q2c,d]
  simp only[↓Mr,Mr,Mb,reduceIte,if_true]
  have e:=I9 d
  rw[G3 (by omega) (by omega)]
  refine ⟨⟨by first | rfl | trivial,Kd.cutA b,n+1,by simp,by omega,?_⟩,?_⟩
  ·rw[c,Xj b,d];simp;omega
  ·simp only[I5];omega)
theorem Zj (a:List UInt8) (g:a.length≤140737488355328) (h: ∀w',Below w.heap.size w w'→K (.bool (right a)) w'):Q1 P F.z [S a] w K:=Q5E (by
 unfold Q10
 have f:=Q1m a
 refine Q8V a g ?_
 (try simp only[↓Mr,Mr,Mb,reduceIte])
 by_cases b:(base a).2≤3
 ·have c:decide (((base a).2:Int)≤3)=true:=by simp only[decide_eq_true_eq];omega
  simp only[↓Mr,Mr,Mb,reduceIte,c]
  refine Rf _ ?_
  cases d:plain (base a).1
  ·(try simp only[↓Mr,Mr,Mb,reduceIte])
   refine Rh _ (by omega) fun w1 e=>?_
   (try simp only[↓Mr,Mr,Mb,reduceIte])
   have:=h w1 e
   simp only[right,b,d] at this
   simpa using this
  ·(try simp only[↓Mr,Mr,Mb,reduceIte])
   have:=h w (Below.refl _ _)
   simp only[right,b,d] at this
   simpa using this
 ·have c:decide (((base a).2:Int)≤3)=false:=by simp only[decide_eq_false_iff_not];omega
  simp only[↓Mr,Mr,Mb,reduceIte,c]
  have:=h w (Below.refl _ _)
  simp only[right,b] at this
  simpa using this)
theorem Q5b (a:List UInt8) (d:a.length≤140737488355328) (h: ∀w',Below w.heap.size w w'→K (S (elem a)) w'):Q1 P F.c5 [S a] w K:=Q6w (by
 unfold Q21
 refine Q73 a _ d (by simp) ?_
 rw[Q35,Q2c]
 (try simp only[↓Mr,Mr,Mb,reduceIte])
 cases b:arr a
 ·(try simp only[↓Mr,Mr,Mb,reduceIte])
  have:=h w (Below.refl _ _)
  simp only[elem,b] at this
  exact this
 ·(try simp only[↓Mr,Mr,Mb,reduceIte])
  refine Zj a d fun w1 e=>?_
  have:=h w1 e
  cases c:right a
  ·(try simp only[↓Mr,Mr,Mb,reduceIte])
   simp only[elem,b,c] at this
   exact this
  ·simp only[↓Mr,Mr,Mb,reduceIte,if_true]
   simp only[elem,b,c] at this
   exact this)
theorem Q99 (a:List UInt8) (b:a.length≤140737488355328) (h: ∀w',Below w.heap.size w w'→K (I (Xi a)) w'):Q1 P F.cw [S a] w K:=Q6D (by
 unfold Q28
 refine Q8V a b ?_
 (try simp only[↓Mr,Mr,Mb,reduceIte])
 refine Zj a b fun w1 c=>?_
 have:=h w1 c
 cases d:right a<;>(try simp only[↓Mr,Mr,Mb,reduceIte])<;>simpa [Xi,d] using this)
theorem X3Z (a:List UInt8) (i:a.length≤140737488355320) (h: ∀w',Below w.heap.size w w'→K (if right a&&decide (Xi a≠3) then .tuple #[S (a++[91,93]),I 0] else .tuple #[S [],I 30]) w'):Q1 P F.cS [S a] w K:=Q91 (by
 unfold Q4u
 refine Zj a (by omega) fun w1 b=>?_
 cases c:right a
 ·(try simp only[↓Mr,Mr,Mb,reduceIte])
  have:=h w1 b
  simp only[c] at this
  simpa using this
 ·(try simp only[↓Mr,Mr,Mb,reduceIte])
  refine Q99 a (by omega) fun g d=>?_
  have:=h g (b.trans (d.mono b.size))
  by_cases f:Xi a=3
  ·have e:decide ((Xi a:Int)=3)=true:=by simp only[decide_eq_true_eq];omega
   simp only[↓Mr,Mr,Mb,reduceIte,e]
   simp only[c,f] at this
   simpa using this
  ·have e:decide ((Xi a:Int)=3)=false:=by simp only[decide_eq_false_iff_not];omega
   simp only[↓Mr,Mr,Mb,reduceIte,e]
   rw[Q2m (by simp;omega)]
   simp only[c] at this
   simpa [f] using this)
end Go.Proofs.YtjdiakhipmggjaaGreatDoor

namespace Go.Proofs.YtjdiakhipmggjaaGreatDoor
open Go.Emb Go.RowKit Go.Kd
variable {w : World} {K : Value → World → Prop}
theorem Q1N (a:List UInt8) (c:UInt8) (h:K (I (Q1A c a)) w):Q1 P F.c0 [S a, .int .u8 c.toNat] w K:=by
 refine Q6W (e:=Extern.BytealgIndexByte.indexByte) Tryz.func231 (by decide) rfl (by kernel_rfl) (by kernel_rfl) ?_ h
 have f:((List.range (ByteArray.mk a.toArray).size).find? fun i=>(ByteArray.mk a.toArray)[i]! ==c)=a.findIdx? (fun b=>decide (b=c)):=by
  rw[I5]
  refine Q3g _ _ a fun i d=>?_
  have:(ByteArray.mk a.toArray)[i]! =a[i]:=by
   rw[getElem!_pos _ _ (by rw[I5];exact d)];rfl
  rw[this,Bool.eq_iff_iff];simp
 have g:((c.toNat:Int).toNat.toUInt8)=c:=by simp
 have:=run_indexByte_string (P:=P) ⟨a.toArray⟩ c.toNat w
 rw[g] at this
 refine this.trans ?_
 unfold firstIdx Q1A
 rw[f]
 cases a.findIdx? (fun b=>decide (b=c))<;>rfl
theorem X0K (a:List UInt8) (c:UInt8) (h:K (I (Q1A c a)) w):Q1 P F.bK [S a,S [c]] w K:=Q02 (by
 unfold Of
 simp only[R3 X8]
 have g:decide ((([c]:List UInt8).length:Int)=0)=false:=rfl
 have i:decide ((([c]:List UInt8).length:Int)=1)=true:=rfl
 simp only[Q1x,g,i]
 simp only[↓Mr,Mr,Mb,reduceIte]
 have e:S9 P T.c (S [c]) (I 0) w fun d w=>Q1 P F.aw [S a,d] w fun b w=>K b w:=by
  rw[Xm X8 (by omega) (by simp)]
  refine Cq ?_
  unfold Uv
  exact Q1N a c h
 cases j:decide ([c]=a)
 ·(try simp only[↓Mr,Mr,Mb,reduceIte])
  exact e
 ·(try simp only[↓Mr,Mr,Mb,reduceIte])
  have f:[c]=a:=by simpa using j
  have:Q1A c a=0:=by rw[←f];simp[Q1A,List.findIdx?_cons]
  rw[this] at h;exact h)
theorem X0i {c:UInt8} {a:List UInt8} {i:Nat} (h:a.findIdx? (fun b=>decide (b=c))=some i):i<a.length:=by
 have:=List.findIdx?_eq_some_iff_getElem.1 h
 exact this.1
theorem X3R (a:List UInt8) (g:a.length≤140737488355328) (h: ∀w',Below w.heap.size w w'→K (.tuple #[S (Qx a).1,S (Qx a).2.1, .bool (Qx a).2.2]) w'):Q1 P F.cB [S a,S [46]] w K:=Q4Q (by
 unfold Tl
 refine Q1T ?_
 unfold Hp
 refine X0K a 46 ?_
 rw[Pc] at h
 unfold Q1A
 cases c:a.findIdx? (fun b=>decide (b=46)) with
 | none=>
  simp only[↓Mr,Mr,Mb,reduceIte,show decide ((0:Int)≤ -1)=false from rfl]
  have:=h w (Below.refl _ _)
  rw[c] at this;exact this
 | some i=>
  have f:=X0i c
  have e:decide ((0:Int)≤(i:Int))=true:=by simp
  simp only[Q1q,e]
  simp only[↓Mr,Mr,Mb,reduceIte]
  refine Ds (Below.refl _ w) ?_
  refine X4 (S (a.take i)) (fun w1 _=>?_) ?_
  ·rw[T0 X8 (by omega) (by omega)];exact X6 (by simp)
  refine X4 (I 1) (fun w1 _=>?_) ?_
  ·rw[R3 X8];exact X6 rfl
  refine X4 (I (i+1)) ?_ ?_
  ·rintro _ w1 _ rfl
   rw[Gi,G3 (by omega) (by omega)];exact X6 rfl
  refine X4 (S (a.drop (i+1))) ?_ ?_
  ·rintro _ w1 _ rfl
   rw[Up X8 (by omega) (by omega)];exact X6 (by simp)
  rintro _ _ _ _ w1 d rfl rfl rfl rfl
  (try simp only[↓Mr,Mr,Mb,reduceIte])
  have:=h w1 d
  rw[c] at this;exact this)
theorem X1F (a:List UInt8) (v:a.length≤140737488355328) (h: ∀w',Below w.heap.size w w'→K (if Zf a then .tuple #[S (Qx a).1,S (Qx a).2.1,I 0] else .tuple #[S [],S [],I 30]) w'):Q1 P F.cI [S a] w K:=Q5n (by
 unfold Q1h
 refine X3R a v fun w1 e=>?_
 have s:(Qx a).1.length≤a.length∧(Qx a).2.1.length≤a.length:=by
  rw[Pc]
  cases a.findIdx? (fun b=>decide (b=46))<;>simp[Q2U]
  omega
 generalize A:(Qx a).1=p at h s
 generalize y:(Qx a).2.1=q at h s
 have l:Zf a=((Qx a).2.2&&M6 p&&D7 q):=by rw[Zf,A,y]
 cases k:(Qx a).2.2
 ·simp only[↓Mr,Mr,Mb,reduceIte]
  have:=h w1 e
  rw[l,k] at this;simpa using this
 ·simp only[↓Mr,Mr,Mb,reduceIte]
  refine Rh p (by omega) fun u n=>?_
  have d:=e.trans (n.mono e.size)
  cases o:M6 p
  ·(try simp only[↓Mr,Mr,Mb,reduceIte])
   have:=h u d
   rw[l,k,o] at this;simpa using this
  ·(try simp only[↓Mr,Mr,Mb,reduceIte])
   refine Q6i q (by omega) fun z i=>?_
   have f:=d.trans (i.mono d.size)
   have:=h z f
   rw[l,k,o] at this
   cases m:name q
   ·(try simp only[↓Mr,Mr,Mb,reduceIte])
    have j:D7 q=false:=by cases q with | nil=>rfl | cons c r=>simp[D7,m]
    rw[j] at this;simpa using this
   ·(try simp only[↓Mr,Mr,Mb,reduceIte])
    cases q with
    | nil=>simp[name] at m
    | cons c r=>
     rw[Xm X8 (by omega) (by simp)]
     have g:(c::r)[(0:Int).toNat]'(by simp)=c:=rfl
     (try simp only[↓Mr,Mr,Mb,reduceIte])
     rw[g,Gx Q3B Q7u,w32 (by omega) (by have:=c.toNat_lt;omega)]
     refine Q7f _ ?_
     have j:D7 (c::r)=A7 c.toNat:=by simp[D7,m]
     rw[j] at this
     cases t:A7 c.toNat<;>(try simp only[↓Mr,Mr,Mb,reduceIte])<;>rw[t] at this<;>simpa using this)
theorem Ec (a:List UInt8) (h:K (.bool (plain a)) w):Q1 P F.x [S a] w K:=Pv (by
 unfold Mi
 refine U9 ?_
 (try simp only[↓Mr,Mr,Mb,reduceIte])
 cases b:decide (a=[105,110,116])
 ·cases c:decide (a=[98,111,111,108])
  ·cases d:decide (a=[116,101,120,116])<;>(try simp only[↓Mr,Mr,Mb,reduceIte])<;>intro _<;>(try simp only[↓Mr,Mr,Mb,reduceIte])<;>simpa [plain,b,c,d] using h
  ·(try simp only[↓Mr,Mr,Mb,reduceIte])
   intro _
   (try simp only[↓Mr,Mr,Mb,reduceIte])
   simpa [plain,b,c] using h
 ·(try simp only[↓Mr,Mr,Mb,reduceIte])
  intro _
  (try simp only[↓Mr,Mr,Mb,reduceIte])
  simpa [plain,b] using h)
def X1a (a:List UInt8) (w:World) (x:Value) (w':World):Prop:=
 w=w'∧ ∃i:Nat,x=I i∧i≤a.length∧(0<i→(a.head?.map fun c=>F4 c.toNat)=some false)∧(a.take i).all (fun b=>S3 b.toNat)=true
def Q4X (a:List UInt8) (x:Value):Nat:=match x with | .int _ i=>a.length-i.toNat | _=>0
theorem Q5S (a:List UInt8) (O:a.length≤140737488355328) (h:K (.bool (name a)) w):Q1 P F.b0 [S a] w K:=Ad (by
 unfold Og
 refine Wc (X1a a w) (fun x _=>Q4X a x) ⟨rfl,0,rfl,by omega,by omega,by simp⟩ ?_
 rintro _ _ _ ⟨rfl,i,rfl,N,L,k⟩
 rw[R3 X8]
 (try simp only[↓Mr,Mr,Mb,reduceIte])
 by_cases l:i<a.length
 ·have A:decide ((i:Int)<a.length)=true:=by simp only[decide_eq_true_eq];omega
  simp only[A,↓Mr,Mr,Mb,reduceIte]
  have d: ∀H:Value→World→Prop,S9 P T.c (S a) (I i) w H=H (.int .u8 (a[i]'l).toNat) w:=fun H=>by
   rw[Xm X8 (by omega) (by simpa using l)];simp
  generalize p:a[i]=c at d
  have e:S3 c.toNat=false∨(i=0∧F4 c.toNat=true)→name a=false:=by
   intro t
   cases a with
   | nil=>rfl
   | cons c0 r=>
    simp only[name]
    rcases t with t | ⟨rfl,t⟩
    ·have:(c0::r).all (fun b=>S3 b.toNat)=false:=by
      rw[List.all_eq_false]
      exact ⟨c,by rw[←p];exact List.getElem_mem _,by simp[t]⟩
     rw[this];simp
    ·simp only[List.getElem_cons_zero] at p
     rw[p,t];simp
  have f:S3 c.toNat=true→(i=0→F4 c.toNat=false)→X1a a w (I (IntKind.i64.wrap ((i:Int)+1))) w∧Q4X a (I (IntKind.i64.wrap ((i:Int)+1)))<Q4X a (I i):=by
   intro E B
   rw[G3 (by omega) (by omega)]
   refine ⟨⟨rfl,i+1,by simp,by omega,fun _=>?_,?_⟩,by simp only[Q4X];omega⟩
   ·by_cases q:0<i
    ·exact L q
    ·obtain rfl:i=0:=by omega
     cases a with
     | nil=>simp at l
     | cons c0 r=>simp only[List.getElem_cons_zero] at p;subst p;simp[B rfl]
   ·rw[List.take_add_one,List.getElem?_eq_getElem l,p]
    simp[k,E]
  have J:=c.toNat_lt
  have v:decide ((i:Int)=0)=decide (i=0):=by rw[Bool.eq_iff_iff];simp
  by_cases n:97≤(c.toNat:Int)
  ·by_cases D:(c.toNat:Int)≤122
   ·simp only[d,decide_eq_true n,decide_eq_true D,↓Mr,Mr,Mb,reduceIte]
    exact f (by simp[S3,A7,n,D]) (fun _=>by simp[F4];omega)
   ·have o:(65:Int)≤c.toNat:=by omega
    have y: ¬(c.toNat:Int)≤90:=by omega
    have g: ¬(c.toNat:Int)<48:=by omega
    have j:(57:Int)<c.toNat:=by omega
    simp only[d,decide_eq_true n,decide_eq_false D,decide_eq_true o,decide_eq_false y,decide_eq_false g,decide_eq_true j,v,↓Mr,Mr,Mb,reduceIte]
    have m:=e (.inl (by simp[S3,Xh,A7,F4];omega))
    rw[m] at h
    cases decide (i=0)<;>(try simp only[d,decide_eq_false g,decide_eq_true j,↓Mr,Mr,Mb,reduceIte])<;>exact h
  ·by_cases o:(65:Int)≤c.toNat
   ·by_cases y:(c.toNat:Int)≤90
    ·simp only[d,decide_eq_false n,decide_eq_true o,decide_eq_true y,↓Mr,Mr,Mb,reduceIte]
     exact f (by simp[S3,Xh,o,y]) (fun _=>by simp[F4];omega)
    ·have g: ¬(c.toNat:Int)<48:=by omega
     have j:(57:Int)<c.toNat:=by omega
     simp only[d,decide_eq_false n,decide_eq_true o,decide_eq_false y,decide_eq_false g,decide_eq_true j,v,↓Mr,Mr,Mb,reduceIte]
     have m:=e (.inl (by simp[S3,Xh,A7,F4];omega))
     rw[m] at h
     cases decide (i=0)<;>(try simp only[d,decide_eq_false g,decide_eq_true j,↓Mr,Mr,Mb,reduceIte])<;>exact h
   ·by_cases g:(c.toNat:Int)<48
    ·simp only[d,decide_eq_false n,decide_eq_false o,decide_eq_true g,v,↓Mr,Mr,Mb,reduceIte]
     have m:=e (.inl (by simp[S3,Xh,A7,F4];omega))
     rw[m] at h
     cases decide (i=0)<;>(try simp only[d,decide_eq_true g,↓Mr,Mr,Mb,reduceIte])<;>exact h
    ·by_cases j:(57:Int)<c.toNat
     ·simp only[d,decide_eq_false n,decide_eq_false o,decide_eq_false g,decide_eq_true j,v,↓Mr,Mr,Mb,reduceIte]
      have m:=e (.inl (by simp[S3,Xh,A7,F4];omega))
      rw[m] at h
      cases decide (i=0)<;>(try simp only[d,decide_eq_false g,decide_eq_true j,↓Mr,Mr,Mb,reduceIte])<;>exact h
     ·have s:F4 c.toNat=true:=by simp[F4];omega
      simp only[d,decide_eq_false n,decide_eq_false o,decide_eq_false g,decide_eq_false j,v,↓Mr,Mr,Mb,reduceIte]
      by_cases q:i=0
      ·have m:=e (.inr ⟨q,s⟩)
       rw[m] at h
       simp only[decide_eq_true q,d,decide_eq_false g,decide_eq_false j,↓Mr,Mr,Mb,reduceIte]
       exact h
      ·simp only[decide_eq_false q,d,decide_eq_false g,decide_eq_false j,↓Mr,Mr,Mb,reduceIte]
       exact f (by simp[S3,s]) (fun h=>absurd h q)
 ·have A:decide ((i:Int)<a.length)=false:=by simp only[decide_eq_false_iff_not];omega
  obtain rfl:i=a.length:=by omega
  simp only[A,↓Mr,Mr,Mb,reduceIte]
  rw[R3 X8]
  cases a with
  | nil=>
   have C:decide ((1:Int)≤(([]:List UInt8).length:Int))=false:=rfl
   simp only[C,↓Mr,Mr,Mb,reduceIte];exact h
  | cons c r=>
   have C:decide ((1:Int)≤((c::r).length:Int))=true:=by simp only[decide_eq_true_eq,List.length_cons];omega
   have u:=L (by simp)
   simp only[List.head?_cons,Option.map_some,Option.some.injEq] at u
   simp only[List.take_length] at k
   have z:name (c::r)=decide ((c::r).length≤32):=by simp only[name,u,k];simp
   have M:decide (((c::r).length:Int)≤32)=decide ((c::r).length≤32):=by rw[Bool.eq_iff_iff];simp only[decide_eq_true_eq];omega
   simp only[C,R3 X8,M,↓Mr,Mr,Mb,reduceIte]
   rw[←z];exact h)
theorem Pr {c:UInt8} {r:List UInt8} (h:name (c::r)=true):S3 c.toNat=true∧F4 c.toNat=false:=by
 simp only[name,Bool.and_eq_true,List.all_cons,Bool.not_eq_true'] at h
 exact ⟨h.2.1,h.1.2⟩
theorem Yb (a:List UInt8) (g:a.length≤140737488355328) (h:K (.bool (M6 a)) w):Q1 P F.d [S a] w K:=Kj (by
 unfold Mc
 refine Q5S a g ?_
 cases a with
 | nil=>simp only[name,↓Mr,Mr,Mb,reduceIte];exact h
 | cons c r=>
  cases d:name (c::r)
  ·(try simp only[↓Mr,Mr,Mb,reduceIte])
   simpa [M6,d] using h
  ·(try simp only[↓Mr,Mr,Mb,reduceIte])
   rw[Xm X8 (by omega) (by simp)]
   have b:(c::r)[(0:Int).toNat]'(by simp)=c:=rfl
   (try simp only[↓Mr,Mr,Mb,reduceIte])
   rw[b]
   obtain ⟨e,f⟩:=Pr d
   have:decide ((c.toNat:Int)≤90)=Xh c.toNat:=by
    simp only[S3,Xh,A7,F4,Bool.or_eq_true,Bool.and_eq_true,Bool.and_eq_false_iff,decide_eq_true_eq,decide_eq_false_iff_not] at e f⊢
    rw[Bool.eq_iff_iff];simp only[Bool.and_eq_true,decide_eq_true_eq];omega
   rw[this]
   simpa [M6,d] using h)
theorem Py (a:List UInt8) (g:a.length≤140737488355328) (h:K (.bool (D7 a)) w):Q1 P F.u [S a] w K:=Gv (by
 unfold Wv
 refine Q5S a g ?_
 cases a with
 | nil=>simp only[name,↓Mr,Mr,Mb,reduceIte];exact h
 | cons c r=>
  cases d:name (c::r)
  ·(try simp only[↓Mr,Mr,Mb,reduceIte])
   simpa [D7,d] using h
  ·(try simp only[↓Mr,Mr,Mb,reduceIte])
   rw[Xm X8 (by omega) (by simp)]
   have b:(c::r)[(0:Int).toNat]'(by simp)=c:=rfl
   (try simp only[↓Mr,Mr,Mb,reduceIte])
   rw[b]
   obtain ⟨e,f⟩:=Pr d
   have:decide ((97:Int)≤c.toNat)=A7 c.toNat:=by
    simp only[S3,Xh,A7,F4,Bool.or_eq_true,Bool.and_eq_true,Bool.and_eq_false_iff,decide_eq_true_eq,decide_eq_false_iff_not] at e f⊢
    rw[Bool.eq_iff_iff];simp only[Bool.and_eq_true,decide_eq_true_eq];omega
   rw[this]
   simpa [D7,d] using h)
def X3x (a:List UInt8) (w:World) (x:Value×Value) (w':World):Prop:=
 w=w'∧ ∃(b:List UInt8) (n:Nat),x=(S b,I n)∧b.length+2*n=a.length∧(base a).2=(base b).2+n
def X1g (x:Value×Value):Nat:=match x.1 with | .string s=>s.size | _=>0
theorem Rw (a:List UInt8) (k:a.length≤140737488355328) (h:K (I (base a).2) w):Q1 P F.a1 [S a] w K:=Aj (by
 unfold Ol
 refine Wc (X3x a w) (fun x _=>X1g x) ⟨rfl,a,0,rfl,by omega,rfl⟩ ?_
 rintro _ _ _ ⟨rfl,b,n,rfl,j,c⟩
 rw[R3 X8]
 (try simp only[↓Mr,Mr,Mb,reduceIte])
 by_cases f:2≤b.length
 ·have e:decide ((2:Int)≤b.length)=true:=by simp only[decide_eq_true_eq];omega
  simp only[e,R3 X8,↓Mr,Mr,Mb,reduceIte]
  rw[G3 (by omega) (by omega),Up X8 (by omega) (by omega)]
  rw[show ((b.length:Int)-2).toNat=b.length-2 from by omega]
  have g:decide (b.drop (b.length-2)=[91,93])=arr b:=by simp[arr,f]
  simp only[g,↓Mr,Mr,Mb,reduceIte]
  cases d:arr b
  ·(try simp only[↓Mr,Mr,Mb,reduceIte])
   rw[Xj b,d] at c
   simp only[Bool.false_eq_true,if_false,Nat.zero_add] at c
   rw[c] at h;exact h
  ·(try simp only[R3 X8,↓Mr,Mr,Mb,reduceIte])
   rw[T0 X8 (by omega) (by omega)]
   rw[show ((b.length:Int)-2).toNat=b.length-2 from by omega]
   have i:=I9 d
   refine ⟨⟨rfl,Kd.cutA b,n+1,?_,by omega,?_⟩,?_⟩
   ·simp only[Kd.cutA,Prod.mk.injEq,true_and]
    first | rfl | (rw[G3 (by omega) (by omega)];rfl)
   ·rw[c,Xj b,d];simp;omega
   ·simp only[X1g,I5,List.length_take];omega
 ·have e:decide ((2:Int)≤b.length)=false:=by simp only[decide_eq_false_iff_not];omega
  simp only[e,↓Mr,Mr,Mb,reduceIte]
  have d:arr b=false:=by simp[arr,f]
  rw[Xj b,d] at c
  simp only[Bool.false_eq_true,if_false,Nat.zero_add] at c
  rw[c] at h;exact h)
theorem Q4g (a:List UInt8):a.take (a.length-2*(base a).2)=(base a).1:=by
 have key: ∀n (a:List UInt8),a.take (a.length-2*(Ym n a).2)=(Ym n a).1:=by
  intro n
  induction n with
  | zero=>intro a;simp[Ym]
  | succ n b=>
   intro a
   simp only[Ym]
   split
   ·rename_i h
    have c:=I9 h
    simp only
    rw[←b (Kd.cutA a)]
    rw[Kd.cutA,List.take_take,List.length_take]
    congr 1
    omega
   ·simp
 exact key _ a
theorem Jy (a:List UInt8) (f:a.length≤140737488355328) (h:K (.bool (right a)) w):Q1 P F.e [S a] w K:=Kv (by
 unfold Ms
 have e:=Q1m a
 refine Rw a f ?_
 rw[R3 X8]
 (try simp only[↓Mr,Mr,Mb,reduceIte])
 rw[G3 (n:=2*((base a).2:Int)) (by omega) (by omega),G3 (by omega) (by omega),T0 X8 (by omega) (by omega)]
 rw[show ((a.length:Int)-2*((base a).2:Int)).toNat=a.length-2*(base a).2 from by omega,Q4g]
 (try simp only[↓Mr,Mr,Mb,reduceIte])
 by_cases b:(base a).2≤3
 ·have c:decide (((base a).2:Int)≤3)=true:=by simp only[decide_eq_true_eq];omega
  simp only[c,↓Mr,Mr,Mb,reduceIte]
  refine Ec _ ?_
  cases d:plain (base a).1
  ·(try simp only[↓Mr,Mr,Mb,reduceIte])
   refine Yb _ (by omega) ?_
   (try simp only[↓Mr,Mr,Mb,reduceIte])
   simpa [right,b,d] using h
  ·(try simp only[↓Mr,Mr,Mb,reduceIte])
   simpa [right,b,d] using h
 ·have c:decide (((base a).2:Int)≤3)=false:=by simp only[decide_eq_false_iff_not];omega
  simp only[c,↓Mr,Mr,Mb,reduceIte]
  simpa [right,b] using h)
theorem X23 {a:List UInt8} (h:arr a=true):2≤a.length:=by simp only[arr,Bool.and_eq_true,decide_eq_true_eq] at h;exact h.1
theorem Q48 {a:List UInt8} (h:arr a=true) (c:right a=true):3≤a.length:=by
 have d:=X23 h
 refine Nat.lt_of_le_of_ne d fun e=>?_
 have f:=I9 h
 have b:Kd.cutA a=[]:=List.eq_nil_of_length_eq_zero (by omega)
 simp only[right,Xj a,h,if_true,b] at c
 revert c;decide
theorem Q6e (a:List UInt8) (e:a.length≤140737488355328) (h:K (S (elem a)) w):Q1 P F.aV [S a] w K:=Ty (by
 unfold Ov
 rw[R3 X8]
 (try simp only[↓Mr,Mr,Mb,reduceIte])
 by_cases j:a.length<3
 ·have b:decide ((a.length:Int)<3)=true:=by simp only[decide_eq_true_eq];omega
  simp only[b,↓Mr,Mr,Mb,reduceIte]
  have f:elem a=[]:=by
   simp only[elem]
   split
   ·rename_i hh
    simp only[Bool.and_eq_true] at hh
    have:=Q48 hh.1 hh.2
    omega
   ·rfl
  rw[f] at h;exact h
 ·have b:decide ((a.length:Int)<3)=false:=by simp only[decide_eq_false_iff_not];omega
  simp only[b,↓Mr,Mr,Mb,reduceIte]
  rw[G3 (by omega) (by omega),Up X8 (by omega) (by omega)]
  rw[show ((a.length:Int)-2).toNat=a.length-2 from by omega]
  have g:decide (a.drop (a.length-2)=[91,93])=arr a:=by simp[arr];omega
  (try simp only[↓Mr,Mr,Mb,reduceIte])
  (try simp only[g,↓Mr,Mr,Mb,reduceIte])
  cases c:arr a
  ·(try simp only[↓Mr,Mr,Mb,reduceIte])
   simpa [elem,c] using h
  ·(try simp only[↓Mr,Mr,Mb,reduceIte])
   refine Rw a e ?_
   (try simp only[↓Mr,Mr,Mb,reduceIte])
   by_cases i:(base a).2≤3
   ·have b:decide ((3:Int)<((base a).2:Int))=false:=by simp only[decide_eq_false_iff_not];omega
    simp only[b,↓Mr,Mr,Mb,reduceIte]
    refine Jy a e ?_
    cases d:right a
    ·(try simp only[↓Mr,Mr,Mb,reduceIte])
     simpa [elem,c,d] using h
    ·(try simp only[↓Mr,Mr,Mb,reduceIte])
     try rw[G3 (by omega) (by omega)]
     rw[T0 X8 (by omega) (by omega)]
     rw[show ((a.length:Int)-2).toNat=a.length-2 from by omega]
     simpa [elem,c,d,Kd.cutA] using h
   ·have b:decide ((3:Int)<((base a).2:Int))=true:=by simp only[decide_eq_true_eq];omega
    simp only[b,↓Mr,Mr,Mb,reduceIte]
    have d:right a=false:=by simp[right,i]
    simpa [elem,c,d] using h)
def X3e (a:List UInt8) (w:World) (x:Value) (w':World):Prop:=
 w=w'∧ ∃n:Nat,x=I n∧n≤a.length∧(∀i,(h:i<n)→(b:i<a.length)→a[i]≠46)
def Q9j (a:List UInt8) (x:Value):Nat:=match x with | .int _ n=>(a.length-n).toNat | _=>0
theorem Q4r (a:List UInt8) (M:a.length≤140737488355328) (h: ∀w',Below w.heap.size w w'→K (if (Qx a).2.2 then .tuple #[S (Qx a).1,S (Qx a).2.1, .bool (Zf a)] else .tuple #[S [],S [], .bool false]) w'):Q1 P F.bA [S a] w K:=Il (by
 unfold Md
 refine Wc (X3e a w) (fun x _=>Q9j a x) ⟨rfl,0,rfl,by omega,by omega⟩ ?_
 rintro _ _ _ ⟨rfl,n,rfl,L,v⟩
 rw[R3 X8]
 (try simp only[↓Mr,Mr,Mb,reduceIte])
 by_cases H:n<a.length
 ·have p:decide ((n:Int)<a.length)=true:=by simp only[decide_eq_true_eq];omega
  simp only[p,↓Mr,Mr,Mb,reduceIte]
  rw[Xm X8 (by omega) (by omega)]
  (try simp only[↓Mr,Mr,Mb,reduceIte])
  simp only[Int.toNat_natCast]
  have E:decide (((a[n]).toNat:Int)=46)=decide (a[n]=46):=by
   rw[Bool.eq_iff_iff];simp only[decide_eq_true_eq]
   constructor
   ·intro e;exact UInt8.toNat_inj.1 (by have:(46:UInt8).toNat=46:=rfl;omega)
   ·intro e;rw[e];rfl
  rw[E]
  by_cases l:a[n]=46
  ·simp only[l,decide_true,↓Mr,Mr,Mb,reduceIte]
   have m:Qx a=(a.take n,a.drop (n+1),true):=by
    have:a.findIdx? (fun b=>decide (b=46))=some n:=by
     rw[List.findIdx?_eq_some_iff_getElem]
     exact ⟨H,by simpa using l,fun j D=>by simpa using v j D (by omega)⟩
    rw[Pc,this];rfl
   have y:Zf a=(M6 (a.take n)&&D7 (a.drop (n+1))):=by simp[Zf,m]
   rw[m,y] at h
   have q:((n:Int)+1).toNat=n+1:=by omega
   have s:(a.take n).length≤140737488355328:=by simp only[List.length_take];omega
   have o:(a.drop (n+1)).length≤140737488355328:=by simp only[List.length_drop];omega
   have B: ∀{w:World} {K:Value→World→Prop},K (S (a.take n)) w→R6 P T.c (S a) none (some (I n)) none w K:=by
    intro w K h
    rw[T0 X8 (by omega) (by omega),show ((n:Int)).toNat=n from by omega];exact h
   have z: ∀{w:World} {K:Value→World→Prop},K (S (a.drop (n+1))) w→R6 P T.c (S a) (some (I (n+1))) none none w K:=by
    intro w K h
    rw[Up X8 (by omega) (by omega),q];exact h
   refine Ds (Below.refl _ _) ?_
   refine X4 (S (a.take n)) (fun w c=>B (X6 rfl)) ?_
   refine X4 (I (n+1)) (fun w c=>X6 (by rw[G3 (by omega) (by omega)])) ?_
   refine X4 (S (a.drop (n+1))) (fun t w c e=>by rw[e];exact z (X6 rfl)) ?_
   refine X4 (S (a.take n)) (fun w c=>B (X6 rfl)) ?_
   refine X4 (.bool (M6 (a.take n))) (fun t w c e=>by rw[e];exact Yb _ s (X6 rfl)) ?_
   cases g:M6 (a.take n)
   ·refine X4 undef (fun t w c e=>by rw[e,E1];exact X6 rfl) ?_
    refine X4 undef (fun t w c e=>by rw[e,E1];exact X6 rfl) ?_
    refine X4 undef (fun t f w c e d=>by rw[e,E1];exact X6 rfl) ?_
    refine X4 undef (fun t f r w c e d k=>by rw[e,E1];exact X6 rfl) ?_
    refine X4 undef (fun t f w c e d=>by rw[e,E1];exact X6 rfl) ?_
    refine X4 (.bool false) (fun t f w c e d=>by rw[e,L1];exact X6 rfl) ?_
    rintro _ _ _ _ _ _ _ _ _ _ _ w1 c rfl rfl rfl rfl rfl rfl rfl rfl rfl rfl rfl
    rw[g] at h
    exact h w1 (by simpa using c)
   ·refine X4 (S a) (fun t w c e=>by rw[e,W5];exact X6 rfl) ?_
    refine X4 (I n) (fun t w c e=>by rw[e,W5];exact X6 rfl) ?_
    refine X4 (I (n+1)) (fun t f w c e d=>by rw[e,d,W5];simp only[↓Mr,Mr,Mb,reduceIte];exact X6 (by rw[G3 (by omega) (by omega)])) ?_
    refine X4 (S (a.drop (n+1))) (fun t f r w c e d k=>by rw[e,d,k,W5];exact z (X6 rfl)) ?_
    refine X4 (.bool (D7 (a.drop (n+1)))) (fun t f w c e d=>by rw[e,d,W5];exact Py _ o (X6 rfl)) ?_
    refine X4 (.bool (D7 (a.drop (n+1)))) (fun t f w c e d=>by rw[e,d,M4];exact X6 rfl) ?_
    rintro _ _ _ _ _ _ _ _ _ _ _ w1 c rfl rfl rfl rfl rfl rfl rfl rfl rfl rfl rfl
    rw[g] at h
    exact h w1 (by simpa using c)
  ·simp only[l,decide_false,↓Mr,Mr,Mb,reduceIte]
   rw[G3 (by omega) (by omega)]
   refine ⟨⟨rfl,n+1,rfl,by omega,fun i A J=>?_⟩,?_⟩
   ·by_cases u:i=n
    ·subst u;exact l
    ·exact v i (by omega) J
   ·simp only[Q9j];omega
 ·have p:decide ((n:Int)<a.length)=false:=by simp only[decide_eq_false_iff_not];omega
  simp only[p,↓Mr,Mr,Mb,reduceIte]
  have m:(Qx a).2.2=false∧(Qx a).1=a∧(Qx a).2.1=[]:=by
   have:a.findIdx? (fun b=>decide (b=46))=none:=by
    rw[List.findIdx?_eq_none_iff]
    intro x C
    obtain ⟨i,A,rfl⟩:=List.getElem_of_mem C
    simpa using v i (by omega) A
   rw[Pc,this];exact ⟨rfl,rfl,rfl⟩
  rw[m.1] at h
  exact h w (Below.refl _ _))
end Go.Proofs.YtjdiakhipmggjaaGreatDoor

namespace Go.Emb
open Go.RowKit
class TZ (P : Program) (t : TypeId) (sz b : outParam Nat) (z : outParam Value) : Prop where
  h : (P.info? t).map (fun i => (i.size, i.bytes, i.zero)) = some (sz, b, some z)
def Q9r:Option TypeDesc→Bool
 | some (.struct _)=>true
 | some (.array _ _)=>true
 | none=>true
 | _=>false
class TG (P : Program) (t : TypeId) (g : outParam Bool) : Prop where
  h : (Q9r (P.underlying t), (P.underlying t).isSome) = (g, true)
class TS (P : Program) (t : TypeId) (e : outParam TypeId) : Prop where
  h : P.underlying t = some (.slice e)
class TA (P : Program) (t : TypeId) (n : outParam Nat) (e : outParam TypeId) : Prop where
  h : P.underlying t = some (.array n e)
class TM (P : Program) (t : TypeId) (k e : outParam TypeId) : Prop where
  h : P.underlying t = some (.map k e)
def Q3N (d:Option TypeDesc) (k:Nat):Option (Nat×TypeId):=match d with
 | some (.struct a)=>(a[k]?).map fun f=>(f.offset,f.type)
 | _=>none
class TF (P : Program) (t : TypeId) (k : Nat) (off : outParam Nat) (ft : outParam TypeId) : Prop where
  h : Q3N (P.underlying t) k = some (off, ft)
variable {P : Program} {w w0 w1 w' w'' : World} {K : Value → World → Prop}
theorem TZ.info {t:TypeId} {sz b:Nat} {z:Value} (h:TZ P t sz b z): ∃i,P.info? t=some i∧i.size=sz∧i.bytes=b∧i.zero=some z:=by
 obtain ⟨i,a,e⟩:=Option.map_eq_some_iff.1 h.h
 simp only[Prod.mk.injEq] at e
 exact ⟨i,a,e.1,e.2.1,e.2.2⟩
theorem L3 {t:TypeId} {sz b:Nat} {z:Value} (h:TZ P t sz b z) (w:World):(sizeOf t).run P w= .ok sz w:=by
 obtain ⟨i,a,rfl,_⟩:=h.info
 simp[sizeOf,typeInfo,a]
theorem Zk {t:TypeId} {sz b:Nat} {z:Value} (h:TZ P t sz b z) (w:World):(zeroValue t).run P w= .ok z w:=by
 obtain ⟨i,a,_,_,c⟩:=h.info
 simp[zeroValue,typeInfo,a,c]
theorem Xu {t:TypeId} {g:Bool} (h:TG P t g) (w:World):(isAgg t).run P w= .ok g w:=by
 have hh:=h.h
 simp only[Prod.mk.injEq] at hh
 obtain ⟨c,b⟩:=hh
 cases a:P.underlying t with
 | none=>rw[a] at b;cases b
 | some d=>
  rw[a] at c
  have:=run_underlying (P:=P) (w:=w) a
  simp only[isAgg,Sem.run_bind,this,Result.andThen_ok]
  cases d<;>simp_all [Q9r]
theorem Q3w (a:Addr) (i j:Nat):(a.add i).add j=a.add (i+j):=by
 unfold Addr.add
 by_cases c:i=0
 ·simp[c]
 ·by_cases b:j=0
  ·simp[b]
  ·simp[c,b,Nat.add_assoc]
theorem add_zero (a:Addr):a.add 0=a:=by simp[Addr.add]
theorem S4 (a:Addr) (i:Nat):(a.add i).block=a.block:=by unfold Addr.add;split<;>rfl
theorem A9 (a:Addr) (i:Nat):(a.add i).off=a.off+i:=by unfold Addr.add;split<;>simp_all
theorem I6 {a:Addr} (h:a.spot=none) (i:Nat):(a.add i).spot=none:=by unfold Addr.add;split<;>simp_all
abbrev Q5:=Nat→Option Obj
def X2 (w:World) (σ:Q5):Prop:= ∀b o,σ b=some o→w.heap[b]? =some o
structure Stp (w : World) (σ : Q5) (w' : World) (σ' : Q5) : Prop where
  bel : Below w.heap.size w w'
  sat : X2 w' σ'
  le : ∀ b o, σ b = some o → σ' b = some o
  old : ∀ b, b < w.heap.size → σ' b = σ b
theorem X2.lt {σ:Q5} (h:X2 w σ) {b:Nat} {o:Obj} (a:σ b=some o):b<w.heap.size:=(Array.getElem?_eq_some_iff.1 (h b o a)).1
theorem X2.below {σ:Q5} (h:X2 w σ) (a:Below w.heap.size w w'):X2 w' σ:=fun b o e=>(a.block b (h.lt e)).trans (h b o e)
theorem Stp.refl {σ:Q5} (h:X2 w σ):Stp w σ w σ:=⟨Below.refl _ _,h,fun _ _ e=>e,fun _ _=>rfl⟩
theorem Stp.trans {σ0 σ1 c:Q5} (h:Stp w σ0 w' σ1) (k:Stp w' σ1 w'' c):Stp w σ0 w'' c:=
 ⟨h.bel.trans (k.bel.mono h.bel.size),k.sat,fun b o e=>k.le b o (h.le b o e),fun b a=>(k.old b (Nat.lt_of_lt_of_le a h.bel.size)).trans (h.old b a)⟩
theorem Stp.of_below {σ:Q5} (h:X2 w σ) (a:Below w.heap.size w w'):Stp w σ w' σ:=⟨a,h.below a,fun _ _ e=>e,fun _ _=>rfl⟩
def Q5.put (σ:Q5) (b:Nat) (o:Obj):Q5:=fun k=>if k=b then some o else σ k
theorem X2.none {σ:Q5} (h:X2 w σ) {b:Nat} (a:w.heap.size≤b):σ b=none:=by
 cases e:σ b with
 | none=>rfl
 | some o=>have:=h.lt e;omega
theorem Stp.alloc {σ:Q5} (h:X2 w σ) (o:Obj):Stp w σ (w.alloc o) (σ.put w.heap.size o):=by
 refine ⟨(Below.refl _ _).alloc (Nat.le_refl _) o,?_,?_,?_⟩
 ·intro b p e
  by_cases a:b=w.heap.size
  ·subst a
   simp only[Q5.put,if_true] at e
   cases e
   exact heap_alloc_new w o
  ·simp only[Q5.put,if_neg a] at e
   rw[Below.heap_alloc w o b (h.lt e)];exact h b p e
 ·intro b p e
  have:=h.lt e
  simp only[Q5.put];rw[if_neg (by omega)];exact e
 ·intro b a
  simp only[Q5.put];rw[if_neg (by omega)]
theorem Stp.own {σ:Q5} (h:X2 w σ) (o:Obj):Stp w σ (w.alloc o) σ:=Stp.of_below h ((Below.refl _ _).alloc (Nat.le_refl _) o)
def Z4 (σ:Q5) (a:Addr) (cs:List Value):Prop:=a.spot=none∧ ∃arr e b,σ a.block=some (.cells arr e b)∧ ∀i v,cs[i]? =some v→arr[a.off+i]? =some v
theorem Z4.up {σ σ':Q5} {a:Addr} {cs:List Value} (h:Z4 σ a cs) (d:Stp w σ w' σ'):Z4 σ' a cs:=by
 obtain ⟨g,arr,e,c,f,b⟩:=h
 exact ⟨g,arr,e,c,d.le _ _ f,b⟩
theorem Z4.cell {σ:Q5} {a:Addr} {cs:List Value} (h:Z4 σ a cs) (d:X2 w σ) {i:Nat} {v:Value} (b:cs[i]? =some v):w.cell? (a.add i)=some v:=by
 obtain ⟨g,arr,e,j,f,c⟩:=h
 have:=d _ _ f
 unfold World.cell?
 rw[S4,this,A9,I6 g]
 exact c i v b
def Y1 (σ:Q5) (w:World) (b:Nat) (cs:List Value):Prop:=σ b=none∧ ∃e,w.heap[b]? =some (.cells cs.toArray e (0,0))
theorem Y1.lt {σ:Q5} {b:Nat} {cs:List Value} (h:Y1 σ w b cs):b<w.heap.size:=by
 obtain ⟨_,e,h⟩:=h
 exact (Array.getElem?_eq_some_iff.1 h).1
theorem Y1.up {σ σ':Q5} {b:Nat} {cs:List Value} (h:Y1 σ w b cs) (c:Stp w σ w' σ'):Y1 σ' w' b cs:=by
 have a:=h.lt
 obtain ⟨f,e,d⟩:=h
 exact ⟨(c.old b a).trans f,e,(c.bel.block b a).trans d⟩
theorem Y1.cell {σ:Q5} {b:Nat} {cs:List Value} (h:Y1 σ w b cs) {i:Nat} {v:Value} (a:cs[i]? =some v):w.cell? ((⟨b,0,none⟩:Addr).add i)=some v:=by
 obtain ⟨_,e,c⟩:=h
 unfold World.cell?
 rw[S4,A9,I6 rfl]
 simp only[c]
 simpa using a
theorem Y1.keep {σ σ0:Q5} {b:Nat} {cs:List Value} (h:Y1 σ w b cs) (d:Stp w0 σ0 w σ) (m:w0.heap.size≤b): ∃σ',Stp w0 σ0 w σ'∧Z4 σ' ⟨b,0,none⟩ cs∧(∀k o,σ k=some o→σ' k=some o)∧(∀k,k≠b→σ' k=σ k):=by
 obtain ⟨g,e,l⟩:=h
 refine ⟨σ.put b (.cells cs.toArray e (0,0)),⟨d.bel,?_,?_,?_⟩,⟨rfl,cs.toArray,e,(0,0),by simp[Q5.put],?_⟩,?_,?_⟩
 ·intro k o c
  by_cases a:k=b
  ·subst a;simp only[Q5.put,if_true] at c;cases c;exact l
  ·simp only[Q5.put,if_neg a] at c;exact d.sat k o c
 ·intro k o c
  by_cases a:k=b
  ·subst a;have:=d.le _ _ c;rw[g] at this;cases this
  ·simp only[Q5.put,if_neg a];exact d.le _ _ c
 ·intro k f
  simp only[Q5.put];rw[if_neg (by omega)];exact d.old k f
 ·intro i v j;simpa using j
 ·intro k o c
  by_cases a:k=b
  ·subst a;rw[g] at c;cases c
  ·simp only[Q5.put,if_neg a];exact c
 ·intro k a;simp only[Q5.put,if_neg a]
theorem Q76 (t:TypeId) (v:Value) (w:World):(Instr.box t v).run P w= .ok (.pointer (some ⟨w.heap.size,0,none⟩)) (w.alloc (.cells v.cells t)):=by
 simp[Instr.box,newVar,newRow]
theorem Q31 {σ:Q5} (a:X2 w σ) (cs:Array Value) (t:TypeId):Y1 σ (w.alloc (.cells cs t)) w.heap.size cs.toList:=
 ⟨a.none (Nat.le_refl _),t,by simpa using heap_alloc_new w (.cells cs t)⟩
theorem Q7Y {σ:Q5} (cs:Array Value) (t:TypeId):Z4 (σ.put w.heap.size (.cells cs t)) ⟨w.heap.size,0,none⟩ cs.toList:=
 ⟨rfl,cs,t,(0,0),by simp[Q5.put],fun i v h=>by simpa using h⟩
theorem E5 {σ:Q5} {t:TypeId} {v:Value} (b:X2 w σ) (h: ∀a w' σ',Stp w σ w' σ'→Z4 σ' a v.cells.toList→K (.pointer (some a)) w'):box P t v w K:=by
 unfold box;rw[X9 (Q76 t v w)]
 exact h _ _ _ (Stp.alloc b _) (Q7Y _ t)
theorem Q5k {σ:Q5} {t:TypeId} {v:Value} (a:X2 w σ) (h: ∀b w',w.heap.size≤b→Stp w σ w' σ→Y1 σ w' b v.cells.toList→K (.pointer (some ⟨b,0,none⟩)) w'):box P t v w K:=by
 unfold box;rw[X9 (Q76 t v w)]
 exact h _ _ (Nat.le_refl _) (Stp.own a _) (Q31 a _ t)
theorem Ks {σ:Q5} {t:TypeId} {sz a:Nat} {z:Value} [tz:TZ P t sz a z] (c:X2 w σ) (h: ∀b w',w.heap.size≤b→Stp w σ w' σ→Y1 σ w' b z.cells.toList→K (.pointer (some ⟨b,0,none⟩)) w'):V9 P t w K:=by
 unfold V9
 have:(Instr.alloc t true (.tuple #[])).run P w= .ok (.pointer (some ⟨w.heap.size,0,none⟩)) (w.alloc (.cells z.cells t)):=by
  simp[Instr.alloc,Zk tz,newVar,newRow]
 rw[X9 this]
 exact h _ _ (Nat.le_refl _) (Stp.own c _) (Q31 c _ t)
theorem Qc {t:TypeId} [tg:TG P t false] {a:Addr} {v:Value} (b:w.cell? a=some v) (h:K v w):Q2 P t (.pointer (some a)) w K:=by
 unfold Q2
 rw[X9 (v:=v) (w':=w) (by simp[Instr.loadAt,Instr.sureAddr,loadVar,Xu tg,b])]
 exact h
theorem Pw {t:TypeId} {sz b:Nat} {z:Value} [tg:TG P t true] [tz:TZ P t sz b z] {a:Addr} {cs:List Value} (d:cs.length=sz) (c: ∀j v,cs[j]? =some v→w.cell? (a.add j)=some v) (h:K (.agg cs.toArray) w):Q2 P t (.pointer (some a)) w K:=by
 unfold Q2
 have:=run_loadCells_list (P:=P) w a cs c
 rw[d] at this
 rw[X9 (v:= .agg cs.toArray) (w':=w) (by simp[Instr.loadAt,Instr.sureAddr,loadVar,Xu tg,L3 tz,this])]
 exact h
theorem ld {σ:Q5} {t:TypeId} [TG P t false] {a:Addr} {cs:List Value} {i:Nat} {v:Value} (c:X2 w σ) (d:Z4 σ a cs) (b:cs[i]? =some v) (h:K v w):Q2 P t (.pointer (some (a.add i))) w K:=
 Qc (d.cell c b) h
theorem X7 {σ:Q5} {t:TypeId} [TG P t false] {a:Addr} {cs:List Value} {v:Value} (c:X2 w σ) (d:Z4 σ a cs) (b:cs[0]? =some v) (h:K v w):Q2 P t (.pointer (some a)) w K:=by
 have:=ld (P:=P) (t:=t) c d b h
 rwa [add_zero] at this
theorem Y4 {σ:Q5} {t:TypeId} {sz b:Nat} {z:Value} [TG P t true] [TZ P t sz b z] {a:Addr} {cs:List Value} (d:X2 w σ) (g:Z4 σ a cs) (f:cs.length=sz) (h:K (.agg cs.toArray) w):Q2 P t (.pointer (some a)) w K:=
 Pw f (fun _ _ c=>g.cell d c) h
theorem Ya {σ:Q5} {t:TypeId} [TG P t false] {b:Nat} {cs:List Value} {i:Nat} {v:Value} (c:Y1 σ w b cs) (a:cs[i]? =some v) (h:K v w):Q2 P t (.pointer (some ((⟨b,0,none⟩:Addr).add i))) w K:=
 Qc (c.cell a) h
theorem Q85 {σ:Q5} {t:TypeId} [TG P t false] {b:Nat} {cs:List Value} {v:Value} (c:Y1 σ w b cs) (a:cs[0]? =some v) (h:K v w):Q2 P t (.pointer (some ⟨b,0,none⟩)) w K:=by
 have:=Ya (P:=P) (t:=t) c a h
 rwa [add_zero] at this
theorem Rr {σ:Q5} {t:TypeId} {sz a:Nat} {z:Value} [TG P t true] [TZ P t sz a z] {b:Nat} {cs:List Value} (d:Y1 σ w b cs) (f:cs.length=sz) (h:K (.agg cs.toArray) w):Q2 P t (.pointer (some ⟨b,0,none⟩)) w K:=
 Pw f (fun _ _ c=>d.cell c) h
theorem V1 {t:TypeId} {sz a:Nat} {z:Value} [tg:TG P t true] [tz:TZ P t sz a z] {σ:Q5} {b:Nat} {cs:List Value} {K:Value→Prop} (d:Y1 σ w b cs) (f:cs.length=sz) (h:K (.agg cs.toArray)):Y8 P t (.pointer (some ⟨b,0,none⟩)) w K:=by
 rw[Q3n]
 refine ⟨_,?_,h⟩
 have:=run_loadCells_list (P:=P) w ⟨b,0,none⟩ cs (fun _ _ c=>d.cell c)
 rw[f] at this
 simp[asAddr,loadVar,Xu tg,L3 tz,this]
structure Upd (w : World) (b : Nat) (w' : World) : Prop where
  os : w'.os = w.os
  tape : w'.tape = w.tape
  output : w'.output = w.output
  size : w'.heap.size = w.heap.size
  block : ∀ k, k ≠ b → w'.heap[k]? = w.heap[k]?
theorem Upd.stp {σ0 σ:Q5} {b:Nat} (c:Upd w b w') (a:Stp w0 σ0 w σ) (h:w0.heap.size≤b) (g:σ b=none):Stp w0 σ0 w' σ:=by
 refine ⟨⟨c.os.trans a.bel.os,c.tape.trans a.bel.tape,c.output.trans a.bel.output,by rw[c.size];exact a.bel.size,fun k f=>(c.block k (by omega)).trans (a.bel.block k f)⟩,?_,a.le,a.old⟩
 intro k o d
 rw[c.block k (by intro e;subst e;rw[g] at d;cases d)]
 exact a.sat k o d
theorem Y1.upd {σ:Q5} {b k:Nat} {cs:List Value} (h:Y1 σ w k cs) (c:Upd w b w') (a:k≠b):Y1 σ w' k cs:=by
 obtain ⟨f,e,d⟩:=h
 exact ⟨f,e,(c.block k a).trans d⟩
theorem Un {b:Nat} {cs:Array Value} {a:Array Value} {e:TypeId} (h:w.heap[b]? =some (.cells a e (0,0))):Upd w b (w.setRow b cs)∧(w.setRow b cs).heap[b]? =some (.cells cs e (0,0)):=by
 have c:=(Array.getElem?_eq_some_iff.1 h).1
 refine ⟨⟨rfl,rfl,rfl,by simp[World.setRow],fun k d=>?_⟩,?_⟩
 ·simp only[World.setRow,Array.getElem?_modify]
  rw[if_neg (by omega)]
 ·simp only[World.setRow,Array.getElem?_modify,if_true,h]
  rfl
theorem Oc {t:TypeId} {sz a:Nat} {z:Value} [tz:TZ P t sz a z] {σ:Q5} {b:Nat} {cs ds:List Value} (g:Y1 σ w b cs) (n:cs.length=sz) (d:ds.length=sz) (j:ds.toArray.all (·.oneCell')=true)
 (h: ∀w',Upd w b w'→Y1 σ w' b ds→K undef w'):Y0 P t (.pointer (some ⟨b,0,none⟩)) (.agg ds.toArray) w K:=by
 obtain ⟨l,e,f⟩:=g
 unfold Y0
 obtain ⟨i,k,c,_⟩:=tz.info
 have:=run_storeVar_row (P:=P) w b e t cs.toArray ds.toArray f (by simp[k,c,d]) (by simp[n,d]) j
 rw[Li (w':=w.setRow b ds.toArray) (by simpa [Instr.storeAt,Instr.sureAddr] using this)]
 obtain ⟨m,hh⟩:=Un (cs:=ds.toArray) f
 exact h _ m ⟨l,e,hh⟩
theorem Q7e {cs:List Value} {i:Nat} {v:Value} (a:i<cs.length):(cs.take i++[v]++cs.drop (i+1))=cs.set i v:=by
 rw[List.set_eq_take_append_cons_drop,if_pos a];simp
theorem Zu {t:TypeId} {c:Nat} {z:Value} [tz:TZ P t 1 c z] {σ:Q5} {b i:Nat} {cs:List Value} {v:Value} (f:Y1 σ w b cs) (j:i<cs.length) (l:v.cells= #[v]) (g:v.oneCell'=true)
 (h: ∀w',Upd w b w'→Y1 σ w' b (cs.set i v)→K undef w'):Y0 P t (.pointer (some ((⟨b,0,none⟩:Addr).add i))) v w K:=by
 obtain ⟨k,e,d⟩:=f
 unfold Y0
 have a:(⟨b,0,none⟩:Addr).add i=⟨b,i,none⟩:=by unfold Addr.add;split<;>simp_all
 have:=run_storeCells_at P b i e [v] 0 cs.toArray w d (by simp;omega) (by simpa using g)
 simp only[Nat.add_zero] at this
 obtain ⟨n,hh⟩:=Un (cs:=(cs.set i v).toArray) d
 have m:(List.take i cs.toArray.toList++[v]++List.drop (i+[v].length) cs.toArray.toList).toArray=(cs.set i v).toArray:=by
  rw[←Q7e j];simp
 rw[m] at this
 rw[Li (w':=w.setRow b (cs.set i v).toArray) (by simp[Instr.storeAt,Instr.sureAddr,a,storeVar,L3 tz,l,this])]
 exact h _ n ⟨k,e,hh⟩
theorem st0 {t:TypeId} {a:Nat} {z:Value} [tz:TZ P t 1 a z] {σ:Q5} {b:Nat} {cs:List Value} {v:Value} (f:Y1 σ w b cs) (d:0<cs.length) (c:v.cells= #[v]) (g:v.oneCell'=true)
 (h: ∀w',Upd w b w'→Y1 σ w' b (cs.set 0 v)→K undef w'):Y0 P t (.pointer (some ⟨b,0,none⟩)) v w K:=by
 have:=Zu (P:=P) (t:=t) f d c g h
 rwa [add_zero] at this
class NZ (n : Nat) : Prop where
  h : (n == 0) = false
instance (n:Nat):NZ (n+1):=⟨rfl⟩
theorem fa {t:TypeId} {k b:Nat} {g:TypeId} {sz c:Nat} {z:Value} [tf:TF P t k b g] [tz:TZ P g sz c z] [nz:NZ sz] {a:Addr}:fieldAddr P t (.pointer (some a)) k w K=K (.pointer (some (a.add b))) w:=by
 unfold fieldAddr
 have hh:=tf.h
 unfold Q3N at hh
 split at hh
 ·rename_i o i
  obtain ⟨f,m,d⟩:=Option.map_eq_some_iff.1 hh
  simp only[Prod.mk.injEq] at d
  obtain ⟨n,l⟩:=d
  subst l n
  have j: ¬sz=0:=by simpa using nz.h
  exact X9 (by simp[Instr.fieldAt,run_underlying i,m,Instr.sureAddr,fieldPlace,L3 tz,j])
 ·cases hh
theorem Si {t e:TypeId} {sz b:Nat} {z:Value} [ts:TS P t e] [tz:TZ P e sz b z] {a:Addr} {n c:Nat} {k:IntKind} {i:Int} (d:0≤i) (f:i<n):indexAddr P t (.slice (some a) n c) (.int k i) w K=K (.pointer (some (a.add (i.toNat*sz)))) w:=by
 unfold indexAddr
 exact X9 (by simp[Instr.indexAt,run_underlying ts.h,asIntOf,L3 tz,d,f])
theorem Q90 {t e:TypeId} {n sz b:Nat} {z:Value} [ta:TA P t n e] [tz:TZ P e sz b z] {a:Addr} {k:IntKind} {i:Int} (c:0≤i) (d:i<n):indexAddr P t (.pointer (some a)) (.int k i) w K=K (.pointer (some (a.add (i.toNat*sz)))) w:=by
 unfold indexAddr
 exact X9 (by simp[Instr.indexAt,run_underlying ta.h,asIntOf,Instr.sureAddr,L3 tz,c,d])
theorem L7 {a:Addr}:nilCheck P (.pointer (some a)) w K=K (.pointer (some a)) w:=by
 unfold nilCheck
 rw[P9];unfold K9
 simp[execOp]
class Rep {α : Type} (R : Q5 → α → List Value → Prop) : Prop where
  up : ∀ {σ σ' : Q5} {x : α} {cs : List Value}, (∀ b o, σ b = some o → σ' b = some o) → R σ x cs → R σ' x cs
  one : ∀ {σ : Q5} {x : α} {cs : List Value}, R σ x cs → ∀ u ∈ cs, u.oneCell' = true
def Sl {α:Type} (sz:Nat) (R:Q5→α→List Value→Prop) (σ:Q5) (v:Value) (xs:List α):Prop:=
 ∃a c,v= .slice a xs.length c∧xs.length≤c∧c≤maxLen∧(a=none→c=0)∧
  ∀b,a=some b→(0<xs.length→b.spot=none)∧ ∀i x,xs[i]? =some x→ ∃cs,Z4 σ (b.add (i*sz)) cs∧cs.length=sz∧R σ x cs
theorem Z4.le {σ σ':Q5} {a:Addr} {cs:List Value} (h:Z4 σ a cs) (f: ∀b o,σ b=some o→σ' b=some o):Z4 σ' a cs:=by
 obtain ⟨i,arr,e,d,g,c⟩:=h
 exact ⟨i,arr,e,d,f _ _ g,c⟩
section
variable {α : Type} {R : Q5 → α → List Value → Prop} {sz : Nat} {σ σ' : Q5} {v : Value} {xs : List α}
theorem Sl.le [hr:Rep R] (h:Sl sz R σ v xs) (d: ∀b o,σ b=some o→σ' b=some o):Sl sz R σ' v xs:=by
 obtain ⟨a,c,m,p,k,n,f⟩:=h
 refine ⟨a,c,m,p,k,n,fun b g=>⟨(f b g).1,fun i x j=>?_⟩⟩
 obtain ⟨cs,r,l,q⟩:=(f b g).2 i x j
 exact ⟨cs,r.le d,l,hr.up d q⟩
theorem Sl.up [Rep R] (h:Sl sz R σ v xs) (a:Stp w σ w' σ'):Sl sz R σ' v xs:=h.le a.le
theorem Sl.max (h:Sl sz R σ v xs):xs.length≤9223372036854775807:=by
 obtain ⟨a,c,g,f,b,d⟩:=h
 simp only[maxLen] at b;omega
theorem Sl.nil:Sl sz R σ (.slice none 0 0) ([]:List α):=⟨none,0,rfl,by simp,by simp,fun _=>rfl,fun b a=>by cases a⟩
theorem Q1n {c e t:TypeId} {cs:List Bool} [ts:TS P c e] {a:Option Addr} {n b:Nat}:X3 P .len [c] t cs [.slice a n b] w K=K (I n) w:=by
 have h:(Builtin.len_ #[c] t #[.slice a n b]).run P w= .ok (I n) w:=by
  simp[Builtin.len_,run_underlying ts.h,goInt]
 exact X9 h
theorem X2G {b e t:TypeId} {cs:List Bool} [ts:TS P b e] (h:Sl sz R σ v xs):X3 P .len [b] t cs [v] w K=K (I xs.length) w:=by
 obtain ⟨a,c,rfl,_⟩:=h
 exact Q1n
theorem X3E {t e:TypeId} {c:Nat} {z:Value} [TS P t e] [TZ P e sz c z] (h:Sl sz R σ v xs) {k:IntKind} {i:Int} (n:0≤i) (j:i.toNat<xs.length)
 (d: ∀a cs,Z4 σ a cs→cs.length=sz→R σ xs[i.toNat] cs→K (.pointer (some a)) w):indexAddr P t v (.int k i) w K:=by
 obtain ⟨a,g,rfl,r,q,l,m⟩:=h
 cases a with
 | none=>have:=l rfl;omega
 | some b=>
  rw[Si n (by omega)]
  obtain ⟨cs,p,f,o⟩:=(m b rfl).2 i.toNat xs[i.toNat] (by simp[j])
  exact d _ cs p f o
end
theorem Stp.turn {σ0 σ:Q5} {row:Option Nat} (b:w.grownBy w' row) (a:Stp w0 σ0 w σ) (d: ∀k,row=some k→w0.heap.size≤k∧σ k=none):Stp w0 σ0 w' σ:=by
 refine ⟨⟨b.os.trans a.bel.os,b.tape.trans a.bel.tape,b.output.trans a.bel.output,Nat.le_trans a.bel.size b.size,fun k f=>?_⟩,?_,a.le,a.old⟩
 ·refine (b.block k (Nat.lt_of_lt_of_le f a.bel.size) ?_).trans (a.bel.block k f)
  intro e;have:=(d k e.symm).1;omega
 ·intro k o c
  refine (b.block k (a.sat.lt c) ?_).trans (a.sat k o c)
  intro e;rw[(d k e.symm).2] at c;cases c
theorem Y1.turn {σ:Q5} {row:Option Nat} {k:Nat} {cs:List Value} (h:Y1 σ w k cs) (b:w.grownBy w' row) (a:some k≠row):Y1 σ w' k cs:=by
 have c:=h.lt
 obtain ⟨f,e,d⟩:=h
 exact ⟨f,e,(b.block k c a).trans d⟩
def V5 {α:Type} (B:Nat) (e:TypeId) (sz:Nat) (R:Q5→α→List Value→Prop) (σ:Q5) (w:World) (v:Value) (xs:List α):Prop:=
 ∃cells,w.ownsRow B e sz v xs.length cells∧(∀k,v.ownBlock=some k→σ k=none)∧ ∀i x,xs[i]? =some x→R σ x ((cells.drop (i*sz)).take sz)
section
variable {α : Type} {R : Q5 → α → List Value → Prop} {B sz : Nat} {e : TypeId} {σ σ' : Q5} {v u : Value} {xs ys : List α}
theorem V5.nil:V5 B e sz R σ w (.slice none 0 0) ([]:List α):=⟨[],World.ownsRow_nil w B e sz,by intro k a;simp[Value.ownBlock] at a,by intro i x h;simp at h⟩
theorem V5.mem (h:V5 B e sz R σ w v xs): ∀k,v.ownBlock=some k→B≤k∧k<w.heap.size∧σ k=none:=by
 obtain ⟨cells,f,d,_⟩:=h
 intro k c
 obtain ⟨a,b⟩:=f.lt k c
 exact ⟨a,b,d k c⟩
theorem V5.up [hr:Rep R] (h:V5 B e sz R σ w v xs) (a:Stp w σ w' σ'):V5 B e sz R σ' w' v xs:=by
 obtain ⟨cells,c,j,f⟩:=h
 refine ⟨cells,c.kept ⟨a.bel.os,a.bel.tape,a.bel.output,a.bel.size,fun k g _=>a.bel.block k g⟩ (by cases b:v.ownBlock<;>simp) (row:=none),?_,fun i x d=>hr.up a.le (f i x d)⟩
 intro k b
 rw[a.old k (c.lt k b).2];exact j k b
theorem Sl.cells (h:Sl sz R σ v xs) (C:X2 w σ) [hr:Rep R]: ∃(a:Option Addr) (d:Nat) (c:List Value),v= .slice a xs.length d∧(a=none→d=0)∧c.length=xs.length*sz∧(∀b,a=some b→ ∀j u,c[j]? =some u→w.cell? (b.add j)=some u)∧(∀u∈c,u.oneCell'=true)∧
 ∀i x,xs[i]? =some x→R σ x ((c.drop (i*sz)).take sz):=by
 obtain ⟨a,d,rfl,Q,L,o,z⟩:=h
 cases a with
 | none=>
  have O:=o rfl
  have f:xs=[]:=List.eq_nil_of_length_eq_zero (by omega)
  subst f
  exact ⟨none,d,[],rfl,o,by simp,fun b H=>(by cases H),by simp,by simp⟩
 | some b=>
  obtain ⟨J,q⟩:=z b rfl
  clear z
  have key: ∀(ys:List α) (k:Nat),(∀i x,ys[i]? =some x→ ∃cs,Z4 σ (b.add ((k+i)*sz)) cs∧cs.length=sz∧R σ x cs)→
   ∃c:List Value,c.length=ys.length*sz∧(∀j u,c[j]? =some u→w.cell? (b.add (k*sz+j))=some u)∧(∀u∈c,u.oneCell'=true)∧ ∀i x,ys[i]? =some x→R σ x ((c.drop (i*sz)).take sz):=by
   intro ys
   induction ys with
   | nil=>intro k _;exact ⟨[],by simp,by simp,by simp,by simp⟩
   | cons y r E=>
    intro k s
    obtain ⟨cs,D,t,A⟩:=s 0 y rfl
    obtain ⟨c,p,m,l,n⟩:=E (k+1) (fun i x f=>by
     have:=s (i+1) x (by simpa using f)
     rwa [show k+1+i=k+(i+1) by omega])
    refine ⟨cs++c,by simp[p,t,Nat.add_mul,Nat.add_comm],?_,?_,?_⟩
    ·intro j u hu
     by_cases M:j<sz
     ·rw[List.getElem?_append_left (by omega)] at hu
      have:=D.cell C hu
      rwa [Q3w,Nat.add_zero] at this
     ·rw[List.getElem?_append_right (by omega)] at hu
      have:=m _ _ hu
      rwa [t,show (k+1)*sz+(j-sz)=k*sz+j by rw[Nat.add_mul];omega] at this
    ·intro u hu
     rcases List.mem_append.1 hu with hu | hu
     ·exact hr.one A u hu
     ·exact l u hu
    ·intro i x f
     cases i with
     | zero=>
      simp at f;subst f
      simp only[Nat.zero_mul,List.drop_zero]
      rw[List.take_append_of_le_length (by omega),List.take_of_length_le (by omega)];exact A
     | succ i=>
      have:=n i x (by simpa using f)
      rw[show (i+1)*sz=cs.length+i*sz by rw[Nat.add_mul];omega,List.drop_append]
      simpa [List.drop_eq_nil_of_le] using this
  obtain ⟨c,p,m,l,n⟩:=key xs 0 (fun i x f=>by rw[Nat.zero_add];exact q i x f)
  refine ⟨some b,d,c,rfl,o,p,?_,l,n⟩
  intro N g j u hu
  cases g
  have:=m j u hu
  rwa [Nat.zero_mul,Nat.zero_add] at this
end
section
variable {α : Type} {R : Q5 → α → List Value → Prop} {sz : Nat} {e : TypeId} {σ σ0 : Q5} {v u : Value} {xs ys : List α}
theorem Wp (cells a:List Value) (n i:Nat) (c:cells.length=n*sz) (b:i<n):((cells++a).drop (i*sz)).take sz=(cells.drop (i*sz)).take sz:=by
 have h:i*sz+sz≤n*sz:=by rw[←Nat.succ_mul];exact Nat.mul_le_mul_right _ b
 rw[List.drop_append_of_le_length (by omega),List.take_append_of_le_length (by simp only[List.length_drop];omega)]
theorem app {t y:TypeId} {p:Nat} {z:Value} {cs:List Bool} [ts:TS P t e] [tz:TZ P e sz p z] [hr:Rep R] (D:Stp w0 σ0 w σ) (ha:V5 w0.heap.size e sz R σ w v xs) (X:Sl sz R σ u ys) (N:(z.cells.size==sz&&decide (0<sz))=true)
 (hb:(xs.length+ys.length)*p≤140737488355328) (hm:xs.length+ys.length≤9223372036854775807)
 (h: ∀f w',w.grownBy w' v.ownBlock→Stp w0 σ0 w' σ→V5 w0.heap.size e sz R σ w' f (xs++ys)→(f.ownBlock=v.ownBlock∨ ∀k,f.ownBlock=some k→w.heap.size≤k)→K f w'):X3 P .append [t,t] y cs [v,u] w K:=by
 obtain ⟨cells,s,V,Z⟩:=ha
 obtain ⟨a,l,c,rfl,U,Q,n3,n4,n5⟩:=X.cells D.sat
 obtain ⟨i,E,J,M,o⟩:=tz.info
 have q: ∀f w',(Builtin.append_ #[t,t] y #[v, .slice a ys.length l]).run P w= .ok f w'→w'.ownsRow w0.heap.size e sz f (xs.length+ys.length) (cells++c)→w.grownBy w' v.ownBlock→(f.ownBlock=v.ownBlock∨f.ownBlock=some w.heap.size)→X3 P .append [t,t] y cs [v, .slice a ys.length l] w K:=by
  intro f w' A d m hat
  have r:(builtin .append #[t,t] y cs.toArray #[v, .slice a ys.length l]).run P w= .ok (.value f) w':=by
   simp[builtin,A]
  unfold X3
  rw[P9];unfold K9
  rw[r]
  refine h f w' m (Stp.turn m D fun k n=>⟨(s.lt k n).1,V k n⟩) ⟨cells++c,by rw[List.length_append];exact d,?_,?_⟩ ?_
  ·intro k n
   rcases hat with hat | hat
   ·exact V k (hat▸n)
   ·rw[hat] at n;cases n;exact D.sat.none (Nat.le_refl _)
  ·intro j x C
   by_cases O:j<xs.length
   ·rw[List.getElem?_append_left O] at C
    rw[Wp cells c xs.length j s.1 O]
    exact Z j x C
   ·rw[List.getElem?_append_right (by omega)] at C
    have:=n5 _ _ C
    rw[show j*sz=cells.length+(j-xs.length)*sz by rw[s.1,←Nat.add_mul];congr 1;omega,List.drop_append]
    simpa [List.drop_eq_nil_of_le] using this
  ·rcases hat with hat | hat
   ·exact .inl hat
   ·right;intro k n;rw[hat] at n;cases n;exact Nat.le_refl _
 simp only[Bool.and_eq_true,beq_iff_eq,decide_eq_true_eq] at N
 cases a with
 | some b=>
  obtain ⟨f,w',g1,g2,g3,_,Y⟩:=run_append_own_at (P:=P) w w0.heap.size t y e i z sz p ts.h E o J M N.1 N.2 v xs.length cells s b ys.length l c Q (n3 b rfl) n4 (by simp only[maxLen];omega) hb D.bel.size
  exact q f w' g1 g2 g3 Y
 | none=>
  have hy:ys=[]:=List.eq_nil_of_length_eq_zero (by obtain ⟨a',W,e',q1,_,q3,_⟩:=X;injection e' with _ e2 e3;have:=U rfl;subst e3;omega)
  have H:=U rfl
  subst hy H
  have hn:c=[]:=List.eq_nil_of_length_eq_zero (by simpa using Q)
  subst hn
  have d:=s
  rcases s.2 with ⟨rfl,h0⟩ | ⟨g,l,al,rfl,an,hg,L,_⟩
  ·refine q (.slice none 0 0) w ?_ (by simpa using d) (World.grownBy.refl w _) (.inl rfl)
   simp[Builtin.append_,run_underlying ts.h,sizeOf,typeInfo,E,Builtin.lenOf,Builtin.firstCells]
  ·refine q _ w ?_ (by simpa using d) (World.grownBy.refl w _) (.inl rfl)
   simp[Builtin.append_,run_underlying ts.h,sizeOf,typeInfo,E,Builtin.lenOf,Builtin.firstCells,L,storeCells]
end
section
variable {α : Type} {R : Q5 → α → List Value → Prop} {sz : Nat} {e : TypeId} {σ σ0 : Q5} {v u : Value} {xs ys : List α}
theorem Q5.put_le {w:World} (d:X2 w σ) {b:Nat} (h:σ b=none) (o:Obj): ∀k p,σ k=some p→(σ.put b o) k=some p:=by
 intro k p c
 by_cases a:k=b
 ·subst a;rw[h] at c;cases c
 ·simp only[Q5.put,if_neg a];exact c
theorem Stp.put {b:Nat} {o:Obj} (c:Stp w0 σ0 w σ) (g:σ b=none) (h:w0.heap.size≤b) (f:w.heap[b]? =some o):Stp w0 σ0 w (σ.put b o):=by
 refine ⟨c.bel,?_,fun k p a=>Q5.put_le c.sat g o k p (c.le k p a),?_⟩
 ·intro k p a
  by_cases d:k=b
  ·subst d;simp only[Q5.put,if_true] at a;cases a;exact f
  ·simp only[Q5.put,if_neg d] at a;exact c.sat k p a
 ·intro k a
  simp only[Q5.put];rw[if_neg (by omega)];exact c.old k a
theorem V5.keep [hr:Rep R] (h:V5 w0.heap.size e sz R σ w v xs) (q:Stp w0 σ0 w σ): ∃σ',Stp w0 σ0 w σ'∧Sl sz R σ' v xs∧(∀k o,σ k=some o→σ' k=some o)∧(∀k,some k≠v.ownBlock→σ' k=σ k):=by
 obtain ⟨cells,s,H,y⟩:=h
 rcases s.2 with ⟨rfl,D⟩ | ⟨g,l,c,rfl,J,z,n,f,E,m⟩
 ·have:xs=[]:=List.eq_nil_of_length_eq_zero D
  subst this
  exact ⟨σ,q,Sl.nil,fun _ _ h=>h,fun _ _=>rfl⟩
 ·have t:=H g rfl
  have a:=Q5.put_le q.sat t (.cells c e (0,0))
  refine ⟨σ.put g (.cells c e (0,0)),q.put t J z,⟨_,l,rfl,n,f,by simp,?_⟩,a,?_⟩
  ·intro b p
   cases p
   refine ⟨fun _=>rfl,fun i x r=>⟨(cells.drop (i*sz)).take sz,⟨I6 rfl _,c,e,(0,0),by rw[S4];simp[Q5.put],?_⟩,?_,hr.up a (y i x r)⟩⟩
   ·intro j u d
    rw[A9]
    rw[List.getElem?_take] at d
    split at d
    ·rw[List.getElem?_drop,←m,List.getElem?_take] at d
     split at d
     ·simpa using d
     ·cases d
    ·cases d
   ·have C:i<xs.length:=(List.getElem?_eq_some_iff.1 r).1
    have h:i*sz+sz≤xs.length*sz:=by rw[←Nat.succ_mul];exact Nat.mul_le_mul_right _ C
    rw[List.length_take,List.length_drop,s.1];omega
  ·intro k A
   have:k≠g:=by intro e;subst e;exact A rfl
   simp only[Q5.put,if_neg this]
theorem Sl.piece {a:Option Addr} {n d:Nat} (h:Sl sz R σ (.slice a n d) xs) (l m:Nat) (O:l+m≤xs.length):Sl sz R σ (.slice (if d=l then a else a.map (·.add (l*sz))) m (d-l)) ((xs.drop l).take m):=by
 obtain ⟨N,p,r,M,L,A,j⟩:=h
 injection r with D E s
 subst D E s
 have c:((xs.drop l).take m).length=m:=by simp;omega
 refine ⟨_,d-l,by rw[c],by rw[c];omega,by omega,?_,?_⟩
 ·intro k
  split at k
  ·omega
  ·cases a with
   | none=>have:=A rfl;omega
   | some b=>simp at k
 ·intro b g
  split at g
  ·rename_i t
   obtain ⟨q,o⟩:=j b g
   have y:m=0:=by omega
   subst y
   exact ⟨fun h=>by simp at h,by simp⟩
  ·cases a with
   | none=>simp at g
   | some C=>
    simp only[Option.map_some,Option.some.injEq] at g
    obtain ⟨q,o⟩:=j C rfl
    subst g
    refine ⟨fun h=>I6 (q (by rw[c] at h;omega)) _,fun i x f=>?_⟩
    rw[List.getElem?_take] at f
    split at f
    ·rw[List.getElem?_drop] at f
     obtain ⟨cs,J,z,H⟩:=o _ _ f
     refine ⟨cs,?_,z,H⟩
     rw[Q3w,←Nat.add_mul];exact J
    ·cases f
theorem Es {t:TypeId} {g:Nat} {z:Value} [ts:TS P t e] [tz:TZ P e sz g z] (h:Sl sz R σ v xs) (d c:Option Value) (l m:Nat) (i:d=none∧l=0∨d=some (I l)) (j:c=none∧m=xs.length∨c=some (I m)) (f:l≤m) (r:m≤xs.length)
 (n: ∀k,Sl sz R σ k ((xs.drop l).take (m-l))→K k w):R6 P t v d c none w K:=by
 have o:=h
 obtain ⟨a,b,rfl,C,q,s,y⟩:=h
 have hh: ∀w:World,(Instr.sliceBounds true xs.length b d c none).run P w= .ok (l,m,b) w:=by
  intro w
  have A:(m:Int)≤b:=by omega
  have D:(l:Int)≤m:=by omega
  have p:m≤b:=by omega
  rcases i with ⟨rfl,rfl⟩ | rfl<;>rcases j with ⟨rfl,rfl⟩ | rfl<;>
   simp[Instr.sliceBounds,Instr.sliceBound,asIntOf,p,f]<;>intros<;>omega
 unfold R6
 have:(Instr.sliceAt t (.slice a xs.length b) d c none).run P w= .ok (.slice (if b=l then a else a.map (·.add (l*sz))) (m-l) (b-l)) w:=by
  simp[Instr.sliceAt,run_underlying ts.h,Instr.slice,hh,L3 tz]
 rw[X9 this]
 exact n _ (o.piece l (m-l) (by omega))
def en:Nat→List Value→List (Nat×Value)
 | _,[]=>[]
 | i,v::r=>(i,v)::en (i+1) r
theorem Q8Z (off:Nat): ∀(vs:List Value) (k:Nat) (cs:Array Value),off+k+vs.length≤cs.size→
 ((vs.zipIdx k).foldl (fun cs (p:Value×Nat)=>cs.setIfInBounds (off+p.2) p.1) cs).toList=cs.toList.take (off+k)++vs++cs.toList.drop (off+k+vs.length):=by
 intro vs
 induction vs with
 | nil=>intro k cs _;simp
 | cons v r ih=>
  intro k cs h
  simp only[List.length_cons] at h
  rw[List.zipIdx_cons,List.foldl_cons,ih (k+1) _ (by simp;omega)]
  simp only[Array.toList_setIfInBounds,List.length_cons]
  apply List.ext_getElem?
  intro i
  simp only[List.getElem?_append,List.length_take,List.length_set,Array.length_toList,List.getElem?_take,List.getElem?_drop,List.length_append,List.getElem?_set,List.length_cons]
  rcases Nat.lt_trichotomy i (off+k) with hi | hi | hi
  ·simp[show i<off+(k+1) by omega,hi,show i<min (off+(k+1)) cs.size by omega,show i<min (off+(k+1)) cs.size+r.length by omega,show i<min (off+k) cs.size by omega,show i<min (off+k) cs.size+(r.length+1) by omega,show off+k≠i by omega]
  ·subst hi
   simp[show off+k<off+(k+1) by omega,show off+k<min (off+(k+1)) cs.size by omega,show off+k<min (off+(k+1)) cs.size+r.length by omega,show¬off+k<min (off+k) cs.size by omega,show off+k<min (off+k) cs.size+(r.length+1) by omega,show off+k<cs.size by omega,show off+k-min (off+k) cs.size=0 by omega]
  ·by_cases h2:i<off+(k+1)+r.length
   ·simp[show¬i<min (off+(k+1)) cs.size by omega,show i<min (off+(k+1)) cs.size+r.length by omega,show¬i<min (off+k) cs.size by omega,show i<min (off+k) cs.size+(r.length+1) by omega,show i-min (off+k) cs.size=(i-min (off+(k+1)) cs.size)+1 by omega]
   ·simp only[show¬i<min (off+(k+1)) cs.size+r.length by omega,show¬i<min (off+k) cs.size+(r.length+1) by omega,if_false]
    rw[show off+(k+1)+r.length+(i-(min (off+(k+1)) cs.size+r.length))=i by omega,show off+k+(r.length+1)+(i-(min (off+k) cs.size+(r.length+1)))=i by omega,if_neg (by omega)]
theorem Q7C (sz:Nat): ∀(vs:List Value) (i:Nat) (cs:Array Value),(i+vs.length)*sz≤cs.size→(∀v∈vs,v.cells.size=sz)→
 ∃cs',Instr.fill (fun i=>some (i*sz,sz)) cs (en i vs)=some cs'∧cs'.toList=cs.toList.take (i*sz)++vs.flatMap (·.cells.toList)++cs.toList.drop ((i+vs.length)*sz):=by
 intro vs
 induction vs with
 | nil=>intro i cs _ _;exact ⟨cs,rfl,by simp⟩
 | cons v r ih=>
  intro i cs h hv
  have hv0:=hv v (by simp)
  simp only[List.length_cons] at h
  have h1:i*sz+sz≤cs.size:=by
   have:(i+1)*sz≤(i+(r.length+1))*sz:=Nat.mul_le_mul_right _ (by omega)
   rw[Nat.succ_mul] at this;omega
  have hset:=Q8Z (i*sz) v.cells.toList 0 cs (by simp;omega)
  simp only[Nat.add_zero] at hset
  have e1:v.cells.zipIdx.foldl (fun cs (p:Value×Nat)=>cs.setIfInBounds (i*sz+p.2) p.1) cs=(v.cells.toList.zipIdx 0).foldl (fun cs (p:Value×Nat)=>cs.setIfInBounds (i*sz+p.2) p.1) cs:=by
   rw[←Array.foldl_toList,Array.toList_zipIdx]
  have hsz':((v.cells.toList.zipIdx 0).foldl (fun cs (p:Value×Nat)=>cs.setIfInBounds (i*sz+p.2) p.1) cs).size=cs.size:=by
   rw[←Array.length_toList,hset]
   simp;omega
  obtain ⟨cs',q1,q2⟩:=ih (i+1) _ (by rw[hsz'];rw[show i+1+r.length=i+(r.length+1) by omega];exact h) (fun u hu=>hv u (by simp[hu]))
  refine ⟨cs',?_,?_⟩
  ·simp only[en,Instr.fill]
   rw[if_neg (by simp[hv0];omega)]
   rw[e1];exact q1
  ·rw[q2,hset]
   simp only[List.flatMap_cons,List.length_cons,Array.length_toList,hv0]
   have e2:(i+1)*sz=i*sz+sz:=by rw[Nat.succ_mul]
   have e3:(i+(r.length+1))*sz=i*sz+sz+r.length*sz:=by rw[Nat.add_mul,Nat.succ_mul];omega
   have e4:(i+1+r.length)*sz=i*sz+sz+r.length*sz:=by rw[Nat.add_mul,Nat.succ_mul]
   rw[e2,e3,e4]
   have t1:(cs.toList.take (i*sz)).length=i*sz:=by simp;omega
   have t2:(cs.toList.take (i*sz)++v.cells.toList).length=i*sz+sz:=by rw[List.length_append,t1];simp[hv0]
   have k1: ∀C:List Value,(cs.toList.take (i*sz)++v.cells.toList++C).take (i*sz+sz)=cs.toList.take (i*sz)++v.cells.toList:=by
    intro C
    rw[List.take_append_of_le_length (by omega),List.take_of_length_le (by omega)]
   have k2: ∀(C:List Value) (n:Nat),(cs.toList.take (i*sz)++v.cells.toList++C).drop (i*sz+sz+n)=C.drop n:=by
    intro C n
    rw[List.drop_append,t2,List.drop_eq_nil_of_le (by omega),List.nil_append]
    congr 1;omega
   rw[k1,k2,List.drop_drop]
   simp only[List.append_assoc]
theorem Hh {t:TypeId} {by_:Nat} {z:Value} [ts:TS P t e] [tz:TZ P e sz by_ z] (vs:List Value) (hv: ∀v∈vs,v.cells.size=sz) (hsm:vs.length*sz≤16777216) (w:World):
 ∃cells:Array Value,(Instr.buildSlice t vs.length (en 0 vs).toArray).run P w= .ok (.slice (some ⟨w.heap.size,0,none⟩) vs.length vs.length) (w.alloc (.cells cells e))∧cells.toList=vs.flatMap (·.cells.toList):=by
 have h2: ¬vs.length*sz>2 ^ 24:=by omega
 by_cases h:vs.length*sz=0
 ·obtain ⟨cells,hf,hl⟩:=Q7C sz vs 0 ((Array.range (vs.length*sz)).map ((#[]:Array Value)[· % (#[]:Array Value).size]!)) (by simp) hv
  refine ⟨cells,?_,by rw[hl];simp⟩
  simp only[Instr.buildSlice,Sem.run_bind,run_underlying ts.h,Result.andThen_ok,L3 tz,if_neg h2,if_pos h,Sem.run_pure,hf]
  simp[newRow]
 ·obtain ⟨cells,hf,hl⟩:=Q7C sz vs 0 ((Array.range (vs.length*sz)).map (z.cells[· % z.cells.size]!)) (by simp) hv
  refine ⟨cells,?_,by rw[hl];simp⟩
  simp only[Instr.buildSlice,Sem.run_bind,run_underlying ts.h,Result.andThen_ok,L3 tz,if_neg h2,if_neg h,Sem.run_pure,Zk tz,hf]
  simp[newRow]
theorem Q88 {vs:List Value} (d: ∀v∈vs,v.cells.size=sz) (i:Nat) (v:Value) (h:vs[i]? =some v):((vs.flatMap (·.cells.toList)).drop (i*sz)).take sz=v.cells.toList:=by
 induction vs generalizing i with
 | nil=>simp at h
 | cons a r f=>
  have b:=d a (by simp)
  cases i with
  | zero=>
   simp at h;subst h
   rw[List.flatMap_cons,Nat.zero_mul,List.drop_zero,List.take_append_of_le_length (by simp[b]),List.take_of_length_le (by simp[b])]
  | succ i=>
   rw[List.flatMap_cons,Nat.succ_mul,List.drop_append,List.drop_eq_nil_of_le (by simp[b]),List.nil_append]
   rw[show i*sz+sz-a.cells.toList.length=i*sz by simp[b]]
   exact f (fun v c=>d v (by simp[c])) i (by simpa using h)
theorem Q2n {vs:List Value} (b: ∀v∈vs,v.cells.size=sz):(vs.flatMap (·.cells.toList)).length=vs.length*sz:=by
 induction vs with
 | nil=>simp
 | cons a r c=>
  rw[List.flatMap_cons,List.length_append,c (fun v h=>b v (by simp[h]))]
  simp[b a (by simp),Nat.succ_mul,Nat.add_comm]
def Q0A (R:Q5→α→List Value→Prop) (σ:Q5):List Value→List α→Prop
 | [],[]=>True
 | v::vs,x::xs=>R σ x v.cells.toList∧Q0A R σ vs xs
 | _,_=>False
theorem Q0A.len {vs:List Value} (h:Q0A R σ vs xs):vs.length=xs.length:=by
 induction vs generalizing xs with
 | nil=>cases xs with
  | nil=>rfl
  | cons=>exact h.elim
 | cons v r a=>cases xs with
  | nil=>exact h.elim
  | cons x y=>simp[a h.2]
theorem Q0A.get {vs:List Value} (h:Q0A R σ vs xs) {i:Nat} {x:α} (a:xs[i]? =some x): ∃v,vs[i]? =some v∧R σ x v.cells.toList:=by
 induction vs generalizing xs i with
 | nil=>cases xs with
  | nil=>simp at a
  | cons=>exact h.elim
 | cons v r b=>cases xs with
  | nil=>exact h.elim
  | cons y ys=>
   cases i with
   | zero=>simp at a;subst a;exact ⟨v,rfl,h.1⟩
   | succ i=>obtain ⟨u,d,c⟩:=b h.2 (i:=i) (by simpa using a);exact ⟨u,by simpa using d,c⟩
theorem Yx {t:TypeId} {j:Nat} {z:Value} {n:Nat} {a:List (Nat×Value)} [ts:TS P t e] [tz:TZ P e sz j z] (m:Stp w0 σ0 w σ) (vs:List Value) (xs:List α) (r:n=vs.length) (y:a=en 0 vs) (c: ∀v∈vs,v.cells.size=sz) (b:(decide (0<sz)&&decide (vs.length*sz≤16777216))=true) (o:Q0A R σ vs xs)
 (h: ∀v w',Stp w σ w' σ→V5 w0.heap.size e sz R σ w' v xs→(∀k,v.ownBlock=some k→w.heap.size≤k)→K v w'):buildSlice P t n a w K:=by
 subst r y
 simp only[Bool.and_eq_true,decide_eq_true_eq] at b
 obtain ⟨l,b⟩:=b
 obtain ⟨cells,q,d⟩:=Hh (P:=P) (t:=t) vs c b w
 unfold buildSlice
 rw[X9 q]
 have f:=o.len
 refine h _ _ (Stp.own m.sat _) ⟨cells.toList,⟨by rw[d,Q2n c,f], .inr ⟨_,_,cells,by rw[f],m.bel.size,heap_alloc_new w _,by omega,?_,?_,?_⟩⟩,?_,?_⟩ ?_
 ·simp only[maxLen]
  have:vs.length*1≤vs.length*sz:=Nat.mul_le_mul_left _ l
  omega
 ·rw[←Array.length_toList,d,Q2n c,f]
 ·rw[List.take_of_length_le (by rw[d,Q2n c,f];exact Nat.le_refl _)]
 ·intro k g;cases g;exact m.sat.none (Nat.le_refl _)
 ·intro i x p
  obtain ⟨v,A,s⟩:=o.get p
  rw[d,Q88 c i v A];exact s
 ·intro k g;cases g;exact Nat.le_refl _
theorem T4 [Rep R] {t:TypeId} {b:Nat} {z:Value} {n:Nat} {a:List (Nat×Value)} [ts:TS P t e] [tz:TZ P e sz b z] (f:X2 w σ) (vs:List Value) (xs:List α) (k:n=vs.length) (o:a=en 0 vs) (j: ∀v∈vs,v.cells.size=sz) (c:(decide (0<sz)&&decide (vs.length*sz≤16777216))=true) (d:Q0A R σ vs xs)
 (h: ∀v w' σ',Stp w σ w' σ'→Sl sz R σ' v xs→K v w'):buildSlice P t n a w K:=by
 refine Yx (Stp.refl f) vs xs k o j c d fun v w' g l _=>?_
 obtain ⟨σ',m,i,_⟩:=l.keep g
 exact h v w' σ' m i
theorem X1S {t:TypeId} {k a:Nat} {c:TypeId} [tf:TF P t k a c] [tg:TG P c false] {cs:Array Value} {v:Value} (d:cs[a]? =some v):F2 P t (.agg cs) k w K=K v w:=by
 unfold F2
 have hh:=tf.h
 unfold Q3N at hh
 split at hh
 ·rename_i m g
  obtain ⟨f,j,b⟩:=Option.map_eq_some_iff.1 hh
  simp only[Prod.mk.injEq] at b
  obtain ⟨l,i⟩:=b
  subst i l
  exact X9 (by simp[Instr.field,run_underlying g,j,asAgg,part,Xu tg,d])
 ·cases hh
theorem Qa {f:Fn} {first caps:List Value}:E8 P f first caps w K=K (.func f first.toArray caps.toArray) w:=X9 (by simp[Instr.makeFunc])
theorem W0 {t:TypeId} {a:List (Nat×Value)} {cells:Array Value} (h:P.built t a=some cells) (b:K (.agg cells) w):H1 P t a w K:=by
 unfold H1
 rw[X9 (run_build w t a.toArray cells h)];exact b
end
def H2 (o:Option Obj) (m:List (List UInt8×Value)):Prop:=
 ∃b a,o=some (.map b a)∧b.toList.map (fun e=>(e.key,e.val))=m.map (fun p=>(S p.1,p.2))∧(b.toList.map (·.born)).Pairwise (· < ·)∧ ∀e∈b.toList,e.born<a
def C5 (m:List (List UInt8×Value)) (k:List UInt8):Option Value:=match m with
 | []=>none
 | p::r=>if p.1=k then some p.2 else C5 r k
def Wm (m:List (List UInt8×Value)) (k:List UInt8) (v:Value):List (List UInt8×Value):=match m with
 | []=>[(k,v)]
 | p::r=>if p.1=k then (k,v)::r else p::Wm r k v
theorem Ex (a b:List UInt8):((⟨a.toArray⟩:ByteArray)==⟨b.toArray⟩)=decide (a=b):=by
 rw[←Q3D]
 show (a.toArray==b.toArray)=_
 simp
theorem Ba (k:List UInt8): ∀(c:List MapEntry) (m:List (List UInt8×Value)) (i:Nat),c.map (fun e=>(e.key,e.val))=m.map (fun p=>(S p.1,p.2))→
 ∃r,Instr.findNow .string (S k) c i=some r∧r.map (·.2)=C5 m k∧(∀j v,r=some (j,v)→i≤j∧(∃e,c[j-i]? =some e∧e.key=S k)∧ ∀u,(c.modify (j-i) fun e=>{e with key:=S k,val:=u}).map (fun e=>(e.key,e.val))=(Wm m k u).map (fun p=>(S p.1,p.2)))∧
  (r=none→ ∀u,Wm m k u=m++[(k,u)]):=by
 intro c
 induction c with
 | nil=>
  intro m i h
  cases m with
  | nil=>exact ⟨none,rfl,rfl,(by simp),fun _ u=>rfl⟩
  | cons=>simp at h
 | cons e r y=>
  intro m i h
  cases m with
  | nil=>simp at h
  | cons p q=>
   simp only[List.map_cons,List.cons.injEq,Prod.mk.injEq] at h
   obtain ⟨⟨f,l⟩,g⟩:=h
   simp only[Instr.findNow,f,Instr.sameNow,Ex]
   by_cases a:p.1=k
   ·have d:decide (k=p.1)=true:=by simp[a]
    simp only[d]
    refine ⟨_,rfl,by simp[C5,a,l],?_,by simp⟩
    intro j v b
    cases b
    refine ⟨Nat.le_refl _,⟨e,by simp,by rw[f,a]⟩,fun u=>?_⟩
    simp[Wm,a,g]
   ·have d:decide (k=p.1)=false:=by simp;exact fun e=>a e.symm
    simp only[d]
    obtain ⟨t,D,z,n,s⟩:=y q (i+1) g
    refine ⟨t,D,by simp[C5,a,z],?_,?_⟩
    ·intro j v b
     obtain ⟨E,C,A⟩:=n j v b
     refine ⟨by omega,by rw[show j-i=(j-(i+1))+1 by omega];simpa using C,fun u=>?_⟩
     have:=A u
     rw[show j-i=(j-(i+1))+1 by omega]
     simp[Wm,a,f,l,this]
    ·intro o u
     simp[Wm,a,s o u]
theorem I2 {t:TypeId} (a:P.underlying t=some .string) (b:Bool) (k:List UInt8) (w:World):(Instr.checkKey b 10000 t (S k)).run P w= .ok () w:=by
 unfold Instr.checkKey
 simp[run_underlying a]
theorem Q2B {t i f:TypeId} {sz d:Nat} {z:Value} [tm:TM P t i f] [tz:TZ P f sz d z] (b:P.underlying i=some .string) {r:Nat} {m:List (List UInt8×Value)} (n:H2 (w.heap[r]?) m) (k:List UInt8):
 lookup P t (.map (some r)) (S k) true w K=K (match C5 m k with | some v=> .tuple #[v, .bool true] | none=> .tuple #[z, .bool false]) w:=by
 obtain ⟨g,a,o,s,y,C⟩:=n
 obtain ⟨q,j,c,A,D⟩:=Ba k g.toList m 0 s
 unfold lookup
 refine X9 ?_
 simp only[Instr.lookup,Sem.run_bind,run_underlying tm.h,Result.andThen_ok,Instr.findKey,run_underlying b,j,I2 b]
 have l:(getObj r).run P w= .ok (.map g a) w:=by simp[getObj,Sem.run,o]
 simp only[l,Result.andThen_ok,Sem.run_bind,Sem.run_pure,I2 b,run_underlying b,j]
 cases q with
 | none=>simp at c;rw[←c];simp[Zk tz]
 | some p=>simp at c;rw[←c];simp
theorem Q4q {t i d:TypeId} {sz c:Nat} {z:Value} [tm:TM P t i d] [tz:TZ P d sz c z] (f:P.underlying i=some .string) {r:Nat} {m:List (List UInt8×Value)} (l:H2 (w.heap[r]?) m) (k:List UInt8):
 lookup P t (.map (some r)) (S k) false w K=K ((C5 m k).getD z) w:=by
 obtain ⟨g,a,n,q,y,C⟩:=l
 obtain ⟨o,s,b,A,D⟩:=Ba k g.toList m 0 q
 unfold lookup
 refine X9 ?_
 have j:(getObj r).run P w= .ok (.map g a) w:=by simp[getObj,Sem.run,n]
 simp only[Instr.lookup,Sem.run_bind,run_underlying tm.h,Result.andThen_ok,Instr.findKey,run_underlying f,s,I2 f,j,Sem.run_pure]
 cases o with
 | none=>simp at b;rw[←b];simp[Zk tz]
 | some p=>simp at b;rw[←b];simp
def C2 (σ:Q5) (w:World) (r:Nat) (m:List (List UInt8×Value)):Prop:=σ r=none∧H2 (w.heap[r]?) m
def Xf (σ:Q5) (r:Nat) (m:List (List UInt8×Value)):Prop:=H2 (σ r) m
theorem Xf.is {σ:Q5} {r:Nat} {m:List (List UInt8×Value)} (h:Xf σ r m) (c:X2 w σ):H2 (w.heap[r]?) m:=by
 obtain ⟨b,a,d,f⟩:=h
 exact ⟨b,a,c _ _ d,f⟩
theorem Xf.le {σ σ':Q5} {r:Nat} {m:List (List UInt8×Value)} (h:Xf σ r m) (d: ∀b o,σ b=some o→σ' b=some o):Xf σ' r m:=by
 obtain ⟨c,a,f,g⟩:=h
 exact ⟨c,a,d _ _ f,g⟩
theorem Xf.up {σ σ':Q5} {r:Nat} {m:List (List UInt8×Value)} (h:Xf σ r m) (a:Stp w σ w' σ'):Xf σ' r m:=h.le a.le
theorem C2.lt {σ:Q5} {r:Nat} {m:List (List UInt8×Value)} (h:C2 σ w r m):r<w.heap.size:=by
 obtain ⟨_,c,a,b,_⟩:=h
 exact (Array.getElem?_eq_some_iff.1 b).1
theorem C2.up {σ σ':Q5} {r:Nat} {m:List (List UInt8×Value)} (h:C2 σ w r m) (a:Stp w σ w' σ'):C2 σ' w' r m:=by
 have b:=h.lt
 exact ⟨(a.old r b).trans h.1,(a.bel.block r b).symm▸h.2⟩
theorem Q3h {t:TypeId} {σ:Q5} (a:X2 w σ) (h: ∀r w',w.heap.size≤r→Stp w σ w' σ→C2 σ w' r []→K (.map (some r)) w'):Pk P t none w K:=by
 unfold Pk
 rw[X9 (v:= .map (some w.heap.size)) (w':=w.alloc (.map #[] 0)) (by simp[Instr.makeMap])]
 exact h _ _ (Nat.le_refl _) (Stp.own a _) ⟨a.none (Nat.le_refl _), #[],0,heap_alloc_new w _,rfl,by simp,by simp⟩
theorem C2.keep {σ σ0:Q5} {r:Nat} {m:List (List UInt8×Value)} (h:C2 σ w r m) (b:Stp w0 σ0 w σ) (f:w0.heap.size≤r): ∃σ',Stp w0 σ0 w σ'∧Xf σ' r m∧(∀k o,σ k=some o→σ' k=some o)∧(∀k,k≠r→σ' k=σ k):=by
 obtain ⟨d,c,a,i,j⟩:=h
 exact ⟨σ.put r (.map c a),b.put d f i,⟨c,a,by simp[Q5.put],j⟩,Q5.put_le b.sat d _,fun k g=>by simp only[Q5.put,if_neg g]⟩
theorem Pp {t V et:TypeId} [tm:TM P t V et] (z:P.underlying V=some .string) {σ:Q5} {r:Nat} {m:List (List UInt8×Value)} (hm:C2 σ w r m) (k:List UInt8) (v:Value)
 (h: ∀w',Upd w r w'→C2 σ w' r (Wm m k v)→K undef w'):mapUpdate P t (.map (some r)) (S k) v w K:=by
 obtain ⟨M,l,d,D,O,J,E⟩:=hm
 obtain ⟨r',W,q2,Y,q4⟩:=Ba k l.toList m 0 O
 have L:(getObj r).run P w= .ok (.map l d) w:=by simp[getObj,Sem.run,D]
 have hl:=(Array.getElem?_eq_some_iff.1 D).1
 have n: ∀o,o=Obj.map l d∨True→(∀c e f,o≠ .cells c e f)→(setObj r o).run P w= .ok () {w with heap:=w.heap.setIfInBounds r o}:=by
  intro o _ _
  simp[setObj,Sem.run,D]
 have A: ∀o,Upd w r {w with heap:=w.heap.setIfInBounds r o}:=fun o=>⟨rfl,rfl,rfl,by simp,fun k z=>by simp only[Array.getElem?_setIfInBounds];rw[if_neg (by omega)]⟩
 have C: ∀o,({w with heap:=w.heap.setIfInBounds r o}:World).heap[r]? =some o:=fun o=>by simp[Array.getElem?_setIfInBounds,hl]
 unfold mapUpdate
 cases r' with
 | none=>
  rw[Li (w':={w with heap:=w.heap.setIfInBounds r (.map (l.push {key:=S k,val:=v,born:=d}) (d+1))}) (by
   simp only[Instr.mapUpdate,Sem.run_bind,run_underlying tm.h,Result.andThen_ok,Instr.findKey,run_underlying z,W,I2 z,L,Sem.run_pure]
   exact n _ (.inr trivial) (by intros;simp))]
  refine h _ (A _) ⟨M,_,_,C _,?_,?_,?_⟩
  ·rw[q4 rfl];simp[O]
  ·simp only[Array.toList_push,List.map_append,List.map_cons,List.map_nil]
   rw[List.pairwise_append]
   refine ⟨J,by simp,?_⟩
   intro a ha b Q
   simp at Q;subst Q
   obtain ⟨e,s,rfl⟩:=List.mem_map.1 ha
   exact E e s
  ·intro e s
   simp at s
   rcases s with s | rfl
   ·have:=E e (by simpa using s);omega
   ·simp
 | some p=>
  obtain ⟨j,u⟩:=p
  obtain ⟨z1,z2,U⟩:=Y j u rfl
  obtain ⟨e,N,e2⟩:=z2
  simp only[Nat.sub_zero] at N U
  have g:((l.modify j fun e=>{e with key:=S k,val:=v}).toList.map (·.born))=l.toList.map (·.born):=by
   apply List.ext_getElem?
   intro i
   simp only[Array.toList_modify,List.getElem?_map,List.getElem?_modify]
   by_cases H:j=i<;>cases l.toList[i]? <;>simp[H]
  have q:(Instr.keyThatStays (S k) (S k)).run P w= .ok (S k) w:=by
   simp[Instr.keyThatStays,Instr.sameBits,Ex]
  rw[Li (w':={w with heap:=w.heap.setIfInBounds r (.map (l.modify j fun e=>{e with key:=S k,val:=v}) d)}) (by
   simp only[Instr.mapUpdate,Sem.run_bind,run_underlying tm.h,Result.andThen_ok,Instr.findKey,run_underlying z,W,I2 z,L,Sem.run_pure]
   rw[show ((l[j]?).map (·.key)).getD (S k)=S k by rw[←Array.getElem?_toList,N];simp[e2]]
   simp only[q,Result.andThen_ok]
   exact n _ (.inr trivial) (by intros;simp))]
  refine h _ (A _) ⟨M,_,_,C _,?_,?_,?_⟩
  ·simp only[Array.toList_modify];exact U v
  ·rw[g];exact J
  ·intro x X
   have:x.born∈l.toList.map (·.born):=by rw[←g];exact List.mem_map.2 ⟨x,X,rfl⟩
   obtain ⟨y,Z,e⟩:=List.mem_map.1 this
   rw[←e];exact E y Z
end Go.Emb

namespace Go.Emb
open Go.RowKit
variable {P : Program} {w w0 w1 w' w'' : World} {K : Value → World → Prop}
theorem Z8 {c b:Bool} {a:World→(Value→World→Prop)→Prop} (e:c=b→a w K) (d:c=(!b)→K undef w):Q0 (.bool c) b w a K:=by
 cases c<;>cases b
 ·rw[W7];exact e rfl
 ·rw[E1];exact d rfl
 ·rw[S1];exact d rfl
 ·rw[W5];exact e rfl
theorem Q7 {c:Bool} {t e:Prop} (b:c=true→t) (a:c=false→e):X1 (.bool c) t e:=by
 cases c
 ·rw[M3];exact a rfl
 ·rw[H5];exact b rfl
theorem Q8 {α:Type} {R:Q5→α→List Value→Prop} {sz:Nat} {σ:Q5} {v:Value} {xs:List α} {a e t:TypeId} {cs:List Bool} [ts:TS P a e] (h:Sl sz R σ v xs) (b:K (I xs.length) w):X3 P .len [a] t cs [v] w K:=by
 rw[X2G h];exact b
structure Kpt (D : Nat → Prop) (w w' : World) : Prop where
  os : w'.os = w.os
  tape : w'.tape = w.tape
  output : w'.output = w.output
  size : w.heap.size ≤ w'.heap.size
  block : ∀ k, k < w.heap.size → ¬ D k → w'.heap[k]? = w.heap[k]?
theorem Kpt.refl {D:Nat→Prop}:Kpt D w w:=⟨rfl,rfl,rfl,Nat.le_refl _,fun _ _ _=>rfl⟩
theorem Kpt.trans {D:Nat→Prop} (h:Kpt D w w') (k:Kpt D w' w''):Kpt D w w'':=
 ⟨k.os.trans h.os,k.tape.trans h.tape,k.output.trans h.output,Nat.le_trans h.size k.size,fun i a b=>(k.block i (Nat.lt_of_lt_of_le a h.size) b).trans (h.block i a b)⟩
theorem Kpt.of_below {D:Nat→Prop} (h:Below w.heap.size w w'):Kpt D w w':=⟨h.os,h.tape,h.output,h.size,fun k a _=>h.block k a⟩
theorem Kpt.of_grown {D:Nat→Prop} {row:Option Nat} (h:w.grownBy w' row) (a: ∀k,row=some k→D k):Kpt D w w':=⟨h.os,h.tape,h.output,h.size,fun k b c=>h.block k b (fun e=>c (a k e.symm))⟩
theorem Kpt.of_upd {D:Nat→Prop} {b:Nat} (h:Upd w b w') (a:D b):Kpt D w w':=⟨h.os,h.tape,h.output,by rw[h.size];exact Nat.le_refl _,fun k d c=>h.block k (fun e=>c (e▸a))⟩
theorem Kpt.mono {D D':Nat→Prop} (h:Kpt D w w') (c: ∀k,k<w.heap.size→D k→D' k):Kpt D' w w':=⟨h.os,h.tape,h.output,h.size,fun k a b=>h.block k a (fun e=>b (c k a e))⟩
theorem Kpt.below {D:Nat→Prop} (h:Kpt D w w') (b: ∀k,¬D k):Below w.heap.size w w':=⟨h.os,h.tape,h.output,h.size,fun k a=>h.block k a (b k)⟩
theorem Stp.kp {σ0 σ:Q5} {D:Nat→Prop} (a:Stp w0 σ0 w σ) (b:Kpt D w w') (f: ∀k,D k→w0.heap.size≤k∧σ k=none):Stp w0 σ0 w' σ:=by
 refine ⟨⟨b.os.trans a.bel.os,b.tape.trans a.bel.tape,b.output.trans a.bel.output,Nat.le_trans a.bel.size b.size,fun k c=>?_⟩,?_,a.le,a.old⟩
 ·refine (b.block k (Nat.lt_of_lt_of_le c a.bel.size) ?_).trans (a.bel.block k c)
  intro e;have:=(f k e).1;omega
 ·intro k o d
  refine (b.block k (a.sat.lt d) ?_).trans (a.sat k o d)
  intro e;rw[(f k e).2] at d;cases d
theorem Y1.kp {σ:Q5} {D:Nat→Prop} {k:Nat} {cs:List Value} (h:Y1 σ w k cs) (c:Kpt D w w') (a: ¬D k):Y1 σ w' k cs:=by
 have b:=h.lt
 obtain ⟨f,e,d⟩:=h
 exact ⟨f,e,(c.block k b a).trans d⟩
theorem C2.kp {σ:Q5} {D:Nat→Prop} {r:Nat} {m:List (List UInt8×Value)} (h:C2 σ w r m) (b:Kpt D w w') (a: ¬D r):C2 σ w' r m:=
 ⟨h.1,(b.block r h.lt a).symm▸h.2⟩
theorem V5.kp {α:Type} {R:Q5→α→List Value→Prop} {B sz:Nat} {e:TypeId} {σ:Q5} {v:Value} {xs:List α} {D:Nat→Prop} (h:V5 B e sz R σ w v xs) (l:Kpt D w w') (c: ∀k,v.ownBlock=some k→ ¬D k):V5 B e sz R σ w' v xs:=by
 obtain ⟨cells,i,n,j⟩:=h
 refine ⟨cells,⟨i.1,?_⟩,n,j⟩
 rcases i.2 with m | ⟨g,b,d,rfl,o,f,a⟩
 ·exact .inl m
 ·refine .inr ⟨g,b,d,rfl,o,?_,a⟩
  rw[l.block g (Array.getElem?_eq_some_iff.1 f).1 (c g rfl)];exact f
theorem bt {w w1 a:World} (b:Below w.heap.size w w1) (c:Below w1.heap.size w1 a):Below w.heap.size w a:=b.trans (c.mono b.size)
abbrev U0:Nat:=140737488351232
def U7 (_:Q5) (s:List UInt8) (cs:List Value):Prop:=cs=[S s]∧s.length≤U0
instance:Rep U7:=⟨fun _ h=>h,fun h u hu=>by rw[h.1] at hu;simp at hu;subst hu;rfl⟩
def Wk (_:Q5) (n:Int) (cs:List Value):Prop:=cs=[I n]∧ -9223372036854775808≤n∧n≤9223372036854775807
instance:Rep Wk:=⟨fun _ h=>h,fun h u hu=>by rw[h.1] at hu;simp at hu;subst hu;rfl⟩
def Q3p (_:Q5) (b:Bool) (cs:List Value):Prop:=cs=[.bool b]
instance:Rep Q3p:=⟨fun _ h=>h,fun h u hu=>by rw[h] at hu;simp at hu;subst hu;rfl⟩
def UpI (N:Nat) (a:Nat→World→Prop) (x:Value) (w:World):Prop:= ∃n:Nat,x=I n∧n≤N∧a n w
def Ti (N:Nat) (x:Value):Nat:=match x with | .int _ n=>N-n.toNat | _=>0
theorem U1 {A:(Value→World→Prop)→Value→(Nat→Value)→World→Prop} (N:Nat) (a:Nat→World→Prop) (e:a 0 w)
 (b: ∀n w d,n≤N→a n w→A (fun y w'=>UpI N a y w'∧Ti N y<Ti N (I n)) (I n) d w):lp (α:=Value) (.int .i64 0) w A:=by
 refine Wc (UpI N a) (fun x _=>Ti N x) ⟨0,rfl,Nat.zero_le _,e⟩ ?_
 rintro _ d w' ⟨n,rfl,f,c⟩
 exact b n w' d f c
theorem Y5 {N n:Nat} {a:Nat→World→Prop} (d:N≤9223372036854775807) (c:n<N) (b:a (n+1) w):UpI N a (.int .i64 (IntKind.i64.wrap (n+1))) w∧Ti N (.int .i64 (IntKind.i64.wrap (n+1)))<Ti N (I n):=by
 rw[G3 (by omega) (by omega)]
 exact ⟨⟨n+1,rfl,c,b⟩,by simp only[Ti];omega⟩
def Bk {α:Type} (N:Nat) (a:Nat→α→World→Prop) (x:α×Value) (w:World):Prop:= ∃n:Nat,x.2=I n∧n≤N∧a n x.1 w
def Mz {α:Type} (N:Nat) (x:α×Value):Nat:=Ti N x.2
theorem E3 {α:Type} {A:(α×Value→World→Prop)→α×Value→(Nat→Value)→World→Prop} {a:α} (N:Nat) (b:Nat→α→World→Prop) (g:b 0 a w)
 (c: ∀n a w d,n≤N→b n a w→A (fun y w'=>Bk N b y w'∧Mz N y<Mz N (a,I n)) (a,I n) d w):lp (α:=α×Value) (a, .int .i64 0) w A:=by
 refine Wc (Bk N b) (fun x _=>Mz N x) ⟨0,rfl,Nat.zero_le _,g⟩ ?_
 rintro ⟨a,x⟩ d w' ⟨n,e,h,f⟩
 simp only at e f
 subst e
 exact c n a w' d h f
theorem Z9 {α:Type} {a c:α} {N n:Nat} {b:Nat→α→World→Prop} (f:N≤9223372036854775807) (e:n<N) (d:b (n+1) c w):Bk N b (c, .int .i64 (IntKind.i64.wrap (n+1))) w∧Mz N (c, .int .i64 (IntKind.i64.wrap (n+1)))<Mz N (a,I n):=by
 rw[G3 (by omega) (by omega)]
 exact ⟨⟨n+1,rfl,e,d⟩,by simp only[Mz,Ti];omega⟩
theorem M7 {α:Type} {R:Q5→α→List Value→Prop} {sz:Nat} {σ:Q5} {v:Value} {xs:List α} {t e:TypeId} {b:Nat} {z:Value} [TS P t e] [TZ P e sz b z] (h:Sl sz R σ v xs) {n:Nat} (g:n<xs.length)
 (d: ∀a cs,Z4 σ a cs→cs.length=sz→R σ xs[n] cs→K (.pointer (some a)) w):indexAddr P t v (I n) w K:=
 X3E h (by omega) (by simpa using g) (fun a cs f i c=>d a cs f i (by simpa using c))
theorem Y7 {t:TypeId} {sz e:Nat} {z:Value} {A:Value→Value→World→Prop} [tz:TZ P t sz e z] {σ:Q5} {cs:List Value} (j:X2 w σ) (r:z.cells.size=sz) (s:cs.length=sz) (l: ∀u∈cs,u.oneCell'=true)
 (h: ∀a w' d,Stp w σ w' d→Z4 d a cs→A (.pointer (some a)) undef w'):V9 P t w (fun p w=>Y0 P t p (.agg cs.toArray) w (fun u w=>A p u w)):=by
 refine Ks j fun b w1 g i f=>?_
 refine Oc f (by simpa using r) s (by rw[List.all_toArray];exact List.all_eq_true.2 l) fun m q c=>?_
 have o:Stp w σ m σ:=q.stp i g f.1
 obtain ⟨d,n,k,_⟩:=c.keep o g
 exact h _ _ _ n k
theorem U6 {t:TypeId} {f:Nat} {z:Value} {A:Value→Value→World→Prop} [tz:TZ P t 1 f z] {σ:Q5} {v:Value} (k:X2 w σ) (y:z.cells.size=1) (n:v.cells= #[v]) (m:v.oneCell'=true)
 (h: ∀a w' d,Stp w σ w' d→Z4 d a [v]→A (.pointer (some a)) undef w'):V9 P t w (fun p w=>Y0 P t p v w (fun u w=>A p u w)):=by
 refine Ks k fun b w1 i j g=>?_
 have B:z.cells.toList.length=1:=by simpa using y
 refine st0 g (by omega) n m fun o s c=>?_
 have r:Stp w σ o σ:=s.stp j i g.1
 have e:z.cells.toList.set 0 v=[v]:=by
  match hzl:z.cells.toList,B with
  | [x],_=>rfl
 rw[e] at c
 obtain ⟨d,q,l,_⟩:=c.keep r i
 exact h _ _ _ q l
theorem L2 {α:Type} {xs:List α} {p:α→Bool} {n:Nat} (h:n<xs.length):(xs.take (n+1)).any p=((xs.take n).any p||p xs[n]):=by
 rw[List.take_add_one,List.getElem?_eq_getElem h,List.any_append];simp
theorem S5 {α:Type} {xs:List α} {p:α→Bool} {n:Nat} (h:n<xs.length) (a:p xs[n]=true):xs.any p=true:=List.any_eq_true.2 ⟨_,List.getElem_mem h,a⟩
theorem E2 {α:Type} {xs:List α} {p:α→Bool} {n:Nat} (h: ¬n<xs.length):(xs.take n).any p=xs.any p:=by rw[List.take_of_length_le (by omega)]
end Go.Emb

namespace Go.Hm
open Go.Kd
structure Fld where
  name : X0
  kind : X0
  tr : Bool
deriving DecidableEq
structure Ins where
  op : X0
  n : Int
  s : X0
deriving DecidableEq
structure Cat where
  frm : Int
  to : Int
  at_ : Int
  cls : X0
deriving DecidableEq
structure Met where
  name : X0
  params : List X0
  result : X0
  abs : Bool
  locals : Int
  code : List Ins
  catches : List Cat
deriving DecidableEq
structure Cla where
  name : X0
  super : X0
  like : List X0
  iface : Bool
  abs : Bool
  fin : Bool
  fields : List Fld
  methods : List Hm.Met
deriving DecidableEq
def Fld.zero:Fld:=⟨[],[],false⟩
def Met.zero:Hm.Met:=⟨[],[],[],false,0,[],[]⟩
def Cla.zero:Cla:=⟨[],[],[],false,false,false,[],[]⟩
end Go.Hm

namespace Go.Emb
open Go.RowKit Go.Hm
abbrev Yu (n:Int):Prop:= -9223372036854775808≤n∧n≤9223372036854775807
def R7 (_:Q5) (f:Fld) (cs:List Value):Prop:=cs=[S f.name,S f.kind, .bool f.tr]∧f.name.length≤U0∧f.kind.length≤U0
def Qp (_:Q5) (i:Ins) (cs:List Value):Prop:=cs=[S i.op,I i.n,S i.s]∧i.op.length≤U0∧Yu i.n∧i.s.length≤U0
def Jw (_:Q5) (c:Cat) (cs:List Value):Prop:=cs=[I c.frm,I c.to,I c.at_,S c.cls]∧Yu c.frm∧Yu c.to∧Yu c.at_∧c.cls.length≤U0
def E7 (σ:Q5) (m:Hm.Met) (cs:List Value):Prop:= ∃pv b a,cs=[S m.name,pv,S m.result, .bool m.abs,I m.locals,b,a]∧Sl 1 U7 σ pv m.params∧Sl 3 Qp σ b m.code∧Sl 4 Jw σ a m.catches∧m.name.length≤U0∧m.result.length≤U0∧Yu m.locals
def V0 (σ:Q5) (c:Cla) (cs:List Value):Prop:= ∃a b mv,cs=[S c.name,S c.super,a, .bool c.iface, .bool c.abs, .bool c.fin,b,mv]∧Sl 1 U7 σ a c.like∧Sl 3 R7 σ b c.fields∧Sl 7 E7 σ mv c.methods∧c.name.length≤U0∧c.super.length≤U0
theorem A0 {α:Type} {sz:Nat} {R:Q5→α→List Value→Prop} {σ:Q5} {v:Value} {xs:List α} (h:Sl sz R σ v xs):v.oneCell'=true:=by
 obtain ⟨a,b,rfl,_⟩:=h;rfl
instance:Rep R7:=⟨fun _ h=>h,fun h u hu=>by rw[h.1] at hu;simp at hu;rcases hu with rfl | rfl | rfl<;>rfl⟩
instance:Rep Qp:=⟨fun _ h=>h,fun h u hu=>by rw[h.1] at hu;simp at hu;rcases hu with rfl | rfl | rfl<;>rfl⟩
instance:Rep Jw:=⟨fun _ h=>h,fun h u hu=>by rw[h.1] at hu;simp at hu;rcases hu with rfl | rfl | rfl | rfl<;>rfl⟩
instance:Rep E7:=⟨fun hk ⟨pv,cv,hv,h1,h2,h3,h4,h5⟩=>⟨pv,cv,hv,h1,h2.le hk,h3.le hk,h4.le hk,h5⟩,fun ⟨pv,cv,hv,h1,h2,h3,h4,h5⟩ u hu=>by
 rw[h1] at hu;simp at hu;rcases hu with rfl | rfl | rfl | rfl | rfl | rfl | rfl
 ·rfl
 ·exact A0 h2
 ·rfl
 ·rfl
 ·rfl
 ·exact A0 h3
 ·exact A0 h4⟩
instance:Rep V0:=⟨fun hk ⟨pv,cv,hv,h1,h2,h3,h4,h5⟩=>⟨pv,cv,hv,h1,h2.le hk,h3.le hk,h4.le hk,h5⟩,fun ⟨pv,cv,hv,h1,h2,h3,h4,h5⟩ u hu=>by
 rw[h1] at hu;simp at hu;rcases hu with rfl | rfl | rfl | rfl | rfl | rfl | rfl | rfl
 ·rfl
 ·rfl
 ·exact A0 h2
 ·rfl
 ·rfl
 ·rfl
 ·exact A0 h3
 ·exact A0 h4⟩
end Go.Emb
