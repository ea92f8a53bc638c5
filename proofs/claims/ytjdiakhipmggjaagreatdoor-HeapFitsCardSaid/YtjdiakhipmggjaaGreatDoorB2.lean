/- Parts of a proof about the given program: its functions as texts of their own, what each computes, plain laws of that. The conditions of each stand in its statement. -/
import Derived.Test.YtjdiakhipmggjaaGreatDoorB1
import Derived.Below
import Derived.Maps.AppendAt
set_option linter.unnecessarySimpa false
set_option linter.defProp false
set_option linter.unusedSectionVars false
set_option linter.unusedVariables false
set_option linter.unusedSimpArgs false
set_option maxRecDepth 100000
namespace Go.Proofs.YtjdiakhipmggjaaGreatDoor
open Go.Emb
def Q0a:V9:=[none,none,none,none,none,none,some ([38],[4,5,6,38,39,40,41,42,43,44,45,46,47,48,49,50,51]),none,none,none,none,none,none,none]
def Oc (a0 a1:Value) (w:World) (K:Value→World→Prop):Prop:= box P T.o a1 w fun e w=>dr w fun b d=>Q5 b (fun φ7=> ∀w,d w→fieldAddr P T.o e 0 w (dk b φ7 w)) fun φ7=>Q5 b (fun φ8=> ∀t7 w,d w→φ7 t7 w→Q2 P T.c t7 w (dk b φ8 w)) fun φ8=>Q5 b (fun φ9=> ∀t8 w,d w→φ8 t8 w→Q1 P F.c5 [t8] w (dk b φ9 w)) fun φ9=>Q5 b (fun g=> ∀t9 w,d w→φ9 t9 w→Q3 P .eql T.c (.tmp 9) (.const (.string ⟨#[]⟩)) t9 (.string ⟨#[]⟩) w (dk b g w)) fun g=>Q5 b (fun l=> ∀c w,d w→g c w→Q0 c true w (fun w J=>J a0 w) (dk b l w)) fun l=>Q5 b (fun af=> ∀c E w,d w→g c w→l E w→Q0 c true w (nilCheck P E) (dk b af w)) fun af=>Q5 b (fun r=> ∀c B w,d w→g c w→af B w→Q0 c true w (fieldAddr P T.p B 0) (dk b r w)) fun r=>Q5 b (fun ah=> ∀c w,d w→g c w→Q0 c true w (fieldAddr P T.o e 0) (dk b ah w)) fun ah=>Q5 b (fun ag=> ∀c O w,d w→g c w→r O w→Q0 c true w (Q2 P T.r O) (dk b ag w)) fun ag=>Q5 b (fun A=> ∀c y w,d w→g c w→ah y w→Q0 c true w (Q2 P T.c y) (dk b A w)) fun A=>Q5 b (fun M=> ∀c Q ad w,d w→g c w→ag Q w→A ad w→Q0 c true w (Q1 P F.aE [Q,ad]) (dk b M w)) fun M=>Q5 b (fun aa=> ∀c o w,d w→g c w→M o w→Q0 c true w (J9 P .not o) (dk b aa w)) fun aa=>Q5 b (fun f=> ∀c p w,d w→g c w→aa p w→Q0 c true w (fun w J=>J p w) (dk b f w)) fun f=>Q5 b (fun m=> ∀a w,d w→f a w→Q0 a false w (fieldAddr P T.o e 1) (dk b m w)) fun m=>Q5 b (fun k=> ∀a w,d w→f a w→Q0 a false w (fun w J=>J a0 w) (dk b k w)) fun k=>Q5 b (fun z=> ∀a n w,d w→f a w→k n w→Q0 a false w (nilCheck P n) (dk b z w)) fun z=>Q5 b (fun q=> ∀a Y w,d w→f a w→z Y w→Q0 a false w (fieldAddr P T.p Y 0) (dk b q w)) fun q=>Q5 b (fun W=> ∀a w,d w→f a w→Q0 a false w (fieldAddr P T.o e 0) (dk b W w)) fun W=>Q5 b (fun L=> ∀a V w,d w→f a w→m V w→Q0 a false w (Q2 P T.l V) (dk b L w)) fun L=>Q5 b (fun am=> ∀a ai w,d w→f a w→L ai w→Q0 a false w (X3 P .len [T.l] T.e [false] [ai]) (dk b am w)) fun am=>Q5 b (fun ae=> ∀a t w,d w→f a w→q t w→Q0 a false w (Q2 P T.r t) (dk b ae w)) fun ae=>Q5 b (fun H=> ∀a Z w,d w→f a w→W Z w→Q0 a false w (Q2 P T.c Z) (dk b H w)) fun H=>Q5 b (fun U=> ∀a s i w,d w→f a w→ae s w→H i w→Q0 a false w (Q1 P F.a2 [s,i]) (dk b U w)) fun U=>Q5 b (fun al=> ∀a C w,d w→f a w→U C w→Q0 a false w (X3 P .len [T.k] T.e [false] [C]) (dk b al w)) fun al=>∀t7 t8 t9 c E B O y Q ad o p a V n Y t Z ai az s i C ar w,d w→φ7 t7 w→φ8 t8 w→φ9 t9 w→g c w→l E w→af B w→r O w→ah y w→ag Q w→A ad w→M o w→aa p w→f a w→m V w→k n w→z Y w→q t w→W Z w→L ai w→am az w→ae s w→H i w→U C w→al ar w→ Q0 a false w (Q3 P .neq T.e (.tmp 23) (.tmp 31) az ar) fun bb w=>Q0 c true w (pick P a (.bool true) bb) fun a9 w=>pick P c a9 (.bool false) w fun bk w=>X1 bk (K (.bool false) w) (fieldAddr P T.o e 1 w fun bc w=>Q2 P T.l bc w fun ax w=>X3 P .len [T.l] T.e [false] [ax] w fun bd w=>lp (α:=Value) (.int .i64 0) w fun D x6 d_ w=>Q3 P .lss T.e (.tmp 38) (.tmp 37) x6 bd w fun be w=>X1 be (indexAddr P T.l ax x6 w fun bh w=>Q2 P T.f bh w fun bg w=>W0 P T.f w fun h w=>Y0 P T.f h bg w fun _u w=>dr w fun b d=>Q5 b (fun an=> ∀w,d w→Q2 P T.f h w (dk b an w)) fun an=>Q5 b (fun j=> ∀w,d w→Q2 P T.o e w (dk b j w)) fun j=>Q5 b (fun ak=> ∀u w,d w→j u w→Q1 P F.aD [a0,u,x6] w (dk b ak w)) fun ak=>∀aw u aq w,d w→an aw w→j u w→ak aq w→ Q1 P F.af [a0,aw,aq] w fun bj w=>J9 P .not bj w fun bi w=>X1 bi (K (.bool false) w) (Q3 P .add T.e (.tmp 38) (.const (.int .i64 1)) x6 (.int .i64 1) w fun bf w=>D bf w)) (dr w fun b d=>Q5 b (fun v=> ∀w,d w→nilCheck P a0 w (dk b v w)) fun v=>Q5 b (fun ab=> ∀ac w,d w→v ac w→fieldAddr P T.p ac 0 w (dk b ab w)) fun ab=>Q5 b (fun X=> ∀w,d w→fieldAddr P T.o e 0 w (dk b X w)) fun X=>Q5 b (fun aj=> ∀N w,d w→ab N w→Q2 P T.r N w (dk b aj w)) fun aj=>Q5 b (fun ao=> ∀R w,d w→X R w→Q2 P T.c R w (dk b ao w)) fun ao=>∀ac N R av ay w,d w→v ac w→ab N w→X R w→aj av w→ao ay w→ Q1 P F.s [av,ay] w fun ba w=>K ba w))
theorem Q05 {a b:Value} {w:World} {K:Value→World→Prop} (h:Oc a b w K):Q1 P F.bC [a,b] w K:=Q9 Q0a Tryz.func55 rfl (by decide) (by kernel_rfl) h
def Lt (c g:Value) (w:World) (K:Value→World→Prop):Prop:= box P T.o c w fun a w=>Q2 P T.a5 g w fun b w=>Q2 P T.o a w fun d w=>Q1 P F.bC [b,d] w fun f w=>J9 P .not f w fun e w=>K e w
theorem Gw {a b:Value} {w:World} {K:Value→World→Prop} (h:Lt a b w K):Q1 P F.cr [a,b] w K:=Q9 (List.replicate 2 none) Tryz.func54 rfl (by decide) (by kernel_rfl) h
def Dg (d:Value) (w:World) (K:Value→World→Prop):Prop:= box P T.a5 d w fun a w=>Q2 P T.a5 a w fun b w=>nilCheck P b w fun c w=>fieldAddr P T.p c 3 w fun e w=>Q2 P T.g e w fun h w=>E7 P (.func F.cr) [] [a] w fun g w=>Q1 P F.n [h,g] w fun i w=>J9 P .not i w fun f w=>K f w
theorem Aw {a:Value} {w:World} {K:Value→World→Prop} (h:Dg a w K):Q1 P F.bA [a] w K:=Q9 (List.replicate 2 none) Tryz.func23 rfl (by decide) (by kernel_rfl) h
def Q3b (g f:Value) (w:World) (K:Value→World→Prop):Prop:= Q3 P .lss T.e (.tmp 6) (.const (.int .i64 0)) f (.int .i64 0) w fun d w=>Q0 d false w (fun w J=>J f w) fun h w=>Q0 d false w (Q3 P .gtr T.e (.tmp 9) (.const (.int .i64 1048576)) h (.int .i64 1048576)) fun e w=>pick P d (.bool true) e w fun a w=>X1 a (K (.tuple #[(.pointer none),(.int .i64 90)]) w) (H2 P T.p [(0,g),(1,f)] w fun b w=>box P T.p b w fun c w=>K (.tuple #[c,(.int .i64 0)]) w)
theorem Q7W {a b:Value} {w:World} {K:Value→World→Prop} (h:Q3b a b w K):Q1 P F.cM [a,b] w K:=Q9 (List.replicate 5 none) Tryz.func15 rfl (by decide) (by kernel_rfl) h
def Tl:V9:=[none,none,none,none,none,some ([1,3],[1,3,10,11,12,13,14,15,16,17,18,19,20,21,22,23]),none,none,none,none]
def Mt (w:World) (K:Value→World→Prop):Prop:= H2 P T.b [(0,(.string ⟨#[79,98,106,101,99,116]⟩))] w fun l w=>H2 P T.n [(0,(.string ⟨#[119,104,97,116]⟩)),(1,(.string ⟨#[116,101,120,116]⟩))] w fun o w=>buildSlice P T.k 1 [(0,o)] w fun m w=>H2 P T.b [(0,(.string ⟨#[70,97,117,108,116]⟩)),(1,(.string ⟨#[79,98,106,101,99,116]⟩)),(6,m)] w fun n w=>buildSlice P T.i 2 [(0,l),(1,n)] w fun p w=>buildSlice P T.h 6 [(0,(.string ⟨#[78,117,108,108,70,97,117,108,116]⟩)),(1,(.string ⟨#[73,110,100,101,120,70,97,117,108,116]⟩)),(2,(.string ⟨#[67,97,115,116,70,97,117,108,116]⟩)),(3,(.string ⟨#[90,101,114,111,70,97,117,108,116]⟩)),(4,(.string ⟨#[82,111,111,109,70,97,117,108,116]⟩)),(5,(.string ⟨#[67,97,108,108,70,97,117,108,116]⟩))] w fun k w=>lp (α:=Value×Value) (p,(.int .i64 0)) w fun a b q w=>X3 P .len [T.h] T.e [false] [k] w fun h w=>Q3 P .lss T.e (.tmp 10) (.tmp 12) b.2 h w fun g w=>X1 g (indexAddr P T.h k b.2 w fun d w=>Q2 P T.c d w fun f w=>H2 P T.b [(0,f),(1,(.string ⟨#[70,97,117,108,116]⟩)),(5,(.bool true))] w fun e w=>buildSlice P T.i 1 [(0,e)] w fun j w=>X3 P .append [T.i,T.i] T.i [false,false] [b.1,j] w fun i w=>Q3 P .add T.e (.tmp 14) (.const (.int .i64 1)) b.2 (.int .i64 1) w fun c w=>a (i,c) w) (K b.1 w)
theorem Ir {w:World} {K:Value→World→Prop} (h:Mt w K):Q1 P F.bo [] w K:=Q9 Tl Tryz.func99 rfl (by decide) (by kernel_rfl) h
def Ap:V9:=[none,none,none,some ([3],[2,3,4,5,6,7,8,9,10,11,12,13,14,15,16,17,18,19,20,21,22,23,24,25,26,27,28,29,30,31,32,33,34,35,36,37]),none,none,none,none,none,none,none]
def Dc (Y:Value) (w:World) (K:Value→World→Prop):Prop:= box P T.b Y w fun b w=>lp (α:=Value) (.int .i64 0) w fun h t d_ w=>fieldAddr P T.b b 7 w fun t6 w=>Q2 P T.j t6 w fun t7 w=>X3 P .len [T.j] T.e [false] [t7] w fun t8 w=>Q3 P .lss T.e (.tmp 5) (.tmp 8) t t8 w fun Z w=>X1 Z (fieldAddr P T.b b 7 w fun V w=>Q2 P T.j V w fun Q w=>indexAddr P T.j Q t w fun j w=>Q2 P T.d j w fun C w=>W0 P T.d w fun a w=>Y0 P T.d a C w fun _u w=>fieldAddr P T.d a 1 w fun M w=>Q2 P T.h M w fun p w=>X3 P .len [T.h] T.e [false] [p] w fun q w=>Q3 P .gtr T.e (.tmp 19) (.const (.int .i64 32)) q (.int .i64 32) w fun e w=>Q0 e false w (fieldAddr P T.d a 6) fun X w=>Q0 e false w (Q2 P T.s X) fun W w=>Q0 e false w (X3 P .len [T.s] T.e [false] [W]) fun o w=>Q0 e false w (Q3 P .gtr T.e (.tmp 24) (.const (.int .i64 32)) o (.int .i64 32)) fun u w=>pick P e (.bool true) u w fun d w=>Q0 d false w (fieldAddr P T.d a 5) fun y w=>Q0 d false w (Q2 P T.q y) fun i w=>Q0 d false w (X3 P .len [T.q] T.e [false] [i]) fun R w=>Q0 d false w (Q3 P .gtr T.e (.tmp 30) (.const (.int .i64 200)) R (.int .i64 200)) fun l w=>pick P d (.bool true) l w fun g w=>Q0 g false w (fieldAddr P T.d a 4) fun U w=>Q0 g false w (Q2 P T.e U) fun r w=>Q0 g false w (Q3 P .gtr T.e (.tmp 35) (.const (.int .i64 64)) r (.int .i64 64)) fun H w=>pick P g (.bool true) H w fun B w=>X1 B (K (.bool true) w) (Q3 P .add T.e (.tmp 10) (.const (.int .i64 1)) t (.int .i64 1) w fun z w=>h z w)) (fieldAddr P T.b b 2 w fun m w=>Q2 P T.h m w fun D w=>X3 P .len [T.h] T.e [false] [D] w fun n w=>Q3 P .gtr T.e (.tmp 40) (.const (.int .i64 32)) n (.int .i64 32) w fun c w=>Q0 c false w (fieldAddr P T.b b 6) fun k w=>Q0 c false w (Q2 P T.k k) fun E w=>Q0 c false w (X3 P .len [T.k] T.e [false] [E]) fun N w=>Q0 c false w (Q3 P .gtr T.e (.tmp 45) (.const (.int .i64 32)) N (.int .i64 32)) fun A w=>pick P c (.bool true) A w fun f w=>Q0 f false w (fieldAddr P T.b b 7) fun v w=>Q0 f false w (Q2 P T.j v) fun s w=>Q0 f false w (X3 P .len [T.j] T.e [false] [s]) fun O w=>Q0 f false w (Q3 P .gtr T.e (.tmp 51) (.const (.int .i64 32)) O (.int .i64 32)) fun J w=>pick P f (.bool true) J w fun L w=>K L w)
theorem Ao {a:Value} {w:World} {K:Value→World→Prop} (h:Dc a w K):Q1 P F.bJ [a] w K:=Q9 Ap Tryz.func147 rfl (by decide) (by kernel_rfl) h
def Q0c:V9:=[none,none,none,some ([0,3],[0,3,4,5,6,7,8,9,10,11,12,13,14,15,16,17,18,19,20,21]),none,none,none,none]
def Ox (m:Value) (w:World) (K:Value→World→Prop):Prop:= lp (α:=Value×Value) (m,(.int .i64 0)) w fun a c q w=>X3 P .len [T.c] T.e [false] [c.1] w fun o w=>Q3 P .geq T.e (.tmp 5) (.const (.int .i64 2)) o (.int .i64 2) w fun b w=>Q0 b true w (fun w J=>J c.1 w) fun p w=>Q0 b true w (fun w J=>J c.1 w) fun n w=>Q0 b true w (X3 P .len [T.c] T.e [false] [n]) fun l w=>Q0 b true w (Q3 P .sub T.e (.tmp 10) (.const (.int .i64 2)) l (.int .i64 2)) fun g w=>Q0 b true w (R7 P T.c p (some g) none none) fun k w=>Q0 b true w (Q3 P .eql T.c (.tmp 12) (.const (.string ⟨#[91,93]⟩)) k (.string ⟨#[91,93]⟩)) fun j w=>pick P b j (.bool false) w fun d w=>X1 d (Q3 P .add T.e (.tmp 15) (.const (.int .i64 1)) c.2 (.int .i64 1) w fun h w=>X3 P .len [T.c] T.e [false] [c.1] w fun e w=>Q3 P .sub T.e (.tmp 19) (.const (.int .i64 2)) e (.int .i64 2) w fun i w=>R7 P T.c c.1 none (some i) none w fun f w=>a (f,h) w) (K c.2 w)
theorem Ai {a:Value} {w:World} {K:Value→World→Prop} (h:Ox a w K):Q1 P F.a1 [a] w K:=Q9 Q0c Tryz.func107 rfl (by decide) (by kernel_rfl) h
def Ij:V9:=[none,none,none,some ([4],[4,5,6,7]),none,none,none,none]
def Mc (a:Value) (w:World) (K:Value→World→Prop):Prop:= jn (α:=Value) w (fun b w=>Q3 P .eql T.c (.tmp 3) (.const (.string ⟨#[105,110,116]⟩)) a (.string ⟨#[105,110,116]⟩) w fun c w=>X1 c (b c w) (Q3 P .eql T.c (.tmp 3) (.const (.string ⟨#[98,111,111,108]⟩)) a (.string ⟨#[98,111,111,108]⟩) w fun d w=>X1 d (b d w) (Q3 P .eql T.c (.tmp 3) (.const (.string ⟨#[116,101,120,116]⟩)) a (.string ⟨#[116,101,120,116]⟩) w fun f w=>b f w))) fun e g w=>X1 e (K (.bool true) w) (K (.bool false) w)
theorem Pk {a:Value} {w:World} {K:Value→World→Prop} (h:Mc a w K):Q1 P F.x [a] w K:=Q9 Ij Tryz.func111 rfl (by decide) (by kernel_rfl) h
def Am:V9:=[none,none,none,some ([3],[2,3,4,5,6,7,8,9,10,11,12,13,14,15,16,17,18,19,20,21,22,23,24,25,26,27,28,29,30,31,32,33,34,35,36,37,38,39,40,41,42,43,44,45,46,47,48,49,50]),none,none,none,none,none,none,none]
def Om (g:Value) (w:World) (K:Value→World→Prop):Prop:= lp (α:=Value) (.int .i64 0) w fun h i d_ w=>X3 P .len [T.c] T.e [false] [g] w fun t7 w=>Q3 P .lss T.e (.tmp 5) (.tmp 7) i t7 w fun t8 w=>X1 t8 (C3 P T.c g i w fun X w=>Q3 P .geq T.a3 (.tmp 13) (.const (.int .u8 97)) X (.int .u8 97) w fun c w=>Q0 c true w (fun w J=>J g w) fun L w=>Q0 c true w (fun w J=>J i w) fun R w=>Q0 c true w (C3 P T.c L R) fun r w=>Q0 c true w (Q3 P .leq T.a3 (.tmp 18) (.const (.int .u8 122)) r (.int .u8 122)) fun s w=>pick P c s (.bool false) w fun a w=>Q0 a false w (fun w J=>J g w) fun ab w=>Q0 a false w (fun w J=>J i w) fun Z w=>Q0 a false w (C3 P T.c ab Z) fun q w=>Q0 a false w (Q3 P .geq T.a3 (.tmp 24) (.const (.int .u8 65)) q (.int .u8 65)) fun A w=>Q0 a false w (fun w J=>J A w) fun e w=>Q0 e true w (fun w J=>J g w) fun v w=>Q0 e true w (fun w J=>J i w) fun D w=>Q0 e true w (C3 P T.c v D) fun k w=>Q0 e true w (Q3 P .leq T.a3 (.tmp 29) (.const (.int .u8 90)) k (.int .u8 90)) fun Y w=>Q0 a false w (pick P e Y (.bool false)) fun m w=>pick P a (.bool true) m w fun y w=>J9 P .not y w fun b w=>Q0 b true w (fun w J=>J i w) fun N w=>Q0 b true w (Q3 P .eql T.e (.tmp 36) (.const (.int .i64 0)) N (.int .i64 0)) fun H w=>Q0 b true w (fun w J=>J H w) fun d w=>Q0 d false w (fun w J=>J g w) fun M w=>Q0 d false w (fun w J=>J i w) fun p w=>Q0 d false w (C3 P T.c M p) fun t w=>Q0 d false w (Q3 P .lss T.a3 (.tmp 41) (.const (.int .u8 48)) t (.int .u8 48)) fun o w=>Q0 b true w (pick P d (.bool true) o) fun l w=>Q0 b true w (fun w J=>J l w) fun f w=>Q0 f false w (fun w J=>J g w) fun U w=>Q0 f false w (fun w J=>J i w) fun E w=>Q0 f false w (C3 P T.c U E) fun V w=>Q0 f false w (Q3 P .gtr T.a3 (.tmp 47) (.const (.int .u8 57)) V (.int .u8 57)) fun O w=>Q0 b true w (pick P f (.bool true) O) fun B w=>pick P b B (.bool false) w fun z w=>X1 z (K (.bool false) w) (Q3 P .add T.e (.tmp 9) (.const (.int .i64 1)) i (.int .i64 1) w fun aa w=>h aa w)) (X3 P .len [T.c] T.e [false] [g] w fun Q w=>Q3 P .geq T.e (.tmp 52) (.const (.int .i64 1)) Q (.int .i64 1) w fun j w=>Q0 j true w (fun w J=>J g w) fun C w=>Q0 j true w (X3 P .len [T.c] T.e [false] [C]) fun n w=>Q0 j true w (Q3 P .leq T.e (.tmp 56) (.const (.int .i64 32)) n (.int .i64 32)) fun W w=>pick P j W (.bool false) w fun u w=>K u w)
theorem Az {a:Value} {w:World} {K:Value→World→Prop} (h:Om a w K):Q1 P F.aX [a] w K:=Q9 Am Tryz.func190 rfl (by decide) (by kernel_rfl) h
def My (b:Value) (w:World) (K:Value→World→Prop):Prop:= Q1 P F.aX [b] w fun a w=>Q0 a true w (fun w J=>J b w) fun e w=>Q0 a true w (C3 P T.c e (.int .i64 0)) fun d w=>Q0 a true w (Q3 P .leq T.a3 (.tmp 7) (.const (.int .u8 90)) d (.int .u8 90)) fun f w=>pick P a f (.bool false) w fun c w=>K c w
theorem Pz {a:Value} {w:World} {K:Value→World→Prop} (h:My a w K):Q1 P F.d [a] w K:=Q9 (List.replicate 2 none) Tryz.func160 rfl (by decide) (by kernel_rfl) h
def Oa (i:Value) (w:World) (K:Value→World→Prop):Prop:= Q1 P F.a1 [i] w fun m w=>X3 P .len [T.c] T.e [false] [i] w fun n w=>Q3 P .mul T.e (.const (.int .i64 2)) (.tmp 10) (.int .i64 2) m w fun g w=>Q3 P .sub T.e (.tmp 9) (.tmp 11) n g w fun j w=>R7 P T.c i none (some j) none w fun c w=>Q3 P .leq T.e (.tmp 14) (.const (.int .i64 3)) m (.int .i64 3) w fun a w=>Q0 a true w (fun w J=>J c w) fun e w=>Q0 a true w (Q1 P F.x [e]) fun d w=>Q0 a true w (fun w J=>J d w) fun b w=>Q0 b false w (fun w J=>J c w) fun f w=>Q0 b false w (Q1 P F.d [f]) fun h w=>Q0 a true w (pick P b (.bool true) h) fun l w=>pick P a l (.bool false) w fun k w=>K k w
theorem Pc {a:Value} {w:World} {K:Value→World→Prop} (h:Oa a w K):Q1 P F.e [a] w K:=Q9 (List.replicate 4 none) Tryz.func118 rfl (by decide) (by kernel_rfl) h
def Ld (b:Value) (w:World) (K:Value→World→Prop):Prop:= Q1 P F.aX [b] w fun a w=>Q0 a true w (fun w J=>J b w) fun e w=>Q0 a true w (C3 P T.c e (.int .i64 0)) fun d w=>Q0 a true w (Q3 P .geq T.a3 (.tmp 7) (.const (.int .u8 97)) d (.int .u8 97)) fun f w=>pick P a f (.bool false) w fun c w=>K c w
theorem Fw {a:Value} {w:World} {K:Value→World→Prop} (h:Ld a w K):Q1 P F.u [a] w K:=Q9 (List.replicate 2 none) Tryz.func181 rfl (by decide) (by kernel_rfl) h
def Mu (i m:Value) (w:World) (K:Value→World→Prop):Prop:= X3 P .len [T.c] T.e [false] [i] w fun n w=>Q3 P .lss T.e (.tmp 5) (.tmp 7) m n w fun b w=>Q0 b true w (fun w J=>J i w) fun l w=>Q0 b true w (fun w J=>J m w) fun g w=>Q0 b true w (C3 P T.c l g) fun j w=>Q0 b true w (Q3 P .geq T.a3 (.tmp 12) (.const (.int .u8 128)) j (.int .u8 128)) fun h w=>pick P b h (.bool false) w fun a w=>Q0 a true w (fun w J=>J i w) fun k w=>Q0 a true w (fun w J=>J m w) fun e w=>Q0 a true w (C3 P T.c k e) fun c w=>Q0 a true w (Q3 P .lss T.a3 (.tmp 18) (.const (.int .u8 192)) c (.int .u8 192)) fun d w=>pick P a d (.bool false) w fun f w=>K f w
theorem Ph {a b:Value} {w:World} {K:Value→World→Prop} (h:Mu a b w K):Q1 P F.r [a,b] w K:=Q9 (List.replicate 2 none) Tryz.func154 rfl (by decide) (by kernel_rfl) h
def Ah:V9:=[none,none,some ([],[2,4,5,9,10,11,12,13,14,15,16,17,18,19,20,21,22,23,24,25,26,27,28,29,30,31,32,33,34,35,36,37,38,39,40,41,42,43,44,45,46,47,48,49,50,51,52,53,54,55,56,57,58,59,60,61,62,63,64,65,66,67,68,69,70,71,72,73,74,75,76,77,78,79,80,81,82,83,84,85,86,87,88,89,90,91,92,93,94,95,96,97,98,99,100,101,102,103,104,105,106]),none,none,none,none,none,none,none,none,none,none,none,none,none]
def Oh (c:Value) (w:World) (K:Value→World→Prop):Prop:= C3 P T.c c (.int .i64 0) w fun t7 w=>conv P T.a3 T.e t7 w fun C w=>jn (α:=Unit) w (fun J2 w=>Q3 P .lss T.e (.tmp 10) (.const (.int .i64 128)) C (.int .i64 128) w fun bc w=>X1 bc (K (.int .i64 1) w) (Q3 P .geq T.e (.tmp 13) (.const (.int .i64 194)) C (.int .i64 194) w fun ar w=>Q0 ar true w (fun w J=>J C w) fun be w=>Q0 ar true w (Q3 P .lss T.e (.tmp 16) (.const (.int .i64 224)) be (.int .i64 224)) fun bz w=>pick P ar bz (.bool false) w fun am w=>Q0 am true w (fun w J=>J c w) fun bx w=>Q0 am true w (Q1 P F.r [bx,(.int .i64 1)]) fun bn w=>pick P am bn (.bool false) w fun b1 w=>X1 b1 (K (.int .i64 2) w) (Q3 P .geq T.e (.tmp 24) (.const (.int .i64 224)) C (.int .i64 224) w fun ax w=>Q0 ax true w (fun w J=>J C w) fun a8 w=>Q0 ax true w (Q3 P .lss T.e (.tmp 27) (.const (.int .i64 240)) a8 (.int .i64 240)) fun bv w=>pick P ax bv (.bool false) w fun ah w=>Q0 ah true w (fun w J=>J c w) fun bj w=>Q0 ah true w (Q1 P F.r [bj,(.int .i64 1)]) fun a9 w=>pick P ah a9 (.bool false) w fun an w=>Q0 an true w (fun w J=>J c w) fun ba w=>Q0 an true w (Q1 P F.r [ba,(.int .i64 2)]) fun bw w=>pick P an bw (.bool false) w fun bd w=>X1 bd (dr w fun a b=>Q5 a (fun ac=> ∀w,b w→Q3 P .rem T.e (.tmp 38) (.const (.int .i64 16)) C (.int .i64 16) w (dk a ac w)) fun ac=>Q5 a (fun s=> ∀u w,b w→ac u w→Q3 P .mul T.e (.tmp 39) (.const (.int .i64 4096)) u (.int .i64 4096) w (dk a s w)) fun s=>Q5 a (fun z=> ∀w,b w→C3 P T.c c (.int .i64 1) w (dk a z w)) fun z=>Q5 a (fun t=> ∀L w,b w→z L w→Q3 P .rem T.a3 (.tmp 42) (.const (.int .u8 64)) L (.int .u8 64) w (dk a t w)) fun t=>Q5 a (fun r=> ∀w,b w→C3 P T.c c (.int .i64 2) w (dk a r w)) fun r=>Q5 a (fun o=> ∀y w,b w→r y w→Q3 P .rem T.a3 (.tmp 48) (.const (.int .u8 64)) y (.int .u8 64) w (dk a o w)) fun o=>Q5 a (fun ad=> ∀i w,b w→t i w→conv P T.a3 T.e i w (dk a ad w)) fun ad=>Q5 a (fun ae=> ∀X w,b w→ad X w→Q3 P .mul T.e (.tmp 44) (.const (.int .i64 64)) X (.int .i64 64) w (dk a ae w)) fun ae=>Q5 a (fun al=> ∀n Z w,b w→s n w→ae Z w→Q3 P .add T.e (.tmp 40) (.tmp 45) n Z w (dk a al w)) fun al=>Q5 a (fun aj=> ∀V w,b w→o V w→conv P T.a3 T.e V w (dk a aj w)) fun aj=>∀u n L i y V X Z a1 a3 w,b w→ac u w→s n w→z L w→t i w→r y w→o V w→ad X w→ae Z w→al a1 w→aj a3 w→ Q3 P .add T.e (.tmp 46) (.tmp 50) a1 a3 w fun aq w=>Q3 P .geq T.e (.tmp 52) (.const (.int .i64 2048)) aq (.int .i64 2048) w fun e w=>Q0 e true w (fun w J=>J aq w) fun bs w=>Q0 e true w (Q3 P .lss T.e (.tmp 55) (.const (.int .i64 55296)) bs (.int .i64 55296)) fun bk w=>Q0 e true w (fun w J=>J bk w) fun ay w=>Q0 ay false w (fun w J=>J aq w) fun a7 w=>Q0 ay false w (Q3 P .gtr T.e (.tmp 58) (.const (.int .i64 57343)) a7 (.int .i64 57343)) fun br w=>Q0 e true w (pick P ay (.bool true) br) fun bp w=>pick P e bp (.bool false) w fun bg w=>X1 bg (K (.int .i64 3) w) (J2 () w)) (Q3 P .geq T.e (.tmp 63) (.const (.int .i64 240)) C (.int .i64 240) w fun ao w=>Q0 ao true w (fun w J=>J C w) fun bu w=>Q0 ao true w (Q3 P .lss T.e (.tmp 66) (.const (.int .i64 245)) bu (.int .i64 245)) fun bl w=>pick P ao bl (.bool false) w fun ap w=>Q0 ap true w (fun w J=>J c w) fun b0 w=>Q0 ap true w (Q1 P F.r [b0,(.int .i64 1)]) fun bh w=>pick P ap bh (.bool false) w fun av w=>Q0 av true w (fun w J=>J c w) fun bq w=>Q0 av true w (Q1 P F.r [bq,(.int .i64 2)]) fun bi w=>pick P av bi (.bool false) w fun aw w=>Q0 aw true w (fun w J=>J c w) fun bo w=>Q0 aw true w (Q1 P F.r [bo,(.int .i64 3)]) fun bb w=>pick P aw bb (.bool false) w fun bf w=>X1 bf (dr w fun a b=>Q5 a (fun m=> ∀w,b w→Q3 P .rem T.e (.tmp 81) (.const (.int .i64 8)) C (.int .i64 8) w (dk a m w)) fun m=>Q5 a (fun p=> ∀N w,b w→m N w→Q3 P .mul T.e (.tmp 82) (.const (.int .i64 262144)) N (.int .i64 262144) w (dk a p w)) fun p=>Q5 a (fun D=> ∀w,b w→C3 P T.c c (.int .i64 1) w (dk a D w)) fun D=>Q5 a (fun af=> ∀B w,b w→D B w→Q3 P .rem T.a3 (.tmp 85) (.const (.int .u8 64)) B (.int .u8 64) w (dk a af w)) fun af=>Q5 a (fun M=> ∀w,b w→C3 P T.c c (.int .i64 2) w (dk a M w)) fun M=>Q5 a (fun g=> ∀H w,b w→M H w→Q3 P .rem T.a3 (.tmp 91) (.const (.int .u8 64)) H (.int .u8 64) w (dk a g w)) fun g=>Q5 a (fun U=> ∀w,b w→C3 P T.c c (.int .i64 3) w (dk a U w)) fun U=>Q5 a (fun W=> ∀ab w,b w→U ab w→Q3 P .rem T.a3 (.tmp 97) (.const (.int .u8 64)) ab (.int .u8 64) w (dk a W w)) fun W=>Q5 a (fun O=> ∀f w,b w→af f w→conv P T.a3 T.e f w (dk a O w)) fun O=>Q5 a (fun Y=> ∀E w,b w→O E w→Q3 P .mul T.e (.tmp 87) (.const (.int .i64 4096)) E (.int .i64 4096) w (dk a Y w)) fun Y=>Q5 a (fun A=> ∀v aa w,b w→p v w→Y aa w→Q3 P .add T.e (.tmp 83) (.tmp 88) v aa w (dk a A w)) fun A=>Q5 a (fun Q=> ∀h w,b w→g h w→conv P T.a3 T.e h w (dk a Q w)) fun Q=>Q5 a (fun l=> ∀j w,b w→Q j w→Q3 P .mul T.e (.tmp 93) (.const (.int .i64 64)) j (.int .i64 64) w (dk a l w)) fun l=>Q5 a (fun ak=> ∀k R w,b w→A k w→l R w→Q3 P .add T.e (.tmp 89) (.tmp 94) k R w (dk a ak w)) fun ak=>Q5 a (fun ai=> ∀q w,b w→W q w→conv P T.a3 T.e q w (dk a ai w)) fun ai=>∀N v B f H h ab q E aa k j R a6 a4 w,b w→m N w→p v w→D B w→af f w→M H w→g h w→U ab w→W q w→O E w→Y aa w→A k w→Q j w→l R w→ak a6 w→ai a4 w→ Q3 P .add T.e (.tmp 95) (.tmp 99) a6 a4 w fun ag w=>Q3 P .geq T.e (.tmp 101) (.const (.int .i64 65536)) ag (.int .i64 65536) w fun d w=>Q0 d true w (fun w J=>J ag w) fun az w=>Q0 d true w (Q3 P .leq T.e (.tmp 104) (.const (.int .i64 1114111)) az (.int .i64 1114111)) fun a5 w=>pick P d a5 (.bool false) w fun a2 w=>X1 a2 (K (.int .i64 4) w) (J2 () w)) (J2 () w))))) fun z2 d_ w=>K (.int .i64 0) w
theorem Q09 {a:Value} {w:World} {K:Value→World→Prop} (h:Oh a w K):Q1 P F.bG [a] w K:=Q9 Ah Tryz.func113 rfl (by decide) (by kernel_rfl) h
def Ky:V9:=[none,none,some ([0],[0,2,3,4,5,6,7,8,9,10,11,12]),none,none,none,none,none,none,none]
def Nv (e:Value) (w:World) (K:Value→World→Prop):Prop:= lp (α:=Value) e w fun a b h w=>Q3 P .neq T.c (.tmp 4) (.const (.string ⟨#[]⟩)) b (.string ⟨#[]⟩) w fun f w=>X1 f (Q1 P F.bG [b] w fun d w=>Q3 P .eql T.e (.tmp 8) (.const (.int .i64 0)) d (.int .i64 0) w fun g w=>X1 g (K (.bool false) w) (R7 P T.c b (some d) none none w fun c w=>a c w)) (K (.bool true) w)
theorem Kg {a:Value} {w:World} {K:Value→World→Prop} (h:Nv a w K):Q1 P F.aJ [a] w K:=Q9 Ky Tryz.func65 rfl (by decide) (by kernel_rfl) h
def Eo (w:World) (K:Value→World→Prop):Prop:= buildSlice P T.h 42 [(0,(.string ⟨#[105,110,116]⟩)),(1,(.string ⟨#[116,114,117,101]⟩)),(2,(.string ⟨#[102,97,108,115,101]⟩)),(3,(.string ⟨#[119,111,114,100]⟩)),(4,(.string ⟨#[110,117,108,108]⟩)),(5,(.string ⟨#[108,111,97,100]⟩)),(6,(.string ⟨#[115,116,111,114,101]⟩)),(7,(.string ⟨#[112,111,112]⟩)),(8,(.string ⟨#[100,117,112]⟩)),(9,(.string ⟨#[115,119,97,112]⟩)),(10,(.string ⟨#[97,100,100]⟩)),(11,(.string ⟨#[115,117,98]⟩)),(12,(.string ⟨#[109,117,108]⟩)),(13,(.string ⟨#[100,105,118]⟩)),(14,(.string ⟨#[114,101,109]⟩)),(15,(.string ⟨#[110,101,103]⟩)),(16,(.string ⟨#[108,101,115,115]⟩)),(17,(.string ⟨#[115,97,109,101]⟩)),(18,(.string ⟨#[110,111,116]⟩)),(19,(.string ⟨#[98,111,116,104]⟩)),(20,(.string ⟨#[106,111,105,110]⟩)),(21,(.string ⟨#[115,105,122,101]⟩)),(22,(.string ⟨#[106,117,109,112]⟩)),(23,(.string ⟨#[98,114,97,110,99,104]⟩)),(24,(.string ⟨#[110,101,119]⟩)),(25,(.string ⟨#[103,101,116]⟩)),(26,(.string ⟨#[112,117,116]⟩)),(27,(.string ⟨#[99,97,108,108]⟩)),(28,(.string ⟨#[97,114,114,97,121]⟩)),(29,(.string ⟨#[97,116]⟩)),(30,(.string ⟨#[115,101,116]⟩)),(31,(.string ⟨#[105,115]⟩)),(32,(.string ⟨#[99,97,115,116]⟩)),(33,(.string ⟨#[114,101,116,117,114,110]⟩)),(34,(.string ⟨#[116,104,114,111,119]⟩)),(35,(.string ⟨#[111,117,116]⟩)),(36,(.string ⟨#[101,113,117,97,108]⟩)),(37,(.string ⟨#[97,110,100]⟩)),(38,(.string ⟨#[111,114]⟩)),(39,(.string ⟨#[120,111,114]⟩)),(40,(.string ⟨#[115,104,108]⟩)),(41,(.string ⟨#[115,104,114]⟩))] w fun a w=>K a w
theorem Q0Z {w:World} {K:Value→World→Prop} (h:Eo w K):Q1 P F.bV [] w K:=Q9 (List.replicate 2 none) Tryz.func233 rfl (by decide) (by kernel_rfl) h
def Ft:V9:=[none,none,none,none,some ([4],[2,4,6,7,8,9,10,11,12,13,14,15,16,17,18]),none,none,none,none,none,none]
def Lc (h:Value) (w:World) (K:Value→World→Prop):Prop:= Q1 P F.bV [] w fun g w=>lp (α:=Value) (.int .i64 0) w fun a b k w=>X3 P .len [T.h] T.e [false] [g] w fun j w=>Q3 P .lss T.e (.tmp 6) (.tmp 8) b j w fun i w=>X1 i (indexAddr P T.h g b w fun e w=>Q2 P T.c e w fun f w=>Q3 P .eql T.c (.tmp 15) (.tmp 16) f h w fun c w=>X1 c (K b w) (Q3 P .add T.e (.tmp 10) (.const (.int .i64 1)) b (.int .i64 1) w fun d w=>a d w)) (K (.int .i64 (-1)) w)
theorem Gz {a:Value} {w:World} {K:Value→World→Prop} (h:Lc a w K):Q1 P F.bg [a] w K:=Q9 Ft Tryz.func230 rfl (by decide) (by kernel_rfl) h
def Pj:V9:=[none,none,none,some ([4],[4,5,6,7,8,9]),none,none,none,none,none,some ([10],[10,11,12,13,14,15,16,17,18]),none,none,none,none,none,none,none,none,none,none,none,none]
def Ma (a:Value) (w:World) (K:Value→World→Prop):Prop:= jn (α:=Value) w (fun j w=>Q3 P .eql T.c (.tmp 3) (.const (.string ⟨#[105,110,116]⟩)) a (.string ⟨#[105,110,116]⟩) w fun p w=>X1 p (j p w) (Q3 P .eql T.c (.tmp 3) (.const (.string ⟨#[108,111,97,100]⟩)) a (.string ⟨#[108,111,97,100]⟩) w fun n w=>X1 n (j n w) (Q3 P .eql T.c (.tmp 3) (.const (.string ⟨#[115,116,111,114,101]⟩)) a (.string ⟨#[115,116,111,114,101]⟩) w fun o w=>X1 o (j o w) (Q3 P .eql T.c (.tmp 3) (.const (.string ⟨#[106,117,109,112]⟩)) a (.string ⟨#[106,117,109,112]⟩) w fun q w=>X1 q (j q w) (Q3 P .eql T.c (.tmp 3) (.const (.string ⟨#[98,114,97,110,99,104]⟩)) a (.string ⟨#[98,114,97,110,99,104]⟩) w fun s w=>j s w))))) fun r u w=>X1 r (K (.int .i64 1) w) (jn (α:=Value) w (fun b w=>Q3 P .eql T.c (.tmp 3) (.const (.string ⟨#[119,111,114,100]⟩)) a (.string ⟨#[119,111,114,100]⟩) w fun e w=>X1 e (b e w) (Q3 P .eql T.c (.tmp 3) (.const (.string ⟨#[110,101,119]⟩)) a (.string ⟨#[110,101,119]⟩) w fun i w=>X1 i (b i w) (Q3 P .eql T.c (.tmp 3) (.const (.string ⟨#[103,101,116]⟩)) a (.string ⟨#[103,101,116]⟩) w fun h w=>X1 h (b h w) (Q3 P .eql T.c (.tmp 3) (.const (.string ⟨#[112,117,116]⟩)) a (.string ⟨#[112,117,116]⟩) w fun c w=>X1 c (b c w) (Q3 P .eql T.c (.tmp 3) (.const (.string ⟨#[99,97,108,108]⟩)) a (.string ⟨#[99,97,108,108]⟩) w fun d w=>X1 d (b d w) (Q3 P .eql T.c (.tmp 3) (.const (.string ⟨#[97,114,114,97,121]⟩)) a (.string ⟨#[97,114,114,97,121]⟩) w fun f w=>X1 f (b f w) (Q3 P .eql T.c (.tmp 3) (.const (.string ⟨#[105,115]⟩)) a (.string ⟨#[105,115]⟩) w fun g w=>X1 g (b g w) (Q3 P .eql T.c (.tmp 3) (.const (.string ⟨#[99,97,115,116]⟩)) a (.string ⟨#[99,97,115,116]⟩) w fun k w=>b k w)))))))) fun t u w=>X1 t (K (.int .i64 2) w) (Q1 P F.bg [a] w fun m w=>Q3 P .lss T.e (.tmp 20) (.const (.int .i64 0)) m (.int .i64 0) w fun l w=>X1 l (K (.int .i64 (-1)) w) (K (.int .i64 0) w)))
theorem Pn {a:Value} {w:World} {K:Value→World→Prop} (h:Ma a w K):Q1 P F.bw [a] w K:=Q9 Pj Tryz.func225 rfl (by decide) (by kernel_rfl) h
def Kj:V9:=[none,none,none,some ([5],[2,3,4,5,6,7,8,9,10,11,12,13,14,15,16,17,18,19,20,21,22,23,24,25,26,27,28,29,30,31,32,33]),none,none,none,none,none,none]
def Mx (z:Value) (w:World) (K:Value→World→Prop):Prop:= lp (α:=Value) (.int .i64 0) w fun n v N w=>X3 P .len [T.c] T.e [false] [z] w fun M w=>Q3 P .lss T.e (.tmp 6) (.tmp 8) v M w fun L w=>X1 L (C3 P T.c z v w fun D w=>Q3 P .eql T.a3 (.tmp 14) (.const (.int .u8 46)) D (.int .u8 46) w fun E w=>X1 E (dr w fun b d=>Q5 b (fun t=> ∀w,d w→R7 P T.c z none (some v) none w (dk b t w)) fun t=>Q5 b (fun h=> ∀w,d w→Q3 P .add T.e (.tmp 20) (.const (.int .i64 1)) v (.int .i64 1) w (dk b h w)) fun h=>Q5 b (fun y=> ∀j w,d w→h j w→R7 P T.c z (some j) none none w (dk b y w)) fun y=>Q5 b (fun r=> ∀w,d w→R7 P T.c z none (some v) none w (dk b r w)) fun r=>Q5 b (fun c=> ∀p w,d w→r p w→Q1 P F.d [p] w (dk b c w)) fun c=>Q5 b (fun m=> ∀a w,d w→c a w→Q0 a true w (fun w J=>J z w) (dk b m w)) fun m=>Q5 b (fun o=> ∀a w,d w→c a w→Q0 a true w (fun w J=>J v w) (dk b o w)) fun o=>Q5 b (fun i=> ∀a e w,d w→c a w→o e w→Q0 a true w (Q3 P .add T.e (.tmp 29) (.const (.int .i64 1)) e (.int .i64 1)) (dk b i w)) fun i=>Q5 b (fun k=> ∀a q s w,d w→c a w→m q w→i s w→Q0 a true w (R7 P T.c q (some s) none none) (dk b k w)) fun k=>Q5 b (fun g=> ∀a f w,d w→c a w→k f w→Q0 a true w (Q1 P F.u [f]) (dk b g w)) fun g=>Q5 b (fun u=> ∀a l w,d w→c a w→g l w→pick P a l (.bool false) w (dk b u w)) fun u=>∀A j C p a q e s f l B w,d w→t A w→h j w→y C w→r p w→c a w→m q w→o e w→i s w→k f w→g l w→u B w→ K (.tuple #[A,C,B]) w) (Q3 P .add T.e (.tmp 10) (.const (.int .i64 1)) v (.int .i64 1) w fun H w=>n H w)) (K (.tuple #[(.string ⟨#[]⟩),(.string ⟨#[]⟩),(.bool false)]) w)
theorem Ps {a:Value} {w:World} {K:Value→World→Prop} (h:Mx a w K):Q1 P F.bx [a] w K:=Q9 Kj Tryz.func226 rfl (by decide) (by kernel_rfl) h
def Pp:V9:=[none,none,none,none,none,none,some ([4],[4,5,6,7,8,30,31,32,33,34,35,36,37,38,39,40,41,42,43,44,45,46,47,48,49,50,51,52,53,54,55,56,57,58,59,60,61,62,63,64,65,66,67,68,69,70,71,72,73,74,75,76,77,78,79,80,81,82,83,84,85,86,87,88,89,90,91,92,93,94,95,96,97,98,99,100,101,102,103,104,105,106,107,108,109,110]),none,none,none,none,none,some ([4,5],[4,5,59,60,61,62,63,64,65,66,67,68,69,70,71,72,73]),none,none,none,none,some ([82],[82,83,84]),none,none,none,none,none,none,none]
def Mv (a0:Value) (w:World) (K:Value→World→Prop):Prop:= box P T.v a0 w fun d w=>fieldAddr P T.v d 0 w fun t9 w=>Q2 P T.c t9 w fun ak w=>Q1 P F.bw [ak] w fun j w=>Q3 P .lss T.e (.tmp 12) (.const (.int .i64 0)) j (.int .i64 0) w fun af w=>X1 af (K (.int .i64 40) w) (Q3 P .eql T.e (.tmp 14) (.const (.int .i64 1)) j (.int .i64 1) w fun k w=>Q0 k false w (fieldAddr P T.v d 1) fun a7 w=>Q0 k false w (Q2 P T.a1 a7) fun M w=>Q0 k false w (Q3 P .eql T.a1 (.tmp 18) (.const (.int .i64 0)) M (.int .i64 0)) fun N w=>pick P k (.bool true) N w fun h w=>Q0 h true w (fun w J=>J j w) fun be w=>Q0 h true w (Q3 P .eql T.e (.tmp 22) (.const (.int .i64 2)) be (.int .i64 2)) fun bd w=>Q0 h true w (fun w J=>J bd w) fun i w=>Q0 i false w (fieldAddr P T.v d 2) fun az w=>Q0 i false w (Q2 P T.c az) fun V w=>Q0 i false w (Q3 P .eql T.c (.tmp 26) (.const (.string ⟨#[]⟩)) V (.string ⟨#[]⟩)) fun Q w=>Q0 h true w (pick P i (.bool true) Q) fun a3 w=>pick P h a3 (.bool false) w fun a w=>jn (α:=Value) w (fun n w=>Q3 P .eql T.e (.tmp 30) (.const (.int .i64 2)) j (.int .i64 2) w fun am w=>X1 am (fieldAddr P T.v d 0 w fun U w=>Q2 P T.c U w fun e w=>Q3 P .eql T.c (.tmp 33) (.const (.string ⟨#[119,111,114,100]⟩)) e (.string ⟨#[119,111,114,100]⟩) w fun Z w=>X1 Z (Q0 a true w (fieldAddr P T.v d 2) fun a2 w=>Q0 a true w (Q2 P T.c a2) fun av w=>Q0 a true w (X3 P .len [T.c] T.e [false] [av]) fun ae w=>Q0 a true w (Q3 P .leq T.e (.tmp 51) (.const (.int .i64 64)) ae (.int .i64 64)) fun a6 w=>pick P a a6 (.bool false) w fun l w=>Q0 l true w (fieldAddr P T.v d 2) fun a1 w=>Q0 l true w (Q2 P T.c a1) fun ao w=>Q0 l true w (Q1 P F.aJ [ao]) fun a9 w=>pick P l a9 (.bool false) w fun O w=>lp (α:=Value×Value) (O,(.int .i64 0)) w fun f b d_ w=>fieldAddr P T.v d 2 w fun ax w=>Q2 P T.c ax w fun ah w=>X3 P .len [T.c] T.e [false] [ah] w fun ap w=>Q3 P .lss T.e (.tmp 59) (.tmp 62) b.2 ap w fun ag w=>X1 ag (Q0 b.1 true w (fieldAddr P T.v d 2) fun aa w=>Q0 b.1 true w (Q2 P T.c aa) fun H w=>Q0 b.1 true w (fun w J=>J b.2 w) fun bc w=>Q0 b.1 true w (C3 P T.c H bc) fun aj w=>Q0 b.1 true w (Q3 P .neq T.a3 (.tmp 71) (.const (.int .u8 10)) aj (.int .u8 10)) fun aq w=>pick P b.1 aq (.bool false) w fun ac w=>Q3 P .add T.e (.tmp 64) (.const (.int .i64 1)) b.2 (.int .i64 1) w fun ab w=>f (ac,ab) w) (n b.1 w)) (Q3 P .eql T.c (.tmp 33) (.const (.string ⟨#[110,101,119]⟩)) e (.string ⟨#[110,101,119]⟩) w fun al w=>X1 al (Q0 a true w (fieldAddr P T.v d 2) fun aw w=>Q0 a true w (Q2 P T.c aw) fun Y w=>Q0 a true w (Q1 P F.d [Y]) fun ad w=>pick P a ad (.bool false) w fun R w=>n R w) (jn (α:=Value) w (fun A w=>Q3 P .eql T.c (.tmp 33) (.const (.string ⟨#[105,115]⟩)) e (.string ⟨#[105,115]⟩) w fun q w=>X1 q (A q w) (Q3 P .eql T.c (.tmp 33) (.const (.string ⟨#[99,97,115,116]⟩)) e (.string ⟨#[99,97,115,116]⟩) w fun bb w=>A bb w)) fun ai d_ w=>X1 ai (Q0 a true w (fieldAddr P T.v d 2) fun an w=>Q0 a true w (Q2 P T.c an) fun a8 w=>Q0 a true w (Q1 P F.e [a8]) fun E w=>pick P a E (.bool false) w fun g w=>Q0 g true w (fieldAddr P T.v d 2) fun B w=>Q0 g true w (Q2 P T.c B) fun C w=>Q0 g true w (Q1 P F.x [C]) fun ay w=>Q0 g true w (J9 P .not ay) fun ba w=>pick P g ba (.bool false) w fun ar w=>n ar w) (Q3 P .eql T.c (.tmp 33) (.const (.string ⟨#[97,114,114,97,121]⟩)) e (.string ⟨#[97,114,114,97,121]⟩) w fun X w=>X1 X (Q0 a true w (fieldAddr P T.v d 2) fun o w=>Q0 a true w (Q2 P T.c o) fun p w=>Q0 a true w (Q1 P F.e [p]) fun r w=>pick P a r (.bool false) w fun c w=>Q0 c true w (fieldAddr P T.v d 2) fun s w=>Q0 c true w (Q2 P T.c s) fun u w=>Q0 c true w (Q1 P F.a1 [u]) fun v w=>Q0 c true w (Q3 P .lss T.e (.tmp 108) (.const (.int .i64 3)) v (.int .i64 3)) fun y w=>pick P c y (.bool false) w fun z w=>n z w) (fieldAddr P T.v d 2 w fun W w=>Q2 P T.c W w fun a5 w=>Q1 P F.bx [a5] w fun m w=>ext P m 0 w fun bj w=>ext P m 1 w fun bi w=>ext P m 2 w fun L w=>Q0 a true w (fun w J=>J L w) fun D w=>pick P a D (.bool false) w fun a4 w=>n a4 w))))) (n a w)) fun z6 d_ w=>J9 P .not z6 w fun t w=>X1 t (K (.int .i64 41) w) (K (.int .i64 0) w))
theorem Kn {a:Value} {w:World} {K:Value→World→Prop} (h:Mv a w K):Q1 P F.bv [a] w K:=Q9 Pp Tryz.func215 rfl (by decide) (by kernel_rfl) h
def Q0k:V9:=[none,none,none,some ([3],[2,3,4,5,6,7,8,9,10,11,12,13,14,15,16,17,18]),none,none,none,none,none,none,none]
def He (h:Value) (w:World) (K:Value→World→Prop):Prop:= lp (α:=Value) (.int .i64 0) w fun a f k w=>X3 P .len [T.q] T.e [false] [h] w fun i w=>Q3 P .lss T.e (.tmp 5) (.tmp 7) f i w fun j w=>X1 j (indexAddr P T.q h f w fun e w=>Q2 P T.v e w fun d w=>Q1 P F.bv [d] w fun b w=>Q3 P .neq T.y (.tmp 16) (.const (.int .i64 0)) b (.int .i64 0) w fun c w=>X1 c (K b w) (Q3 P .add T.e (.tmp 9) (.const (.int .i64 1)) f (.int .i64 1) w fun g w=>a g w)) (K (.int .i64 0) w)
theorem Q0s {a:Value} {w:World} {K:Value→World→Prop} (h:He a w K):Q1 P F.b2 [a] w K:=Q9 Q0k Tryz.func203 rfl (by decide) (by kernel_rfl) h
def Gy:V9:=[none,none,none,none,some ([3,4],[3,4,21,22,23,24,25,26,27,28,29,30,31,32,33,34,35,36]),none,none,none,none,none,none,none,none,none,some ([3,6],[3,6,7,60,61,62,63,64,65,66,67,68,69,70,71,72,73,74,75,76,77,78,79,80,81,82,83,84,85,86,87,88,89,90,91,92,93,94,95,96,97,98,99,100,101,102,103,104,105,106]),none,none,none,none,none]
def Lk (a0:Value) (w:World) (K:Value→World→Prop):Prop:= box P T.d a0 w fun e w=>fieldAddr P T.d e 0 w fun t8 w=>Q2 P T.c t8 w fun t9 w=>Q1 P F.u [t9] w fun g w=>Q0 g true w (fieldAddr P T.d e 2) fun az w=>Q0 g true w (Q2 P T.c az) fun av w=>Q0 g true w (Q3 P .eql T.c (.tmp 13) (.const (.string ⟨#[]⟩)) av (.string ⟨#[]⟩)) fun a4 w=>Q0 g true w (fun w J=>J a4 w) fun o w=>Q0 o false w (fieldAddr P T.d e 2) fun an w=>Q0 o false w (Q2 P T.c an) fun bq w=>Q0 o false w (Q1 P F.e [bq]) fun aa w=>Q0 g true w (pick P o (.bool true) aa) fun ab w=>pick P g ab (.bool false) w fun bp w=>lp (α:=Value×Value) (bp,(.int .i64 0)) w fun n d d_ w=>fieldAddr P T.d e 1 w fun b0 w=>Q2 P T.h b0 w fun br w=>X3 P .len [T.h] T.e [false] [br] w fun Z w=>Q3 P .lss T.e (.tmp 21) (.tmp 24) d.2 Z w fun bi w=>X1 bi (Q0 d.1 true w (fieldAddr P T.d e 1) fun aw w=>Q0 d.1 true w (Q2 P T.h aw) fun a5 w=>Q0 d.1 true w (fun w J=>J d.2 w) fun ag w=>Q0 d.1 true w (indexAddr P T.h a5 ag) fun ac w=>Q0 d.1 true w (Q2 P T.c ac) fun bw w=>Q0 d.1 true w (Q1 P F.e [bw]) fun ah w=>pick P d.1 ah (.bool false) w fun bm w=>Q3 P .add T.e (.tmp 26) (.const (.int .i64 1)) d.2 (.int .i64 1) w fun ae w=>n (bm,ae) w) (fieldAddr P T.d e 3 w fun am w=>Q2 P T.t am w fun a7 w=>X1 a7 (Q0 d.1 true w (fieldAddr P T.d e 4) fun bc w=>Q0 d.1 true w (Q2 P T.e bc) fun ba w=>Q0 d.1 true w (Q3 P .eql T.e (.tmp 42) (.const (.int .i64 0)) ba (.int .i64 0)) fun X w=>pick P d.1 X (.bool false) w fun k w=>Q0 k true w (fieldAddr P T.d e 5) fun al w=>Q0 k true w (Q2 P T.q al) fun bu w=>Q0 k true w (X3 P .len [T.q] T.e [false] [bu]) fun aq w=>Q0 k true w (Q3 P .eql T.e (.tmp 48) (.const (.int .i64 0)) aq (.int .i64 0)) fun bl w=>pick P k bl (.bool false) w fun j w=>Q0 j true w (fieldAddr P T.d e 6) fun bn w=>Q0 j true w (Q2 P T.s bn) fun bo w=>Q0 j true w (X3 P .len [T.s] T.e [false] [bo]) fun a3 w=>Q0 j true w (Q3 P .eql T.e (.tmp 54) (.const (.int .i64 0)) a3 (.int .i64 0)) fun bj w=>pick P j bj (.bool false) w fun a8 w=>K a8 w) (fieldAddr P T.d e 5 w fun bv w=>Q2 P T.q bv w fun ad w=>X3 P .len [T.q] T.e [false] [ad] w fun r w=>lp (α:=Value×Value) (d.1,(.int .i64 0)) w fun i b d_ w=>fieldAddr P T.d e 6 w fun ay w=>Q2 P T.s ay w fun bb w=>X3 P .len [T.s] T.e [false] [bb] w fun ax w=>Q3 P .lss T.e (.tmp 60) (.tmp 63) b.2 ax w fun ak w=>X1 ak (fieldAddr P T.d e 6 w fun a9 w=>Q2 P T.s a9 w fun ap w=>indexAddr P T.s ap b.2 w fun bz w=>Q2 P T.u bz w fun a1 w=>W0 P T.u w fun q w=>Y0 P T.u q a1 w fun _u w=>Q0 b.1 true w (fieldAddr P T.u q 0) fun bg w=>Q0 b.1 true w (Q2 P T.e bg) fun a2 w=>Q0 b.1 true w (Q3 P .geq T.e (.tmp 75) (.const (.int .i64 0)) a2 (.int .i64 0)) fun bf w=>pick P b.1 bf (.bool false) w fun h w=>Q0 h true w (fieldAddr P T.u q 0) fun aj w=>Q0 h true w (Q2 P T.e aj) fun ar w=>Q0 h true w (fieldAddr P T.u q 1) fun af w=>Q0 h true w (Q2 P T.e af) fun bd w=>Q0 h true w (Q3 P .lss T.e (.tmp 80) (.tmp 82) ar bd) fun ao w=>pick P h ao (.bool false) w fun m w=>Q0 m true w (fieldAddr P T.u q 1) fun U w=>Q0 m true w (Q2 P T.e U) fun a6 w=>Q0 m true w (fun w J=>J r w) fun bs w=>Q0 m true w (Q3 P .leq T.e (.tmp 87) (.tmp 88) a6 bs) fun Y w=>pick P m Y (.bool false) w fun p w=>Q0 p true w (fieldAddr P T.u q 2) fun V w=>Q0 p true w (Q2 P T.e V) fun W w=>Q0 p true w (Q3 P .geq T.e (.tmp 93) (.const (.int .i64 0)) W (.int .i64 0)) fun bh w=>pick P p bh (.bool false) w fun l w=>Q0 l true w (fieldAddr P T.u q 2) fun bx w=>Q0 l true w (Q2 P T.e bx) fun ai w=>Q0 l true w (fun w J=>J r w) fun be w=>Q0 l true w (Q3 P .lss T.e (.tmp 98) (.tmp 99) ai be) fun C w=>pick P l C (.bool false) w fun f w=>Q0 f true w (fieldAddr P T.u q 3) fun D w=>Q0 f true w (Q2 P T.c D) fun y w=>Q0 f true w (Q1 P F.d [y]) fun N w=>pick P f N (.bool false) w fun E w=>Q3 P .add T.e (.tmp 65) (.const (.int .i64 1)) b.2 (.int .i64 1) w fun bk w=>i (E,bk) w) (Q0 b.1 true w (fun w J=>J r w) fun O w=>Q0 b.1 true w (Q3 P .gtr T.e (.tmp 109) (.const (.int .i64 0)) O (.int .i64 0)) fun Q w=>pick P b.1 Q (.bool false) w fun a w=>Q0 a true w (fieldAddr P T.d e 4) fun R w=>Q0 a true w (Q2 P T.e R) fun H w=>Q0 a true w (fieldAddr P T.d e 1) fun M w=>Q0 a true w (Q2 P T.h M) fun A w=>Q0 a true w (X3 P .len [T.h] T.e [false] [A]) fun v w=>Q0 a true w (Q3 P .gtr T.e (.tmp 114) (.tmp 117) H v) fun s w=>pick P a s (.bool false) w fun c w=>Q0 c true w (fieldAddr P T.d e 5) fun t w=>Q0 c true w (Q2 P T.q t) fun z w=>Q0 c true w (Q1 P F.b2 [z]) fun u w=>Q0 c true w (Q3 P .eql T.y (.tmp 123) (.const (.int .i64 0)) u (.int .i64 0)) fun L w=>pick P c L (.bool false) w fun B w=>K B w)))
theorem Gb {a:Value} {w:World} {K:Value→World→Prop} (h:Lk a w K):Q1 P F.a4 [a] w K:=Q9 Gy Tryz.func182 rfl (by decide) (by kernel_rfl) h
end Go.Proofs.YtjdiakhipmggjaaGreatDoor

set_option maxRecDepth 100000
namespace Go.Proofs.YtjdiakhipmggjaaGreatDoor
open Go.Emb
def Iq:V9:=[none,none,none,none,some ([3,4],[3,4,5,26,27,28,29,30,31,32,33,34,35,36,37,38,39,40,41,42,43,44,45,46,47,48,49,50,51,52,53,54,55,56,57,58,59,60,61,62,63,64,65,66,67,68,69,70]),none,none,none,none,none,some ([3,5],[3,5,52,53,54,55,56,57,58,59,60,61,62,63,64,65,66,67,68,69,70]),none,none,none,none,none,some ([3,6],[3,6,7,71,72,73,74,75,76,77,78,79,80,81,82,83,84,85,86,87,88,89,90,91,92,93,94,95,96,97,98,99,100,101,102,103,104,105,106,107,108,109,110,111,112,113,114,115,116,117,118,119,120,121,122]),none,none,none,none,none,some ([3,7],[3,7,102,103,104,105,106,107,108,109,110,111,112,113,114,115,116,117,118,119,120,121,122]),none,none,none,none,none,some ([3,8],[3,8,9,10,123,124,125,126,127,128,129,130,131,132,133,134,135,136,137,138,139,140,141,142,143,144,145,146,147,148,149,150,151,152,153,154,155,156,157,158,159,160,161,162,163,164,165,166,167,168,169,170,171,172,173,174]),none,none,none,none,none,none,some ([3,10],[3,10,158,159,160,161,162,163,164,165,166,167,168,169,170,171,172,173,174]),none,none,none,none]
def Ns (a0:Value) (w:World) (K:Value→World→Prop):Prop:= box P T.b a0 w fun i w=>fieldAddr P T.b i 0 w fun et w=>Q2 P T.c et w fun d9 w=>Q1 P F.d [d9] w fun br w=>Q0 br true w (fieldAddr P T.b i 1) fun ec w=>Q0 br true w (Q2 P T.c ec) fun eu w=>Q0 br true w (Q1 P F.d [eu]) fun e8 w=>pick P br e8 (.bool false) w fun ah w=>Q0 ah true w (fieldAddr P T.b i 0) fun e7 w=>Q0 ah true w (Q2 P T.c e7) fun eg w=>Q0 ah true w (fieldAddr P T.b i 1) fun em w=>Q0 ah true w (Q2 P T.c em) fun e9 w=>Q0 ah true w (Q3 P .neq T.c (.tmp 21) (.tmp 23) eg e9) fun d5 w=>pick P ah d5 (.bool false) w fun e4 w=>lp (α:=Value×Value) (e4,(.int .i64 0)) w fun a4 R d_ w=>fieldAddr P T.b i 2 w fun eq w=>Q2 P T.h eq w fun e5 w=>X3 P .len [T.h] T.e [false] [e5] w fun d1 w=>Q3 P .lss T.e (.tmp 26) (.tmp 29) R.2 d1 w fun d8 w=>X1 d8 (dr w fun a b=>Q5 a (fun bf=> ∀w,b w→Q0 R.1 true w (fieldAddr P T.b i 2) (dk a bf w)) fun bf=>Q5 a (fun bh=> ∀w,b w→Q0 R.1 true w (fun w J=>J R.2 w) (dk a bh w)) fun bh=>Q5 a (fun a1=> ∀bo w,b w→bf bo w→Q0 R.1 true w (Q2 P T.h bo) (dk a a1 w)) fun a1=>Q5 a (fun b0=> ∀bj a6 w,b w→a1 bj w→bh a6 w→Q0 R.1 true w (indexAddr P T.h bj a6) (dk a b0 w)) fun b0=>Q5 a (fun b2=> ∀bd w,b w→b0 bd w→Q0 R.1 true w (Q2 P T.c bd) (dk a b2 w)) fun b2=>Q5 a (fun a5=> ∀a8 w,b w→b2 a8 w→Q0 R.1 true w (Q1 P F.d [a8]) (dk a a5 w)) fun a5=>Q5 a (fun j=> ∀a2 w,b w→a5 a2 w→pick P R.1 a2 (.bool false) w (dk a j w)) fun j=>Q5 a (fun a7=> ∀c w,b w→j c w→Q0 c true w (fieldAddr P T.b i 2) (dk a a7 w)) fun a7=>Q5 a (fun bm=> ∀c w,b w→j c w→Q0 c true w (fun w J=>J R.2 w) (dk a bm w)) fun bm=>Q5 a (fun bp=> ∀c w,b w→j c w→Q0 c true w (fieldAddr P T.b i 0) (dk a bp w)) fun bp=>Q5 a (fun b3=> ∀c ax w,b w→j c w→a7 ax w→Q0 c true w (Q2 P T.h ax) (dk a b3 w)) fun b3=>Q5 a (fun az=> ∀c bz bk w,b w→j c w→b3 bz w→bm bk w→Q0 c true w (indexAddr P T.h bz bk) (dk a az w)) fun az=>Q5 a (fun ca=> ∀c bq w,b w→j c w→az bq w→Q0 c true w (Q2 P T.c bq) (dk a ca w)) fun ca=>Q5 a (fun cc=> ∀c a9 w,b w→j c w→bp a9 w→Q0 c true w (Q2 P T.c a9) (dk a cc w)) fun cc=>∀bo a6 bj bd a8 a2 c ax bk a9 bz bq c4 dz w,b w→bf bo w→bh a6 w→a1 bj w→b0 bd w→b2 a8 w→a5 a2 w→j c w→a7 ax w→bm bk w→bp a9 w→b3 bz w→az bq w→ca c4 w→cc dz w→ Q0 c true w (Q3 P .neq T.c (.tmp 47) (.tmp 49) c4 dz) fun e2 w=>pick P c e2 (.bool false) w fun ey w=>lp (α:=Value×Value) (ey,(.int .i64 0)) w fun ai e d_ w=>Q3 P .lss T.e (.tmp 52) (.tmp 53) e.2 R.2 w fun e0 w=>X1 e0 (dr w fun a b=>Q5 a (fun bn=> ∀w,b w→Q0 e.1 true w (fieldAddr P T.b i 2) (dk a bn w)) fun bn=>Q5 a (fun bx=> ∀w,b w→Q0 e.1 true w (fun w J=>J e.2 w) (dk a bx w)) fun bx=>Q5 a (fun b4=> ∀w,b w→Q0 e.1 true w (fieldAddr P T.b i 2) (dk a b4 w)) fun b4=>Q5 a (fun bs=> ∀w,b w→Q0 e.1 true w (fun w J=>J R.2 w) (dk a bs w)) fun bs=>Q5 a (fun bl=> ∀bw w,b w→bn bw w→Q0 e.1 true w (Q2 P T.h bw) (dk a bl w)) fun bl=>Q5 a (fun bb=> ∀bv bc w,b w→bl bv w→bx bc w→Q0 e.1 true w (indexAddr P T.h bv bc) (dk a bb w)) fun bb=>Q5 a (fun b9=> ∀be w,b w→bb be w→Q0 e.1 true w (Q2 P T.c be) (dk a b9 w)) fun b9=>Q5 a (fun ay=> ∀a3 w,b w→b4 a3 w→Q0 e.1 true w (Q2 P T.h a3) (dk a ay w)) fun ay=>Q5 a (fun b1=> ∀ba bi w,b w→ay ba w→bs bi w→Q0 e.1 true w (indexAddr P T.h ba bi) (dk a b1 w)) fun b1=>Q5 a (fun cb=> ∀bu w,b w→b1 bu w→Q0 e.1 true w (Q2 P T.c bu) (dk a cb w)) fun cb=>∀bw bc a3 bi bv be cu ba bu dl w,b w→bn bw w→bx bc w→b4 a3 w→bs bi w→bl bv w→bb be w→b9 cu w→ay ba w→b1 bu w→cb dl w→ Q0 e.1 true w (Q3 P .neq T.c (.tmp 63) (.tmp 68) cu dl) fun ep w=>pick P e.1 ep (.bool false) w fun el w=>Q3 P .add T.e (.tmp 55) (.const (.int .i64 1)) e.2 (.int .i64 1) w fun ee w=>ai (el,ee) w) (Q3 P .add T.e (.tmp 31) (.const (.int .i64 1)) R.2 (.int .i64 1) w fun er w=>a4 (e.1,er) w)) (lp (α:=Value×Value) (R.1,(.int .i64 0)) w fun av f d_ w=>fieldAddr P T.b i 6 w fun e1 w=>Q2 P T.k e1 w fun ew w=>X3 P .len [T.k] T.e [false] [ew] w fun ei w=>Q3 P .lss T.e (.tmp 71) (.tmp 74) f.2 ei w fun ea w=>X1 ea (Q0 f.1 true w (fieldAddr P T.b i 6) fun ex w=>Q0 f.1 true w (Q2 P T.k ex) fun d6 w=>Q0 f.1 true w (fun w J=>J f.2 w) fun ef w=>Q0 f.1 true w (indexAddr P T.k d6 ef) fun d7 w=>Q0 f.1 true w (fieldAddr P T.n d7 0) fun ek w=>Q0 f.1 true w (Q2 P T.c ek) fun ez w=>Q0 f.1 true w (Q1 P F.u [ez]) fun d2 w=>pick P f.1 d2 (.bool false) w fun o w=>Q0 o true w (fieldAddr P T.b i 6) fun d4 w=>Q0 o true w (Q2 P T.k d4) fun e6 w=>Q0 o true w (fun w J=>J f.2 w) fun ed w=>Q0 o true w (indexAddr P T.k e6 ed) fun d3 w=>Q0 o true w (fieldAddr P T.n d3 1) fun eo w=>Q0 o true w (Q2 P T.c eo) fun e3 w=>Q0 o true w (Q1 P F.e [e3]) fun ej w=>pick P o ej (.bool false) w fun bg w=>Q0 bg true w (fieldAddr P T.b i 3) fun es w=>Q0 bg true w (Q2 P T.t es) fun eh w=>Q0 bg true w (J9 P .not eh) fun dj w=>pick P bg dj (.bool false) w fun cg w=>lp (α:=Value×Value) (cg,(.int .i64 0)) w fun aw d d_ w=>Q3 P .lss T.e (.tmp 102) (.tmp 103) d.2 f.2 w fun cf w=>X1 cf (dr w fun a b=>Q5 a (fun u=> ∀w,b w→Q0 d.1 true w (fieldAddr P T.b i 6) (dk a u w)) fun u=>Q5 a (fun L=> ∀w,b w→Q0 d.1 true w (fun w J=>J d.2 w) (dk a L w)) fun L=>Q5 a (fun U=> ∀w,b w→Q0 d.1 true w (fieldAddr P T.b i 6) (dk a U w)) fun U=>Q5 a (fun aa=> ∀w,b w→Q0 d.1 true w (fun w J=>J f.2 w) (dk a aa w)) fun aa=>Q5 a (fun Q=> ∀C w,b w→u C w→Q0 d.1 true w (Q2 P T.k C) (dk a Q w)) fun Q=>Q5 a (fun B=> ∀E H w,b w→Q E w→L H w→Q0 d.1 true w (indexAddr P T.k E H) (dk a B w)) fun B=>Q5 a (fun W=> ∀y w,b w→B y w→Q0 d.1 true w (fieldAddr P T.n y 0) (dk a W w)) fun W=>Q5 a (fun ap=> ∀M w,b w→W M w→Q0 d.1 true w (Q2 P T.c M) (dk a ap w)) fun ap=>Q5 a (fun ac=> ∀ad w,b w→U ad w→Q0 d.1 true w (Q2 P T.k ad) (dk a ac w)) fun ac=>Q5 a (fun ag=> ∀V N w,b w→ac V w→aa N w→Q0 d.1 true w (indexAddr P T.k V N) (dk a ag w)) fun ag=>Q5 a (fun s=> ∀p w,b w→ag p w→Q0 d.1 true w (fieldAddr P T.n p 0) (dk a s w)) fun s=>Q5 a (fun al=> ∀af w,b w→s af w→Q0 d.1 true w (Q2 P T.c af) (dk a al w)) fun al=>∀C H ad N E y M b7 V p af b8 w,b w→u C w→L H w→U ad w→aa N w→Q E w→B y w→W M w→ap b7 w→ac V w→ag p w→s af w→al b8 w→ Q0 d.1 true w (Q3 P .neq T.c (.tmp 114) (.tmp 120) b7 b8) fun c9 w=>pick P d.1 c9 (.bool false) w fun cl w=>Q3 P .add T.e (.tmp 105) (.const (.int .i64 1)) d.2 (.int .i64 1) w fun dn w=>aw (cl,dn) w) (Q3 P .add T.e (.tmp 76) (.const (.int .i64 1)) f.2 (.int .i64 1) w fun eb w=>av (d.1,eb) w)) (lp (α:=Value×Value) (f.1,(.int .i64 0)) w fun ak h d_ w=>fieldAddr P T.b i 7 w fun cz w=>Q2 P T.j cz w fun co w=>X3 P .len [T.j] T.e [false] [co] w fun c7 w=>Q3 P .lss T.e (.tmp 123) (.tmp 126) h.2 c7 w fun cy w=>X1 cy (fieldAddr P T.b i 7 w fun di w=>Q2 P T.j di w fun dq w=>indexAddr P T.j dq h.2 w fun dg w=>Q2 P T.d dg w fun da w=>W0 P T.d w fun t9 w=>Y0 P T.d t9 da w fun _u w=>Q0 h.1 true w (Q2 P T.d t9) fun cm w=>Q0 h.1 true w (Q1 P F.a4 [cm]) fun dx w=>pick P h.1 dx (.bool false) w fun k w=>Q0 k true w (fieldAddr P T.d t9 3) fun cq w=>Q0 k true w (Q2 P T.t cq) fun cd w=>Q0 k true w (J9 P .not cd) fun dv w=>Q0 k true w (fun w J=>J dv w) fun ao w=>Q0 ao false w (fieldAddr P T.b i 4) fun cr w=>Q0 ao false w (Q2 P T.t cr) fun cw w=>Q0 k true w (pick P ao (.bool true) cw) fun ce w=>pick P k ce (.bool false) w fun m w=>Q0 m true w (fieldAddr P T.b i 3) fun cv w=>Q0 m true w (Q2 P T.t cv) fun c8 w=>Q0 m true w (J9 P .not c8) fun c1 w=>Q0 m true w (fun w J=>J c1 w) fun aj w=>Q0 aj false w (fieldAddr P T.d t9 3) fun c0 w=>Q0 aj false w (Q2 P T.t c0) fun cs w=>Q0 m true w (pick P aj (.bool true) cs) fun db w=>pick P m db (.bool false) w fun ck w=>lp (α:=Value×Value) (ck,(.int .i64 0)) w fun am g d_ w=>Q3 P .lss T.e (.tmp 158) (.tmp 159) g.2 h.2 w fun c6 w=>X1 c6 (dr w fun a b=>Q5 a (fun z=> ∀w,b w→Q0 g.1 true w (fieldAddr P T.b i 7) (dk a z w)) fun z=>Q5 a (fun t=> ∀w,b w→Q0 g.1 true w (fun w J=>J g.2 w) (dk a t w)) fun t=>Q5 a (fun v=> ∀w,b w→Q0 g.1 true w (fieldAddr P T.d t9 0) (dk a v w)) fun v=>Q5 a (fun Y=> ∀A w,b w→z A w→Q0 g.1 true w (Q2 P T.j A) (dk a Y w)) fun Y=>Q5 a (fun r=> ∀Z X w,b w→Y Z w→t X w→Q0 g.1 true w (indexAddr P T.j Z X) (dk a r w)) fun r=>Q5 a (fun D=> ∀ae w,b w→r ae w→Q0 g.1 true w (fieldAddr P T.d ae 0) (dk a D w)) fun D=>Q5 a (fun an=> ∀ab w,b w→D ab w→Q0 g.1 true w (Q2 P T.c ab) (dk a an w)) fun an=>Q5 a (fun ar=> ∀O w,b w→v O w→Q0 g.1 true w (Q2 P T.c O) (dk a ar w)) fun ar=>∀A X O Z ae ab b6 b5 w,b w→z A w→t X w→v O w→Y Z w→r ae w→D ab w→an b6 w→ar b5 w→ Q0 g.1 true w (Q3 P .neq T.c (.tmp 170) (.tmp 172) b6 b5) fun dh w=>pick P g.1 dh (.bool false) w fun c2 w=>Q3 P .add T.e (.tmp 161) (.const (.int .i64 1)) g.2 (.int .i64 1) w fun dw w=>am (c2,dw) w) (Q3 P .add T.e (.tmp 128) (.const (.int .i64 1)) h.2 (.int .i64 1) w fun dd w=>ak (g.1,dd) w)) (Q0 h.1 true w (fieldAddr P T.b i 3) fun du w=>Q0 h.1 true w (Q2 P T.t du) fun df w=>Q0 h.1 true w (J9 P .not df) fun dy w=>Q0 h.1 true w (fun w J=>J dy w) fun n w=>Q0 n false w (fieldAddr P T.b i 4) fun cp w=>Q0 n false w (Q2 P T.t cp) fun ds w=>Q0 n false w (fun w J=>J ds w) fun q w=>Q0 q true w (fieldAddr P T.b i 1) fun ct w=>Q0 q true w (Q2 P T.c ct) fun dp w=>Q0 q true w (Q3 P .eql T.c (.tmp 185) (.const (.string ⟨#[79,98,106,101,99,116]⟩)) dp (.string ⟨#[79,98,106,101,99,116]⟩)) fun ch w=>Q0 n false w (pick P q ch (.bool false)) fun dm w=>Q0 h.1 true w (pick P n (.bool true) dm) fun dc w=>pick P h.1 dc (.bool false) w fun l w=>Q0 l true w (fieldAddr P T.b i 4) fun dt w=>Q0 l true w (Q2 P T.t dt) fun cn w=>Q0 l true w (fun w J=>J cn w) fun aq w=>Q0 aq true w (fieldAddr P T.b i 5) fun cx w=>Q0 aq true w (Q2 P T.t cx) fun ci w=>Q0 l true w (pick P aq ci (.bool false)) fun d0 w=>Q0 l true w (J9 P .not d0) fun c3 w=>pick P l c3 (.bool false) w fun de w=>K de w)))
theorem Kx {a:Value} {w:World} {K:Value→World→Prop} (h:Ns a w K):Q1 P F.br [a] w K:=Q9 Iq Tryz.func148 rfl (by decide) (by kernel_rfl) h
def Mf (e:Value) (w:World) (K:Value→World→Prop):Prop:= box P T.b e w fun a w=>Q2 P T.b a w fun b w=>Q1 P F.bJ [b] w fun c w=>X1 c (K (.int .i64 51) w) (Q2 P T.b a w fun d w=>Q1 P F.br [d] w fun g w=>J9 P .not g w fun f w=>X1 f (K (.int .i64 50) w) (K (.int .i64 0) w))
theorem Kt {a:Value} {w:World} {K:Value→World→Prop} (h:Mf a w K):Q1 P F.bp [a] w K:=Q9 (List.replicate 8 none) Tryz.func100 rfl (by decide) (by kernel_rfl) h
def Al:V9:=[none,none,none,some ([5],[4,5,6,7,8,9,10,11,12,13,14,15,16,17,18,19]),none,none,none,none,none,none]
def Df (h k:Value) (w:World) (K:Value→World→Prop):Prop:= lp (α:=Value) (.int .i64 0) w fun a b l w=>X3 P .len [T.i] T.e [false] [h] w fun i w=>Q3 P .lss T.e (.tmp 6) (.tmp 8) b i w fun j w=>X1 j (indexAddr P T.i h b w fun e w=>fieldAddr P T.b e 0 w fun f w=>Q2 P T.c f w fun g w=>Q3 P .eql T.c (.tmp 16) (.tmp 17) g k w fun c w=>X1 c (K b w) (Q3 P .add T.e (.tmp 10) (.const (.int .i64 1)) b (.int .i64 1) w fun d w=>a d w)) (K (.int .i64 (-1)) w)
theorem Au {a b:Value} {w:World} {K:Value→World→Prop} (h:Df a b w K):Q1 P F.b [a,b] w K:=Q9 Al Tryz.func101 rfl (by decide) (by kernel_rfl) h
def Ia:V9:=[none,none,none,none,none,none,none,some ([6],[4,6,7,28,29,30,31,32,33,34,35,36,37,38,39,40,41,42,43,44,45,46,47,48,49,50,51]),none,none,none,none,none,none,none]
def Lp (g V:Value) (w:World) (K:Value→World→Prop):Prop:= box P T.b V w fun b w=>fieldAddr P T.b b 1 w fun W w=>Q2 P T.c W w fun R w=>Q1 P F.b [g,R] w fun f w=>Q3 P .lss T.e (.tmp 12) (.const (.int .i64 0)) f (.int .i64 0) w fun d w=>Q0 d false w (fun w J=>J g w) fun j w=>Q0 d false w (fun w J=>J f w) fun A w=>Q0 d false w (indexAddr P T.i j A) fun E w=>Q0 d false w (fieldAddr P T.b E 3) fun n w=>Q0 d false w (Q2 P T.t n) fun o w=>pick P d (.bool true) o w fun c w=>Q0 c false w (fun w J=>J g w) fun U w=>Q0 c false w (fun w J=>J f w) fun Q w=>Q0 c false w (indexAddr P T.i U Q) fun m w=>Q0 c false w (fieldAddr P T.b m 5) fun u w=>Q0 c false w (Q2 P T.t u) fun t w=>pick P c (.bool true) t w fun p w=>X1 p (K (.int .i64 61) w) (lp (α:=Value) (.int .i64 0) w fun e q X w=>fieldAddr P T.b b 2 w fun i w=>Q2 P T.h i w fun N w=>X3 P .len [T.h] T.e [false] [N] w fun k w=>Q3 P .lss T.e (.tmp 28) (.tmp 31) q k w fun r w=>X1 r (fieldAddr P T.b b 2 w fun C w=>Q2 P T.h C w fun z w=>indexAddr P T.h z q w fun B w=>Q2 P T.c B w fun l w=>Q1 P F.b [g,l] w fun h w=>Q3 P .lss T.e (.tmp 42) (.const (.int .i64 0)) h (.int .i64 0) w fun a w=>Q0 a false w (fun w J=>J g w) fun H w=>Q0 a false w (fun w J=>J h w) fun y w=>Q0 a false w (indexAddr P T.i H y) fun L w=>Q0 a false w (fieldAddr P T.b L 3) fun D w=>Q0 a false w (Q2 P T.t D) fun v w=>Q0 a false w (J9 P .not v) fun s w=>pick P a (.bool true) s w fun M w=>X1 M (K (.int .i64 62) w) (Q3 P .add T.e (.tmp 33) (.const (.int .i64 1)) q (.int .i64 1) w fun O w=>e O w)) (K (.int .i64 0) w))
theorem Fy {a b:Value} {w:World} {K:Value→World→Prop} (h:Lp a b w K):Q1 P F.be [a,b] w K:=Q9 Ia Tryz.func102 rfl (by decide) (by kernel_rfl) h
def Il:V9:=[none,none,none,none,some ([3,4],[3,4,5,6,7,8,13,14,15,16,17,18,19,20,21,22,23,24,25,26,27,28,29,30,31,32,33,34,35,36,37,38,39,40,41,42,43,44,45,46,47,48,49,50,51,52,53,54]),none,none,none,none,none,none,none,some ([7],[7,8,34,35,36,37,38,39,40,41,42,43,44,45,46,47,48,49,50]),none,none,some ([],[8,40,41,42,43,44,45,46,47,48,49,50]),none,none,none,none,some ([9],[9,10,11,55,56,57,58,59,60,61,62,63,64,65,66,67,68,69,70,71,72,73,74,75,76,77,78,79,80,81,82,83,84,85,86,87,88,89,90,91,92,93,94,95,96,97,98,99,100,101,102,103]),none,none,none,none,some ([10],[10,11,61,62,63,64,65,66,67,68,69,70,71,72,73,74,75,76,77,78,79,80,81,82,83,84,85,86,87,88,89,90,91,92,93,94,95,96,97,98,99,100,101,102,103]),none,none,none,none,some ([11],[11,67,68,69,70,71,72,73,74,75,76,77,78,79,80,81,82,83,84,85,86,87,88,89,90,91,92,93,94,95,96,97,98,99,100,101,102,103]),none,none,none,none]
def Mn (a0:Value) (w:World) (K:Value→World→Prop):Prop:= buildSlice P T.a8 0 [] w fun bp w=>lp (α:=Value×Value) (bp,(.int .i64 0)) w fun O r d_ w=>X3 P .len [T.i] T.e [false] [a0] w fun br w=>Q3 P .lss T.e (.tmp 13) (.tmp 15) r.2 br w fun bn w=>X1 bn (X3 P .len [T.i] T.e [false] [a0] w fun bd w=>Dq P T.a6 bd bd w fun bb w=>dr w fun b d=>Q5 b (fun B=> ∀w,d w→indexAddr P T.i a0 r.2 w (dk b B w)) fun B=>Q5 b (fun W=> ∀C w,d w→B C w→fieldAddr P T.b C 1 w (dk b W w)) fun W=>Q5 b (fun ag=> ∀w,d w→indexAddr P T.i a0 r.2 w (dk b ag w)) fun ag=>Q5 b (fun aj=> ∀Z w,d w→ag Z w→fieldAddr P T.b Z 2 w (dk b aj w)) fun aj=>Q5 b (fun E=> ∀an w,d w→W an w→Q2 P T.c an w (dk b E w)) fun E=>Q5 b (fun a5=> ∀L w,d w→E L w→buildSlice P T.h 1 [(0,L)] w (dk b a5 w)) fun a5=>Q5 b (fun a3=> ∀ad w,d w→aj ad w→Q2 P T.h ad w (dk b a3 w)) fun a3=>∀C an Z ad L a7 a8 w,d w→B C w→W an w→ag Z w→aj ad w→E L w→a5 a7 w→a3 a8 w→ X3 P .append [T.h,T.h] T.h [false,false] [a7,a8] w fun a6 w=>lp (α:=Value) (.int .i64 0) w fun m a2 d_ w=>X3 P .len [T.h] T.e [false] [a6] w fun bz w=>Q3 P .lss T.e (.tmp 34) (.tmp 36) a2 bz w fun bl w=>X1 bl (jn (α:=Unit) w (fun ba w=>indexAddr P T.h a6 a2 w fun bg w=>Q2 P T.c bg w fun bx w=>Q1 P F.b [a0,bx] w fun be w=>Q3 P .geq T.e (.tmp 46) (.const (.int .i64 0)) be (.int .i64 0) w fun b1 w=>X1 b1 (indexAddr P T.a6 bb be w fun bu w=>Y0 P T.t bu (.bool true) w fun _u w=>ba () w) (ba () w)) fun b4 d_ w=>Q3 P .add T.e (.tmp 38) (.const (.int .i64 1)) a2 (.int .i64 1) w fun bm w=>m bm w) (buildSlice P T.a8 1 [(0,bb)] w fun b0 w=>X3 P .append [T.a8,T.a8] T.a8 [false,false] [r.1,b0] w fun bq w=>Q3 P .add T.e (.tmp 17) (.const (.int .i64 1)) r.2 (.int .i64 1) w fun bi w=>O (bq,bi) w)) (lp (α:=Value) (.int .i64 0) w fun q U d_ w=>X3 P .len [T.i] T.e [false] [a0] w fun b2 w=>Q3 P .lss T.e (.tmp 55) (.tmp 57) U b2 w fun bj w=>X1 bj (lp (α:=Value) (.int .i64 0) w fun l o d_ w=>X3 P .len [T.i] T.e [false] [a0] w fun bo w=>Q3 P .lss T.e (.tmp 61) (.tmp 63) o bo w fun bk w=>X1 bk (lp (α:=Value) (.int .i64 0) w fun k p d_ w=>X3 P .len [T.i] T.e [false] [a0] w fun bh w=>Q3 P .lss T.e (.tmp 67) (.tmp 69) p bh w fun b3 w=>X1 b3 (dr w fun b d=>Q5 b (fun ab=> ∀w,d w→indexAddr P T.a8 r.1 o w (dk b ab w)) fun ab=>Q5 b (fun R=> ∀w,d w→indexAddr P T.a8 r.1 o w (dk b R w)) fun R=>Q5 b (fun a4=> ∀ac w,d w→ab ac w→Q2 P T.a6 ac w (dk b a4 w)) fun a4=>Q5 b (fun aa=> ∀V w,d w→R V w→Q2 P T.a6 V w (dk b aa w)) fun aa=>Q5 b (fun M=> ∀H w,d w→aa H w→indexAddr P T.a6 H p w (dk b M w)) fun M=>Q5 b (fun e=> ∀Q w,d w→M Q w→Q2 P T.t Q w (dk b e w)) fun e=>Q5 b (fun ay=> ∀a w,d w→e a w→Q0 a false w (fun w J=>J r.1 w) (dk b ay w)) fun ay=>Q5 b (fun al=> ∀a w,d w→e a w→Q0 a false w (fun w J=>J o w) (dk b al w)) fun al=>Q5 b (fun aq=> ∀a s ae w,d w→e a w→ay s w→al ae w→Q0 a false w (indexAddr P T.a8 s ae) (dk b aq w)) fun aq=>Q5 b (fun Y=> ∀a w,d w→e a w→Q0 a false w (fun w J=>J U w) (dk b Y w)) fun Y=>Q5 b (fun X=> ∀a ax w,d w→e a w→aq ax w→Q0 a false w (Q2 P T.a6 ax) (dk b X w)) fun X=>Q5 b (fun ah=> ∀a v ar w,d w→e a w→X v w→Y ar w→Q0 a false w (indexAddr P T.a6 v ar) (dk b ah w)) fun ah=>Q5 b (fun t=> ∀a af w,d w→e a w→ah af w→Q0 a false w (Q2 P T.t af) (dk b t w)) fun t=>Q5 b (fun f=> ∀a u w,d w→e a w→t u w→Q0 a false w (fun w J=>J u w) (dk b f w)) fun f=>Q5 b (fun A=> ∀c w,d w→f c w→Q0 c true w (fun w J=>J r.1 w) (dk b A w)) fun A=>Q5 b (fun z=> ∀c w,d w→f c w→Q0 c true w (fun w J=>J U w) (dk b z w)) fun z=>Q5 b (fun D=> ∀c am av w,d w→f c w→A am w→z av w→Q0 c true w (indexAddr P T.a8 am av) (dk b D w)) fun D=>Q5 b (fun ap=> ∀c w,d w→f c w→Q0 c true w (fun w J=>J p w) (dk b ap w)) fun ap=>Q5 b (fun ao=> ∀c ai w,d w→f c w→D ai w→Q0 c true w (Q2 P T.a6 ai) (dk b ao w)) fun ao=>Q5 b (fun y=> ∀c aw N w,d w→f c w→ao aw w→ap N w→Q0 c true w (indexAddr P T.a6 aw N) (dk b y w)) fun y=>Q5 b (fun h=> ∀c ak w,d w→f c w→y ak w→Q0 c true w (Q2 P T.t ak) (dk b h w)) fun h=>Q5 b (fun j=> ∀a c i w,d w→e a w→f c w→h i w→Q0 a false w (pick P c i (.bool false)) (dk b j w)) fun j=>Q5 b (fun n=> ∀a g w,d w→e a w→j g w→pick P a (.bool true) g w (dk b n w)) fun n=>∀ac V bc H Q a s ae ax ar v af u c am av ai N aw ak i g a1 w,d w→ab ac w→R V w→a4 bc w→aa H w→M Q w→e a w→ay s w→al ae w→aq ax w→Y ar w→X v w→ah af w→t u w→f c w→A am w→z av w→D ai w→ap N w→ao aw w→y ak w→h i w→j g w→n a1 w→ indexAddr P T.a6 bc p w fun a9 w=>Y0 P T.t a9 a1 w fun _u w=>Q3 P .add T.e (.tmp 71) (.const (.int .i64 1)) p (.int .i64 1) w fun bs w=>k bs w) (Q3 P .add T.e (.tmp 65) (.const (.int .i64 1)) o (.int .i64 1) w fun bw w=>l bw w)) (Q3 P .add T.e (.tmp 59) (.const (.int .i64 1)) U (.int .i64 1) w fun bv w=>q bv w)) (K r.1 w))
theorem Pq {a:Value} {w:World} {K:Value→World→Prop} (h:Mn a w K):Q1 P F.ak [a] w K:=Q9 Il Tryz.func103 rfl (by decide) (by kernel_rfl) h
def Q17:V9:=[none,none,none,none,none,none,some ([9],[8,9,16,17,18,19,20,21,22,23,24,25,26,27,28]),none,none,none,none,none,none,none,none,some ([1,11],[1,11,41,42,43,44,45,46,47,48,49,50,51,52,53,54,55,56]),none,none,none,none]
def Ed (y r X t:Value) (w:World) (K:Value→World→Prop):Prop:= Q3 P .lss T.e (.tmp 12) (.tmp 13) t X w fun A w=>X1 A (K r w) (lp (α:=Value) (.int .i64 0) w fun n J Y w=>X3 P .len [T.a7] T.e [false] [r] w fun E w=>Q3 P .lss T.e (.tmp 16) (.tmp 18) J E w fun H w=>X1 H (indexAddr P T.a7 r J w fun D w=>Q2 P T.e D w fun Q w=>Q3 P .eql T.e (.tmp 25) (.tmp 26) Q t w fun L w=>X1 L (K r w) (Q3 P .add T.e (.tmp 20) (.const (.int .i64 1)) J (.int .i64 1) w fun M w=>n M w)) (dr w fun a o=>Q5 a (fun h=> ∀w,o w→indexAddr P T.i y t w (dk a h w)) fun h=>Q5 a (fun e=> ∀d w,o w→h d w→fieldAddr P T.b d 1 w (dk a e w)) fun e=>Q5 a (fun k=> ∀w,o w→indexAddr P T.i y t w (dk a k w)) fun k=>Q5 a (fun m=> ∀l w,o w→k l w→fieldAddr P T.b l 2 w (dk a m w)) fun m=>Q5 a (fun j=> ∀i w,o w→e i w→Q2 P T.c i w (dk a j w)) fun j=>Q5 a (fun q=> ∀g w,o w→j g w→buildSlice P T.h 1 [(0,g)] w (dk a q w)) fun q=>Q5 a (fun p=> ∀f w,o w→m f w→Q2 P T.h f w (dk a p w)) fun p=>∀d i l f g v u w,o w→h d w→e i w→k l w→m f w→j g w→q v w→p u w→ X3 P .append [T.h,T.h] T.h [false,false] [v,u] w fun s w=>lp (α:=Value×Value) (r,(.int .i64 0)) w fun b c Y w=>X3 P .len [T.h] T.e [false] [s] w fun B w=>Q3 P .lss T.e (.tmp 41) (.tmp 43) c.2 B w fun V w=>X1 V (indexAddr P T.h s c.2 w fun W w=>Q2 P T.c W w fun z w=>Q1 P F.b [y,z] w fun R w=>Q1 P F.b0 [y,c.1,X,R] w fun C w=>Q3 P .add T.e (.tmp 45) (.const (.int .i64 1)) c.2 (.int .i64 1) w fun U w=>b (C,U) w) (buildSlice P T.a7 1 [(0,t)] w fun O w=>X3 P .append [T.a7,T.a7] T.a7 [false,false] [c.1,O] w fun N w=>K N w)))
theorem Q0R {c d a b:Value} {w:World} {K:Value→World→Prop} (h:Ed c d a b w K):Q1 P F.b0 [c,d,a,b] w K:=Q9 Q17 Tryz.func104 rfl (by decide) (by kernel_rfl) h
def Xm (u A:Value) (w:World) (K:Value→World→Prop):Prop:= Q1 P F.b [u,A] w fun z w=>Q3 P .lss T.e (.tmp 9) (.const (.int .i64 0)) z (.int .i64 0) w fun y w=>X1 y (K (.slice none 0 0) w) (dr w fun a b=>Q5 a (fun m=> ∀w,b w→indexAddr P T.i u z w (dk a m w)) fun m=>Q5 a (fun o=> ∀d w,b w→m d w→fieldAddr P T.b d 1 w (dk a o w)) fun o=>Q5 a (fun i=> ∀w,b w→indexAddr P T.i u z w (dk a i w)) fun i=>Q5 a (fun g=> ∀p w,b w→i p w→fieldAddr P T.b p 6 w (dk a g w)) fun g=>Q5 a (fun j=> ∀w,b w→buildSlice P T.k 0 [] w (dk a j w)) fun j=>Q5 a (fun l=> ∀h w,b w→o h w→Q2 P T.c h w (dk a l w)) fun l=>Q5 a (fun c=> ∀k w,b w→l k w→Q1 P F.p [u,k] w (dk a c w)) fun c=>Q5 a (fun r=> ∀f e w,b w→j f w→c e w→X3 P .append [T.k,T.k] T.k [false,false] [f,e] w (dk a r w)) fun r=>Q5 a (fun q=> ∀n w,b w→g n w→Q2 P T.k n w (dk a q w)) fun q=>∀d h p n f k e t s w,b w→m d w→o h w→i p w→g n w→j f w→l k w→c e w→r t w→q s w→ X3 P .append [T.k,T.k] T.k [false,false] [t,s] w fun v w=>K v w)
theorem Lj {a b:Value} {w:World} {K:Value→World→Prop} (h:Xm a b w K):Q1 P F.p [a,b] w K:=Q9 (List.replicate 6 none) Tryz.func73 rfl (by decide) (by kernel_rfl) h
def Km:V9:=[none,none,none,none,some ([8],[6,8,12,13,14,15,16,17,18,19,20,21,22,23,24,25]),none,none,none,none,none,none]
def Na (l m k:Value) (w:World) (K:Value→World→Prop):Prop:= Q1 P F.p [l,m] w fun b w=>lp (α:=Value) (.int .i64 0) w fun a c n w=>X3 P .len [T.k] T.e [false] [b] w fun g w=>Q3 P .lss T.e (.tmp 12) (.tmp 14) c g w fun h w=>X1 h (indexAddr P T.k b c w fun e w=>fieldAddr P T.n e 0 w fun i w=>Q2 P T.c i w fun j w=>Q3 P .eql T.c (.tmp 22) (.tmp 23) j k w fun d w=>X1 d (K c w) (Q3 P .add T.e (.tmp 16) (.const (.int .i64 1)) c (.int .i64 1) w fun f w=>a f w)) (K (.int .i64 (-1)) w)
theorem Pd {b c a:Value} {w:World} {K:Value→World→Prop} (h:Na b c a w K):Q1 P F.bs [b,c,a] w K:=Q9 Km Tryz.func149 rfl (by decide) (by kernel_rfl) h
def Dh (a:Value) (w:World) (K:Value→World→Prop):Prop:= X3 P .len [T.c] T.e [false] [a] w fun c w=>Q1 P F.a1 [a] w fun e w=>Q3 P .mul T.e (.const (.int .i64 2)) (.tmp 7) (.int .i64 2) e w fun f w=>Q3 P .sub T.e (.tmp 5) (.tmp 8) c f w fun d w=>R7 P T.c a none (some d) none w fun b w=>K b w
theorem Ax {a:Value} {w:World} {K:Value→World→Prop} (h:Dh a w K):Q1 P F.aW [a] w K:=Q9 (List.replicate 2 none) Tryz.func153 rfl (by decide) (by kernel_rfl) h
def Db (p d:Value) (w:World) (K:Value→World→Prop):Prop:= Q3 P .eql T.c (.tmp 5) (.const (.string ⟨#[110,117,108,108]⟩)) d (.string ⟨#[110,117,108,108]⟩) w fun c w=>Q0 c false w (fun w J=>J d w) fun r w=>Q0 c false w (Q1 P F.e [r]) fun q w=>Q0 c false w (fun w J=>J q w) fun b w=>Q0 b true w (fun w J=>J d w) fun i w=>Q0 b true w (Q1 P F.aW [i]) fun n w=>Q0 b true w (Q1 P F.x [n]) fun m w=>Q0 b true w (fun w J=>J m w) fun a w=>Q0 a false w (fun w J=>J p w) fun e w=>Q0 a false w (fun w J=>J d w) fun j w=>Q0 a false w (Q1 P F.aW [j]) fun l w=>Q0 a false w (Q1 P F.b [e,l]) fun f w=>Q0 a false w (Q3 P .geq T.e (.tmp 18) (.const (.int .i64 0)) f (.int .i64 0)) fun g w=>Q0 b true w (pick P a (.bool true) g) fun k w=>Q0 c false w (pick P b k (.bool false)) fun h w=>pick P c (.bool true) h w fun o w=>K o w
theorem Q0e {a b:Value} {w:World} {K:Value→World→Prop} (h:Db a b w K):Q1 P F.a0 [a,b] w K:=Q9 (List.replicate 2 none) Tryz.func106 rfl (by decide) (by kernel_rfl) h
def Lx (e d:Value) (w:World) (K:Value→World→Prop):Prop:= Q3 P .neq T.c (.tmp 5) (.const (.string ⟨#[110,117,108,108]⟩)) d (.string ⟨#[110,117,108,108]⟩) w fun a w=>Q0 a true w (fun w J=>J e w) fun g w=>Q0 a true w (fun w J=>J d w) fun f w=>Q0 a true w (Q1 P F.a0 [g,f]) fun c w=>pick P a c (.bool false) w fun b w=>K b w
theorem Ko {a b:Value} {w:World} {K:Value→World→Prop} (h:Lx a b w K):Q1 P F.bt [a,b] w K:=Q9 (List.replicate 2 none) Tryz.func150 rfl (by decide) (by kernel_rfl) h
def Aq:V9:=[none,none,none,none,some ([3,4],[3,4,5,6,7,8,9,10,11,12,13,14,15,16,17,18,19,20,21,22]),none,none,none,some ([3],[3,12,13,14,15]),none,none]
def Oo (q:Value) (w:World) (K:Value→World→Prop):Prop:= box P T.d q w fun a w=>lp (α:=Value×Value) ((.string ⟨#[40]⟩),(.int .i64 0)) w fun b c v w=>fieldAddr P T.d a 1 w fun t w=>Q2 P T.h t w fun u w=>X3 P .len [T.h] T.e [false] [u] w fun y w=>Q3 P .lss T.e (.tmp 5) (.tmp 8) c.2 y w fun s w=>X1 s (jn (α:=Value) w (fun p w=>Q3 P .gtr T.e (.tmp 12) (.const (.int .i64 0)) c.2 (.int .i64 0) w fun n w=>X1 n (Q3 P .add T.c (.tmp 14) (.const (.string ⟨#[44]⟩)) c.1 (.string ⟨#[44]⟩) w fun d w=>p d w) (p c.1 w)) fun r v w=>fieldAddr P T.d a 1 w fun m w=>Q2 P T.h m w fun f w=>indexAddr P T.h f c.2 w fun l w=>Q2 P T.c l w fun g w=>Q3 P .add T.c (.tmp 16) (.tmp 21) r g w fun o w=>Q3 P .add T.e (.tmp 10) (.const (.int .i64 1)) c.2 (.int .i64 1) w fun k w=>b (o,k) w) (Q3 P .add T.c (.tmp 23) (.const (.string ⟨#[41]⟩)) c.1 (.string ⟨#[41]⟩) w fun e w=>fieldAddr P T.d a 2 w fun j w=>Q2 P T.c j w fun i w=>Q3 P .add T.c (.tmp 24) (.tmp 26) e i w fun h w=>K h w)
theorem Q0d {a:Value} {w:World} {K:Value→World→Prop} (h:Oo a w K):Q1 P F.aV [a] w K:=Q9 Aq Tryz.func151 rfl (by decide) (by kernel_rfl) h
def Q0u:V9:=[none,none,none,some ([5],[4,5,6,7,8,9,10,11,12,13,14,15,16,17,18,19,20,21]),none,none,none,none,none,none]
def Er (l m:Value) (w:World) (K:Value→World→Prop):Prop:= box P T.b l w fun a w=>lp (α:=Value) (.int .i64 0) w fun b c q w=>fieldAddr P T.b a 7 w fun o w=>Q2 P T.j o w fun p w=>X3 P .len [T.j] T.e [false] [p] w fun n w=>Q3 P .lss T.e (.tmp 6) (.tmp 9) c n w fun k w=>X1 k (fieldAddr P T.b a 7 w fun i w=>Q2 P T.j i w fun d w=>indexAddr P T.j d c w fun f w=>fieldAddr P T.d f 0 w fun h w=>Q2 P T.c h w fun e w=>Q3 P .eql T.c (.tmp 18) (.tmp 19) e m w fun g w=>X1 g (K c w) (Q3 P .add T.e (.tmp 11) (.const (.int .i64 1)) c (.int .i64 1) w fun j w=>b j w)) (K (.int .i64 (-1)) w)
theorem Q0B {a b:Value} {w:World} {K:Value→World→Prop} (h:Er a b w K):Q1 P F.b1 [a,b] w K:=Q9 Q0u Tryz.func183 rfl (by decide) (by kernel_rfl) h
def Pi:V9:=[none,none,none,some ([9],[6,8,9,10,11,12,13,14,15,16,17,18,19,20,21,22,23,24,25,26,27,28,29,30,31,32,33,34,35,36,37,38,39,40,41,42,43,44,45,46,47,48,49,50,51,52,53,54]),none,none,none,none,none,none,none,none,none,none,none,none]
def Mi (C a1 a2:Value) (w:World) (K:Value→World→Prop):Prop:= box P T.b a1 w fun d w=>W0 P T.d w fun s w=>lp (α:=Value) (.int .i64 0) w fun h O d_ w=>fieldAddr P T.b d 2 w fun X w=>Q2 P T.h X w fun Z w=>X3 P .len [T.h] T.e [false] [Z] w fun E w=>Q3 P .lss T.e (.tmp 15) (.tmp 18) O E w fun H w=>X1 H (fieldAddr P T.b d 2 w fun D w=>Q2 P T.h D w fun Q w=>indexAddr P T.h Q O w fun J w=>Q2 P T.c J w fun U w=>Q1 P F.b [C,U] w fun A w=>indexAddr P T.i C A w fun ab w=>Q2 P T.b ab w fun B w=>W0 P T.b w fun a w=>Y0 P T.b a B w fun _u w=>Q2 P T.b a w fun M w=>Q1 P F.b1 [M,a2] w fun y w=>Q3 P .geq T.e (.tmp 35) (.const (.int .i64 0)) y (.int .i64 0) w fun Y w=>X1 Y (dr w fun b e=>Q5 b (fun i=> ∀w,e w→fieldAddr P T.b a 0 w (dk b i w)) fun i=>Q5 b (fun n=> ∀w,e w→fieldAddr P T.b a 7 w (dk b n w)) fun n=>Q5 b (fun p=> ∀k w,e w→i k w→Q2 P T.c k w (dk b p w)) fun p=>Q5 b (fun j=> ∀l w,e w→n l w→Q2 P T.j l w (dk b j w)) fun j=>Q5 b (fun m=> ∀g w,e w→j g w→indexAddr P T.j g y w (dk b m w)) fun m=>Q5 b (fun o=> ∀f w,e w→m f w→Q2 P T.d f w (dk b o w)) fun o=>∀k l v g f u w,e w→i k w→n l w→p v w→j g w→m f w→o u w→ Y0 P T.d s u w fun _u w=>Y7 P T.d s w fun z=>K (.tuple #[v,z,(.bool true)]) w) (Q2 P T.b a w fun W w=>Q1 P F.aM [C,W,a2] w fun q w=>ext P q 0 w fun R w=>ext P q 1 w fun N w=>ext P q 2 w fun aa w=>W0 P T.d w fun c w=>Y0 P T.d c N w fun _u w=>X1 aa (dr w fun b e=>Q5 b (fun r=> ∀w,e w→Q2 P T.d c w (dk b r w)) fun r=>∀t w,e w→r t w→ Y0 P T.d s t w fun _u w=>Y7 P T.d s w fun z=>K (.tuple #[R,z,(.bool true)]) w) (Q3 P .add T.e (.tmp 20) (.const (.int .i64 1)) O (.int .i64 1) w fun L w=>h L w))) (H2 P T.d [] w fun V w=>Y0 P T.d s V w fun _u w=>Y7 P T.d s w fun z=>K (.tuple #[(.string ⟨#[]⟩),z,(.bool false)]) w)
theorem Pf {b c a:Value} {w:World} {K:Value→World→Prop} (h:Mi b c a w K):Q1 P F.aM [b,c,a] w K:=Q9 Pi Tryz.func184 rfl (by decide) (by kernel_rfl) h
def Ie:V9:=[none,none,none,some ([9],[6,8,9,10,18,19,20,21,22,23,24,25,26,27,28,29,30,31,32,33,34,35,36,37,38,39,40,41,42,43,44,45,46,47]),none,none,none,none,none,none,none,none,some ([11],[6,8,11,12,13,14,51,52,53,54,55,56,57,58,59,60,61,62,63,64,65,66,67,68,69,70,71,72,73]),none,none,none,none,none,none,none]
def Lq (c a1 a2:Value) (w:World) (K:Value→World→Prop):Prop:= W0 P T.d w fun y w=>Q1 P F.b [c,a1] w fun ac w=>lp (α:=Value) ac w fun j A d_ w=>Q3 P .geq T.e (.tmp 18) (.const (.int .i64 0)) A (.int .i64 0) w fun O w=>X1 O (indexAddr P T.i c A w fun J w=>Q2 P T.b J w fun af w=>Q1 P F.b1 [af,a2] w fun z w=>Q3 P .geq T.e (.tmp 33) (.const (.int .i64 0)) z (.int .i64 0) w fun ae w=>X1 ae (dr w fun a b=>Q5 a (fun i=> ∀w,b w→indexAddr P T.i c A w (dk a i w)) fun i=>Q5 a (fun o=> ∀l w,b w→i l w→fieldAddr P T.b l 0 w (dk a o w)) fun o=>Q5 a (fun p=> ∀w,b w→indexAddr P T.i c A w (dk a p w)) fun p=>Q5 a (fun m=> ∀h w,b w→p h w→fieldAddr P T.b h 7 w (dk a m w)) fun m=>Q5 a (fun v=> ∀f w,b w→o f w→Q2 P T.c f w (dk a v w)) fun v=>Q5 a (fun q=> ∀e w,b w→m e w→Q2 P T.j e w (dk a q w)) fun q=>Q5 a (fun g=> ∀n w,b w→q n w→indexAddr P T.j n z w (dk a g w)) fun g=>Q5 a (fun t=> ∀k w,b w→g k w→Q2 P T.d k w (dk a t w)) fun t=>∀l f h e B n k D w,b w→i l w→o f w→p h w→m e w→v B w→q n w→g k w→t D w→ Y0 P T.d y D w fun _u w=>Y7 P T.d y w fun H=>K (.tuple #[B,H,(.bool true)]) w) (indexAddr P T.i c A w fun ah w=>fieldAddr P T.b ah 1 w fun N w=>Q2 P T.c N w fun Y w=>Q1 P F.b [c,Y] w fun U w=>j U w)) (Q1 P F.b [c,a1] w fun R w=>lp (α:=Value) R w fun d s d_ w=>Q3 P .geq T.e (.tmp 51) (.const (.int .i64 0)) s (.int .i64 0) w fun aa w=>X1 aa (indexAddr P T.i c s w fun V w=>Q2 P T.b V w fun ab w=>Q1 P F.aM [c,ab,a2] w fun r w=>ext P r 0 w fun Z w=>ext P r 1 w fun L w=>ext P r 2 w fun ag w=>W0 P T.d w fun E w=>Y0 P T.d E L w fun _u w=>X1 ag (dr w fun a b=>Q5 a (fun u=> ∀w,b w→Q2 P T.d E w (dk a u w)) fun u=>∀C w,b w→u C w→ Y0 P T.d y C w fun _u w=>Y7 P T.d y w fun H=>K (.tuple #[Z,H,(.bool true)]) w) (indexAddr P T.i c s w fun M w=>fieldAddr P T.b M 1 w fun ad w=>Q2 P T.c ad w fun Q w=>Q1 P F.b [c,Q] w fun W w=>d W w)) (H2 P T.d [] w fun X w=>Y0 P T.d y X w fun _u w=>Y7 P T.d y w fun H=>K (.tuple #[(.string ⟨#[]⟩),H,(.bool false)]) w))
theorem Ic {b c a:Value} {w:World} {K:Value→World→Prop} (h:Lq b c a w K):Q1 P F.bf [b,c,a] w K:=Q9 Ie Tryz.func152 rfl (by decide) (by kernel_rfl) h
def Fm:V9:=[none,none,none,none,some ([6],[4,6,24,25,26,27,28,29,30,31,32,33,34,35,36,37,38,39,40,41]),none,none,none,none,none,none,none,none,some ([7,8],[7,8,43,44,45,46,47,48,49,50,51,52,53,54,55,56,57,58]),none,none,none,none,none,some ([7,9],[7,9,59,60,61,62,63,64,65,66,67,68,69,70,71,72,73,74,75,76,77,78,79,80,81,82,83,84,85,86,87,88,89]),none,none,some ([7],[7,66,67,68,69,70,71,72,73,74,75,76,77,78,79,80,81,82,83,84,85,86,87,88,89]),none,none,none,none,some ([10],[4,10,90,91,92,93,94,95,96,97,98,99,100,101,102]),none,none,none,none,none,none,none,none,none,some ([12,13],[12,13,106,107,108,109,110,111,112,113,114,115,116,117,118,119,120,121,122,123,124,125,126,127,128,129,130]),none,none,some ([12],[12,112,113,114,115,116,117,118,119,120,121,122,123,124,125,126,127,128,129,130]),none,none,none,some ([14],[4,14,15,131,132,133,134,135,136,137,138,139,140,141,142,143,144,145,146,147,148,149,150,151,152,153,154,155,156,157,158,159,160,161,162,163,164,165]),none,none,none,none,some ([15],[4,15,137,138,139,140,141,142,143,144,145,146,147,148,149,150,151,152,153,154,155,156,157,158,159,160,161,162,163,164,165]),none,none,none,none,none,none,none,some ([16],[4,16,17,18,19,166,167,168,169,170,171,172,173,174,175,176,177,178,179,180,181,182,183,184,185,186,187,188,189,190,191,192,193,194,195]),none,none,none,none,none,none,none]
def Wb (a0 a1:Value) (w:World) (K:Value→World→Prop):Prop:= indexAddr P T.i a0 a1 w fun du w=>Q2 P T.b du w fun eg w=>W0 P T.b w fun t5 w=>Y0 P T.b t5 eg w fun _u w=>lp (α:=Value) (.int .i64 0) w fun a2 x4 d_ w=>fieldAddr P T.b t5 6 w fun eb w=>Q2 P T.k eb w fun c2 w=>X3 P .len [T.k] T.e [false] [c2] w fun dw w=>Q3 P .lss T.e (.tmp 24) (.tmp 27) x4 dw w fun ed w=>X1 ed (dr w fun b c=>Q5 b (fun bd=> ∀w,c w→fieldAddr P T.b t5 1 w (dk b bd w)) fun bd=>Q5 b (fun a4=> ∀w,c w→fieldAddr P T.b t5 6 w (dk b a4 w)) fun a4=>Q5 b (fun bm=> ∀bb w,c w→bd bb w→Q2 P T.c bb w (dk b bm w)) fun bm=>Q5 b (fun a7=> ∀a9 w,c w→a4 a9 w→Q2 P T.k a9 w (dk b a7 w)) fun a7=>Q5 b (fun a8=> ∀bc w,c w→a7 bc w→indexAddr P T.k bc x4 w (dk b a8 w)) fun a8=>Q5 b (fun bf=> ∀a3 w,c w→a8 a3 w→fieldAddr P T.n a3 0 w (dk b bf w)) fun bf=>Q5 b (fun bn=> ∀a6 w,c w→bf a6 w→Q2 P T.c a6 w (dk b bn w)) fun bn=>∀bb a9 bv bc a3 a6 b0 w,c w→bd bb w→a4 a9 w→bm bv w→a7 bc w→a8 a3 w→bf a6 w→bn b0 w→ Q1 P F.bs [a0,bv,b0] w fun c0 w=>Q3 P .geq T.e (.tmp 40) (.const (.int .i64 0)) c0 (.int .i64 0) w fun df w=>X1 df (K (.int .i64 64) w) (Q3 P .add T.e (.tmp 29) (.const (.int .i64 1)) x4 (.int .i64 1) w fun c6 w=>a2 c6 w)) (buildSlice P T.h 0 [] w fun dd w=>lp (α:=Value×Value) (dd,(.int .i64 0)) w fun al ai d_ w=>fieldAddr P T.b t5 6 w fun ee w=>Q2 P T.k ee w fun dn w=>X3 P .len [T.k] T.e [false] [dn] w fun dy w=>Q3 P .lss T.e (.tmp 43) (.tmp 46) ai.2 dy w fun dp w=>X1 dp (fieldAddr P T.b t5 6 w fun d3 w=>Q2 P T.k d3 w fun dm w=>indexAddr P T.k dm ai.2 w fun d5 w=>fieldAddr P T.n d5 1 w fun dl w=>Q2 P T.c dl w fun dc w=>buildSlice P T.h 1 [(0,dc)] w fun ef w=>X3 P .append [T.h,T.h] T.h [false,false] [ai.1,ef] w fun c1 w=>Q3 P .add T.e (.tmp 48) (.const (.int .i64 1)) ai.2 (.int .i64 1) w fun ec w=>al (c1,ec) w) (lp (α:=Value×Value) (ai.1,(.int .i64 0)) w fun aq j d_ w=>fieldAddr P T.b t5 7 w fun ea w=>Q2 P T.j ea w fun c8 w=>X3 P .len [T.j] T.e [false] [c8] w fun de w=>Q3 P .lss T.e (.tmp 59) (.tmp 62) j.2 de w fun c7 w=>X1 c7 (jn (α:=Value) w (fun co w=>fieldAddr P T.b t5 7 w fun d7 w=>Q2 P T.j d7 w fun dz w=>indexAddr P T.j dz j.2 w fun dt w=>fieldAddr P T.d dt 1 w fun d4 w=>Q2 P T.h d4 w fun d9 w=>X3 P .append [T.h,T.h] T.h [false,false] [j.1,d9] w fun cq w=>fieldAddr P T.b t5 7 w fun dj w=>Q2 P T.j dj w fun da w=>indexAddr P T.j da j.2 w fun c9 w=>fieldAddr P T.d c9 2 w fun dh w=>Q2 P T.c dh w fun c3 w=>Q3 P .neq T.c (.tmp 79) (.const (.string ⟨#[]⟩)) c3 (.string ⟨#[]⟩) w fun d0 w=>X1 d0 (fieldAddr P T.b t5 7 w fun dg w=>Q2 P T.j dg w fun c4 w=>indexAddr P T.j c4 j.2 w fun d2 w=>fieldAddr P T.d d2 2 w fun cx w=>Q2 P T.c cx w fun d6 w=>buildSlice P T.h 1 [(0,d6)] w fun eh w=>X3 P .append [T.h,T.h] T.h [false,false] [cq,eh] w fun cz w=>co cz w) (co cq w)) fun db d_ w=>Q3 P .add T.e (.tmp 64) (.const (.int .i64 1)) j.2 (.int .i64 1) w fun c5 w=>aq (db,c5) w) (lp (α:=Value) (.int .i64 0) w fun ak bl d_ w=>X3 P .len [T.h] T.e [false] [j.1] w fun cy w=>Q3 P .lss T.e (.tmp 90) (.tmp 92) bl cy w fun dv w=>X1 dv (indexAddr P T.h j.1 bl w fun di w=>Q2 P T.c di w fun cn w=>Q1 P F.bt [a0,cn] w fun bs w=>J9 P .not bs w fun bx w=>X1 bx (K (.int .i64 65) w) (Q3 P .add T.e (.tmp 94) (.const (.int .i64 1)) bl (.int .i64 1) w fun dq w=>ak dq w)) (Q1 P F.ak [a0] w fun br w=>buildSlice P T.j 0 [] w fun cs w=>lp (α:=Value×Value) (cs,(.int .i64 0)) w fun an f d_ w=>X3 P .len [T.i] T.e [false] [a0] w fun ct w=>Q3 P .lss T.e (.tmp 106) (.tmp 108) f.2 ct w fun b7 w=>X1 b7 (jn (α:=Value) w (fun b9 w=>Q3 P .eql T.e (.tmp 112) (.tmp 113) f.2 a1 w fun g w=>Q0 g false w (fun w J=>J br w) fun cl w=>Q0 g false w (fun w J=>J a1 w) fun ce w=>Q0 g false w (indexAddr P T.a8 cl ce) fun bo w=>Q0 g false w (Q2 P T.a6 bo) fun cv w=>Q0 g false w (fun w J=>J f.2 w) fun cw w=>Q0 g false w (indexAddr P T.a6 cv cw) fun cc w=>Q0 g false w (Q2 P T.t cc) fun bz w=>pick P g (.bool true) bz w fun bq w=>X1 bq (indexAddr P T.i a0 f.2 w fun b4 w=>fieldAddr P T.b b4 7 w fun cb w=>Q2 P T.j cb w fun cg w=>X3 P .append [T.j,T.j] T.j [false,false] [f.1,cg] w fun cm w=>b9 cm w) (b9 f.1 w)) fun d1 d_ w=>Q3 P .add T.e (.tmp 110) (.const (.int .i64 1)) f.2 (.int .i64 1) w fun b8 w=>an (d1,b8) w) (lp (α:=Value) (.int .i64 0) w fun ar aj d_ w=>X3 P .len [T.j] T.e [false] [f.1] w fun ch w=>Q3 P .lss T.e (.tmp 131) (.tmp 133) aj ch w fun cd w=>X1 cd (lp (α:=Value) (.int .i64 0) w fun ax be d_ w=>Q3 P .lss T.e (.tmp 137) (.tmp 138) be aj w fun bp w=>X1 bp (dr w fun b c=>Q5 b (fun W=> ∀w,c w→indexAddr P T.j f.1 aj w (dk b W w)) fun W=>Q5 b (fun X=> ∀A w,c w→W A w→fieldAddr P T.d A 0 w (dk b X w)) fun X=>Q5 b (fun y=> ∀w,c w→indexAddr P T.j f.1 be w (dk b y w)) fun y=>Q5 b (fun Q=> ∀ac w,c w→y ac w→fieldAddr P T.d ac 0 w (dk b Q w)) fun Q=>Q5 b (fun R=> ∀q w,c w→X q w→Q2 P T.c q w (dk b R w)) fun R=>Q5 b (fun Y=> ∀t w,c w→Q t w→Q2 P T.c t w (dk b Y w)) fun Y=>Q5 b (fun d=> ∀u E w,c w→R u w→Y E w→Q3 P .eql T.c (.tmp 146) (.tmp 151) u E w (dk b d w)) fun d=>Q5 b (fun H=> ∀a w,c w→d a w→Q0 a true w (fun w J=>J f.1 w) (dk b H w)) fun H=>Q5 b (fun aa=> ∀a w,c w→d a w→Q0 a true w (fun w J=>J aj w) (dk b aa w)) fun aa=>Q5 b (fun B=> ∀a z r w,c w→d a w→H z w→aa r w→Q0 a true w (indexAddr P T.j z r) (dk b B w)) fun B=>Q5 b (fun C=> ∀a w,c w→d a w→Q0 a true w (fun w J=>J f.1 w) (dk b C w)) fun C=>Q5 b (fun m=> ∀a w,c w→d a w→Q0 a true w (fun w J=>J be w) (dk b m w)) fun m=>Q5 b (fun U=> ∀a ae D w,c w→d a w→C ae w→m D w→Q0 a true w (indexAddr P T.j ae D) (dk b U w)) fun U=>Q5 b (fun af=> ∀a L w,c w→d a w→B L w→Q0 a true w (Q2 P T.d L) (dk b af w)) fun af=>Q5 b (fun ap=> ∀a o w,c w→d a w→af o w→Q0 a true w (Q1 P F.aV [o]) (dk b ap w)) fun ap=>Q5 b (fun av=> ∀a ab w,c w→d a w→U ab w→Q0 a true w (Q2 P T.d ab) (dk b av w)) fun av=>∀A q ac t u E a z r L ae D ab o bh bi w,c w→W A w→X q w→y ac w→Q t w→R u w→Y E w→d a w→H z w→aa r w→B L w→C ae w→m D w→U ab w→af o w→ap bh w→av bi w→ Q0 a true w (Q1 P F.aV [bi]) fun cu w=>Q0 a true w (Q3 P .neq T.c (.tmp 158) (.tmp 163) bh cu) fun bu w=>pick P a bu (.bool false) w fun b3 w=>X1 b3 (K (.int .i64 66) w) (Q3 P .add T.e (.tmp 140) (.const (.int .i64 1)) be (.int .i64 1) w fun b1 w=>ax b1 w)) (Q3 P .add T.e (.tmp 135) (.const (.int .i64 1)) aj (.int .i64 1) w fun ci w=>ar ci w)) (lp (α:=Value) (.int .i64 0) w fun az bk d_ w=>X3 P .len [T.j] T.e [false] [f.1] w fun cr w=>Q3 P .lss T.e (.tmp 166) (.tmp 168) bk cr w fun V w=>Q0 V true w (fieldAddr P T.b t5 4) fun cf w=>Q0 V true w (Q2 P T.t cf) fun b5 w=>Q0 V true w (J9 P .not b5) fun cj w=>pick P V cj (.bool false) w fun b6 w=>X1 b6 (dr w fun b c=>Q5 b (fun ag=> ∀w,c w→fieldAddr P T.b t5 0 w (dk b ag w)) fun ag=>Q5 b (fun p=> ∀w,c w→indexAddr P T.j f.1 bk w (dk b p w)) fun p=>Q5 b (fun O=> ∀l w,c w→p l w→fieldAddr P T.d l 0 w (dk b O w)) fun O=>Q5 b (fun v=> ∀ad w,c w→ag ad w→Q2 P T.c ad w (dk b v w)) fun v=>Q5 b (fun M=> ∀s w,c w→O s w→Q2 P T.c s w (dk b M w)) fun M=>Q5 b (fun i=> ∀n Z w,c w→v n w→M Z w→Q1 P F.bf [a0,n,Z] w (dk b i w)) fun i=>Q5 b (fun ay=> ∀e w,c w→i e w→ext P e 0 w (dk b ay w)) fun ay=>Q5 b (fun N=> ∀e w,c w→i e w→ext P e 1 w (dk b N w)) fun N=>Q5 b (fun am=> ∀e w,c w→i e w→ext P e 2 w (dk b am w)) fun am=>Q5 b (fun a5=> ∀w,c w→W0 P T.d w (dk b a5 w)) fun a5=>Rt b (fun ao=> ∀k h w,c w→a5 k w→N h w→Y0 P T.d k h w (dk b (ao [k,h]) w)) fun ao=>∀ad l s n Z e cp h bg k ds w,c w→ag ad w→p l w→O s w→v n w→M Z w→i e w→ay cp w→N h w→am bg w→a5 k w→ao [k,h] ds w→ J9 P .not bg w fun aw w=>Q0 aw false w (fieldAddr P T.d k 3) fun ca w=>Q0 aw false w (Q2 P T.t ca) fun b2 w=>pick P aw (.bool true) b2 w fun bw w=>X1 bw (K (.int .i64 67) w) (Q3 P .add T.e (.tmp 175) (.const (.int .i64 1)) bk (.int .i64 1) w fun ck w=>az ck w)) (K (.int .i64 0) w)))))))
theorem Fh {a b:Value} {w:World} {K:Value→World→Prop} (h:Wb a b w K):Q1 P F.b9 [a,b] w K:=Q9 Fm Tryz.func105 rfl (by decide) (by kernel_rfl) h
end Go.Proofs.YtjdiakhipmggjaaGreatDoor

set_option maxRecDepth 100000
namespace Go.Proofs.YtjdiakhipmggjaaGreatDoor
open Go.Emb
def Q0C:V9:=[none,none,none,none,none,some ([5,7],[2,3,4,5,7,8,21,22,23,24,25,26,27,28,29,30,31,32,33,34,35,36,37,38,39,40,41,42]),none,none,none,none,none,none,none,none,none,some ([9],[2,3,4,9,43,44,45,46,47,48,49,50,51,52,53,54,55,56,57,58,59,60]),none,none,none,none,none,none,none,some ([10],[2,3,4,10,11,61,62,63,64,65,66,67,68,69,70,71,72,73,74,75,76]),none,none,none,none,none,none,none,none,none,some ([13],[2,3,4,13,79,80,81,82,83,84,85,86,87,88,89,90,91,92,93,94,95,96]),none,none,none,none,none,none,none,none,some ([14,15],[14,15,98,99,100,101,102,103,104,105,106,107,108,109,110]),none,none,none,none,none,some ([16],[2,3,4,16,17,111,112,113,114,115,116,117,118,119,120,121,122,123,124,125,126,127,128,129,130,131]),none,none,none,none,none,none,none]
def Ep (l:Value) (w:World) (K:Value→World→Prop):Prop:= Q1 P F.bo [] w fun v w=>X3 P .len [T.i] T.e [false] [v] w fun b w=>lp (α:=Value×Value) (v,(.int .i64 0)) w fun n c L w=>X3 P .len [T.i] T.e [false] [l] w fun ar w=>Q3 P .lss T.e (.tmp 21) (.tmp 23) c.2 ar w fun X w=>X1 X (indexAddr P T.i l c.2 w fun O w=>Q2 P T.b O w fun ay w=>Q1 P F.bp [ay] w fun s w=>Q3 P .neq T.y (.tmp 32) (.const (.int .i64 0)) s (.int .i64 0) w fun Z w=>X1 Z (K (.tuple #[(.slice none 0 0),c.2,s]) w) (indexAddr P T.i l c.2 w fun am w=>Q2 P T.b am w fun W w=>buildSlice P T.i 1 [(0,W)] w fun Y w=>X3 P .append [T.i,T.i] T.i [false,false] [c.1,Y] w fun V w=>Q3 P .add T.e (.tmp 25) (.const (.int .i64 1)) c.2 (.int .i64 1) w fun ad w=>n (V,ad) w)) (lp (α:=Value) (.int .i64 0) w fun g h L w=>X3 P .len [T.i] T.e [false] [l] w fun av w=>Q3 P .lss T.e (.tmp 43) (.tmp 45) h av w fun al w=>X1 al (indexAddr P T.i l h w fun an w=>fieldAddr P T.b an 0 w fun aq w=>Q2 P T.c aq w fun Q w=>Q1 P F.b [c.1,Q] w fun aj w=>Q3 P .add T.e (.tmp 56) (.tmp 57) b h w fun aa w=>Q3 P .neq T.e (.tmp 55) (.tmp 58) aj aa w fun ah w=>X1 ah (K (.tuple #[(.slice none 0 0),h,(.int .i64 60)]) w) (Q3 P .add T.e (.tmp 47) (.const (.int .i64 1)) h (.int .i64 1) w fun ao w=>g ao w)) (lp (α:=Value) (.int .i64 0) w fun e o L w=>X3 P .len [T.i] T.e [false] [l] w fun az w=>Q3 P .lss T.e (.tmp 61) (.tmp 63) o az w fun af w=>X1 af (indexAddr P T.i l o w fun a2 w=>Q2 P T.b a2 w fun a3 w=>Q1 P F.be [c.1,a3] w fun z w=>Q3 P .neq T.y (.tmp 73) (.const (.int .i64 0)) z (.int .i64 0) w fun ag w=>X1 ag (K (.tuple #[(.slice none 0 0),o,z]) w) (Q3 P .add T.e (.tmp 65) (.const (.int .i64 1)) o (.int .i64 1) w fun ak w=>e ak w)) (Q1 P F.ak [c.1] w fun ae w=>lp (α:=Value) (.int .i64 0) w fun d j L w=>X3 P .len [T.i] T.e [false] [l] w fun ac w=>Q3 P .lss T.e (.tmp 79) (.tmp 81) j ac w fun ab w=>X1 ab (Q3 P .add T.e (.tmp 86) (.tmp 87) b j w fun a4 w=>indexAddr P T.a8 ae a4 w fun U w=>Q2 P T.a6 U w fun ap w=>Q3 P .add T.e (.tmp 91) (.tmp 92) b j w fun R w=>indexAddr P T.a6 ap R w fun ai w=>Q2 P T.t ai w fun ax w=>X1 ax (K (.tuple #[(.slice none 0 0),j,(.int .i64 63)]) w) (Q3 P .add T.e (.tmp 83) (.const (.int .i64 1)) j (.int .i64 1) w fun a1 w=>d a1 w)) (buildSlice P T.a7 0 [] w fun aw w=>lp (α:=Value×Value) (aw,(.int .i64 0)) w fun i a L w=>X3 P .len [T.i] T.e [false] [l] w fun H w=>Q3 P .lss T.e (.tmp 98) (.tmp 100) a.2 H w fun y w=>X1 y (Q3 P .add T.e (.tmp 107) (.tmp 108) b a.2 w fun A w=>Q1 P F.b0 [c.1,a.1,b,A] w fun C w=>Q3 P .add T.e (.tmp 102) (.const (.int .i64 1)) a.2 (.int .i64 1) w fun J w=>i (C,J) w) (lp (α:=Value) (.int .i64 0) w fun k m L w=>X3 P .len [T.a7] T.e [false] [a.1] w fun M w=>Q3 P .lss T.e (.tmp 111) (.tmp 113) m M w fun r w=>X1 r (indexAddr P T.a7 a.1 m w fun N w=>Q2 P T.e N w fun t w=>Q1 P F.b9 [c.1,t] w fun q w=>Q3 P .neq T.y (.tmp 123) (.const (.int .i64 0)) q (.int .i64 0) w fun u w=>X1 u (dr w fun Tr Br=>Q5 Tr (fun f=> ∀w,Br w→indexAddr P T.a7 a.1 m w (dk Tr f w)) fun f=>∀p w,Br w→f p w→ Q2 P T.e p w fun D w=>Q3 P .sub T.e (.tmp 128) (.tmp 129) D b w fun E w=>K (.tuple #[(.slice none 0 0),E,q]) w) (Q3 P .add T.e (.tmp 115) (.const (.int .i64 1)) m (.int .i64 1) w fun B w=>k B w)) (K (.tuple #[c.1,(.int .i64 0),(.int .i64 0)]) w))))))
theorem Q0F {a:Value} {w:World} {K:Value→World→Prop} (h:Ep a w K):Q1 P F.bN [a] w K:=Q9 Q0C Tryz.func56 rfl (by decide) (by kernel_rfl) h
def Nt (C:Value) (w:World) (K:Value→World→Prop):Prop:= W0 P T.a w fun e w=>Q1 P F.aA [] w fun k w=>Q1 P F.cL [k] w fun b w=>ext P b 0 w fun h w=>ext P b 1 w fun D w=>ext P b 2 w fun o w=>Q1 P F.aA [] w fun y w=>Q1 P F.bN [y] w fun d w=>ext P d 0 w fun B w=>ext P d 1 w fun E w=>ext P d 2 w fun n w=>Q3 P .rem T.aq (.tmp 25) (.const (.int .u16 301)) C (.int .u16 301) w fun r w=>conv P T.aq T.e r w fun g w=>Q3 P .neq T.y (.tmp 28) (.const (.int .i64 0)) o (.int .i64 0) w fun a w=>Q0 a false w (fun w J=>J n w) fun j w=>Q0 a false w (Q3 P .neq T.y (.tmp 31) (.const (.int .i64 0)) j (.int .i64 0)) fun p w=>pick P a (.bool true) p w fun c w=>Q0 c false w (fun w J=>J h w) fun q w=>Q0 c false w (Q3 P .eql T.r (.tmp 35) (.const (.pointer none)) q (.pointer none)) fun v w=>pick P c (.bool true) v w fun t w=>X1 t (H2 P T.a [] w fun m w=>Y0 P T.a e m w fun _u w=>Y7 P T.a e w fun i=>K (.tuple #[(.pointer none),i]) w) (Q1 P F.cM [h,g] w fun f w=>ext P f 0 w fun l w=>ext P f 1 w fun u w=>Q3 P .neq T.y (.tmp 45) (.const (.int .i64 0)) u (.int .i64 0) w fun s w=>X1 s (H2 P T.a [] w fun z w=>Y0 P T.a e z w fun _u w=>Y7 P T.a e w fun i=>K (.tuple #[(.pointer none),i]) w) (H2 P T.a [(0,B),(1,g)] w fun A w=>Y0 P T.a e A w fun _u w=>Y7 P T.a e w fun i=>K (.tuple #[l,i]) w))
theorem Po {a:Value} {w:World} {K:Value→World→Prop} (h:Nt a w K):Q1 P F.ai [a] w K:=Q9 (List.replicate 12 none) Tryz.func24 rfl (by decide) (by kernel_rfl) h
def Q2d (e:Value) (w:World) (K:Value→World→Prop):Prop:= W0 P T.f w fun a w=>Q3 P .eql T.c (.tmp 3) (.const (.string ⟨#[105,110,116]⟩)) e (.string ⟨#[105,110,116]⟩) w fun g w=>X1 g (H2 P T.f [(0,(.int .i64 1))] w fun i w=>Y0 P T.f a i w fun _u w=>Y7 P T.f a w fun b=>K b w) (Q3 P .eql T.c (.tmp 3) (.const (.string ⟨#[98,111,111,108]⟩)) e (.string ⟨#[98,111,111,108]⟩) w fun j w=>X1 j (H2 P T.f [(0,(.int .i64 2))] w fun h w=>Y0 P T.f a h w fun _u w=>Y7 P T.f a w fun b=>K b w) (Q3 P .eql T.c (.tmp 3) (.const (.string ⟨#[116,101,120,116]⟩)) e (.string ⟨#[116,101,120,116]⟩) w fun c w=>X1 c (H2 P T.f [(0,(.int .i64 3))] w fun f w=>Y0 P T.f a f w fun _u w=>Y7 P T.f a w fun b=>K b w) (H2 P T.f [] w fun d w=>Y0 P T.f a d w fun _u w=>Y7 P T.f a w fun b=>K b w)))
theorem Q7g {a:Value} {w:World} {K:Value→World→Prop} (h:Q2d a w K):Q1 P F.c3 [a] w K:=Q9 (List.replicate 10 none) Tryz.func29 rfl (by decide) (by kernel_rfl) h
def Hr (a y v:Value) (w:World) (K:Value→World→Prop):Prop:= nilCheck P a w fun z w=>fieldAddr P T.p z 2 w fun t w=>Q2 P T.e t w fun m w=>X3 P .len [T.l] T.e [false] [v] w fun r w=>Q3 P .add T.e (.const (.int .i64 1)) (.tmp 13) (.int .i64 1) r w fun d w=>Q3 P .add T.e (.tmp 11) (.tmp 14) m d w fun e w=>nilCheck P a w fun o w=>fieldAddr P T.p o 2 w fun q w=>Y0 P T.e q e w fun _u w=>nilCheck P a w fun p w=>fieldAddr P T.p p 3 w fun g w=>Q2 P T.g g w fun u w=>H2 P T.o [(0,y),(1,v)] w fun l w=>buildSlice P T.g 1 [(0,l)] w fun k w=>X3 P .append [T.g,T.g] T.g [false,false] [u,k] w fun h w=>nilCheck P a w fun n w=>fieldAddr P T.p n 3 w fun b w=>Y0 P T.g b h w fun _u w=>nilCheck P a w fun c w=>fieldAddr P T.p c 3 w fun i w=>Q2 P T.g i w fun f w=>X3 P .len [T.g] T.e [false] [f] w fun s w=>Q3 P .sub T.e (.tmp 34) (.const (.int .i64 1)) s (.int .i64 1) w fun j w=>K (.tuple #[j,(.int .i64 0)]) w
theorem Q1Q {b c a:Value} {w:World} {K:Value→World→Prop} (h:Hr b c a w K):Q1 P F.b6 [b,c,a] w K:=Q9 (List.replicate 4 none) Tryz.func67 rfl (by decide) (by kernel_rfl) h
def Pl:V9:=[none,none,none,none,none,none,none,none,none,none,none,some ([7,31],[7,9,31,32,33,34,35,36,37,38,39,40,41]),none,none,none,none,none]
def Nd (f i:Value) (w:World) (K:Value→World→Prop):Prop:= nilCheck P f w fun s w=>fieldAddr P T.p s 0 w fun J w=>Q2 P T.r J w fun D w=>Q1 P F.aE [D,i] w fun g w=>J9 P .not g w fun y w=>X1 y (K (.tuple #[(.int .i64 0),(.int .i64 91)]) w) (nilCheck P f w fun l w=>fieldAddr P T.p l 0 w fun m w=>Q2 P T.r m w fun B w=>Q1 P F.a2 [B,i] w fun d w=>X3 P .len [T.k] T.e [false] [d] w fun k w=>Q3 P .add T.e (.const (.int .i64 1)) (.tmp 24) (.int .i64 1) k w fun r w=>Q1 P F.ae [f] w fun p w=>Q3 P .gtr T.e (.tmp 25) (.tmp 27) r p w fun t w=>X1 t (K (.tuple #[(.int .i64 0),(.int .i64 90)]) w) (X3 P .len [T.k] T.e [false] [d] w fun E w=>lp (α:=Value×Value) ((.slice none 0 0),(.int .i64 0)) w fun a b L w=>Q3 P .lss T.e (.tmp 31) (.tmp 30) b.2 E w fun q w=>X1 q (indexAddr P T.k d b.2 w fun o w=>Q2 P T.n o w fun H w=>W0 P T.n w fun c w=>Y0 P T.n c H w fun _u w=>fieldAddr P T.n c 1 w fun A w=>Q2 P T.c A w fun v w=>Q1 P F.c3 [v] w fun h w=>buildSlice P T.l 1 [(0,h)] w fun z w=>X3 P .append [T.l,T.l] T.l [false,false] [b.1,z] w fun j w=>Q3 P .add T.e (.tmp 31) (.const (.int .i64 1)) b.2 (.int .i64 1) w fun n w=>a (j,n) w) (Q1 P F.b6 [f,i,b.1] w fun e w=>ext P e 0 w fun u w=>ext P e 1 w fun C w=>K (.tuple #[u,C]) w)))
theorem Kh {a b:Value} {w:World} {K:Value→World→Prop} (h:Nd a b w K):Q1 P F.aI [a,b] w K:=Q9 Pl Tryz.func33 rfl (by decide) (by kernel_rfl) h
def Q4b (d:Value) (w:World) (K:Value→World→Prop):Prop:= Q1 P F.z [d] w fun f w=>J9 P .not f w fun a w=>Q0 a false w (fun w J=>J d w) fun h w=>Q0 a false w (Q1 P F.cu [h]) fun g w=>Q0 a false w (Q3 P .eql T.e (.tmp 9) (.const (.int .i64 3)) g (.int .i64 3)) fun e w=>pick P a (.bool true) e w fun b w=>X1 b (K (.tuple #[(.string ⟨#[]⟩),(.int .i64 30)]) w) (Q3 P .add T.c (.tmp 12) (.const (.string ⟨#[91,93]⟩)) d (.string ⟨#[91,93]⟩) w fun c w=>K (.tuple #[c,(.int .i64 0)]) w)
theorem Q9W {a:Value} {w:World} {K:Value→World→Prop} (h:Q4b a w K):Q1 P F.cQ [a] w K:=Q9 (List.replicate 5 none) Tryz.func68 rfl (by decide) (by kernel_rfl) h
def Ad:V9:=[none,none,none,none,none,none,none,none,none,none,none,none,some ([45],[11,45,46,47,48,49,50,51,52,53]),none,none,none,none,none]
def Da (l h i:Value) (w:World) (K:Value→World→Prop):Prop:= Q1 P F.cQ [h] w fun f w=>ext P f 0 w fun k w=>ext P f 1 w fun z w=>Q3 P .neq T.y (.tmp 18) (.const (.int .i64 0)) z (.int .i64 0) w fun a w=>Q0 a false w (fun w J=>J l w) fun p w=>Q0 a false w (nilCheck P p) fun M w=>Q0 a false w (fieldAddr P T.p M 0) fun L w=>Q0 a false w (Q2 P T.r L) fun n w=>Q0 a false w (fun w J=>J h w) fun v w=>Q0 a false w (Q1 P F.s [n,v]) fun t w=>Q0 a false w (J9 P .not t) fun q w=>pick P a (.bool true) q w fun e w=>Q0 e false w (fun w J=>J h w) fun H w=>Q0 e false w (Q3 P .eql T.c (.tmp 30) (.const (.string ⟨#[110,117,108,108]⟩)) H (.string ⟨#[110,117,108,108]⟩)) fun j w=>pick P e (.bool true) j w fun r w=>X1 r (K (.tuple #[(.int .i64 0),(.int .i64 91)]) w) (Q3 P .lss T.a1 (.tmp 34) (.const (.int .i64 0)) i (.int .i64 0) w fun s w=>X1 s (K (.tuple #[(.int .i64 0),(.int .i64 93)]) w) (Q1 P F.ae [l] w fun A w=>Q3 P .geq T.a1 (.tmp 37) (.tmp 39) i A w fun m w=>X1 m (K (.tuple #[(.int .i64 0),(.int .i64 90)]) w) (Dq P T.l i i w fun c w=>X3 P .len [T.l] T.e [false] [c] w fun B w=>lp (α:=Value) (.int .i64 0) w fun b d N w=>Q3 P .lss T.e (.tmp 45) (.tmp 44) d B w fun y w=>X1 y (Q1 P F.c3 [h] w fun E w=>indexAddr P T.l c d w fun C w=>Y0 P T.f C E w fun _u w=>Q3 P .add T.e (.tmp 45) (.const (.int .i64 1)) d (.int .i64 1) w fun D w=>b D w) (Q1 P F.b6 [l,k,c] w fun g w=>ext P g 0 w fun o w=>ext P g 1 w fun u w=>K (.tuple #[o,u]) w))))
theorem Ab {b c a:Value} {w:World} {K:Value→World→Prop} (h:Da b c a w K):Q1 P F.aP [b,c,a] w K:=Q9 Ad Tryz.func34 rfl (by decide) (by kernel_rfl) h
def Og (b:Value) (w:World) (K:Value→World→Prop):Prop:= nilCheck P b w fun a w=>fieldAddr P T.p a 0 w fun c w=>Q2 P T.r c w fun d w=>K d w
theorem Q03 {a:Value} {w:World} {K:Value→World→Prop} (h:Og a w K):Q1 P F.bB [a] w K:=Q9 (List.replicate 2 none) Tryz.func35 rfl (by decide) (by kernel_rfl) h
def Nh (w:World) (K:Value→World→Prop):Prop:= Q1 P F.ai [(.int .u16 10)] w fun t8 w=>ext P t8 0 w fun b w=>ext P t8 1 w fun Y w=>W0 P T.a w fun t2 w=>Y0 P T.a t2 Y w fun _u w=>Q3 P .eql T.a5 (.tmp 11) (.const (.pointer none)) b (.pointer none) w fun X w=>X1 X (K (.bool false) w) (Q1 P F.aI [b,(.string ⟨#[90,101,114,111,70,97,117,108,116]⟩)] w fun k w=>ext P k 0 w fun E w=>ext P k 1 w fun O w=>Q1 P F.aP [b,(.string ⟨#[105,110,116]⟩),(.int .i64 3)] w fun l w=>ext P l 0 w fun t w=>ext P l 1 w fun Z w=>Q3 P .eql T.e (.tmp 23) (.const (.int .i64 0)) E (.int .i64 0) w fun h w=>Q0 h true w (fun w J=>J O w) fun y w=>Q0 h true w (Q3 P .eql T.y (.tmp 26) (.const (.int .i64 0)) y (.int .i64 0)) fun u w=>pick P h u (.bool false) w fun j w=>Q0 j true w (fun w J=>J t w) fun V w=>Q0 j true w (Q3 P .eql T.e (.tmp 30) (.const (.int .i64 1)) V (.int .i64 1)) fun o w=>pick P j o (.bool false) w fun i w=>Q0 i true w (fun w J=>J Z w) fun U w=>Q0 i true w (Q3 P .eql T.y (.tmp 34) (.const (.int .i64 0)) U (.int .i64 0)) fun v w=>pick P i v (.bool false) w fun e w=>Q0 e true w (fun w J=>J b w) fun p w=>Q0 e true w (Q1 P F.ae [p]) fun H w=>Q0 e true w (Q3 P .eql T.e (.tmp 39) (.const (.int .i64 4)) H (.int .i64 4)) fun r w=>pick P e r (.bool false) w fun a w=>Q0 a true w (fun w J=>J b w) fun n w=>Q0 a true w (Q1 P F.c2 [n]) fun L w=>Q0 a true w (Q3 P .eql T.e (.tmp 44) (.const (.int .i64 2)) L (.int .i64 2)) fun R w=>pick P a R (.bool false) w fun d w=>Q0 d true w (fun w J=>J b w) fun M w=>Q0 d true w (Q1 P F.aB [M,(.int .i64 0)]) fun C w=>Q0 d true w (Q3 P .eql T.c (.tmp 49) (.const (.string ⟨#[90,101,114,111,70,97,117,108,116]⟩)) C (.string ⟨#[90,101,114,111,70,97,117,108,116]⟩)) fun z w=>pick P d z (.bool false) w fun f w=>Q0 f true w (fun w J=>J b w) fun N w=>Q0 f true w (Q1 P F.bM [N,(.int .i64 1)]) fun m w=>Q0 f true w (Q3 P .eql T.e (.tmp 54) (.const (.int .i64 3)) m (.int .i64 3)) fun D w=>pick P f D (.bool false) w fun g w=>Q0 g true w (fun w J=>J b w) fun s w=>Q0 g true w (Q1 P F.bA [s]) fun B w=>pick P g B (.bool false) w fun c w=>Q0 c true w (fun w J=>J b w) fun q w=>Q0 c true w (Q1 P F.bB [q]) fun W w=>Q0 c true w (Q3 P .neq T.r (.tmp 63) (.const (.pointer none)) W (.pointer none)) fun A w=>pick P c A (.bool false) w fun Q w=>K Q w)
theorem Iy {w:World} {K:Value→World→Prop} (h:Nh w K):Q1 P F.ah [] w K:=Q9 (List.replicate 8 none) Tryz.func14 rfl (by decide) (by kernel_rfl) h
def Oj (p q r:Value) (w:World) (K:Value→World→Prop):Prop:= Q1 P F.aG [p,q] w fun n w=>J9 P .not n w fun i w=>X1 i (K (.int .i64 92) w) (Q3 P .lss T.a1 (.tmp 13) (.const (.int .i64 0)) r (.int .i64 0) w fun a w=>Q0 a false w (fun w J=>J r w) fun j w=>Q0 a false w (fun w J=>J p w) fun l w=>Q0 a false w (nilCheck P l) fun c w=>Q0 a false w (fieldAddr P T.p c 3) fun d w=>Q0 a false w (Q2 P T.g d) fun k w=>Q0 a false w (fun w J=>J q w) fun e w=>Q0 a false w (indexAddr P T.g k e) fun o w=>Q0 a false w (fieldAddr P T.o o 1) fun m w=>Q0 a false w (Q2 P T.l m) fun b w=>Q0 a false w (X3 P .len [T.l] T.e [false] [b]) fun h w=>Q0 a false w (Q3 P .geq T.a1 (.tmp 16) (.tmp 25) j h) fun g w=>pick P a (.bool true) g w fun f w=>X1 f (K (.int .i64 93) w) (K (.int .i64 0) w))
theorem Q0f {b c a:Value} {w:World} {K:Value→World→Prop} (h:Oj b c a w K):Q1 P F.aR [b,c,a] w K:=Q9 (List.replicate 7 none) Tryz.func50 rfl (by decide) (by kernel_rfl) h
def Hq (n o p:Value) (w:World) (K:Value→World→Prop):Prop:= W0 P T.f w fun b w=>Q1 P F.aR [n,o,p] w fun a w=>Q3 P .neq T.y (.tmp 13) (.const (.int .i64 0)) a (.int .i64 0) w fun d w=>X1 d (H2 P T.f [] w fun c w=>Y0 P T.f b c w fun _u w=>Y7 P T.f b w fun j=>K (.tuple #[j,a]) w) (nilCheck P n w fun f w=>fieldAddr P T.p f 3 w fun g w=>Q2 P T.g g w fun k w=>indexAddr P T.g k o w fun m w=>fieldAddr P T.o m 1 w fun l w=>Q2 P T.l l w fun e w=>indexAddr P T.l e p w fun i w=>Q2 P T.f i w fun h w=>Y0 P T.f b h w fun _u w=>Y7 P T.f b w fun j=>K (.tuple #[j,(.int .i64 0)]) w)
theorem Q22 {b c a:Value} {w:World} {K:Value→World→Prop} (h:Hq b c a w K):Q1 P F.c1 [b,c,a] w K:=Q9 (List.replicate 6 none) Tryz.func16 rfl (by decide) (by kernel_rfl) h
def Hs (D Q U W:Value) (w:World) (K:Value→World→Prop):Prop:= box P T.f W w fun c w=>Q1 P F.aR [D,Q,U] w fun M w=>Q3 P .neq T.y (.tmp 14) (.const (.int .i64 0)) M (.int .i64 0) w fun O w=>X1 O (K M w) (dr w fun a b=>Q5 a (fun f=> ∀w,b w→nilCheck P D w (dk a f w)) fun f=>Q5 a (fun v=> ∀i w,b w→f i w→fieldAddr P T.p i 3 w (dk a v w)) fun v=>Q5 a (fun z=> ∀w,b w→Q2 P T.f c w (dk a z w)) fun z=>Q5 a (fun o=> ∀y w,b w→v y w→Q2 P T.g y w (dk a o w)) fun o=>Q5 a (fun r=> ∀u w,b w→o u w→indexAddr P T.g u Q w (dk a r w)) fun r=>Q5 a (fun g=> ∀n w,b w→r n w→Q2 P T.o n w (dk a g w)) fun g=>Q5 a (fun A=> ∀l w,b w→g l w→Q1 P F.aD [D,l,U] w (dk a A w)) fun A=>∀i y J u n l L w,b w→f i w→v y w→z J w→o u w→r n w→g l w→A L w→ Q1 P F.af [D,J,L] w fun N w=>J9 P .not N w fun V w=>X1 V (K (.int .i64 91) w) (dr w fun a b=>Q5 a (fun d=> ∀w,b w→nilCheck P D w (dk a d w)) fun d=>Q5 a (fun k=> ∀j w,b w→d j w→fieldAddr P T.p j 3 w (dk a k w)) fun k=>Q5 a (fun t=> ∀h w,b w→k h w→Q2 P T.g h w (dk a t w)) fun t=>Q5 a (fun e=> ∀s w,b w→t s w→indexAddr P T.g s Q w (dk a e w)) fun e=>Q5 a (fun m=> ∀q w,b w→e q w→fieldAddr P T.o q 1 w (dk a m w)) fun m=>Q5 a (fun C=> ∀p w,b w→m p w→Q2 P T.l p w (dk a C w)) fun C=>Q5 a (fun B=> ∀w,b w→Q2 P T.f c w (dk a B w)) fun B=>∀j h s q p E H w,b w→d j w→k h w→t s w→e q w→m p w→C E w→B H w→ indexAddr P T.l E U w fun R w=>Y0 P T.f R H w fun _u w=>K (.int .i64 0) w))
theorem Q23 {c d a b:Value} {w:World} {K:Value→World→Prop} (h:Hs c d a b w K):Q1 P F.b3 [c,d,a,b] w K:=Q9 (List.replicate 10 none) Tryz.func22 rfl (by decide) (by kernel_rfl) h
def Eh (i:Value) (w:World) (K:Value→World→Prop):Prop:= box P T.m i w fun a w=>fieldAddr P T.m a 1 w fun g w=>Q2 P T.c g w fun h w=>X3 P .len [T.c] T.e [false] [h] w fun j w=>Q3 P .leq T.e (.tmp 5) (.const (.int .i64 100)) j (.int .i64 100) w fun b w=>Q0 b true w (fieldAddr P T.m a 4) fun l w=>Q0 b true w (fieldAddr P T.f l 2) fun k w=>Q0 b true w (Q2 P T.c k) fun f w=>Q0 b true w (X3 P .len [T.c] T.e [false] [f]) fun c w=>Q0 b true w (Q3 P .leq T.e (.tmp 11) (.const (.int .i64 5000)) c (.int .i64 5000)) fun e w=>pick P b e (.bool false) w fun d w=>K d w
theorem Q1f {a:Value} {w:World} {K:Value→World→Prop} (h:Eh a w K):Q1 P F.aC [a] w K:=Q9 (List.replicate 2 none) Tryz.func25 rfl (by decide) (by kernel_rfl) h
def Yw:V9:=[none,none,none,some ([8],[4,5,8,9,10,11,12,13,14,15,16,17,18]),none,none,none,none,none,none,none]
def G6 (g j:Value) (w:World) (K:Value→World→Prop):Prop:= X3 P .len [T.l] T.e [false] [g] w fun i w=>lp (α:=Value) (.int .i64 0) w fun a b k w=>Q3 P .lss T.e (.tmp 8) (.tmp 7) b i w fun h w=>X1 h (indexAddr P T.l g b w fun d w=>Q2 P T.f d w fun e w=>Z3 P j [e] w fun f w=>X1 f (K b w) (Q3 P .add T.e (.tmp 8) (.const (.int .i64 1)) b (.int .i64 1) w fun c w=>a c w)) (K (.int .i64 (-1)) w)
theorem Yn {a b:Value} {w:World} {K:Value→World→Prop} (h:G6 a b w K):Q1 P F.a3 [a,b] w K:=Q9 Yw Tryz.func119 rfl (by decide) (by kernel_rfl) h
def C9 (a c:Value) (w:World) (K:Value→World→Prop):Prop:= Q1 P F.a3 [a,c] w fun b w=>Q3 P .geq T.e (.tmp 7) (.const (.int .i64 0)) b (.int .i64 0) w fun d w=>K d w
theorem Xc {a b:Value} {w:World} {K:Value→World→Prop} (h:C9 a b w K):Q1 P F.k [a,b] w K:=Q9 (List.replicate 2 none) Tryz.func75 rfl (by decide) (by kernel_rfl) h
def Ow (g j:Value) (w:World) (K:Value→World→Prop):Prop:= box P T.f g w fun a w=>fieldAddr P T.f a 0 w fun f w=>Q2 P T.e f w fun h w=>Q3 P .eql T.e (.tmp 5) (.const (.int .i64 4)) h (.int .i64 4) w fun b w=>Q0 b true w (fieldAddr P T.f a 3) fun k w=>Q0 b true w (Q2 P T.e k) fun i w=>Q0 b true w (Q2 P T.e j) fun e w=>Q0 b true w (Q3 P .geq T.e (.tmp 9) (.tmp 10) i e) fun c w=>pick P b c (.bool false) w fun d w=>K d w
theorem Q02 {a b:Value} {w:World} {K:Value→World→Prop} (h:Ow a b w K):Q1 P F.bF [a,b] w K:=Q9 (List.replicate 2 none) Tryz.func76 rfl (by decide) (by kernel_rfl) h
def Q1R:V9:=[none,none,none,none,some ([22],[5,22,23,24,25,26,27,28,29,30]),none,none,none,none,none,some ([],[6,31,32,33,34,35,36,37,38,39,40,41,42,43,44,45,46,47,48,49,50,51,52,53,54,55,56,57,58,59,60,61,62,63,64,65,66,67,68,69]),none,none,none,none]
def Hw (d a1:Value) (w:World) (K:Value→World→Prop):Prop:= box P T.e a1 w fun t3 w=>Q2 P T.e t3 w fun t7 w=>X3 P .max [T.e,T.e] T.e [false,true] [t7,(.int .i64 0)] w fun t8 w=>Y0 P T.e t3 t8 w fun _u w=>dr w fun a b=>Q5 a (fun H=> ∀w,b w→nilCheck P d w (dk a H w)) fun H=>Q5 a (fun r=> ∀y w,b w→H y w→fieldAddr P T.p y 3 w (dk a r w)) fun r=>Q5 a (fun X=> ∀w,b w→nilCheck P d w (dk a X w)) fun X=>Q5 a (fun Y=> ∀B w,b w→X B w→fieldAddr P T.p B 3 w (dk a Y w)) fun Y=>Q5 a (fun ab=> ∀n w,b w→r n w→Q2 P T.g n w (dk a ab w)) fun ab=>Q5 a (fun V=> ∀w,b w→Q2 P T.e t3 w (dk a V w)) fun V=>Q5 a (fun s=> ∀q w,b w→Y q w→Q2 P T.g q w (dk a s w)) fun s=>Q5 a (fun z=> ∀R w,b w→s R w→X3 P .len [T.g] T.e [false] [R] w (dk a z w)) fun z=>Q5 a (fun ae=> ∀u h w,b w→V u w→z h w→X3 P .min [T.e,T.e] T.e [false,false] [u,h] w (dk a ae w)) fun ae=>∀y n B q aj u R h ah w,b w→H y w→r n w→X B w→Y q w→ab aj w→V u w→s R w→z h w→ae ah w→ R7 P T.g aj none (some ah) none w fun am w=>X3 P .len [T.g] T.e [false] [am] w fun bc w=>lp (α:=Value) (.int .i64 0) w fun m x4 d_ w=>Q3 P .lss T.e (.tmp 22) (.tmp 21) x4 bc w fun bh w=>X1 bh (indexAddr P T.g am x4 w fun av w=>Q2 P T.o av w fun bf w=>W0 P T.o w fun t5 w=>Y0 P T.o t5 bf w fun _u w=>fieldAddr P T.o t5 1 w fun ay w=>Q2 P T.l ay w fun ax w=>E7 P (.func F.bF) [] [t3] w fun bg w=>Q1 P F.k [ax,bg] w fun ap w=>X1 ap (K (.tuple #[]) w) (Q3 P .add T.e (.tmp 22) (.const (.int .i64 1)) x4 (.int .i64 1) w fun a7 w=>m a7 w)) (lp (α:=Unit) () w fun c bj d_ w=>dr w fun a b=>Q5 a (fun C=> ∀w,b w→nilCheck P d w (dk a C w)) fun C=>Q5 a (fun E=> ∀j w,b w→C j w→fieldAddr P T.p j 3 w (dk a E w)) fun E=>Q5 a (fun v=> ∀i w,b w→E i w→Q2 P T.g i w (dk a v w)) fun v=>Q5 a (fun ad=> ∀W w,b w→v W w→X3 P .len [T.g] T.e [false] [W] w (dk a ad w)) fun ad=>Q5 a (fun aa=> ∀w,b w→Q2 P T.e t3 w (dk a aa w)) fun aa=>∀j i W ai al w,b w→C j w→E i w→v W w→ad ai w→aa al w→ Q3 P .gtr T.e (.tmp 35) (.tmp 36) ai al w fun a3 w=>X1 a3 (nilCheck P d w fun a4 w=>fieldAddr P T.p a4 3 w fun ar w=>Q2 P T.g ar w fun bb w=>X3 P .len [T.g] T.e [false] [bb] w fun ba w=>Q3 P .sub T.e (.tmp 42) (.const (.int .i64 1)) ba (.int .i64 1) w fun ag w=>dr w fun a b=>Q5 a (fun Z=> ∀w,b w→nilCheck P d w (dk a Z w)) fun Z=>Q5 a (fun f=> ∀U w,b w→Z U w→fieldAddr P T.p U 2 w (dk a f w)) fun f=>Q5 a (fun k=> ∀w,b w→nilCheck P d w (dk a k w)) fun k=>Q5 a (fun e=> ∀N w,b w→k N w→fieldAddr P T.p N 3 w (dk a e w)) fun e=>Q5 a (fun ac=> ∀o w,b w→f o w→Q2 P T.e o w (dk a ac w)) fun ac=>Q5 a (fun g=> ∀J w,b w→e J w→Q2 P T.g J w (dk a g w)) fun g=>Q5 a (fun p=> ∀t w,b w→g t w→indexAddr P T.g t ag w (dk a p w)) fun p=>Q5 a (fun O=> ∀Q w,b w→p Q w→fieldAddr P T.o Q 1 w (dk a O w)) fun O=>Q5 a (fun l=> ∀A w,b w→O A w→Q2 P T.l A w (dk a l w)) fun l=>Q5 a (fun L=> ∀M w,b w→l M w→X3 P .len [T.l] T.e [false] [M] w (dk a L w)) fun L=>Q5 a (fun af=> ∀D w,b w→L D w→Q3 P .add T.e (.const (.int .i64 1)) (.tmp 56) (.int .i64 1) D w (dk a af w)) fun af=>∀U o N J an t Q A M D ao w,b w→Z U w→f o w→k N w→e J w→ac an w→g t w→p Q w→O A w→l M w→L D w→af ao w→ Q3 P .sub T.e (.tmp 47) (.tmp 57) an ao w fun aw w=>nilCheck P d w fun be w=>fieldAddr P T.p be 2 w fun bd w=>Y0 P T.e bd aw w fun _u w=>nilCheck P d w fun a8 w=>fieldAddr P T.p a8 3 w fun a2 w=>Q2 P T.g a2 w fun a6 w=>R7 P T.g a6 none (some ag) none w fun a9 w=>nilCheck P d w fun a5 w=>fieldAddr P T.p a5 3 w fun aq w=>Y0 P T.g aq a9 w fun _u w=>c () w) (K (.tuple #[]) w))
theorem Q1X {a b:Value} {w:World} {K:Value→World→Prop} (h:Hw a b w K):Q1 P F.c4 [a,b] w K:=Q9 Q1R Tryz.func40 rfl (by decide) (by kernel_rfl) h
def Q01:V9:=[none,none,some ([],[5,6,7]),none,some ([],[8,9,10]),none,some ([],[11,12,13]),none,none]
def Oe (c:Value) (w:World) (K:Value→World→Prop):Prop:= W0 P T.f w fun j w=>H2 P T.f [] w fun l w=>W0 P T.f w fun a w=>Y0 P T.f a l w fun _u w=>jn (α:=Unit) w (fun h w=>Q3 P .eql T.c (.tmp 5) (.const (.string ⟨#[105,110,116]⟩)) c (.string ⟨#[105,110,116]⟩) w fun o w=>X1 o (fieldAddr P T.f a 0 w fun p w=>Y0 P T.e p (.int .i64 1) w fun _u w=>h () w) (h () w)) fun s k w=>jn (α:=Unit) w (fun g w=>Q3 P .eql T.c (.tmp 8) (.const (.string ⟨#[98,111,111,108]⟩)) c (.string ⟨#[98,111,111,108]⟩) w fun m w=>X1 m (fieldAddr P T.f a 0 w fun f w=>Y0 P T.e f (.int .i64 2) w fun _u w=>g () w) (g () w)) fun q k w=>jn (α:=Unit) w (fun i w=>Q3 P .eql T.c (.tmp 11) (.const (.string ⟨#[116,101,120,116]⟩)) c (.string ⟨#[116,101,120,116]⟩) w fun e w=>X1 e (fieldAddr P T.f a 0 w fun d w=>Y0 P T.e d (.int .i64 3) w fun _u w=>i () w) (i () w)) fun r k w=>Q2 P T.f a w fun b w=>Y0 P T.f j b w fun _u w=>Y7 P T.f j w fun n=>K n w
theorem Aa {a:Value} {w:World} {K:Value→World→Prop} (h:Oe a w K):Q1 P F.aq [a] w K:=Q9 Q01 Tryz.func30 rfl (by decide) (by kernel_rfl) h
def Q06:V9:=[none,none,none,none,some ([3,4],[3,4,7,8,9,10,11,12,13,14,15,16,17,18,19,20,21,22,23]),none,none,none,none]
def Od (o:Value) (w:World) (K:Value→World→Prop):Prop:= box P T.a o w fun a w=>fieldAddr P T.a a 1 w fun r w=>Q2 P T.e r w fun q w=>lp (α:=Value×Value) (q,(.int .i64 0)) w fun b c t w=>fieldAddr P T.a a 2 w fun s w=>Q2 P T.g s w fun p w=>X3 P .len [T.g] T.e [false] [p] w fun m w=>Q3 P .lss T.e (.tmp 7) (.tmp 10) c.2 m w fun h w=>X1 h (fieldAddr P T.a a 2 w fun d w=>Q2 P T.g d w fun i w=>indexAddr P T.g i c.2 w fun e w=>fieldAddr P T.o e 1 w fun f w=>Q2 P T.l f w fun j w=>X3 P .len [T.l] T.e [false] [j] w fun g w=>Q3 P .add T.e (.const (.int .i64 1)) (.tmp 21) (.int .i64 1) g w fun n w=>Q3 P .sub T.e (.tmp 14) (.tmp 22) c.1 n w fun l w=>Q3 P .add T.e (.tmp 12) (.const (.int .i64 1)) c.2 (.int .i64 1) w fun k w=>b (l,k) w) (K c.1 w)
theorem Af {a:Value} {w:World} {K:Value→World→Prop} (h:Od a w K):Q1 P F.aQ [a] w K:=Q9 Q06 Tryz.func37 rfl (by decide) (by kernel_rfl) h
def Vu (i k:Value) (w:World) (K:Value→World→Prop):Prop:= Q1 P F.b [i,k] w fun j w=>Q3 P .geq T.e (.tmp 9) (.const (.int .i64 0)) j (.int .i64 0) w fun a w=>Q0 a true w (fun w J=>J i w) fun g w=>Q0 a true w (fun w J=>J j w) fun f w=>Q0 a true w (indexAddr P T.i g f) fun d w=>Q0 a true w (fieldAddr P T.b d 4) fun e w=>Q0 a true w (Q2 P T.t e) fun h w=>Q0 a true w (J9 P .not h) fun c w=>pick P a c (.bool false) w fun b w=>K b w
theorem Fj {a b:Value} {w:World} {K:Value→World→Prop} (h:Vu a b w K):Q1 P F.b7 [a,b] w K:=Q9 (List.replicate 3 none) Tryz.func72 rfl (by decide) (by kernel_rfl) h
def Fs:V9:=[none,none,none,none,none,none,none,none,none,none,none,some ([8],[8,28,29,30,31,32,33,34,35,36,37,38,39,40,41,42,43,44]),none,none,none,none,none]
def Lr (a0 W:Value) (w:World) (K:Value→World→Prop):Prop:= box P T.a a0 w fun a w=>W0 P T.a w fun H w=>fieldAddr P T.a a 0 w fun t9 w=>Q2 P T.i t9 w fun am w=>Q1 P F.b7 [am,W] w fun ak w=>J9 P .not ak w fun ai w=>X1 ai (Q2 P T.a a w fun R w=>Y0 P T.a H R w fun _u w=>Y7 P T.a H w fun N=>K (.tuple #[N,(.int .i64 91)]) w) (fieldAddr P T.a a 0 w fun V w=>Q2 P T.i V w fun ac w=>Q1 P F.p [ac,W] w fun A w=>X3 P .len [T.k] T.e [false] [A] w fun ag w=>Q3 P .add T.e (.const (.int .i64 1)) (.tmp 20) (.int .i64 1) ag w fun Z w=>Q2 P T.a a w fun an w=>Q1 P F.aQ [an] w fun al w=>Q3 P .gtr T.e (.tmp 21) (.tmp 23) Z al w fun X w=>X1 X (Q2 P T.a a w fun ab w=>Y0 P T.a H ab w fun _u w=>Y7 P T.a H w fun N=>K (.tuple #[N,(.int .i64 90)]) w) (H2 P T.o [(0,W)] w fun aa w=>W0 P T.o w fun c w=>Y0 P T.o c aa w fun _u w=>lp (α:=Value) (.int .i64 0) w fun e C d_ w=>X3 P .len [T.k] T.e [false] [A] w fun aj w=>Q3 P .lss T.e (.tmp 28) (.tmp 30) C aj w fun Q w=>X1 Q (dr w fun b d=>Q5 b (fun v=> ∀w,d w→fieldAddr P T.o c 1 w (dk b v w)) fun v=>Q5 b (fun p=> ∀w,d w→indexAddr P T.k A C w (dk b p w)) fun p=>Q5 b (fun t=> ∀f w,d w→p f w→fieldAddr P T.n f 1 w (dk b t w)) fun t=>Q5 b (fun B=> ∀u w,d w→v u w→Q2 P T.l u w (dk b B w)) fun B=>Q5 b (fun m=> ∀q w,d w→t q w→Q2 P T.c q w (dk b m w)) fun m=>Q5 b (fun h=> ∀i w,d w→m i w→Q1 P F.aq [i] w (dk b h w)) fun h=>Q5 b (fun E=> ∀j w,d w→h j w→buildSlice P T.l 1 [(0,j)] w (dk b E w)) fun E=>∀u f q L i j J w,d w→v u w→p f w→t q w→B L w→m i w→h j w→E J w→ X3 P .append [T.l,T.l] T.l [false,false] [L,J] w fun U w=>fieldAddr P T.o c 1 w fun ad w=>Y0 P T.l ad U w fun _u w=>Q3 P .add T.e (.tmp 32) (.const (.int .i64 1)) C (.int .i64 1) w fun Y w=>e Y w) (dr w fun b d=>Q5 b (fun g=> ∀w,d w→fieldAddr P T.a a 2 w (dk b g w)) fun g=>Q5 b (fun y=> ∀w,d w→buildSlice P T.g 0 [] w (dk b y w)) fun y=>Q5 b (fun l=> ∀o w,d w→g o w→Q2 P T.g o w (dk b l w)) fun l=>Q5 b (fun D=> ∀r s w,d w→y r w→l s w→X3 P .append [T.g,T.g] T.g [false,false] [r,s] w (dk b D w)) fun D=>Q5 b (fun k=> ∀w,d w→Q2 P T.o c w (dk b k w)) fun k=>Q5 b (fun z=> ∀n w,d w→k n w→buildSlice P T.g 1 [(0,n)] w (dk b z w)) fun z=>∀o r s O n M w,d w→g o w→y r w→l s w→D O w→k n w→z M w→ X3 P .append [T.g,T.g] T.g [false,false] [O,M] w fun ah w=>fieldAddr P T.a a 2 w fun ae w=>Y0 P T.g ae ah w fun _u w=>Q2 P T.a a w fun af w=>Y0 P T.a H af w fun _u w=>Y7 P T.a H w fun N=>K (.tuple #[N,(.int .i64 0)]) w)))
theorem Gg {a b:Value} {w:World} {K:Value→World→Prop} (h:Lr a b w K):Q1 P F.bc [a,b] w K:=Q9 Fs Tryz.func57 rfl (by decide) (by kernel_rfl) h
def Te:V9:=[none,none,none,none,none,none,none,none,none,none,none,none,none,some ([9],[9,41,42,43,44,45,46,47,48,49,50,51,52]),none,none,none,none,none]
def Ml (a0 E N:Value) (w:World) (K:Value→World→Prop):Prop:= box P T.a a0 w fun a w=>W0 P T.a w fun u w=>Q3 P .eql T.c (.tmp 10) (.const (.string ⟨#[110,117,108,108]⟩)) E (.string ⟨#[110,117,108,108]⟩) w fun f w=>Q0 f false w (fieldAddr P T.a a 0) fun ao w=>Q0 f false w (Q2 P T.i ao) fun O w=>Q0 f false w (fun w J=>J E w) fun Q w=>Q0 f false w (Q1 P F.a0 [O,Q]) fun ag w=>Q0 f false w (J9 P .not ag) fun al w=>pick P f (.bool true) al w fun j w=>Q0 j false w (fun w J=>J E w) fun ak w=>Q0 j false w (Q1 P F.a1 [ak]) fun Y w=>Q0 j false w (Q3 P .gtr T.e (.tmp 21) (.const (.int .i64 2)) Y (.int .i64 2)) fun av w=>pick P j (.bool true) av w fun ar w=>X1 ar (Q2 P T.a a w fun W w=>Y0 P T.a u W w fun _u w=>Y7 P T.a u w fun A=>K (.tuple #[A,(.int .i64 91)]) w) (Q3 P .lss T.a1 (.tmp 25) (.const (.int .i64 0)) N (.int .i64 0) w fun ac w=>X1 ac (Q2 P T.a a w fun Z w=>Y0 P T.a u Z w fun _u w=>Y7 P T.a u w fun A=>K (.tuple #[A,(.int .i64 93)]) w) (Q3 P .gtr T.a1 (.tmp 28) (.const (.int .i64 1048576)) N (.int .i64 1048576) w fun d w=>Q0 d false w (fun w J=>J N w) fun R w=>Q0 d false w (Q3 P .add T.e (.const (.int .i64 1)) (.tmp 31) (.int .i64 1) R) fun aa w=>Q0 d false w (Q2 P T.a a) fun X w=>Q0 d false w (Q1 P F.aQ [X]) fun ap w=>Q0 d false w (Q3 P .gtr T.e (.tmp 32) (.tmp 34) aa ap) fun ab w=>pick P d (.bool true) ab w fun ai w=>X1 ai (Q2 P T.a a w fun af w=>Y0 P T.a u af w fun _u w=>Y7 P T.a u w fun A=>K (.tuple #[A,(.int .i64 90)]) w) (Q3 P .add T.c (.tmp 38) (.const (.string ⟨#[91,93]⟩)) E (.string ⟨#[91,93]⟩) w fun ah w=>H2 P T.o [(0,ah)] w fun V w=>W0 P T.o w fun c w=>Y0 P T.o c V w fun _u w=>lp (α:=Value) (.int .i64 0) w fun g C d_ w=>Q3 P .lss T.a1 (.tmp 41) (.tmp 42) C N w fun U w=>X1 U (dr w fun b e=>Q5 b (fun i=> ∀w,e w→fieldAddr P T.o c 1 w (dk b i w)) fun i=>Q5 b (fun z=> ∀o w,e w→i o w→Q2 P T.l o w (dk b z w)) fun z=>Q5 b (fun k=> ∀w,e w→Q1 P F.aq [E] w (dk b k w)) fun k=>Q5 b (fun y=> ∀m w,e w→k m w→buildSlice P T.l 1 [(0,m)] w (dk b y w)) fun y=>∀o M m L w,e w→i o w→z M w→k m w→y L w→ X3 P .append [T.l,T.l] T.l [false,false] [M,L] w fun an w=>fieldAddr P T.o c 1 w fun aj w=>Y0 P T.l aj an w fun _u w=>Q3 P .add T.a1 (.tmp 44) (.const (.int .i64 1)) C (.int .i64 1) w fun am w=>g am w) (dr w fun b e=>Q5 b (fun q=> ∀w,e w→fieldAddr P T.a a 2 w (dk b q w)) fun q=>Q5 b (fun p=> ∀w,e w→buildSlice P T.g 0 [] w (dk b p w)) fun p=>Q5 b (fun l=> ∀h w,e w→q h w→Q2 P T.g h w (dk b l w)) fun l=>Q5 b (fun B=> ∀r n w,e w→p r w→l n w→X3 P .append [T.g,T.g] T.g [false,false] [r,n] w (dk b B w)) fun B=>Q5 b (fun t=> ∀w,e w→Q2 P T.o c w (dk b t w)) fun t=>Q5 b (fun v=> ∀s w,e w→t s w→buildSlice P T.g 1 [(0,s)] w (dk b v w)) fun v=>∀h r n D s H w,e w→q h w→p r w→l n w→B D w→t s w→v H w→ X3 P .append [T.g,T.g] T.g [false,false] [D,H] w fun ad w=>fieldAddr P T.a a 2 w fun ae w=>Y0 P T.g ae ad w fun _u w=>Q2 P T.a a w fun aq w=>Y0 P T.a u aq w fun _u w=>Y7 P T.a u w fun A=>K (.tuple #[A,(.int .i64 0)]) w))))
theorem Kk {b c a:Value} {w:World} {K:Value→World→Prop} (h:Ml b c a w K):Q1 P F.bm [b,c,a] w K:=Q9 Te Tryz.func58 rfl (by decide) (by kernel_rfl) h
def Q1Y:V9:=[none,none,some ([],[4,14,15,16,17,18,19,20,21,22,23,24,25,26,27,28,29,30,31,32,33,34,35,36,37,38,39,40,41,42,43,44,45,46,47,48,49,50,51,52,53,54,55,56,57,58,59,60,61,62,63,64,65,66,67,68,69,70,71,72,73,74,75,76,77,78,79,80,81,82,83,84,85,86,87,88,89,90]),none,none,none,none,none,none,none,none,none,none,none,none,none,none,none,none,none]
def Hn (a0 a1:Value) (w:World) (K:Value→World→Prop):Prop:= box P T.a a0 w fun t2 w=>box P T.f a1 w fun c w=>fieldAddr P T.f c 3 w fun t6 w=>Q2 P T.e t6 w fun t7 w=>Q3 P .eql T.e (.tmp 7) (.const (.int .i64 0)) t7 (.int .i64 0) w fun l w=>Q0 l true w (fieldAddr P T.f c 2) fun U w=>Q0 l true w (Q2 P T.c U) fun z w=>Q0 l true w (Q3 P .eql T.c (.tmp 11) (.const (.string ⟨#[]⟩)) z (.string ⟨#[]⟩)) fun R w=>pick P l R (.bool false) w fun a w=>jn (α:=Unit) w (fun k w=>fieldAddr P T.f c 0 w fun X w=>Q2 P T.e X w fun d w=>Q3 P .eql T.e (.tmp 15) (.const (.int .i64 0)) d (.int .i64 0) w fun aw w=>X1 aw (Q0 a true w (fieldAddr P T.f c 1) fun av w=>Q0 a true w (Q2 P T.a1 av) fun ah w=>Q0 a true w (Q3 P .eql T.a1 (.tmp 21) (.const (.int .i64 0)) ah (.int .i64 0)) fun a4 w=>pick P a a4 (.bool false) w fun a3 w=>X1 a3 (K (.string ⟨#[110,117,108,108]⟩) w) (k () w)) (Q3 P .eql T.e (.tmp 15) (.const (.int .i64 1)) d (.int .i64 1) w fun am w=>X1 am (X1 a (K (.string ⟨#[105,110,116]⟩) w) (k () w)) (Q3 P .eql T.e (.tmp 15) (.const (.int .i64 2)) d (.int .i64 2) w fun an w=>X1 an (Q0 a true w (fieldAddr P T.f c 1) fun Y w=>Q0 a true w (Q2 P T.a1 Y) fun t w=>Q0 a true w (Q3 P .eql T.a1 (.tmp 32) (.const (.int .i64 0)) t (.int .i64 0)) fun q w=>Q0 a true w (fun w J=>J q w) fun i w=>Q0 i false w (fieldAddr P T.f c 1) fun u w=>Q0 i false w (Q2 P T.a1 u) fun ao w=>Q0 i false w (Q3 P .eql T.a1 (.tmp 36) (.const (.int .i64 1)) ao (.int .i64 1)) fun B w=>Q0 a true w (pick P i (.bool true) B) fun aa w=>pick P a aa (.bool false) w fun C w=>X1 C (K (.string ⟨#[98,111,111,108]⟩) w) (k () w)) (Q3 P .eql T.e (.tmp 15) (.const (.int .i64 3)) d (.int .i64 3) w fun ae w=>X1 ae (fieldAddr P T.f c 1 w fun ac w=>Q2 P T.a1 ac w fun n w=>Q3 P .eql T.a1 (.tmp 43) (.const (.int .i64 0)) n (.int .i64 0) w fun h w=>Q0 h true w (fieldAddr P T.f c 3) fun A w=>Q0 h true w (Q2 P T.e A) fun ay w=>Q0 h true w (Q3 P .eql T.e (.tmp 47) (.const (.int .i64 0)) ay (.int .i64 0)) fun H w=>pick P h H (.bool false) w fun e w=>Q0 e true w (fieldAddr P T.f c 2) fun N w=>Q0 e true w (Q2 P T.c N) fun ap w=>Q0 e true w (X3 P .len [T.c] T.e [false] [ap]) fun ar w=>Q0 e true w (Q3 P .leq T.e (.tmp 53) (.const (.int .i64 4096)) ar (.int .i64 4096)) fun W w=>pick P e W (.bool false) w fun g w=>Q0 g true w (fieldAddr P T.f c 2) fun az w=>Q0 g true w (Q2 P T.c az) fun r w=>Q0 g true w (Q1 P F.aJ [r]) fun al w=>pick P g al (.bool false) w fun aj w=>X1 aj (K (.string ⟨#[116,101,120,116]⟩) w) (k () w)) (Q3 P .eql T.e (.tmp 15) (.const (.int .i64 4)) d (.int .i64 4) w fun ad w=>X1 ad (fieldAddr P T.f c 1 w fun Q w=>Q2 P T.a1 Q w fun y w=>Q3 P .eql T.a1 (.tmp 64) (.const (.int .i64 0)) y (.int .i64 0) w fun f w=>Q0 f true w (fieldAddr P T.f c 2) fun ab w=>Q0 f true w (Q2 P T.c ab) fun E w=>Q0 f true w (Q3 P .eql T.c (.tmp 68) (.const (.string ⟨#[]⟩)) E (.string ⟨#[]⟩)) fun p w=>pick P f p (.bool false) w fun j w=>Q0 j true w (fieldAddr P T.f c 3) fun af w=>Q0 j true w (Q2 P T.e af) fun L w=>Q0 j true w (Q3 P .geq T.e (.tmp 73) (.const (.int .i64 0)) L (.int .i64 0)) fun ak w=>pick P j ak (.bool false) w fun b w=>Q0 b true w (fieldAddr P T.f c 3) fun V w=>Q0 b true w (Q2 P T.e V) fun ai w=>Q0 b true w (fieldAddr P T.a t2 2) fun v w=>Q0 b true w (Q2 P T.g v) fun M w=>Q0 b true w (X3 P .len [T.g] T.e [false] [M]) fun s w=>Q0 b true w (Q3 P .lss T.e (.tmp 78) (.tmp 81) ai s) fun ag w=>pick P b ag (.bool false) w fun D w=>X1 D (fieldAddr P T.a t2 2 w fun a2 w=>Q2 P T.g a2 w fun O w=>fieldAddr P T.f c 3 w fun m w=>Q2 P T.e m w fun Z w=>indexAddr P T.g O Z w fun ax w=>fieldAddr P T.o ax 0 w fun o w=>Q2 P T.c o w fun aq w=>K aq w) (k () w)) (k () w)))))) fun z2 d_ w=>K (.string ⟨#[]⟩) w
theorem Q20 {a b:Value} {w:World} {K:Value→World→Prop} (h:Hn a b w K):Q1 P F.b4 [a,b] w K:=Q9 Q1Y Tryz.func32 rfl (by decide) (by kernel_rfl) h
def Ew (k f h:Value) (w:World) (K:Value→World→Prop):Prop:= Q1 P F.a0 [k,f] w fun D w=>J9 P .not D w fun b w=>Q0 b false w (fun w J=>J k w) fun o w=>Q0 b false w (fun w J=>J h w) fun q w=>Q0 b false w (Q1 P F.a0 [o,q]) fun L w=>Q0 b false w (J9 P .not L) fun R w=>pick P b (.bool true) R w fun c w=>Q0 c false w (fun w J=>J f w) fun Q w=>Q0 c false w (fun w J=>J h w) fun z w=>Q0 c false w (Q3 P .eql T.c (.tmp 20) (.tmp 21) Q z) fun ac w=>pick P c (.bool true) ac w fun ab w=>X1 ab (Q3 P .eql T.c (.tmp 24) (.tmp 25) f h w fun d w=>Q0 d true w (fun w J=>J k w) fun E w=>Q0 d true w (fun w J=>J f w) fun n w=>Q0 d true w (Q1 P F.a0 [E,n]) fun Y w=>pick P d Y (.bool false) w fun p w=>K p w) (Q1 P F.x [f] w fun g w=>Q0 g false w (fun w J=>J h w) fun A w=>Q0 g false w (Q1 P F.x [A]) fun N w=>pick P g (.bool true) N w fun j w=>Q0 j false w (fun w J=>J h w) fun M w=>Q0 j false w (Q3 P .eql T.c (.tmp 39) (.const (.string ⟨#[110,117,108,108]⟩)) M (.string ⟨#[110,117,108,108]⟩)) fun u w=>pick P j (.bool true) u w fun v w=>X1 v (K (.bool false) w) (Q3 P .eql T.c (.tmp 42) (.const (.string ⟨#[110,117,108,108]⟩)) f (.string ⟨#[110,117,108,108]⟩) w fun e w=>Q0 e false w (fun w J=>J h w) fun V w=>Q0 e false w (Q3 P .eql T.c (.tmp 45) (.const (.string ⟨#[79,98,106,101,99,116]⟩)) V (.string ⟨#[79,98,106,101,99,116]⟩)) fun H w=>pick P e (.bool true) H w fun W w=>X1 W (K (.bool true) w) (Q1 P F.b [k,f] w fun l w=>Q1 P F.b [k,h] w fun m w=>Q3 P .geq T.e (.tmp 54) (.const (.int .i64 0)) l (.int .i64 0) w fun i w=>Q0 i true w (fun w J=>J m w) fun X w=>Q0 i true w (Q3 P .geq T.e (.tmp 57) (.const (.int .i64 0)) X (.int .i64 0)) fun y w=>pick P i y (.bool false) w fun a w=>Q0 a true w (fun w J=>J k w) fun aa w=>Q0 a true w (Q1 P F.ak [aa]) fun t w=>Q0 a true w (fun w J=>J l w) fun Z w=>Q0 a true w (indexAddr P T.a8 t Z) fun B w=>Q0 a true w (Q2 P T.a6 B) fun U w=>Q0 a true w (fun w J=>J m w) fun C w=>Q0 a true w (indexAddr P T.a6 U C) fun s w=>Q0 a true w (Q2 P T.t s) fun O w=>pick P a O (.bool false) w fun r w=>K r w)))
theorem Q1b {b c a:Value} {w:World} {K:Value→World→Prop} (h:Ew b c a w K):Q1 P F.bS [b,c,a] w K:=Q9 (List.replicate 12 none) Tryz.func63 rfl (by decide) (by kernel_rfl) h
def Ov (l n k:Value) (w:World) (K:Value→World→Prop):Prop:= box P T.a l w fun b w=>box P T.f n w fun c w=>Q2 P T.a b w fun o w=>Q2 P T.f c w fun m w=>Q1 P F.b4 [o,m] w fun d w=>Q3 P .neq T.c (.tmp 11) (.const (.string ⟨#[]⟩)) d (.string ⟨#[]⟩) w fun a w=>Q0 a true w (fieldAddr P T.a b 0) fun h w=>Q0 a true w (Q2 P T.i h) fun i w=>Q0 a true w (fun w J=>J d w) fun j w=>Q0 a true w (fun w J=>J k w) fun g w=>Q0 a true w (Q1 P F.bS [i,j,g]) fun e w=>pick P a e (.bool false) w fun f w=>K f w
theorem An {b c a:Value} {w:World} {K:Value→World→Prop} (h:Ov b c a w K):Q1 P F.aO [b,c,a] w K:=Q9 (List.replicate 3 none) Tryz.func28 rfl (by decide) (by kernel_rfl) h
def Oy (d:Value) (w:World) (K:Value→World→Prop):Prop:= X3 P .len [T.c] T.e [false] [d] w fun n w=>Q3 P .lss T.e (.tmp 6) (.const (.int .i64 3)) n (.int .i64 3) w fun c w=>Q0 c false w (fun w J=>J d w) fun s w=>Q0 c false w (fun w J=>J n w) fun q w=>Q0 c false w (Q3 P .sub T.e (.tmp 10) (.const (.int .i64 2)) q (.int .i64 2)) fun i w=>Q0 c false w (R7 P T.c s (some i) none none) fun o w=>Q0 c false w (Q3 P .neq T.c (.tmp 12) (.const (.string ⟨#[91,93]⟩)) o (.string ⟨#[91,93]⟩)) fun m w=>pick P c (.bool true) m w fun a w=>Q0 a false w (fun w J=>J d w) fun k w=>Q0 a false w (Q1 P F.a1 [k]) fun l w=>Q0 a false w (Q3 P .gtr T.e (.tmp 17) (.const (.int .i64 3)) l (.int .i64 3)) fun f w=>pick P a (.bool true) f w fun b w=>Q0 b false w (fun w J=>J d w) fun g w=>Q0 b false w (Q1 P F.e [g]) fun r w=>Q0 b false w (J9 P .not r) fun p w=>pick P b (.bool true) p w fun e w=>X1 e (K (.string ⟨#[]⟩) w) (Q3 P .sub T.e (.tmp 26) (.const (.int .i64 2)) n (.int .i64 2) w fun h w=>R7 P T.c d none (some h) none w fun j w=>K j w)
theorem Aj {a:Value} {w:World} {K:Value→World→Prop} (h:Oy a w K):Q1 P F.bD [a] w K:=Q9 (List.replicate 6 none) Tryz.func71 rfl (by decide) (by kernel_rfl) h
end Go.Proofs.YtjdiakhipmggjaaGreatDoor

set_option maxRecDepth 100000
namespace Go.Proofs.YtjdiakhipmggjaaGreatDoor
open Go.Emb
def Oi (m n p:Value) (w:World) (K:Value→World→Prop):Prop:= box P T.a m w fun b w=>box P T.o n w fun a w=>fieldAddr P T.o a 0 w fun q w=>Q2 P T.c q w fun o w=>Q1 P F.bD [o] w fun c w=>Q3 P .neq T.c (.tmp 11) (.const (.string ⟨#[]⟩)) c (.string ⟨#[]⟩) w fun k w=>X1 k (K c w) (fieldAddr P T.a b 0 w fun d w=>Q2 P T.i d w fun e w=>fieldAddr P T.o a 0 w fun h w=>Q2 P T.c h w fun j w=>Q1 P F.p [e,j] w fun f w=>indexAddr P T.k f p w fun i w=>fieldAddr P T.n i 1 w fun g w=>Q2 P T.c g w fun l w=>K l w)
theorem Tx {b c a:Value} {w:World} {K:Value→World→Prop} (h:Oi b c a w K):Q1 P F.bE [b,c,a] w K:=Q9 (List.replicate 6 none) Tryz.func74 rfl (by decide) (by kernel_rfl) h
def Nx (v f u:Value) (w:World) (K:Value→World→Prop):Prop:= box P T.a v w fun b w=>Q3 P .lss T.e (.tmp 7) (.const (.int .i64 0)) f (.int .i64 0) w fun c w=>Q0 c false w (fun w J=>J f w) fun s w=>Q0 c false w (fieldAddr P T.a b 2) fun m w=>Q0 c false w (Q2 P T.g m) fun q w=>Q0 c false w (X3 P .len [T.g] T.e [false] [q]) fun p w=>Q0 c false w (Q3 P .geq T.e (.tmp 10) (.tmp 13) s p) fun d w=>pick P c (.bool true) d w fun e w=>X1 e (K (.int .i64 92) w) (Q3 P .lss T.a1 (.tmp 16) (.const (.int .i64 0)) u (.int .i64 0) w fun a w=>Q0 a false w (fun w J=>J u w) fun h w=>Q0 a false w (fieldAddr P T.a b 2) fun o w=>Q0 a false w (Q2 P T.g o) fun i w=>Q0 a false w (fun w J=>J f w) fun t w=>Q0 a false w (indexAddr P T.g i t) fun r w=>Q0 a false w (fieldAddr P T.o r 1) fun g w=>Q0 a false w (Q2 P T.l g) fun l w=>Q0 a false w (X3 P .len [T.l] T.e [false] [l]) fun k w=>Q0 a false w (Q3 P .geq T.a1 (.tmp 19) (.tmp 26) h k) fun j w=>pick P a (.bool true) j w fun n w=>X1 n (K (.int .i64 93) w) (K (.int .i64 0) w))
theorem Pa {b c a:Value} {w:World} {K:Value→World→Prop} (h:Nx b c a w K):Q1 P F.aL [b,c,a] w K:=Q9 (List.replicate 8 none) Tryz.func108 rfl (by decide) (by kernel_rfl) h
def Ea (a0 B U a3:Value) (w:World) (K:Value→World→Prop):Prop:= box P T.a a0 w fun a w=>box P T.f a3 w fun c w=>W0 P T.a w fun s w=>Q2 P T.a a w fun ab w=>Q1 P F.aL [ab,B,U] w fun v w=>Q3 P .neq T.y (.tmp 17) (.const (.int .i64 0)) v (.int .i64 0) w fun L w=>X1 L (Q2 P T.a a w fun M w=>Y0 P T.a s M w fun _u w=>Y7 P T.a s w fun u=>K (.tuple #[u,v]) w) (dr w fun b d=>Q5 b (fun e=> ∀w,d w→fieldAddr P T.a a 2 w (dk b e w)) fun e=>Q5 b (fun o=> ∀w,d w→Q2 P T.a a w (dk b o w)) fun o=>Q5 b (fun r=> ∀w,d w→Q2 P T.f c w (dk b r w)) fun r=>Q5 b (fun k=> ∀w,d w→Q2 P T.a a w (dk b k w)) fun k=>Q5 b (fun l=> ∀f w,d w→e f w→Q2 P T.g f w (dk b l w)) fun l=>Q5 b (fun m=> ∀i w,d w→l i w→indexAddr P T.g i B w (dk b m w)) fun m=>Q5 b (fun h=> ∀g w,d w→m g w→Q2 P T.o g w (dk b h w)) fun h=>Q5 b (fun p=> ∀n j w,d w→k n w→h j w→Q1 P F.bE [n,j,U] w (dk b p w)) fun p=>∀f t A n i g j z w,d w→e f w→o t w→r A w→k n w→l i w→m g w→h j w→p z w→ Q1 P F.aO [t,A,z] w fun C w=>J9 P .not C w fun Q w=>X1 Q (Q2 P T.a a w fun O w=>Y0 P T.a s O w fun _u w=>Y7 P T.a s w fun u=>K (.tuple #[u,(.int .i64 91)]) w) (buildSlice P T.g 0 [] w fun ac w=>fieldAddr P T.a a 2 w fun R w=>Q2 P T.g R w fun W w=>X3 P .append [T.g,T.g] T.g [false,false] [ac,W] w fun q w=>buildSlice P T.l 0 [] w fun E w=>indexAddr P T.g q B w fun N w=>fieldAddr P T.o N 1 w fun J w=>Q2 P T.l J w fun D w=>X3 P .append [T.l,T.l] T.l [false,false] [E,D] w fun y w=>Q2 P T.f c w fun aa w=>indexAddr P T.l y U w fun X w=>Y0 P T.f X aa w fun _u w=>indexAddr P T.g q B w fun Y w=>fieldAddr P T.o Y 1 w fun Z w=>Y0 P T.l Z y w fun _u w=>fieldAddr P T.a a 2 w fun V w=>Y0 P T.g V q w fun _u w=>Q2 P T.a a w fun H w=>Y0 P T.a s H w fun _u w=>Y7 P T.a s w fun u=>K (.tuple #[u,(.int .i64 0)]) w))
theorem Q0t {c d a b:Value} {w:World} {K:Value→World→Prop} (h:Ea c d a b w K):Q1 P F.bO [c,d,a,b] w K:=Q9 (List.replicate 14 none) Tryz.func59 rfl (by decide) (by kernel_rfl) h
def Ez (p n o:Value) (w:World) (K:Value→World→Prop):Prop:= box P T.a p w fun a w=>W0 P T.f w fun c w=>Q2 P T.a a w fun q w=>Q1 P F.aL [q,n,o] w fun b w=>Q3 P .neq T.y (.tmp 13) (.const (.int .i64 0)) b (.int .i64 0) w fun d w=>X1 d (H2 P T.f [] w fun e w=>Y0 P T.f c e w fun _u w=>Y7 P T.f c w fun i=>K (.tuple #[i,b]) w) (fieldAddr P T.a a 2 w fun l w=>Q2 P T.g l w fun g w=>indexAddr P T.g g n w fun k w=>fieldAddr P T.o k 1 w fun h w=>Q2 P T.l h w fun m w=>indexAddr P T.l m o w fun f w=>Q2 P T.f f w fun j w=>Y0 P T.f c j w fun _u w=>Y7 P T.f c w fun i=>K (.tuple #[i,(.int .i64 0)]) w)
theorem Q0y {b c a:Value} {w:World} {K:Value→World→Prop} (h:Ez b c a w K):Q1 P F.bP [b,c,a] w K:=Q9 (List.replicate 6 none) Tryz.func60 rfl (by decide) (by kernel_rfl) h
def Q0E:V9:=[none,some ([1],[1,8,9]),none,none,none,some ([5],[5,6,7,10,11,12,13,14,15,16,17,18,19,20,21,22,23,24,25,26,27,28,29,30,31,32,33,34,35,36,37,38,39,40,41,42,43,44,45,46,47,48,49,50,51]),none,none,none,none,some ([6],[6,7,22,23,24,25,26,27,28,29,30,31,32,33,34,35,36,37,38,39,40,41,42,43,44,45,46,47,48,49,50,51]),none,none,none,none,none,none,some ([],[52,53,54,55,56,57,58,59,60,61,62,63]),none,none]
def Es (a0 a1:Value) (w:World) (K:Value→World→Prop):Prop:= box P T.a a0 w fun e w=>W0 P T.a w fun i w=>jn (α:=Value) w (fun J1 w=>Q3 P .lss T.e (.tmp 8) (.const (.int .i64 0)) a1 (.int .i64 0) w fun t9 w=>X1 t9 (J1 (.int .i64 0) w) (J1 a1 w)) fun j d_ w=>lp (α:=Value) (.int .i64 0) w fun d g d_ w=>Q3 P .lss T.e (.tmp 10) (.tmp 11) g j w fun a w=>Q0 a true w (fun w J=>J g w) fun m w=>Q0 a true w (fieldAddr P T.a e 2) fun n w=>Q0 a true w (Q2 P T.g n) fun X w=>Q0 a true w (X3 P .len [T.g] T.e [false] [X]) fun ac w=>Q0 a true w (Q3 P .lss T.e (.tmp 14) (.tmp 17) m ac) fun v w=>pick P a v (.bool false) w fun y w=>X1 y (lp (α:=Value) (.int .i64 0) w fun b f d_ w=>fieldAddr P T.a e 2 w fun al w=>Q2 P T.g al w fun u w=>indexAddr P T.g u g w fun L w=>fieldAddr P T.o L 1 w fun C w=>Q2 P T.l C w fun U w=>X3 P .len [T.l] T.e [false] [U] w fun k w=>Q3 P .lss T.e (.tmp 22) (.tmp 29) f k w fun ah w=>X1 ah (fieldAddr P T.a e 2 w fun A w=>Q2 P T.g A w fun ag w=>indexAddr P T.g ag g w fun Y w=>fieldAddr P T.o Y 1 w fun W w=>Q2 P T.l W w fun p w=>indexAddr P T.l p f w fun t w=>Q2 P T.f t w fun z w=>W0 P T.f w fun Z w=>Y0 P T.f Z z w fun _u w=>fieldAddr P T.f Z 0 w fun r w=>Q2 P T.e r w fun o w=>Q3 P .eql T.e (.tmp 43) (.const (.int .i64 4)) o (.int .i64 4) w fun c w=>Q0 c true w (fieldAddr P T.f Z 3) fun V w=>Q0 c true w (Q2 P T.e V) fun ad w=>Q0 c true w (fun w J=>J j w) fun aa w=>Q0 c true w (Q3 P .geq T.e (.tmp 47) (.tmp 48) ad aa) fun Q w=>pick P c Q (.bool false) w fun H w=>X1 H (Q2 P T.a e w fun ae w=>Y0 P T.a i ae w fun _u w=>Y7 P T.a i w fun M=>K M w) (Q3 P .add T.e (.tmp 31) (.const (.int .i64 1)) f (.int .i64 1) w fun E w=>b E w)) (Q3 P .add T.e (.tmp 20) (.const (.int .i64 1)) g (.int .i64 1) w fun D w=>d D w)) (jn (α:=Unit) w (fun h w=>fieldAddr P T.a e 2 w fun ab w=>Q2 P T.g ab w fun l w=>X3 P .len [T.g] T.e [false] [l] w fun R w=>Q3 P .lss T.e (.tmp 52) (.tmp 55) j R w fun q w=>X1 q (buildSlice P T.g 0 [] w fun af w=>fieldAddr P T.a e 2 w fun B w=>Q2 P T.g B w fun O w=>R7 P T.g O none (some j) none w fun aj w=>X3 P .append [T.g,T.g] T.g [false,false] [af,aj] w fun s w=>fieldAddr P T.a e 2 w fun ai w=>Y0 P T.g ai s w fun _u w=>h () w) (h () w)) fun aq d_ w=>Q2 P T.a e w fun N w=>Y0 P T.a i N w fun _u w=>Y7 P T.a i w fun M=>K M w)
theorem Q1l {a b:Value} {w:World} {K:Value→World→Prop} (h:Es a b w K):Q1 P F.bQ [a,b] w K:=Q9 Q0E Tryz.func61 rfl (by decide) (by kernel_rfl) h
def Ho (a0 a1 a2:Value) (w:World) (K:Value→World→Prop):Prop:= box P T.a a1 w fun t4 w=>box P T.m a2 w fun s w=>W0 P T.a w fun t6 w=>fieldAddr P T.m s 0 w fun ek w=>Q2 P T.e ek w fun a6 w=>Q3 P .eql T.e (.tmp 23) (.const (.int .i64 0)) a6 (.int .i64 0) w fun et w=>X1 et (Q2 P T.a t4 w fun em w=>fieldAddr P T.m s 1 w fun eu w=>Q2 P T.c eu w fun d8 w=>Q1 P F.bc [em,d8] w fun c8 w=>ext P c8 0 w fun ee w=>ext P c8 1 w fun cv w=>W0 P T.a w fun t8 w=>Y0 P T.a t8 ee w fun _u w=>fieldAddr P T.m s 1 w fun eo w=>Q2 P T.c eo w fun ei w=>Q1 P F.aI [a0,ei] w fun c4 w=>ext P c4 0 w fun dc w=>ext P c4 1 w fun eb w=>dr w fun a b=>Q5 a (fun l=> ∀w,b w→Q3 P .eql T.y (.tmp 41) (.tmp 42) cv eb w (dk a l w)) fun l=>Q5 a (fun bw=> ∀d w,b w→l d w→Q0 d true w (fun w J=>J cv w) (dk a bw w)) fun bw=>Q5 a (fun bb=> ∀d bs w,b w→l d w→bw bs w→Q0 d true w (Q3 P .neq T.y (.tmp 45) (.const (.int .i64 0)) bs (.int .i64 0)) (dk a bb w)) fun bb=>Q5 a (fun ar=> ∀d b7 w,b w→l d w→bb b7 w→Q0 d true w (fun w J=>J b7 w) (dk a ar w)) fun ar=>Q5 a (fun b6=> ∀m w,b w→ar m w→Q0 m true w (fun w J=>J dc w) (dk a b6 w)) fun b6=>Q5 a (fun b2=> ∀m bf w,b w→ar m w→b6 bf w→Q0 m true w (Q3 P .eql T.e (.tmp 48) (.const (.int .i64 0)) bf (.int .i64 0)) (dk a b2 w)) fun b2=>Q5 a (fun b0=> ∀d m cg w,b w→l d w→ar m w→b2 cg w→Q0 d true w (pick P m cg (.bool false)) (dk a b0 w)) fun b0=>Q5 a (fun v=> ∀d cb w,b w→l d w→b0 cb w→Q0 d true w (fun w J=>J cb w) (dk a v w)) fun v=>Q5 a (fun br=> ∀h w,b w→v h w→Q0 h false w (fun w J=>J cv w) (dk a br w)) fun br=>Q5 a (fun b8=> ∀h bq w,b w→v h w→br bq w→Q0 h false w (Q3 P .eql T.y (.tmp 52) (.const (.int .i64 0)) bq (.int .i64 0)) (dk a b8 w)) fun b8=>Q5 a (fun t=> ∀h ci w,b w→v h w→b8 ci w→Q0 h false w (fun w J=>J ci w) (dk a t w)) fun t=>Q5 a (fun b5=> ∀f w,b w→t f w→Q0 f true w (fun w J=>J dc w) (dk a b5 w)) fun b5=>Q5 a (fun cc=> ∀f w,b w→t f w→Q0 f true w (fieldAddr P T.a t4 2) (dk a cc w)) fun cc=>Q5 a (fun be=> ∀w,b w→Q2 P T.a t8 w (dk a be w)) fun be=>Q5 a (fun ck=> ∀f bj w,b w→t f w→cc bj w→Q0 f true w (Q2 P T.g bj) (dk a ck w)) fun ck=>Q5 a (fun b9=> ∀f cj w,b w→t f w→ck cj w→Q0 f true w (X3 P .len [T.g] T.e [false] [cj]) (dk a b9 w)) fun b9=>Q5 a (fun b1=> ∀f bo bd w,b w→t f w→b5 bo w→b9 bd w→Q0 f true w (Q3 P .eql T.e (.tmp 55) (.tmp 58) bo bd) (dk a b1 w)) fun b1=>Q5 a (fun bv=> ∀h f ce w,b w→v h w→t f w→b1 ce w→Q0 h false w (pick P f ce (.bool false)) (dk a bv w)) fun bv=>Q5 a (fun cf=> ∀d h cd w,b w→l d w→v h w→bv cd w→Q0 d true w (pick P h (.bool true) cd) (dk a cf w)) fun cf=>Q5 a (fun cs=> ∀d bh w,b w→l d w→cf bh w→pick P d bh (.bool false) w (dk a cs w)) fun cs=>Rt a (fun k=> ∀aq w,b w→be aq w→Y0 P T.a t6 aq w (dk a (k [aq]) w)) fun k=>∀d bs b7 m bf cg cb h bq ci f bo bj aq cj bd ce cd bh dd ct w,b w→l d w→bw bs w→bb b7 w→ar m w→b6 bf w→b2 cg w→b0 cb w→v h w→br bq w→b8 ci w→t f w→b5 bo w→cc bj w→be aq w→ck cj w→b9 bd w→b1 ce w→bv cd w→cf bh w→cs dd w→k [aq] ct w→ Y7 P T.a t6 w fun r0=>K (.tuple #[r0,dd]) w) (Q3 P .eql T.e (.tmp 23) (.const (.int .i64 1)) a6 (.int .i64 1) w fun ea w=>X1 ea (Q2 P T.a t4 w fun eh w=>fieldAddr P T.m s 1 w fun eq w=>Q2 P T.c eq w fun ep w=>fieldAddr P T.m s 2 w fun el w=>Q2 P T.a1 el w fun ej w=>Q1 P F.bm [eh,ep,ej] w fun dv w=>ext P dv 0 w fun er w=>ext P dv 1 w fun cw w=>W0 P T.a w fun c9 w=>Y0 P T.a c9 er w fun _u w=>fieldAddr P T.m s 1 w fun es w=>Q2 P T.c es w fun ec w=>fieldAddr P T.m s 2 w fun eg w=>Q2 P T.a1 eg w fun d9 w=>Q1 P F.aP [a0,ec,d9] w fun dt w=>ext P dt 0 w fun c2 w=>ext P dt 1 w fun ef w=>dr w fun a b=>Q5 a (fun o=> ∀w,b w→Q3 P .eql T.y (.tmp 84) (.tmp 85) cw ef w (dk a o w)) fun o=>Q5 a (fun bp=> ∀c w,b w→o c w→Q0 c true w (fun w J=>J cw w) (dk a bp w)) fun bp=>Q5 a (fun bg=> ∀c cl w,b w→o c w→bp cl w→Q0 c true w (Q3 P .neq T.y (.tmp 88) (.const (.int .i64 0)) cl (.int .i64 0)) (dk a bg w)) fun bg=>Q5 a (fun aw=> ∀c a9 w,b w→o c w→bg a9 w→Q0 c true w (fun w J=>J a9 w) (dk a aw w)) fun aw=>Q5 a (fun ca=> ∀n w,b w→aw n w→Q0 n true w (fun w J=>J c2 w) (dk a ca w)) fun ca=>Q5 a (fun a7=> ∀n bi w,b w→aw n w→ca bi w→Q0 n true w (Q3 P .eql T.e (.tmp 91) (.const (.int .i64 0)) bi (.int .i64 0)) (dk a a7 w)) fun a7=>Q5 a (fun bn=> ∀c n a8 w,b w→o c w→aw n w→a7 a8 w→Q0 c true w (pick P n a8 (.bool false)) (dk a bn w)) fun bn=>Q5 a (fun u=> ∀c bx w,b w→o c w→bn bx w→Q0 c true w (fun w J=>J bx w) (dk a u w)) fun u=>Q5 a (fun ba=> ∀i w,b w→u i w→Q0 i false w (fun w J=>J cw w) (dk a ba w)) fun ba=>Q5 a (fun bc=> ∀i bu w,b w→u i w→ba bu w→Q0 i false w (Q3 P .eql T.y (.tmp 95) (.const (.int .i64 0)) bu (.int .i64 0)) (dk a bc w)) fun bc=>Q5 a (fun r=> ∀i bl w,b w→u i w→bc bl w→Q0 i false w (fun w J=>J bl w) (dk a r w)) fun r=>Q5 a (fun ch=> ∀g w,b w→r g w→Q0 g true w (fun w J=>J c2 w) (dk a ch w)) fun ch=>Q5 a (fun bz=> ∀g w,b w→r g w→Q0 g true w (fieldAddr P T.a t4 2) (dk a bz w)) fun bz=>Q5 a (fun b3=> ∀w,b w→Q2 P T.a c9 w (dk a b3 w)) fun b3=>Q5 a (fun af=> ∀g bm w,b w→r g w→bz bm w→Q0 g true w (Q2 P T.g bm) (dk a af w)) fun af=>Q5 a (fun aj=> ∀g ag w,b w→r g w→af ag w→Q0 g true w (X3 P .len [T.g] T.e [false] [ag]) (dk a aj w)) fun aj=>Q5 a (fun ah=> ∀g b4 B w,b w→r g w→ch b4 w→aj B w→Q0 g true w (Q3 P .eql T.e (.tmp 98) (.tmp 101) b4 B) (dk a ah w)) fun ah=>Q5 a (fun C=> ∀i g E w,b w→u i w→r g w→ah E w→Q0 i false w (pick P g E (.bool false)) (dk a C w)) fun C=>Q5 a (fun ao=> ∀c i N w,b w→o c w→u i w→C N w→Q0 c true w (pick P i (.bool true) N) (dk a ao w)) fun ao=>Q5 a (fun az=> ∀c A w,b w→o c w→ao A w→pick P c A (.bool false) w (dk a az w)) fun az=>Rt a (fun k=> ∀av w,b w→b3 av w→Y0 P T.a t6 av w (dk a (k [av]) w)) fun k=>∀c cl a9 n bi a8 bx i bu bl g b4 bm av ag B E N A cq ct w,b w→o c w→bp cl w→bg a9 w→aw n w→ca bi w→a7 a8 w→bn bx w→u i w→ba bu w→bc bl w→r g w→ch b4 w→bz bm w→b3 av w→af ag w→aj B w→ah E w→C N w→ao A w→az cq w→k [av] ct w→ Y7 P T.a t6 w fun r0=>K (.tuple #[r0,cq]) w) (Q3 P .eql T.e (.tmp 23) (.const (.int .i64 2)) a6 (.int .i64 2) w fun df w=>X1 df (Q2 P T.a t4 w fun dg w=>fieldAddr P T.m s 3 w fun dh w=>Q2 P T.e dh w fun di w=>fieldAddr P T.m s 2 w fun c7 w=>Q2 P T.a1 c7 w fun dj w=>fieldAddr P T.m s 4 w fun dy w=>Q2 P T.f dy w fun dz w=>Q1 P F.bO [dg,di,dj,dz] w fun cp w=>ext P cp 0 w fun dn w=>ext P cp 1 w fun cx w=>W0 P T.a w fun ds w=>Y0 P T.a ds dn w fun _u w=>dr w fun a b=>Q5 a (fun ai=> ∀w,b w→fieldAddr P T.m s 3 w (dk a ai w)) fun ai=>Q5 a (fun ad=> ∀w,b w→fieldAddr P T.m s 2 w (dk a ad w)) fun ad=>Q5 a (fun Q=> ∀w,b w→fieldAddr P T.m s 4 w (dk a Q w)) fun Q=>Q5 a (fun z=> ∀w,b w→Q2 P T.a ds w (dk a z w)) fun z=>Q5 a (fun V=> ∀ac w,b w→ai ac w→Q2 P T.e ac w (dk a V w)) fun V=>Q5 a (fun U=> ∀y w,b w→ad y w→Q2 P T.a1 y w (dk a U w)) fun U=>Q5 a (fun D=> ∀M w,b w→Q M w→Q2 P T.f M w (dk a D w)) fun D=>Q5 a (fun al=> ∀L W aa w,b w→V L w→U W w→D aa w→Q1 P F.b3 [a0,L,W,aa] w (dk a al w)) fun al=>Q5 a (fun a3=> ∀R w,b w→al R w→Q3 P .eql T.y (.tmp 127) (.tmp 128) R cx w (dk a a3 w)) fun a3=>Rt a (fun ay=> ∀q w,b w→z q w→Y0 P T.a t6 q w (dk a (ay [q]) w)) fun ay=>∀ac y M q L W aa R cn ed w,b w→ai ac w→ad y w→Q M w→z q w→V L w→U W w→D aa w→al R w→a3 cn w→ay [q] ed w→ Y7 P T.a t6 w fun r0=>K (.tuple #[r0,cn]) w) (Q3 P .eql T.e (.tmp 23) (.const (.int .i64 3)) a6 (.int .i64 3) w fun d1 w=>X1 d1 (Q2 P T.a t4 w fun dp w=>fieldAddr P T.m s 3 w fun dm w=>Q2 P T.e dm w fun d7 w=>fieldAddr P T.m s 2 w fun dq w=>Q2 P T.a1 dq w fun c3 w=>Q1 P F.bP [dp,d7,c3] w fun cr w=>ext P cr 0 w fun cy w=>ext P cr 1 w fun c0 w=>W0 P T.f w fun c1 w=>Y0 P T.f c1 cy w fun _u w=>fieldAddr P T.m s 3 w fun d3 w=>Q2 P T.e d3 w fun de w=>fieldAddr P T.m s 2 w fun c6 w=>Q2 P T.a1 c6 w fun da w=>Q1 P F.c1 [a0,de,da] w fun cm w=>ext P cm 0 w fun c5 w=>ext P cm 1 w fun d2 w=>W0 P T.f w fun d6 w=>Y0 P T.f d6 c5 w fun _u w=>dr w fun a b=>Q5 a (fun ak=> ∀w,b w→Q2 P T.a t4 w (dk a ak w)) fun ak=>Q5 a (fun am=> ∀w,b w→Q2 P T.f c1 w (dk a am w)) fun am=>Q5 a (fun Z=> ∀w,b w→Q2 P T.f d6 w (dk a Z w)) fun Z=>Q5 a (fun j=> ∀ab X w,b w→am ab w→Z X w→Q3 P .eql T.f (.tmp 151) (.tmp 152) ab X w (dk a j w)) fun j=>Q5 a (fun an=> ∀e w,b w→j e w→Q0 e true w (fun w J=>J c0 w) (dk a an w)) fun an=>Q5 a (fun Y=> ∀e w,b w→j e w→Q0 e true w (fun w J=>J d2 w) (dk a Y w)) fun Y=>Q5 a (fun ap=> ∀e O ae w,b w→j e w→an O w→Y ae w→Q0 e true w (Q3 P .eql T.y (.tmp 155) (.tmp 156) O ae) (dk a ap w)) fun ap=>Q5 a (fun a4=> ∀e H w,b w→j e w→ap H w→pick P e H (.bool false) w (dk a a4 w)) fun a4=>Rt a (fun cu=> ∀p w,b w→ak p w→Y0 P T.a t6 p w (dk a (cu [p]) w)) fun cu=>∀p ab X e O ae H co u9 w,b w→ak p w→am ab w→Z X w→j e w→an O w→Y ae w→ap H w→a4 co w→cu [p] u9 w→ Y7 P T.a t6 w fun r0=>K (.tuple #[r0,co]) w) (Q3 P .eql T.e (.tmp 23) (.const (.int .i64 4)) a6 (.int .i64 4) w fun dl w=>X1 dl (fieldAddr P T.m s 3 w fun d4 w=>Q2 P T.e d4 w fun d5 w=>Q1 P F.c4 [a0,d5] w fun ew w=>Q2 P T.a t4 w fun db w=>fieldAddr P T.m s 3 w fun dw w=>Q2 P T.e dw w fun du w=>Q1 P F.bQ [db,du] w fun d0 w=>Y0 P T.a t6 d0 w fun _u w=>Y7 P T.a t6 w fun r0=>K (.tuple #[r0,(.bool true)]) w) (Q2 P T.a t4 w fun dx w=>Y0 P T.a t6 dx w fun _u w=>Y7 P T.a t6 w fun r0=>K (.tuple #[r0,(.bool true)]) w)))))
theorem Q1U {b c a:Value} {w:World} {K:Value→World→Prop} (h:Ho b c a w K):Q1 P F.aj [b,c,a] w K:=Q9 (List.replicate 22 none) Tryz.func26 rfl (by decide) (by kernel_rfl) h
def Cp:V9:=[none,none,none,none,none,none,none,some ([9],[9,30,31,32,33,34,35,36,37,38,39,40,41,42,43,44,45,46,47,48,49,50,51,52,53,54]),none,none,some ([],[40,41,42,43,44,45,46,47,48,49,50,51,52,53,54]),none,none,none,none,some ([11],[6,11,56,57,58,59,60,61,62,63,64,65,66,67,68,69,70,71,72,73,74,75,76,77,78,79,80,81,82,83,84,85,86,87,88,89]),none,none,none,none,none,none]
def Vb (a0 a1 a2:Value) (w:World) (K:Value→World→Prop):Prop:= box P T.f a2 w fun t5 w=>Q1 P F.ai [a0] w fun aq w=>ext P aq 0 w fun L w=>ext P aq 1 w fun bb w=>W0 P T.a w fun t8 w=>Y0 P T.a t8 bb w fun _u w=>Q1 P F.ah [] w fun br w=>J9 P .not br w fun af w=>Q0 af false w (fun w J=>J L w) fun bq w=>Q0 af false w (Q3 P .eql T.a5 (.tmp 20) (.const (.pointer none)) bq (.pointer none)) fun bh w=>pick P af (.bool true) bh w fun h w=>Q0 h false w (fieldAddr P T.f t5 2) fun a3 w=>Q0 h false w (Q2 P T.c a3) fun bl w=>Q0 h false w (X3 P .len [T.c] T.e [false] [bl]) fun a7 w=>Q0 h false w (Q3 P .gtr T.e (.tmp 26) (.const (.int .i64 5000)) a7 (.int .i64 5000)) fun a5 w=>pick P h (.bool true) a5 w fun bm w=>X1 bm (Q1 P F.ah [] w fun ax w=>K ax w) (lp (α:=Value) (.int .i64 0) w fun j x7 d_ w=>X3 P .len [T.z] T.e [false] [a1] w fun a6 w=>Q3 P .lss T.e (.tmp 30) (.tmp 32) x7 a6 w fun ag w=>Q0 ag true w (fun w J=>J x7 w) fun a8 w=>Q0 ag true w (Q3 P .lss T.e (.tmp 35) (.const (.int .i64 20)) a8 (.int .i64 20)) fun bo w=>pick P ag bo (.bool false) w fun a9 w=>X1 a9 (jn (α:=Unit) w (fun an w=>indexAddr P T.z a1 x7 w fun bf w=>Q2 P T.m bf w fun ay w=>Q1 P F.aC [ay] w fun bn w=>X1 bn (sq w fun w=>indexAddr P T.z a1 x7 w fun bj w=>Q2 P T.a t8 w fun bu w=>Q2 P T.m bj w fun bc w=>Q1 P F.aj [L,bu,bc] w fun aw w=>ext P aw 0 w fun bp w=>ext P aw 1 w fun b1 w=>Y0 P T.a t8 bp w fun _u w=>an () w) (an () w)) fun bz d_ w=>Q3 P .add T.e (.tmp 38) (.const (.int .i64 1)) x7 (.int .i64 1) w fun ba w=>j ba w) (buildSlice P T.h 12 [(0,(.string ⟨#[105,110,116]⟩)),(1,(.string ⟨#[98,111,111,108]⟩)),(2,(.string ⟨#[116,101,120,116]⟩)),(3,(.string ⟨#[110,117,108,108]⟩)),(4,(.string ⟨#[65]⟩)),(5,(.string ⟨#[66]⟩)),(6,(.string ⟨#[73]⟩)),(7,(.string ⟨#[79,98,106,101,99,116]⟩)),(8,(.string ⟨#[65,91,93]⟩)),(9,(.string ⟨#[105,110,116,91,93]⟩)),(10,(.string ⟨#[90]⟩)),(11,(.string ⟨#[]⟩))] w fun g w=>lp (α:=Value) (.int .i64 0) w fun f e d_ w=>X3 P .len [T.h] T.e [false] [g] w fun a4 w=>Q3 P .lss T.e (.tmp 56) (.tmp 58) e a4 w fun bk w=>X1 bk (dr w fun b c=>Q5 b (fun E=> ∀w,c w→indexAddr P T.h g e w (dk b E w)) fun E=>Q5 b (fun q=> ∀w,c w→indexAddr P T.h g e w (dk b q w)) fun q=>Q5 b (fun l=> ∀w,c w→Q2 P T.f t5 w (dk b l w)) fun l=>Q5 b (fun Y=> ∀W w,c w→E W w→Q2 P T.c W w (dk b Y w)) fun Y=>Q5 b (fun r=> ∀B O w,c w→l B w→Y O w→Q1 P F.af [L,B,O] w (dk b r w)) fun r=>Q5 b (fun o=> ∀w,c w→Q2 P T.a t8 w (dk b o w)) fun o=>Q5 b (fun ab=> ∀w,c w→Q2 P T.f t5 w (dk b ab w)) fun ab=>Q5 b (fun H=> ∀v w,c w→q v w→Q2 P T.c v w (dk b H w)) fun H=>Q5 b (fun C=> ∀k aa U w,c w→o k w→ab aa w→H U w→Q1 P F.aO [k,aa,U] w (dk b C w)) fun C=>Q5 b (fun d=> ∀u D w,c w→r u w→C D w→Q3 P .neq T.t (.tmp 68) (.tmp 75) u D w (dk b d w)) fun d=>Q5 b (fun V=> ∀a w,c w→d a w→Q0 a false w (fun w J=>J g w) (dk b V w)) fun V=>Q5 b (fun X=> ∀a w,c w→d a w→Q0 a false w (fun w J=>J e w) (dk b X w)) fun X=>Q5 b (fun t=> ∀a R p w,c w→d a w→V R w→X p w→Q0 a false w (indexAddr P T.h R p) (dk b t w)) fun t=>Q5 b (fun n=> ∀a w,c w→d a w→Q0 a false w (fun w J=>J g w) (dk b n w)) fun n=>Q5 b (fun i=> ∀a w,c w→d a w→Q0 a false w (fun w J=>J e w) (dk b i w)) fun i=>Q5 b (fun M=> ∀a s Z w,c w→d a w→n s w→i Z w→Q0 a false w (indexAddr P T.h s Z) (dk b M w)) fun M=>Q5 b (fun A=> ∀a y w,c w→d a w→t y w→Q0 a false w (Q2 P T.c y) (dk b A w)) fun A=>Q5 b (fun ae=> ∀a m w,c w→d a w→A m w→Q0 a false w (Q1 P F.c3 [m]) (dk b ae w)) fun ae=>Q5 b (fun ai=> ∀a z w,c w→d a w→M z w→Q0 a false w (Q2 P T.c z) (dk b ai w)) fun ai=>∀W v B O u k aa U D a R p y s Z z m ar aj w,c w→E W w→q v w→l B w→Y O w→r u w→o k w→ab aa w→H U w→C D w→d a w→V R w→X p w→t y w→n s w→i Z w→M z w→A m w→ae ar w→ai aj w→ Q0 a false w (Q1 P F.aq [aj]) fun be w=>Q0 a false w (Q3 P .neq T.f (.tmp 82) (.tmp 87) ar be) fun bs w=>pick P a (.bool true) bs w fun az w=>X1 az (K (.bool false) w) (Q3 P .add T.e (.tmp 60) (.const (.int .i64 1)) e (.int .i64 1) w fun bd w=>f bd w)) (dr w fun b c=>Q5 b (fun Q=> ∀w,c w→Q2 P T.f t5 w (dk b Q w)) fun Q=>Q5 b (fun ac=> ∀N w,c w→Q N w→Q1 P F.bh [L,N] w (dk b ac w)) fun ac=>Q5 b (fun ah=> ∀w,c w→Q2 P T.a t8 w (dk b ah w)) fun ah=>Q5 b (fun ad=> ∀w,c w→Q2 P T.f t5 w (dk b ad w)) fun ad=>∀N ak al av w,c w→Q N w→ac ak w→ah al w→ad av w→ Q1 P F.b4 [al,av] w fun bv w=>Q3 P .eql T.c (.tmp 92) (.tmp 95) ak bv w fun bi w=>K bi w)))
theorem Ba {b c a:Value} {w:World} {K:Value→World→Prop} (h:Vb b c a w K):Q1 P F.cd [b,c,a] w K:=Q9 Cp Tryz.func4 rfl (by decide) (by kernel_rfl) h
end Go.Proofs.YtjdiakhipmggjaaGreatDoor

set_option maxRecDepth 100000
namespace Go.Proofs.YtjdiakhipmggjaaGreatDoor
open Go.Emb
end Go.Proofs.YtjdiakhipmggjaaGreatDoor


namespace Go.Emb
open Go.RowKit (Below)
variable {P : Program} {w w' : World} {K : Value → World → Prop}
theorem X9 {s:Sem Value} {v:Value} (h:s.run P w= .ok v w'):op P (sv s) w K=K v w':=by
 rw[A9];unfold T2 sv;simp[h]
theorem Lh {s:Sem Unit} (h:s.run P w= .ok () w'):op P (su s) w K=K undef w':=by
 rw[A9];unfold T2 su;simp[h]
abbrev S (l:List UInt8):Value:= .string ⟨l.toArray⟩
abbrev I (n:Int):Value:= .int .i64 n
theorem Hb {b:Bool} {x y:Value}:pick P (.bool b) x y w K=K (if b then x else y) w:=by
 unfold pick;rw[A9];unfold T2;cases b<;>simp[asBool]
theorem M4 {x y:Value}:pick P (.bool true) x y w K=K x w:=by rw[Hb];rfl
theorem W9 {x y:Value}:pick P (.bool false) x y w K=K y w:=by rw[Hb];rfl
theorem X0p {a b:Bool} {u:Value}:pick P (.bool a) (if a=true then .bool b else u) (.bool false) w K=K (.bool (a&&b)) w:=by
 rw[Hb];cases a<;>rfl
theorem X2k {a b:Bool} {u:Value}:pick P (.bool a) (.bool true) (if a=false then .bool b else u) w K=K (.bool (a||b)) w:=by
 rw[Hb];cases a<;>rfl
theorem W3 {c:World→(Value→World→Prop)→Prop}:Q0 (.bool true) true w c K=c w K:=by rw[Hf];simp[Nr]
theorem W8 {c:World→(Value→World→Prop)→Prop}:Q0 (.bool false) false w c K=c w K:=by rw[Hf];simp[Nr]
theorem S3 {c:World→(Value→World→Prop)→Prop}:Q0 (.bool true) false w c K=K undef w:=by rw[Hf];simp[Nr]
theorem E1 {c:World→(Value→World→Prop)→Prop}:Q0 (.bool false) true w c K=K undef w:=by rw[Hf];simp[Nr]
theorem O6 {b:Bool} {c:World→(Value→World→Prop)→Prop}:Q0 undef b w c K=K undef w:=by rw[Hf];rfl
theorem X0B {a b:Bool} {v:Value}:Q0 (.bool a) b w (fun w J=>J v w) K=K (if a=b then v else undef) w:=by
 rw[Hf];unfold Nr;by_cases h:a=b<;>simp[h]
theorem Q6c {b:Bool} {t e:Prop}:X1 (.bool b) t e=if b=true then t else e:=by rw[Q5T];cases b<;>rfl
theorem H6 {t e:Prop}:X1 (.bool true) t e=t:=by rw[Q6c];simp
theorem M3 {t e:Prop}:X1 (.bool false) t e=e:=by rw[Q6c];simp
section ints
variable {k : IntKind} {t : TypeId} {ox oy : Operand} {a b : Int}
theorem Gp:Q3 P .add t ox oy (.int k a) (.int k b) w K=K (.int k (k.wrap (a+b))) w:=X9 (by simp[eqGuard,Go.binOp,Op.intArith])
theorem Q3W:Q3 P .sub t ox oy (.int k a) (.int k b) w K=K (.int k (k.wrap (a-b))) w:=X9 (by simp[eqGuard,Go.binOp,Op.intArith])
theorem Q7P:Q3 P .mul t ox oy (.int k a) (.int k b) w K=K (.int k (k.wrap (a*b))) w:=X9 (by simp[eqGuard,Go.binOp,Op.intArith])
theorem Q44:Q3 P .lss t ox oy (.int k a) (.int k b) w K=K (.bool (decide (a<b))) w:=X9 (by simp[eqGuard,Go.binOp,Op.intCmp])
theorem Q45:Q3 P .leq t ox oy (.int k a) (.int k b) w K=K (.bool (decide (a≤b))) w:=X9 (by simp[eqGuard,Go.binOp,Op.intCmp])
theorem Rn:Q3 P .gtr t ox oy (.int k a) (.int k b) w K=K (.bool (decide (b<a))) w:=X9 (by simp[eqGuard,Go.binOp,Op.intCmp])
theorem Q1C:Q3 P .geq t ox oy (.int k a) (.int k b) w K=K (.bool (decide (b≤a))) w:=X9 (by simp[eqGuard,Go.binOp,Op.intCmp])
theorem Q1z:Q3 P .eql t ox oy (.int k a) (.int k b) w K=K (.bool (decide (a=b))) w:=X9 (by
 simp[eqGuard,Go.binOp,Op.intCmp];rfl)
theorem Q47:Q3 P .neq t ox oy (.int k a) (.int k b) w K=K (.bool (!decide (a=b))) w:=X9 (by
 simp[eqGuard,Go.binOp,Op.intCmp];rfl)
end ints
theorem Q3P {b:Bool}:J9 P .not (.bool b) w K=K (.bool (!b)) w:=X9 (by simp[Op.unary])
section bools
variable {t : TypeId} {ox oy : Operand} {a b : Bool}
theorem Q2J (d:Nat) (h:P.underlying t=some .bool):(Op.equalIn (d+1) t (.bool a) (.bool b)).run P w= .ok (a==b) w:=by
 simp[Op.equalIn,run_underlying h]
theorem Fz (h:P.underlying t=some .bool):(Op.equal t (.bool a) (.bool b)).run P w= .ok (a==b) w:=Q2J 9999 h
theorem Q5i (h:P.underlying t=some .bool):Q3 P .eql t ox oy (.bool a) (.bool b) w K=K (.bool (a==b)) w:=X9 (by
 simp[eqGuard,Go.binOp,Fz h])
theorem Q5Z (h:P.underlying t=some .bool):Q3 P .neq t ox oy (.bool a) (.bool b) w K=K (.bool (!(a==b))) w:=X9 (by
 simp[eqGuard,Go.binOp,Fz h])
end bools
theorem Jz {vs:List Value} {i:Nat} {v:Value} (h:vs[i]? =some v):ext P (.tuple vs.toArray) i w K=K v w:=X9 (by
 simp[Instr.extract,h])
theorem X2Q {a b:Value}:ext P (.tuple #[a,b]) 0 w K=K a w:=Jz (vs:=[a,b]) rfl
theorem X3g {a b:Value}:ext P (.tuple #[a,b]) 1 w K=K b w:=Jz (vs:=[a,b]) rfl
theorem X1i {a b c:Value}:ext P (.tuple #[a,b,c]) 0 w K=K a w:=Jz (vs:=[a,b,c]) rfl
theorem X1f {a b c:Value}:ext P (.tuple #[a,b,c]) 1 w K=K b w:=Jz (vs:=[a,b,c]) rfl
theorem X1w {a b c:Value}:ext P (.tuple #[a,b,c]) 2 w K=K c w:=Jz (vs:=[a,b,c]) rfl
theorem F9 {n:Int} (e: -9223372036854775808≤n) (d:n≤9223372036854775807):IntKind.i64.wrap n=n:=by
 have c:n % 18446744073709551616=n∨n % 18446744073709551616=n+18446744073709551616:=by omega
 show (if (true&&decide (n % 18446744073709551616≥9223372036854775808))=true then n % 18446744073709551616-18446744073709551616 else n % 18446744073709551616)=n
 simp only[Bool.true_and,decide_eq_true_eq]
 split<;>omega
theorem w32 {n:Int} (d: -2147483648≤n) (c:n≤2147483647):IntKind.i32.wrap n=n:=by
 show (if (true&&decide (n % 4294967296≥2147483648))=true then n % 4294967296-4294967296 else n % 4294967296)=n
 simp only[Bool.true_and,decide_eq_true_eq]
 split<;>omega
section strs
variable {t : TypeId} {ox oy : Operand} {a b : List UInt8}
theorem Q3G (a b:List UInt8):(a==b)=decide (a=b):=by rw[Bool.eq_iff_iff];simp
theorem Fc:Q3 P .eql t ox oy (S a) (S b) w K=K (.bool (decide (a=b))) w:=X9 (by
 simp[eqGuard,Go.binOp,Op.stringOp,Q3G])
theorem Fo:Q3 P .neq t ox oy (S a) (S b) w K=K (.bool (!decide (a=b))) w:=X9 (by
 simp[eqGuard,Go.binOp,Op.stringOp,Q3G])
theorem I7 (l:List UInt8):(ByteArray.mk l.toArray).size=l.length:=by simp[ByteArray.size]
theorem Q9f (a b:List UInt8):ByteArray.mk a.toArray++ByteArray.mk b.toArray=ByteArray.mk (a++b).toArray:=by
 apply ByteArray.ext;simp
theorem X3Z:IntKind.i64.max=9223372036854775807:=by decide
theorem Q2l (h:a.length+b.length≤9223372036854775807):Q3 P .add t ox oy (S a) (S b) w K=K (S (a++b)) w:=X9 (by
 have c: ¬(((a.length+b.length:Nat):Int)>IntKind.i64.max):=by rw[X3Z];omega
 simp only[eqGuard,Go.binOp,Op.stringOp,I7,Q9f]
 simp only[if_neg c]
 simp)
theorem R4 {cs:List Bool} {r:TypeId} (c:P.underlying t=some .string):X3 P .len [t] r cs [S a] w K=K (I a.length) w:=by
 have h:(Builtin.len_ #[t] r #[S a]).run P w= .ok (I a.length) w:=by
  simp[Builtin.len_,run_underlying c,I7,goInt]
 exact X9 h
theorem Yb {i:Int} (c:P.underlying t=some .string) (d:0≤i) (h:i.toNat<a.length):C3 P t (S a) (I i) w K=K (.int .u8 (a[i.toNat]'h).toNat) w:=X9 (by
 simp only[Instr.index,asIntOf,Sem.run_bind,Sem.run_pure,Result.andThen_ok,run_underlying c,d,if_true]
 have:(ByteArray.mk a.toArray)[i.toNat]? =some (a[i.toNat]'h):=by
  rw[getElem?_pos _ _ (by rw[I7];exact h)]
  rfl
 rw[this];simp)
theorem Q30 (l:List UInt8) (i j:Nat):(ByteArray.mk l.toArray).extract i j=ByteArray.mk ((l.take j).drop i).toArray:=by
 apply ByteArray.ext
 apply Array.ext'
 simp[List.drop_take]
theorem Uq {i:Int} (c:P.underlying t=some .string) (d:0≤i) (h:i≤a.length):R7 P t (S a) (some (I i)) none none w K=K (S (a.drop i.toNat)) w:=X9 (by
 simp[Instr.sliceAt,Instr.slice,Instr.sliceBounds,Instr.sliceBound,asIntOf,run_underlying c,d,h,I7,Q30])
theorem T1 {i:Int} (c:P.underlying t=some .string) (d:0≤i) (h:i≤a.length):R7 P t (S a) none (some (I i)) none w K=K (S (a.take i.toNat)) w:=X9 (by
 simp[Instr.sliceAt,Instr.slice,Instr.sliceBounds,Instr.sliceBound,asIntOf,run_underlying c,d,h,I7,Q30])
end strs
theorem Kf {s d:TypeId} {k j:IntKind} {n:Int} {ds:TypeDesc} (c:P.underlying s=some ds) (e:P.underlying d=some (.int k)):conv P s d (.int j n) w K=K (.int k (k.wrap n)) w:=X9 (by
 simp[Go.convert,run_underlying c,run_underlying e,Conv.intToInt])
def Q0q (w:World) (r:Nat) (o:Obj):World:={w with heap:=w.heap.setIfInBounds r o}
theorem Q4i {B r:Nat} {a w:World} {o:Obj} (h:Below B a w) (c:B≤r):Below B a (Q0q w r o):=
 h.trans ⟨rfl,rfl,rfl,by simp[Q0q],fun k d=>by simp only[Q0q];rw[Array.getElem?_setIfInBounds_ne (by omega)]⟩
theorem Q7R {w:World} {r:Nat} {o:Obj} (h:r<w.heap.size):(Q0q w r o).heap[r]? =some o:=by
 simp only[Q0q];rw[Array.getElem?_setIfInBounds_self_of_lt h]
theorem X22 {t:TypeId} {a:List UInt8} (c:P.underlying t=some .string):rng P t (S a) w K=K (.pointer (some ⟨w.heap.size,0,none⟩)) (w.alloc (.stringIter ⟨a.toArray⟩ 0)):=X9 (by
 simp[Instr.range,run_underlying c])
theorem X2c {t:TypeId} {r pos:Nat} {s:ByteArray} (h:w.heap[r]? =some (.stringIter s pos)) (d:pos<s.size):
 V1 P (.pointer (some ⟨r,0,none⟩)) true t w K=K (.tuple #[.bool true,I pos, .int .i32 (Utf8.decode s pos).1]) (Q0q w r (.stringIter s (pos+(Utf8.decode s pos).2))):=X9 (by
 have e: ∀(k:Obj→Sem Value),(getObj r>>=k).run P w=(k (.stringIter s pos)).run P w:=by
  intro k;rw[Sem.run_bind];simp[getObj,Sem.run,h]
 have c: ∀o,(setObj r o).run P w= .ok () (Q0q w r o):=by intro o;simp[setObj,Sem.run,h,Q0q]
 unfold Instr.next
 simp only[e,d,if_true]
 simp[c,goInt])
theorem Q7f {t:TypeId} {r pos:Nat} {s:ByteArray} (h:w.heap[r]? =some (.stringIter s pos)) (c: ¬pos<s.size):
 V1 P (.pointer (some ⟨r,0,none⟩)) true t w K=K (.tuple #[.bool false]) w:=X9 (by
 have d: ∀(k:Obj→Sem Value),(getObj r>>=k).run P w=(k (.stringIter s pos)).run P w:=by
  intro k;rw[Sem.run_bind];simp[getObj,Sem.run,h]
 unfold Instr.next
 simp only[d,c,if_false]
 simp)
theorem X1m {a:Value}:ext P (.tuple #[a]) 0 w K=K a w:=Jz (vs:=[a]) rfl
theorem Q8d {s:ByteArray} {i:Nat} (h:(s.get! i).toNat<128):Utf8.decode s i=((s.get! i).toNat,1):=by
 unfold Utf8.decode
 simp only[Nat.add_zero]
 rw[if_pos h]
theorem Q6X {s:ByteArray} {i:Nat} (h: ¬(s.get! i).toNat<128):128≤(Utf8.decode s i).1:=by
 unfold Utf8.decode
 simp only[Nat.add_zero]
 rw[if_neg h]
 repeat' split
 all_goals (simp only[Utf8.runeError] at*;try omega)
 all_goals (simp only[Bool.and_eq_true,decide_eq_true_eq,ge_iff_le] at*;omega)
theorem Q6b {s:ByteArray} {i:Nat}:1≤(Utf8.decode s i).2:=by
 unfold Utf8.decode
 simp only
 repeat' split
 all_goals simp
def Tc (p:Int→Bool) (s:ByteArray):Nat→Nat→Bool
 | 0,_=>true
 | n+1,i=>if i<s.size then p (Utf8.decode s i).1&&Tc p s n (i+(Utf8.decode s i).2) else true
theorem Q3Q {a:List UInt8} {i:Nat} (h:i<a.length):(ByteArray.mk a.toArray).get! i=a[i]:=by
 show (ByteArray.mk a.toArray).data[i]! =a[i]
 simp[h]
theorem Q8L (p:Int→Bool) (e: ∀c:Int,128≤c→p c=false) (a:List UInt8): ∀(n i:Nat),a.length-i≤n→Tc p ⟨a.toArray⟩ n i=(a.drop i).all (fun b=>p b.toNat):=by
 intro n
 induction n with
 | zero=>intro i h;rw[List.drop_eq_nil_of_le (by omega)];rfl
 | succ n g=>
  intro i h
  simp only[Tc,I7]
  split
  ·rename_i d
   rw[List.drop_eq_getElem_cons d,List.all_cons]
   by_cases f:a[i].toNat<128
   ·rw[Q8d (by rw[Q3Q d];exact f),Q3Q d]
    simp only
    rw[g (i+1) (by omega)]
   ·have j:=Q6X (s:=⟨a.toArray⟩) (i:=i) (by rw[Q3Q d];exact f)
    rw[e _ (by omega),e _ (by omega)];rfl
  ·rename_i d;rw[List.drop_eq_nil_of_le (by omega)];rfl
theorem U8 {α:Type} {A:(α→World→Prop)→World→Prop} {B:α→(Nat→Value)→World→Prop} (h:A (fun x w=> ∀d,B x d w) w):jn w A B:=Ur _ h (fun _ d _ c=>c d)
theorem X4 {d:World→World→Prop} {A c:(Value→World→Prop)→Prop} (V:Value) (h:A (fun v _=>v=V)) (e:c (fun v _=>v=V)):Q5 d A c:=
 E5 _ (fun _ _ _ h _=>h) h e
theorem Dk {w w0:World} {A:(World→World→Prop)→(World→Prop)→Prop} (d:Below w0.heap.size w0 w)
 (h:A (fun w w'=>Below w.heap.size w w') (fun w'=>Below w0.heap.size w0 w')):dr w A:=
 Im _ _ d.drew (fun _ _ c e=>c.trans (e.mono c.size)) h
theorem Q3d {w w':World} {v V:Value} (c:Below w.heap.size w w') (h:v=V):dk (fun w w'=>Below w.heap.size w w') (fun v _=>v=V) w v w':=⟨c,h⟩
theorem X6 {w:World} {v V:Value} (h:v=V):dk (fun w w'=>Below w.heap.size w w') (fun v _=>v=V) w v w:=⟨Below.refl _ _,h⟩
theorem Q6P {n:Nat} {fn:Func} {e:Array Value→Sem Value} {xs:List Value} {v:Value} (o:P.funcs[n]? =some fn) (i:(fn.name== "runtime.NumGoroutine")=false) (m:fn.body.isNone=true)
 (j:(Extern.findNext fn).isNone=true) (l:Extern.find fn=some e) (g:(e xs.toArray).run P w= .ok v w) (h:K v w):Q1 P n xs w K:=by
 have c:Extern.findNext fn=none:=by simpa using j
 have d: ¬fn.name= "runtime.NumGoroutine":=by simpa using i
 have f:fn.body=none:=by simpa using m
 unfold Q1
 rw[A9]
 unfold T2 callFunc
 simp[o,d,f,c,l,g,h]
theorem Q35 {α:Type} (p:α→Bool) (c:Nat→Bool): ∀(l:List α),(∀i (h:i<l.length),c i=p l[i])→(List.range l.length).find? c=l.findIdx? p
 | [],_=>rfl
 | x::l,h=>by
  rw[List.length_cons,List.range_succ_eq_map,List.find?_cons,List.findIdx?_cons]
  have e:c 0=p x:=h 0 (by simp)
  rw[e]
  cases p x
  ·simp only[Bool.false_eq_true,if_false]
   rw[List.find?_map]
   have:=Q35 p (c ∘ Nat.succ) l (fun i d=>h (i+1) (by simpa using d))
   rw[this]
  ·rfl
def Mr:=And.intro @M4 <| And.intro @W9 <| And.intro @O6 <| And.intro @Gp <| And.intro @Q3W <| And.intro @Q7P <| And.intro @Q44 <| And.intro @Q45 <| And.intro @Rn <| And.intro @Q1C <| And.intro @Q1z <| And.intro @Q47 <| And.intro @Q3P <| And.intro @Fc <| And.intro @Fo <| And.intro @X2Q <| And.intro @X3g <| And.intro @X1i <| And.intro @X1f <| And.intro @X1w <| And.intro @X1m <| And.intro @X0p <| And.intro @X2k <| And.intro @W3 <| And.intro @W8 <| And.intro @S3 <| And.intro @E1 <| And.intro @X0B <| And.intro @H6 <| @M3
def Mp:=And.intro @M4 <| And.intro @W9 <| And.intro @O6 <| And.intro @Gp <| And.intro @Q3W <| And.intro @Q7P <| And.intro @Q44 <| And.intro @Q45 <| And.intro @Rn <| And.intro @Q1C <| And.intro @Q1z <| And.intro @Q47 <| And.intro @Q3P <| And.intro @Fc <| And.intro @Fo <| And.intro @X2Q <| And.intro @X3g <| And.intro @X1i <| And.intro @X1f <| And.intro @X1w <| And.intro @X1m <| And.intro @W3 <| And.intro @W8 <| And.intro @S3 <| And.intro @E1 <| And.intro @H6 <| @M3
def Mb:=And.intro @Bool.true_eq_false <| And.intro @Bool.false_eq_true <| And.intro @Bool.not_true <| And.intro @Bool.not_false <| And.intro @Bool.and_true <| And.intro @Bool.true_and <| And.intro @Bool.and_false <| And.intro @Bool.false_and <| And.intro @Bool.or_true <| And.intro @Bool.true_or <| And.intro @Bool.or_false <| @Bool.false_or
end Go.Emb

namespace Go.Kd
abbrev X0:=List UInt8
def Xi (c:Int):Bool:=decide (65≤c)&&decide (c≤90)
def A8 (c:Int):Bool:=decide (97≤c)&&decide (c≤122)
def G2 (c:Int):Bool:=decide (48≤c)&&decide (c≤57)
def S6 (c:Int):Bool:=Xi c||A8 c||G2 c
def name (s:X0):Bool:=match s with
 | []=>false
 | c::_=>decide (s.length≤32)&& !G2 c.toNat&&s.all (fun b=>S6 b.toNat)
def M6 (s:X0):Bool:=match s with
 | []=>false
 | c::_=>name s&&Xi c.toNat
def D2 (s:X0):Bool:=match s with
 | []=>false
 | c::_=>name s&&A8 c.toNat
def plain (s:X0):Bool:=decide (s=[105,110,116])||decide (s=[98,111,111,108])||decide (s=[116,101,120,116])
def arr (s:X0):Bool:=decide (2≤s.length)&&decide (s.drop (s.length-2)=[91,93])
def cutA (s:X0):X0:=s.take (s.length-2)
def Yv:Nat→X0→X0×Nat
 | 0,s=>(s,0)
 | n+1,s=>if arr s then ((Yv n (cutA s)).1,(Yv n (cutA s)).2+1) else (s,0)
def base (s:X0):X0×Nat:=Yv s.length s
def right (s:X0):Bool:=decide ((base s).2≤3)&&(plain (base s).1||M6 (base s).1)
def elem (s:X0):X0:=if arr s&&right s then cutA s else []
def Ya (s:X0):Nat:=if right s then (base s).2 else 0
def Qy (s:X0):X0×X0×Bool:=match s with
 | []=>([],[],false)
 | c::r=>if c=46 then ([],r,true) else ((c::(Qy r).1),(Qy r).2.1,(Qy r).2.2)
def Zj (s:X0):Bool:=(Qy s).2.2&&M6 (Qy s).1&&D2 (Qy s).2.1
def Q1t (c:UInt8) (s:X0):Int:=match s.findIdx? (fun b=>decide (b=c)) with
 | some i=>i
 | none=> -1
def Q3u (s:X0) (o:Option Nat):X0×X0×Bool:=match o with
 | some i=>(s.take i,s.drop (i+1),true)
 | none=>(s,[],false)
theorem Kp (s:X0):Qy s=Q3u s (s.findIdx? (fun b=>decide (b=46))):=by
 induction s with
 | nil=>rfl
 | cons c r a=>
  rw[List.findIdx?_cons]
  simp only[Qy]
  by_cases h:c=46
  ·simp[h,Q3u]
  ·simp only[h,if_false,decide_false,Bool.false_eq_true]
   rw[a]
   cases r.findIdx? (fun b=>decide (b=46)) with
   | none=>simp[Q3u]
   | some i=>simp[Q3u]
end Go.Kd

namespace Go.Proofs.YtjdiakhipmggjaaGreatDoor
open Go.Emb Go.RowKit Go.Kd
variable {w : World} {K : Value → World → Prop}
theorem X8:P.underlying T.c=some .string:=by kernel_rfl
theorem Q1K:P.underlying T.e=some (.int .i64):=by kernel_rfl
theorem Q32:P.underlying T.t=some .bool:=by kernel_rfl
theorem Q43:P.underlying T.a3=some (.int .u8):=by kernel_rfl
theorem Q7O:P.underlying T.an=some (.int .i32):=by kernel_rfl
theorem Q7y (c:Int) (h:K (.bool (Xi c)) w):Q1 P F.cj [.int .i32 c] w K:=Q5b (by
 unfold Q0Q
 (try simp only[↓Mr,Mr,Mb,reduceIte])
 cases a:decide (65≤c)<;>simp only[a,↓Mr,Mr,Mb,reduceIte]<;>simpa [Xi,a] using h)
theorem Q7I (c:Int) (h:K (.bool (A8 c)) w):Q1 P F.ck [.int .i32 c] w K:=Q6a (by
 unfold Q0h
 (try simp only[↓Mr,Mr,Mb,reduceIte])
 cases a:decide (97≤c)<;>simp only[a,↓Mr,Mr,Mb,reduceIte]<;>simpa [A8,a] using h)
theorem X2i (c:Int) (h:K (.bool (S6 c)) w):Q1 P F.cb [.int .i32 c] w K:=Q4Z (by
 unfold Tq
 refine Q7y c ?_
 cases a:Xi c
 ·(try simp only[↓Mr,Mr,Mb,reduceIte])
  refine Q7I c ?_
  cases b:A8 c
  ·(try simp only[↓Mr,Mr,Mb,reduceIte])
   cases d:decide (48≤c)
   ·(try simp only[↓Mr,Mr,Mb,reduceIte])
    simpa [S6,G2,a,b,d] using h
   ·(try simp only[↓Mr,Mr,Mb,reduceIte])
    simpa [S6,G2,a,b,d] using h
  ·(try simp only[↓Mr,Mr,Mb,reduceIte])
   simpa [S6,a,b] using h
 ·(try simp only[↓Mr,Mr,Mb,reduceIte])
  simpa [S6,a] using h)
theorem X3T (a:List UInt8) (f:Value) (p:Int→Bool) (l: ∀(c:Int) (w:World) (K:Value→World→Prop),K (.bool (p c)) w→Z3 P f [.int .i32 c] w K)
 (h: ∀w',Below w.heap.size w w'→K (.bool (Tc p ⟨a.toArray⟩ a.length 0)) w'):Q1 P F.cB [S a,f] w K:=Q85 (by
 unfold Q2T
 rw[X22 X8]
 refine Wj (fun _ w'=> ∃pos n:Nat,a.length-pos≤n∧Tc p ⟨a.toArray⟩ a.length 0=Tc p ⟨a.toArray⟩ n pos∧Below w.heap.size w w'∧w'.heap[w.heap.size]? =some (.stringIter ⟨a.toArray⟩ pos))
  (fun _ w'=>match w'.heap[w.heap.size]? with | some (.stringIter _ pos)=>a.length-pos | _=>0) ⟨0,a.length,by omega,rfl,(Below.refl _ _).alloc (Nat.le_refl _) _,heap_alloc_new w _⟩ ?_
 rintro _ _ w1 ⟨pos,n,q,b,j,g⟩
 by_cases e:pos<a.length
 ·rw[X2c g (by rw[I7];exact e)]
  (try simp only[↓Mr,Mr,Mb,reduceIte])
  refine l _ _ _ ?_
  obtain ⟨n,rfl⟩: ∃m,n=m+1:=⟨n-1,by omega⟩
  simp only[Tc,I7,e,if_true] at b
  have r:=Q6b (s:=⟨a.toArray⟩) (i:=pos)
  have d:w.heap.size<w1.heap.size:=(Array.getElem?_eq_some_iff.1 g).1
  cases k:p (Utf8.decode ⟨a.toArray⟩ pos).1
  ·(try simp only[↓Mr,Mr,Mb,reduceIte])
   rw[k] at b
   have:=h _ (Q4i (o:= .stringIter ⟨a.toArray⟩ (pos+(Utf8.decode ⟨a.toArray⟩ pos).2)) j (Nat.le_refl _))
   rw[b] at this
   exact this
  ·(try simp only[↓Mr,Mr,Mb,reduceIte])
   rw[k] at b
   refine ⟨⟨_,n,?_,b,Q4i j (Nat.le_refl _),Q7R d⟩,?_⟩
   ·omega
   ·simp only[Q7R d,g];omega
 ·rw[Q7f g (by rw[I7];exact e)]
  (try simp only[↓Mr,Mr,Mb,reduceIte])
  have:Tc p ⟨a.toArray⟩ n pos=true:=by
   cases n with
   | zero=>rfl
   | succ n=>simp only[Tc,I7,e,if_false]
  rw[←this,←b]
  exact h _ j)
theorem Q8f (c:Int) (h:128≤c):S6 c=false:=by
 simp[S6,Xi,A8,G2];omega
theorem Q5O (a:List UInt8) (n:a.length≤140737488355328) (h: ∀w',Below w.heap.size w w'→K (.bool (name a)) w'):Q1 P F.c6 [S a] w K:=Q70 (by
 unfold Q2e
 have e: ∀c r,a=c::r→(decide (a.length≤32)&& !G2 c.toNat)=true→Q1 P F.cB [S a,(.func (.func F.cb) #[] #[])] w K:=by
  intro c r l b
  refine X3T a _ S6 (fun c w K h=>Z7 (first:=[]) (caps:=[]) (X2i c h)) fun w' m=>?_
  rw[Q8L _ Q8f a _ _ (by omega)]
  have:=h w' m
  rw[l] at this b⊢
  simp only[name] at this
  rw[b,Bool.true_and] at this
  simpa using this
 cases a with
 | nil=>
  simp only[↓Mr,Mr,Mb,reduceIte,decide_true]
  exact h w (Below.refl _ _)
 | cons c r=>
  have f:decide (c::r=[])=false:=by simp
  simp only[↓Mr,Mr,Mb,reduceIte,f,R4 X8]
  by_cases i:(c::r).length≤32
  ·have d:r.length≤31:=by simpa using i
   have b:decide ((32:Int)<((c::r).length:Int))=false:=by simp only[decide_eq_false_iff_not];omega
   simp only[↓Mr,Mr,Mb,reduceIte,b]
   rw[Yb X8 (by omega) (by simp)]
   (try simp only[↓Mr,Mr,Mb,reduceIte])
   have j:(c::r)[(0:Int).toNat]'(by simp)=c:=rfl
   simp only[j]
   cases g:decide ((48:Int)≤(c.toNat:Int))
   ·(try simp only[↓Mr,Mr,Mb,reduceIte])
    exact e c r rfl (by simp[G2,d,g])
   ·(try simp only[↓Mr,Mr,Mb,reduceIte])
    rw[Yb X8 (by omega) (by simp)]
    simp only[↓Mr,Mr,Mb,reduceIte,j]
    cases k:decide ((c.toNat:Int)≤57)
    ·(try simp only[↓Mr,Mr,Mb,reduceIte])
     exact e c r rfl (by simp only[G2,g,k];simp[d])
    ·(try simp only[↓Mr,Mr,Mb,reduceIte])
     have:name (c::r)=false:=by simp only[name,G2,g,k];simp
     rw[←this];exact h w (Below.refl _ _)
  ·have b:decide ((32:Int)<((c::r).length:Int))=true:=by simp only[decide_eq_true_eq];omega
   simp only[↓Mr,Mr,Mb,reduceIte,b]
   have:name (c::r)=false:=by simp only[name];rw[decide_eq_false i];rfl
   rw[←this];exact h w (Below.refl _ _))
theorem Rq (a:List UInt8) (f:a.length≤140737488355328) (h: ∀w',Below w.heap.size w w'→K (.bool (M6 a)) w'):Q1 P F.al [S a] w K:=Q6v (by
 unfold Q0K
 refine Q5O a f fun w1 b=>?_
 cases a with
 | nil=>
  simp only[name,↓Mr,Mr,Mb,reduceIte]
  exact h w1 b
 | cons c r=>
  cases d:name (c::r)
  ·(try simp only[↓Mr,Mr,Mb,reduceIte])
   have:=h w1 b
   simp only[M6,d] at this
   simpa using this
  ·(try simp only[↓Mr,Mr,Mb,reduceIte])
   rw[Yb X8 (by omega) (by simp)]
   have e:(c::r)[(0:Int).toNat]'(by simp)=c:=rfl
   simp only[e]
   rw[Kf Q43 Q7O,w32 (by omega) (by have:=c.toNat_lt;omega)]
   refine Q7y _ ?_
   (try simp only[↓Mr,Mr,Mb,reduceIte])
   have:=h w1 b
   simp only[M6,d] at this
   simpa using this)
theorem Rp (a:List UInt8) (h:K (.bool (plain a)) w):Q1 P F.aN [S a] w K:=Q5l (by
 unfold Q0G
 (try simp only[↓Mr,Mr,Mb,reduceIte])
 cases b:decide (a=[105,110,116])<;>(try simp only[↓Mr,Mr,Mb,reduceIte])
 ·cases c:decide (a=[98,111,111,108])<;>(try simp only[↓Mr,Mr,Mb,reduceIte])<;>simpa [plain,b,c] using h
 ·simpa [plain,b] using h)
def Jp (a b:List UInt8):Bool:=decide (b.length≤a.length)&&decide (a.drop (a.length-b.length)=b)
theorem Du (a b:List UInt8) (f:a.length≤140737488355328) (e:b.length≤140737488355328) (h:K (.bool (Jp a b)) w):Q1 P F.aa [S a,S b] w K:=Cq (by
 unfold Vc
 rw[R4 X8,R4 X8]
 (try simp only[↓Mr,Mr,Mb,reduceIte])
 by_cases d:b.length≤a.length
 ·have c:decide ((b.length:Int)≤a.length)=true:=by simp only[decide_eq_true_eq];omega
  simp only[↓Mr,Mr,Mb,reduceIte,c,R4 X8]
  rw[F9 (by omega) (by omega),Uq X8 (by omega) (by omega)]
  (try simp only[↓Mr,Mr,Mb,reduceIte])
  rw[show ((a.length:Int)-b.length).toNat=a.length-b.length from by omega]
  simpa [Jp,d] using h
 ·have c:decide ((b.length:Int)≤a.length)=false:=by simp only[decide_eq_false_iff_not];omega
  simp only[↓Mr,Mr,Mb,reduceIte,c]
  simpa [Jp,d] using h)
theorem Q6S (a b:List UInt8) (d:a.length≤140737488355328) (c:b.length≤140737488355328) (h:K (.bool (Jp a b)) w):Q1 P F.bK [S a,S b] w K:=Ae (by
 unfold Dd
 exact Du a b d c h)
def Dw (a b:List UInt8):List UInt8:=if Jp a b then a.take (a.length-b.length) else a
theorem Q4D {a b:List UInt8} (h:Jp a b=true):b.length≤a.length:=by
 simp only[Jp,Bool.and_eq_true,decide_eq_true_eq] at h;exact h.1
theorem Q5Q (a b:List UInt8) (e:a.length≤140737488355328) (d:b.length≤140737488355328) (h:K (S (Dw a b)) w):Q1 P F.bu [S a,S b] w K:=Kw (by
 unfold Mw
 refine Ch ?_
 unfold Uj
 refine Du a b e d ?_
 cases c:Jp a b
 ·(try simp only[↓Mr,Mr,Mb,reduceIte])
  simpa [Dw,c] using h
 ·have f:=Q4D c
  simp only[↓Mr,Mr,Mb,reduceIte,R4 X8]
  rw[F9 (by omega) (by omega),T1 X8 (by omega) (by omega)]
  rw[show ((a.length:Int)-b.length).toNat=a.length-b.length from by omega]
  simpa [Dw,c] using h)
theorem Q73 (a b:List UInt8) (e:a.length≤140737488355328) (d:b.length≤140737488355328) (h:K (.tuple #[S (Dw a b), .bool (Jp a b)]) w):Q1 P F.bI [S a,S b] w K:=Ay (by
 unfold Oz
 refine Cr ?_
 unfold Vg
 refine Du a b e d ?_
 cases c:Jp a b
 ·(try simp only[↓Mr,Mr,Mb,reduceIte])
  simpa [Dw,c] using h
 ·have f:=Q4D c
  simp only[↓Mr,Mr,Mb,reduceIte,R4 X8]
  rw[F9 (by omega) (by omega),T1 X8 (by omega) (by omega)]
  rw[show ((a.length:Int)-b.length).toNat=a.length-b.length from by omega]
  (try simp only[↓Mr,Mr,Mb,reduceIte])
  simpa [Dw,c] using h)
theorem Q3x (a:List UInt8):Jp a [91,93]=arr a:=rfl
theorem Q2m (a:List UInt8):Dw a [91,93]=if arr a then Kd.cutA a else a:=rfl
theorem K4 {a:List UInt8} (h:arr a=true):(Kd.cutA a).length+2=a.length:=by
 simp only[arr,Bool.and_eq_true,decide_eq_true_eq] at h
 simp only[Kd.cutA,List.length_take];omega
theorem Q3s: ∀(n m:Nat) (a:List UInt8),a.length≤n→a.length≤m→Yv n a=Yv m a
 | 0,0,a,_,_=>rfl
 | 0,m+1,a,h,_=>by
  have:a=[]:=List.eq_nil_of_length_eq_zero (by omega)
  subst this;rfl
 | n+1,0,a,_,h=>by
  have:a=[]:=List.eq_nil_of_length_eq_zero (by omega)
  subst this;rfl
 | n+1,m+1,a,c,b=>by
  simp only[Yv]
  split
  ·rename_i h
   have:=K4 h
   rw[Q3s n m (Kd.cutA a) (by omega) (by omega)]
  ·rfl
theorem Xz (a:List UInt8):base a=if arr a then ((base (Kd.cutA a)).1,(base (Kd.cutA a)).2+1) else (a,0):=by
 unfold base
 cases b:a.length with
 | zero=>
  have:a=[]:=List.eq_nil_of_length_eq_zero b
  subst this;rfl
 | succ n=>
  simp only[Yv]
  split
  ·rename_i h
   have:=K4 h
   rw[Q3s n (Kd.cutA a).length (Kd.cutA a) (by omega) (Nat.le_refl _)]
  ·rfl
theorem Q1H (a:List UInt8):(base a).1.length+2*(base a).2=a.length:=by
 have key: ∀n (a:List UInt8),(Yv n a).1.length+2*(Yv n a).2=a.length:=by
  intro n
  induction n with
  | zero=>intro a;simp[Yv]
  | succ n b=>
   intro a
   simp only[Yv]
   split
   ·rename_i h
    have:=K4 h
    have:=b (Kd.cutA a)
    simp only;omega
   ·simp
 exact key _ a
theorem X0d (a:List UInt8) (f:a.length≤140737488355328) (h:K (.tuple #[S (base a).1,I (base a).2]) w):Q1 P F.cv [S a] w K:=Q6D (by
 unfold Q2a
 refine Wj (fun x w'=>w'=w∧ ∃(b:List UInt8) (n:Nat),x=(S b,I n)∧b.length+2*n=a.length∧base a=((base b).1,(base b).2+n)) (fun x _=>match x.1 with | .string s=>s.size | _=>0)
  ⟨rfl,a,0,rfl,by omega,rfl⟩ ?_
 rintro _ _ _ ⟨rfl,b,n,rfl,g,d⟩
 refine Q6S b _ (by omega) (by simp) ?_
 rw[Q3x]
 cases c:arr b
 ·(try simp only[↓Mr,Mr,Mb,reduceIte])
  rw[Xz b,c] at d
  simp only[Bool.false_eq_true,if_false,Nat.zero_add] at d
  rw[d] at h;exact h
 ·(try simp only[↓Mr,Mr,Mb,reduceIte])
  refine Q5Q b _ (by omega) (by simp) ?_
  rw[Q2m,c]
  simp only[↓Mr,Mr,Mb,reduceIte,if_true]
  have e:=K4 c
  rw[F9 (by omega) (by omega)]
  refine ⟨⟨by first | rfl | trivial,Kd.cutA b,n+1,by simp,by omega,?_⟩,?_⟩
  ·rw[d,Xz b,c];simp;omega
  ·simp only[I7];omega)
theorem Zk (a:List UInt8) (g:a.length≤140737488355328) (h: ∀w',Below w.heap.size w w'→K (.bool (right a)) w'):Q1 P F.z [S a] w K:=Q62 (by
 unfold Q0T
 have f:=Q1H a
 refine X0d a g ?_
 (try simp only[↓Mr,Mr,Mb,reduceIte])
 by_cases b:(base a).2≤3
 ·have c:decide (((base a).2:Int)≤3)=true:=by simp only[decide_eq_true_eq];omega
  simp only[↓Mr,Mr,Mb,reduceIte,c]
  refine Rp _ ?_
  cases d:plain (base a).1
  ·(try simp only[↓Mr,Mr,Mb,reduceIte])
   refine Rq _ (by omega) fun w1 e=>?_
   (try simp only[↓Mr,Mr,Mb,reduceIte])
   have:=h w1 e
   simp only[right,b,d] at this
   simpa using this
  ·(try simp only[↓Mr,Mr,Mb,reduceIte])
   have:=h w (Below.refl _ _)
   simp only[right,b,d] at this
   simpa using this
 ·have c:decide (((base a).2:Int)≤3)=false:=by simp only[decide_eq_false_iff_not];omega
  simp only[↓Mr,Mr,Mb,reduceIte,c]
  have:=h w (Below.refl _ _)
  simp only[right,b] at this
  simpa using this)
theorem Q5C (a:List UInt8) (d:a.length≤140737488355328) (h: ∀w',Below w.heap.size w w'→K (S (elem a)) w'):Q1 P F.c5 [S a] w K:=Q72 (by
 unfold Q26
 refine Q73 a _ d (by simp) ?_
 rw[Q3x,Q2m]
 (try simp only[↓Mr,Mr,Mb,reduceIte])
 cases b:arr a
 ·(try simp only[↓Mr,Mr,Mb,reduceIte])
  have:=h w (Below.refl _ _)
  simp only[elem,b] at this
  exact this
 ·(try simp only[↓Mr,Mr,Mb,reduceIte])
  refine Zk a d fun w1 e=>?_
  have:=h w1 e
  cases c:right a
  ·(try simp only[↓Mr,Mr,Mb,reduceIte])
   simp only[elem,b,c] at this
   exact this
  ·simp only[↓Mr,Mr,Mb,reduceIte,if_true]
   simp only[elem,b,c] at this
   exact this)
theorem Q9O (a:List UInt8) (b:a.length≤140737488355328) (h: ∀w',Below w.heap.size w w'→K (I (Ya a)) w'):Q1 P F.cu [S a] w K:=Q6G (by
 unfold Q2b
 refine X0d a b ?_
 (try simp only[↓Mr,Mr,Mb,reduceIte])
 refine Zk a b fun w1 c=>?_
 have:=h w1 c
 cases d:right a<;>(try simp only[↓Mr,Mr,Mb,reduceIte])<;>simpa [Ya,d] using this)
theorem X4r (a:List UInt8) (i:a.length≤140737488355320) (h: ∀w',Below w.heap.size w w'→K (if right a&&decide (Ya a≠3) then .tuple #[S (a++[91,93]),I 0] else .tuple #[S [],I 30]) w'):Q1 P F.cQ [S a] w K:=Q9W (by
 unfold Q4b
 refine Zk a (by omega) fun w1 b=>?_
 cases c:right a
 ·(try simp only[↓Mr,Mr,Mb,reduceIte])
  have:=h w1 b
  simp only[c] at this
  simpa using this
 ·(try simp only[↓Mr,Mr,Mb,reduceIte])
  refine Q9O a (by omega) fun g d=>?_
  have:=h g (b.trans (d.mono b.size))
  by_cases f:Ya a=3
  ·have e:decide ((Ya a:Int)=3)=true:=by simp only[decide_eq_true_eq];omega
   simp only[↓Mr,Mr,Mb,reduceIte,e]
   simp only[c,f] at this
   simpa using this
  ·have e:decide ((Ya a:Int)=3)=false:=by simp only[decide_eq_false_iff_not];omega
   simp only[↓Mr,Mr,Mb,reduceIte,e]
   rw[Q2l (by simp;omega)]
   simp only[c] at this
   simpa [f] using this)
end Go.Proofs.YtjdiakhipmggjaaGreatDoor

namespace Go.Proofs.YtjdiakhipmggjaaGreatDoor
open Go.Emb Go.RowKit Go.Kd
variable {w : World} {K : Value → World → Prop}
theorem Q1N (a:List UInt8) (c:UInt8) (h:K (I (Q1t c a)) w):Q1 P F.c0 [S a, .int .u8 c.toNat] w K:=by
 refine Q6P (e:=Extern.BytealgIndexByte.indexByte) Tryz.func231 (by decide) rfl (by kernel_rfl) (by kernel_rfl) ?_ h
 have g:((List.range (ByteArray.mk a.toArray).size).find? fun i=>(ByteArray.mk a.toArray)[i]! ==c)=a.findIdx? (fun b=>decide (b=c)):=by
  rw[I7]
  refine Q35 _ _ a fun i d=>?_
  have:(ByteArray.mk a.toArray)[i]! =a[i]:=by
   rw[getElem!_pos _ _ (by rw[I7];exact d)];rfl
  rw[this,Bool.eq_iff_iff];simp
 have f:((c.toNat:Int).toNat.toUInt8)=c:=by simp
 have:=run_indexByte_string (P:=P) ⟨a.toArray⟩ c.toNat w
 rw[f] at this
 refine this.trans ?_
 unfold firstIdx Q1t
 rw[g]
 cases a.findIdx? (fun b=>decide (b=c))<;>rfl
theorem X0E (a:List UInt8) (c:UInt8) (h:K (I (Q1t c a)) w):Q1 P F.bL [S a,S [c]] w K:=Ac (by
 unfold On
 simp only[R4 X8]
 have g:decide ((([c]:List UInt8).length:Int)=0)=false:=rfl
 have f:decide ((([c]:List UInt8).length:Int)=1)=true:=rfl
 simp only[Q1z,g,f]
 simp only[↓Mr,Mr,Mb,reduceIte]
 have e:C3 P T.c (S [c]) (I 0) w fun b w=>Q1 P F.ay [S a,b] w fun d w=>K d w:=by
  rw[Yb X8 (by omega) (by simp)]
  refine Cw ?_
  unfold Vf
  exact Q1N a c h
 cases i:decide ([c]=a)
 ·(try simp only[↓Mr,Mr,Mb,reduceIte])
  exact e
 ·(try simp only[↓Mr,Mr,Mb,reduceIte])
  have j:[c]=a:=by simpa using i
  have:Q1t c a=0:=by rw[←j];simp[Q1t,List.findIdx?_cons]
  rw[this] at h;exact h)
theorem X0O {c:UInt8} {a:List UInt8} {i:Nat} (h:a.findIdx? (fun b=>decide (b=c))=some i):i<a.length:=by
 have:=List.findIdx?_eq_some_iff_getElem.1 h
 exact this.1
theorem X3D (a:List UInt8) (g:a.length≤140737488355328) (h: ∀w',Below w.heap.size w w'→K (.tuple #[S (Qy a).1,S (Qy a).2.1, .bool (Qy a).2.2]) w'):Q1 P F.cz [S a,S [46]] w K:=Q4T (by
 unfold Tt
 refine Q1P ?_
 unfold Hv
 refine X0E a 46 ?_
 rw[Kp] at h
 unfold Q1t
 cases c:a.findIdx? (fun b=>decide (b=46)) with
 | none=>
  simp only[↓Mr,Mr,Mb,reduceIte,show decide ((0:Int)≤ -1)=false from rfl]
  have:=h w (Below.refl _ _)
  rw[c] at this;exact this
 | some i=>
  have f:=X0O c
  have e:decide ((0:Int)≤(i:Int))=true:=by simp
  simp only[Q1C,e]
  simp only[↓Mr,Mr,Mb,reduceIte]
  refine Dk (Below.refl _ w) ?_
  refine X4 (S (a.take i)) (fun w1 _=>?_) ?_
  ·rw[T1 X8 (by omega) (by omega)];exact X6 (by simp)
  refine X4 (I 1) (fun w1 _=>?_) ?_
  ·rw[R4 X8];exact X6 rfl
  refine X4 (I (i+1)) ?_ ?_
  ·rintro _ w1 _ rfl
   rw[Gp,F9 (by omega) (by omega)];exact X6 rfl
  refine X4 (S (a.drop (i+1))) ?_ ?_
  ·rintro _ w1 _ rfl
   rw[Uq X8 (by omega) (by omega)];exact X6 (by simp)
  rintro _ _ _ _ w1 d rfl rfl rfl rfl
  (try simp only[↓Mr,Mr,Mb,reduceIte])
  have:=h w1 d
  rw[c] at this;exact this)
theorem X2r (a:List UInt8) (z:a.length≤140737488355328) (h: ∀w',Below w.heap.size w w'→K (if Zj a then .tuple #[S (Qy a).1,S (Qy a).2.1,I 0] else .tuple #[S [],S [],I 30]) w'):Q1 P F.cG [S a] w K:=Q6f (by
 unfold Q0M
 refine X3D a z fun w1 e=>?_
 have s:(Qy a).1.length≤a.length∧(Qy a).2.1.length≤a.length:=by
  rw[Kp]
  cases a.findIdx? (fun b=>decide (b=46))<;>simp[Q3u]
  omega
 generalize t:(Qy a).1=p at h s
 generalize u:(Qy a).2.1=q at h s
 have l:Zj a=((Qy a).2.2&&M6 p&&D2 q):=by rw[Zj,t,u]
 cases g:(Qy a).2.2
 ·simp only[↓Mr,Mr,Mb,reduceIte]
  have:=h w1 e
  rw[l,g] at this;simpa using this
 ·simp only[↓Mr,Mr,Mb,reduceIte]
  refine Rq p (by omega) fun A k=>?_
  have d:=e.trans (k.mono e.size)
  cases o:M6 p
  ·(try simp only[↓Mr,Mr,Mb,reduceIte])
   have:=h A d
   rw[l,g,o] at this;simpa using this
  ·(try simp only[↓Mr,Mr,Mb,reduceIte])
   refine Q5O q (by omega) fun v m=>?_
   have f:=d.trans (m.mono d.size)
   have:=h v f
   rw[l,g,o] at this
   cases n:name q
   ·(try simp only[↓Mr,Mr,Mb,reduceIte])
    have i:D2 q=false:=by cases q with | nil=>rfl | cons c r=>simp[D2,n]
    rw[i] at this;simpa using this
   ·(try simp only[↓Mr,Mr,Mb,reduceIte])
    cases q with
    | nil=>simp[name] at n
    | cons c r=>
     rw[Yb X8 (by omega) (by simp)]
     have j:(c::r)[(0:Int).toNat]'(by simp)=c:=rfl
     (try simp only[↓Mr,Mr,Mb,reduceIte])
     rw[j,Kf Q43 Q7O,w32 (by omega) (by have:=c.toNat_lt;omega)]
     refine Q7I _ ?_
     have i:D2 (c::r)=A8 c.toNat:=by simp[D2,n]
     rw[i] at this
     cases y:A8 c.toNat<;>(try simp only[↓Mr,Mr,Mb,reduceIte])<;>rw[y] at this<;>simpa using this)
theorem El (a:List UInt8) (h:K (.bool (plain a)) w):Q1 P F.x [S a] w K:=Pk (by
 unfold Mc
 refine U8 ?_
 (try simp only[↓Mr,Mr,Mb,reduceIte])
 cases b:decide (a=[105,110,116])
 ·cases c:decide (a=[98,111,111,108])
  ·cases d:decide (a=[116,101,120,116])<;>(try simp only[↓Mr,Mr,Mb,reduceIte])<;>intro _<;>(try simp only[↓Mr,Mr,Mb,reduceIte])<;>simpa [plain,b,c,d] using h
  ·(try simp only[↓Mr,Mr,Mb,reduceIte])
   intro _
   (try simp only[↓Mr,Mr,Mb,reduceIte])
   simpa [plain,b,c] using h
 ·(try simp only[↓Mr,Mr,Mb,reduceIte])
  intro _
  (try simp only[↓Mr,Mr,Mb,reduceIte])
  simpa [plain,b] using h)
def X1d (a:List UInt8) (w:World) (x:Value) (w':World):Prop:=
 w=w'∧ ∃i:Nat,x=I i∧i≤a.length∧(0<i→(a.head?.map fun c=>G2 c.toNat)=some false)∧(a.take i).all (fun b=>S6 b.toNat)=true
def Q58 (a:List UInt8) (x:Value):Nat:=match x with | .int _ i=>a.length-i.toNat | _=>0
theorem Q5B (a:List UInt8) (O:a.length≤140737488355328) (h:K (.bool (name a)) w):Q1 P F.aX [S a] w K:=Az (by
 unfold Om
 refine Wj (X1d a w) (fun x _=>Q58 a x) ⟨rfl,0,rfl,by omega,by omega,by simp⟩ ?_
 rintro _ _ _ ⟨rfl,i,rfl,N,L,j⟩
 rw[R4 X8]
 (try simp only[↓Mr,Mr,Mb,reduceIte])
 by_cases m:i<a.length
 ·have D:decide ((i:Int)<a.length)=true:=by simp only[decide_eq_true_eq];omega
  simp only[D,↓Mr,Mr,Mb,reduceIte]
  have d: ∀A:Value→World→Prop,C3 P T.c (S a) (I i) w A=A (.int .u8 (a[i]'m).toNat) w:=fun A=>by
   rw[Yb X8 (by omega) (by simpa using m)];simp
  generalize p:a[i]=c at d
  have e:S6 c.toNat=false∨(i=0∧G2 c.toNat=true)→name a=false:=by
   intro v
   cases a with
   | nil=>rfl
   | cons c0 r=>
    simp only[name]
    rcases v with v | ⟨rfl,v⟩
    ·have:(c0::r).all (fun b=>S6 b.toNat)=false:=by
      rw[List.all_eq_false]
      exact ⟨c,by rw[←p];exact List.getElem_mem _,by simp[v]⟩
     rw[this];simp
    ·simp only[List.getElem_cons_zero] at p
     rw[p,v];simp
  have f:S6 c.toNat=true→(i=0→G2 c.toNat=false)→X1d a w (I (IntKind.i64.wrap ((i:Int)+1))) w∧Q58 a (I (IntKind.i64.wrap ((i:Int)+1)))<Q58 a (I i):=by
   intro z C
   rw[F9 (by omega) (by omega)]
   refine ⟨⟨rfl,i+1,by simp,by omega,fun _=>?_,?_⟩,by simp only[Q58];omega⟩
   ·by_cases q:0<i
    ·exact L q
    ·obtain rfl:i=0:=by omega
     cases a with
     | nil=>simp at m
     | cons c0 r=>simp only[List.getElem_cons_zero] at p;subst p;simp[C rfl]
   ·rw[List.take_add_one,List.getElem?_eq_getElem m,p]
    simp[j,z]
  have E:=c.toNat_lt
  have y:decide ((i:Int)=0)=decide (i=0):=by rw[Bool.eq_iff_iff];simp
  by_cases n:97≤(c.toNat:Int)
  ·by_cases H:(c.toNat:Int)≤122
   ·simp only[d,decide_eq_true n,decide_eq_true H,↓Mr,Mr,Mb,reduceIte]
    exact f (by simp[S6,A8,n,H]) (fun _=>by simp[G2];omega)
   ·have o:(65:Int)≤c.toNat:=by omega
    have s: ¬(c.toNat:Int)≤90:=by omega
    have g: ¬(c.toNat:Int)<48:=by omega
    have k:(57:Int)<c.toNat:=by omega
    simp only[d,decide_eq_true n,decide_eq_false H,decide_eq_true o,decide_eq_false s,decide_eq_false g,decide_eq_true k,y,↓Mr,Mr,Mb,reduceIte]
    have l:=e (.inl (by simp[S6,Xi,A8,G2];omega))
    rw[l] at h
    cases decide (i=0)<;>(try simp only[d,decide_eq_false g,decide_eq_true k,↓Mr,Mr,Mb,reduceIte])<;>exact h
  ·by_cases o:(65:Int)≤c.toNat
   ·by_cases s:(c.toNat:Int)≤90
    ·simp only[d,decide_eq_false n,decide_eq_true o,decide_eq_true s,↓Mr,Mr,Mb,reduceIte]
     exact f (by simp[S6,Xi,o,s]) (fun _=>by simp[G2];omega)
    ·have g: ¬(c.toNat:Int)<48:=by omega
     have k:(57:Int)<c.toNat:=by omega
     simp only[d,decide_eq_false n,decide_eq_true o,decide_eq_false s,decide_eq_false g,decide_eq_true k,y,↓Mr,Mr,Mb,reduceIte]
     have l:=e (.inl (by simp[S6,Xi,A8,G2];omega))
     rw[l] at h
     cases decide (i=0)<;>(try simp only[d,decide_eq_false g,decide_eq_true k,↓Mr,Mr,Mb,reduceIte])<;>exact h
   ·by_cases g:(c.toNat:Int)<48
    ·simp only[d,decide_eq_false n,decide_eq_false o,decide_eq_true g,y,↓Mr,Mr,Mb,reduceIte]
     have l:=e (.inl (by simp[S6,Xi,A8,G2];omega))
     rw[l] at h
     cases decide (i=0)<;>(try simp only[d,decide_eq_true g,↓Mr,Mr,Mb,reduceIte])<;>exact h
    ·by_cases k:(57:Int)<c.toNat
     ·simp only[d,decide_eq_false n,decide_eq_false o,decide_eq_false g,decide_eq_true k,y,↓Mr,Mr,Mb,reduceIte]
      have l:=e (.inl (by simp[S6,Xi,A8,G2];omega))
      rw[l] at h
      cases decide (i=0)<;>(try simp only[d,decide_eq_false g,decide_eq_true k,↓Mr,Mr,Mb,reduceIte])<;>exact h
     ·have u:G2 c.toNat=true:=by simp[G2];omega
      simp only[d,decide_eq_false n,decide_eq_false o,decide_eq_false g,decide_eq_false k,y,↓Mr,Mr,Mb,reduceIte]
      by_cases q:i=0
      ·have l:=e (.inr ⟨q,u⟩)
       rw[l] at h
       simp only[decide_eq_true q,d,decide_eq_false g,decide_eq_false k,↓Mr,Mr,Mb,reduceIte]
       exact h
      ·simp only[decide_eq_false q,d,decide_eq_false g,decide_eq_false k,↓Mr,Mr,Mb,reduceIte]
       exact f (by simp[S6,u]) (fun h=>absurd h q)
 ·have D:decide ((i:Int)<a.length)=false:=by simp only[decide_eq_false_iff_not];omega
  obtain rfl:i=a.length:=by omega
  simp only[D,↓Mr,Mr,Mb,reduceIte]
  rw[R4 X8]
  cases a with
  | nil=>
   have B:decide ((1:Int)≤(([]:List UInt8).length:Int))=false:=rfl
   simp only[B,↓Mr,Mr,Mb,reduceIte];exact h
  | cons c r=>
   have B:decide ((1:Int)≤((c::r).length:Int))=true:=by simp only[decide_eq_true_eq,List.length_cons];omega
   have t:=L (by simp)
   simp only[List.head?_cons,Option.map_some,Option.some.injEq] at t
   simp only[List.take_length] at j
   have J:name (c::r)=decide ((c::r).length≤32):=by simp only[name,t,j];simp
   have M:decide (((c::r).length:Int)≤32)=decide ((c::r).length≤32):=by rw[Bool.eq_iff_iff];simp only[decide_eq_true_eq];omega
   simp only[B,R4 X8,M,↓Mr,Mr,Mb,reduceIte]
   rw[←J];exact h)
theorem Pg {c:UInt8} {r:List UInt8} (h:name (c::r)=true):S6 c.toNat=true∧G2 c.toNat=false:=by
 simp only[name,Bool.and_eq_true,List.all_cons,Bool.not_eq_true'] at h
 exact ⟨h.2.1,h.1.2⟩
theorem Yd (a:List UInt8) (f:a.length≤140737488355328) (h:K (.bool (M6 a)) w):Q1 P F.d [S a] w K:=Pz (by
 unfold My
 refine Q5B a f ?_
 cases a with
 | nil=>simp only[name,↓Mr,Mr,Mb,reduceIte];exact h
 | cons c r=>
  cases b:name (c::r)
  ·(try simp only[↓Mr,Mr,Mb,reduceIte])
   simpa [M6,b] using h
  ·(try simp only[↓Mr,Mr,Mb,reduceIte])
   rw[Yb X8 (by omega) (by simp)]
   have d:(c::r)[(0:Int).toNat]'(by simp)=c:=rfl
   (try simp only[↓Mr,Mr,Mb,reduceIte])
   rw[d]
   obtain ⟨g,e⟩:=Pg b
   have:decide ((c.toNat:Int)≤90)=Xi c.toNat:=by
    simp only[S6,Xi,A8,G2,Bool.or_eq_true,Bool.and_eq_true,Bool.and_eq_false_iff,decide_eq_true_eq,decide_eq_false_iff_not] at g e⊢
    rw[Bool.eq_iff_iff];simp only[Bool.and_eq_true,decide_eq_true_eq];omega
   rw[this]
   simpa [M6,b] using h)
theorem Kr (a:List UInt8) (f:a.length≤140737488355328) (h:K (.bool (D2 a)) w):Q1 P F.u [S a] w K:=Fw (by
 unfold Ld
 refine Q5B a f ?_
 cases a with
 | nil=>simp only[name,↓Mr,Mr,Mb,reduceIte];exact h
 | cons c r=>
  cases b:name (c::r)
  ·(try simp only[↓Mr,Mr,Mb,reduceIte])
   simpa [D2,b] using h
  ·(try simp only[↓Mr,Mr,Mb,reduceIte])
   rw[Yb X8 (by omega) (by simp)]
   have d:(c::r)[(0:Int).toNat]'(by simp)=c:=rfl
   (try simp only[↓Mr,Mr,Mb,reduceIte])
   rw[d]
   obtain ⟨g,e⟩:=Pg b
   have:decide ((97:Int)≤c.toNat)=A8 c.toNat:=by
    simp only[S6,Xi,A8,G2,Bool.or_eq_true,Bool.and_eq_true,Bool.and_eq_false_iff,decide_eq_true_eq,decide_eq_false_iff_not] at g e⊢
    rw[Bool.eq_iff_iff];simp only[Bool.and_eq_true,decide_eq_true_eq];omega
   rw[this]
   simpa [D2,b] using h)
def X3J (a:List UInt8) (w:World) (x:Value×Value) (w':World):Prop:=
 w=w'∧ ∃(b:List UInt8) (n:Nat),x=(S b,I n)∧b.length+2*n=a.length∧(base a).2=(base b).2+n
def X1t (x:Value×Value):Nat:=match x.1 with | .string s=>s.size | _=>0
theorem Se (a:List UInt8) (j:a.length≤140737488355328) (h:K (I (base a).2) w):Q1 P F.a1 [S a] w K:=Ai (by
 unfold Ox
 refine Wj (X3J a w) (fun x _=>X1t x) ⟨rfl,a,0,rfl,by omega,rfl⟩ ?_
 rintro _ _ _ ⟨rfl,b,n,rfl,k,c⟩
 rw[R4 X8]
 (try simp only[↓Mr,Mr,Mb,reduceIte])
 by_cases f:2≤b.length
 ·have e:decide ((2:Int)≤b.length)=true:=by simp only[decide_eq_true_eq];omega
  simp only[e,R4 X8,↓Mr,Mr,Mb,reduceIte]
  rw[F9 (by omega) (by omega),Uq X8 (by omega) (by omega)]
  rw[show ((b.length:Int)-2).toNat=b.length-2 from by omega]
  have i:decide (b.drop (b.length-2)=[91,93])=arr b:=by simp[arr,f]
  simp only[i,↓Mr,Mr,Mb,reduceIte]
  cases d:arr b
  ·(try simp only[↓Mr,Mr,Mb,reduceIte])
   rw[Xz b,d] at c
   simp only[Bool.false_eq_true,if_false,Nat.zero_add] at c
   rw[c] at h;exact h
  ·(try simp only[R4 X8,↓Mr,Mr,Mb,reduceIte])
   rw[T1 X8 (by omega) (by omega)]
   rw[show ((b.length:Int)-2).toNat=b.length-2 from by omega]
   have g:=K4 d
   refine ⟨⟨rfl,Kd.cutA b,n+1,?_,by omega,?_⟩,?_⟩
   ·simp only[Kd.cutA,Prod.mk.injEq,true_and]
    first | rfl | (rw[F9 (by omega) (by omega)];rfl)
   ·rw[c,Xz b,d];simp;omega
   ·simp only[X1t,I7,List.length_take];omega
 ·have e:decide ((2:Int)≤b.length)=false:=by simp only[decide_eq_false_iff_not];omega
  simp only[e,↓Mr,Mr,Mb,reduceIte]
  have d:arr b=false:=by simp[arr,f]
  rw[Xz b,d] at c
  simp only[Bool.false_eq_true,if_false,Nat.zero_add] at c
  rw[c] at h;exact h)
theorem Q4u (a:List UInt8):a.take (a.length-2*(base a).2)=(base a).1:=by
 have key: ∀n (a:List UInt8),a.take (a.length-2*(Yv n a).2)=(Yv n a).1:=by
  intro n
  induction n with
  | zero=>intro a;simp[Yv]
  | succ n b=>
   intro a
   simp only[Yv]
   split
   ·rename_i h
    have c:=K4 h
    simp only
    rw[←b (Kd.cutA a)]
    rw[Kd.cutA,List.take_take,List.length_take]
    congr 1
    omega
   ·simp
 exact key _ a
theorem Jy (a:List UInt8) (f:a.length≤140737488355328) (h:K (.bool (right a)) w):Q1 P F.e [S a] w K:=Pc (by
 unfold Oa
 have e:=Q1H a
 refine Se a f ?_
 rw[R4 X8]
 (try simp only[↓Mr,Mr,Mb,reduceIte])
 rw[F9 (n:=2*((base a).2:Int)) (by omega) (by omega),F9 (by omega) (by omega),T1 X8 (by omega) (by omega)]
 rw[show ((a.length:Int)-2*((base a).2:Int)).toNat=a.length-2*(base a).2 from by omega,Q4u]
 (try simp only[↓Mr,Mr,Mb,reduceIte])
 by_cases b:(base a).2≤3
 ·have c:decide (((base a).2:Int)≤3)=true:=by simp only[decide_eq_true_eq];omega
  simp only[c,↓Mr,Mr,Mb,reduceIte]
  refine El _ ?_
  cases d:plain (base a).1
  ·(try simp only[↓Mr,Mr,Mb,reduceIte])
   refine Yd _ (by omega) ?_
   (try simp only[↓Mr,Mr,Mb,reduceIte])
   simpa [right,b,d] using h
  ·(try simp only[↓Mr,Mr,Mb,reduceIte])
   simpa [right,b,d] using h
 ·have c:decide (((base a).2:Int)≤3)=false:=by simp only[decide_eq_false_iff_not];omega
  simp only[c,↓Mr,Mr,Mb,reduceIte]
  simpa [right,b] using h)
theorem X2d {a:List UInt8} (h:arr a=true):2≤a.length:=by simp only[arr,Bool.and_eq_true,decide_eq_true_eq] at h;exact h.1
theorem Q4m {a:List UInt8} (h:arr a=true) (c:right a=true):3≤a.length:=by
 have d:=X2d h
 refine Nat.lt_of_le_of_ne d fun e=>?_
 have f:=K4 h
 have b:Kd.cutA a=[]:=List.eq_nil_of_length_eq_zero (by omega)
 simp only[right,Xz a,h,if_true,b] at c
 revert c;decide
theorem X0y (a:List UInt8) (e:a.length≤140737488355328) (h:K (S (elem a)) w):Q1 P F.bD [S a] w K:=Aj (by
 unfold Oy
 rw[R4 X8]
 (try simp only[↓Mr,Mr,Mb,reduceIte])
 by_cases j:a.length<3
 ·have b:decide ((a.length:Int)<3)=true:=by simp only[decide_eq_true_eq];omega
  simp only[b,↓Mr,Mr,Mb,reduceIte]
  have g:elem a=[]:=by
   simp only[elem]
   split
   ·rename_i hh
    simp only[Bool.and_eq_true] at hh
    have:=Q4m hh.1 hh.2
    omega
   ·rfl
  rw[g] at h;exact h
 ·have b:decide ((a.length:Int)<3)=false:=by simp only[decide_eq_false_iff_not];omega
  simp only[b,↓Mr,Mr,Mb,reduceIte]
  rw[F9 (by omega) (by omega),Uq X8 (by omega) (by omega)]
  rw[show ((a.length:Int)-2).toNat=a.length-2 from by omega]
  have f:decide (a.drop (a.length-2)=[91,93])=arr a:=by simp[arr];omega
  (try simp only[↓Mr,Mr,Mb,reduceIte])
  (try simp only[f,↓Mr,Mr,Mb,reduceIte])
  cases c:arr a
  ·(try simp only[↓Mr,Mr,Mb,reduceIte])
   simpa [elem,c] using h
  ·(try simp only[↓Mr,Mr,Mb,reduceIte])
   refine Se a e ?_
   (try simp only[↓Mr,Mr,Mb,reduceIte])
   by_cases i:(base a).2≤3
   ·have b:decide ((3:Int)<((base a).2:Int))=false:=by simp only[decide_eq_false_iff_not];omega
    simp only[b,↓Mr,Mr,Mb,reduceIte]
    refine Jy a e ?_
    cases d:right a
    ·(try simp only[↓Mr,Mr,Mb,reduceIte])
     simpa [elem,c,d] using h
    ·(try simp only[↓Mr,Mr,Mb,reduceIte])
     try rw[F9 (by omega) (by omega)]
     rw[T1 X8 (by omega) (by omega)]
     rw[show ((a.length:Int)-2).toNat=a.length-2 from by omega]
     simpa [elem,c,d,Kd.cutA] using h
   ·have b:decide ((3:Int)<((base a).2:Int))=true:=by simp only[decide_eq_true_eq];omega
    simp only[b,↓Mr,Mr,Mb,reduceIte]
    have d:right a=false:=by simp[right,i]
    simpa [elem,c,d] using h)
def X2J (a:List UInt8) (w:World) (x:Value) (w':World):Prop:=
 w=w'∧ ∃n:Nat,x=I n∧n≤a.length∧(∀i,(h:i<n)→(b:i<a.length)→a[i]≠46)
def Q9t (a:List UInt8) (x:Value):Nat:=match x with | .int _ n=>(a.length-n).toNat | _=>0
theorem Q4v (a:List UInt8) (M:a.length≤140737488355328) (h: ∀w',Below w.heap.size w w'→K (if (Qy a).2.2 then .tuple #[S (Qy a).1,S (Qy a).2.1, .bool (Zj a)] else .tuple #[S [],S [], .bool false]) w'):Q1 P F.bx [S a] w K:=Ps (by
 unfold Mx
 refine Wj (X2J a w) (fun x _=>Q9t a x) ⟨rfl,0,rfl,by omega,by omega⟩ ?_
 rintro _ _ _ ⟨rfl,n,rfl,L,r⟩
 rw[R4 X8]
 (try simp only[↓Mr,Mr,Mb,reduceIte])
 by_cases H:n<a.length
 ·have y:decide ((n:Int)<a.length)=true:=by simp only[decide_eq_true_eq];omega
  simp only[y,↓Mr,Mr,Mb,reduceIte]
  rw[Yb X8 (by omega) (by omega)]
  (try simp only[↓Mr,Mr,Mb,reduceIte])
  simp only[Int.toNat_natCast]
  have D:decide (((a[n]).toNat:Int)=46)=decide (a[n]=46):=by
   rw[Bool.eq_iff_iff];simp only[decide_eq_true_eq]
   constructor
   ·intro e;exact UInt8.toNat_inj.1 (by have:(46:UInt8).toNat=46:=rfl;omega)
   ·intro e;rw[e];rfl
  rw[D]
  by_cases m:a[n]=46
  ·simp only[m,decide_true,↓Mr,Mr,Mb,reduceIte]
   have l:Qy a=(a.take n,a.drop (n+1),true):=by
    have:a.findIdx? (fun b=>decide (b=46))=some n:=by
     rw[List.findIdx?_eq_some_iff_getElem]
     exact ⟨H,by simpa using m,fun j C=>by simpa using r j C (by omega)⟩
    rw[Kp,this];rfl
   have p:Zj a=(M6 (a.take n)&&D2 (a.drop (n+1))):=by simp[Zj,l]
   rw[l,p] at h
   have v:((n:Int)+1).toNat=n+1:=by omega
   have u:(a.take n).length≤140737488355328:=by simp only[List.length_take];omega
   have s:(a.drop (n+1)).length≤140737488355328:=by simp only[List.length_drop];omega
   have A: ∀{w:World} {K:Value→World→Prop},K (S (a.take n)) w→R7 P T.c (S a) none (some (I n)) none w K:=by
    intro w K h
    rw[T1 X8 (by omega) (by omega),show ((n:Int)).toNat=n from by omega];exact h
   have z: ∀{w:World} {K:Value→World→Prop},K (S (a.drop (n+1))) w→R7 P T.c (S a) (some (I (n+1))) none none w K:=by
    intro w K h
    rw[Uq X8 (by omega) (by omega),v];exact h
   refine Dk (Below.refl _ _) ?_
   refine X4 (S (a.take n)) (fun w c=>A (X6 rfl)) ?_
   refine X4 (I (n+1)) (fun w c=>X6 (by rw[F9 (by omega) (by omega)])) ?_
   refine X4 (S (a.drop (n+1))) (fun t w c e=>by rw[e];exact z (X6 rfl)) ?_
   refine X4 (S (a.take n)) (fun w c=>A (X6 rfl)) ?_
   refine X4 (.bool (M6 (a.take n))) (fun t w c e=>by rw[e];exact Yd _ u (X6 rfl)) ?_
   cases g:M6 (a.take n)
   ·refine X4 undef (fun t w c e=>by rw[e,E1];exact X6 rfl) ?_
    refine X4 undef (fun t w c e=>by rw[e,E1];exact X6 rfl) ?_
    refine X4 undef (fun t f w c e d=>by rw[e,E1];exact X6 rfl) ?_
    refine X4 undef (fun t f o w c e d k=>by rw[e,E1];exact X6 rfl) ?_
    refine X4 undef (fun t f w c e d=>by rw[e,E1];exact X6 rfl) ?_
    refine X4 (.bool false) (fun t f w c e d=>by rw[e,W9];exact X6 rfl) ?_
    rintro _ _ _ _ _ _ _ _ _ _ _ w1 c rfl rfl rfl rfl rfl rfl rfl rfl rfl rfl rfl
    rw[g] at h
    exact h w1 (by simpa using c)
   ·refine X4 (S a) (fun t w c e=>by rw[e,W3];exact X6 rfl) ?_
    refine X4 (I n) (fun t w c e=>by rw[e,W3];exact X6 rfl) ?_
    refine X4 (I (n+1)) (fun t f w c e d=>by rw[e,d,W3];simp only[↓Mr,Mr,Mb,reduceIte];exact X6 (by rw[F9 (by omega) (by omega)])) ?_
    refine X4 (S (a.drop (n+1))) (fun t f o w c e d k=>by rw[e,d,k,W3];exact z (X6 rfl)) ?_
    refine X4 (.bool (D2 (a.drop (n+1)))) (fun t f w c e d=>by rw[e,d,W3];exact Kr _ s (X6 rfl)) ?_
    refine X4 (.bool (D2 (a.drop (n+1)))) (fun t f w c e d=>by rw[e,d,M4];exact X6 rfl) ?_
    rintro _ _ _ _ _ _ _ _ _ _ _ w1 c rfl rfl rfl rfl rfl rfl rfl rfl rfl rfl rfl
    rw[g] at h
    exact h w1 (by simpa using c)
  ·simp only[m,decide_false,↓Mr,Mr,Mb,reduceIte]
   rw[F9 (by omega) (by omega)]
   refine ⟨⟨rfl,n+1,rfl,by omega,fun i B E=>?_⟩,?_⟩
   ·by_cases q:i=n
    ·subst q;exact m
    ·exact r i (by omega) E
   ·simp only[Q9t];omega
 ·have y:decide ((n:Int)<a.length)=false:=by simp only[decide_eq_false_iff_not];omega
  simp only[y,↓Mr,Mr,Mb,reduceIte]
  have l:(Qy a).2.2=false∧(Qy a).1=a∧(Qy a).2.1=[]:=by
   have:a.findIdx? (fun b=>decide (b=46))=none:=by
    rw[List.findIdx?_eq_none_iff]
    intro x J
    obtain ⟨i,B,rfl⟩:=List.getElem_of_mem J
    simpa using r i (by omega) B
   rw[Kp,this];exact ⟨rfl,rfl,rfl⟩
  rw[l.1] at h
  exact h w (Below.refl _ _))
end Go.Proofs.YtjdiakhipmggjaaGreatDoor

namespace Go.Emb
open Go.RowKit
class TZ (P : Program) (t : TypeId) (sz b : outParam Nat) (z : outParam Value) : Prop where
  h : (P.info? t).map (fun i => (i.size, i.bytes, i.zero)) = some (sz, b, some z)
def X07:Option TypeDesc→Bool
 | some (.struct _)=>true
 | some (.array _ _)=>true
 | none=>true
 | _=>false
class TG (P : Program) (t : TypeId) (g : outParam Bool) : Prop where
  h : (X07 (P.underlying t), (P.underlying t).isSome) = (g, true)
class TS (P : Program) (t : TypeId) (e : outParam TypeId) : Prop where
  h : P.underlying t = some (.slice e)
class TA (P : Program) (t : TypeId) (n : outParam Nat) (e : outParam TypeId) : Prop where
  h : P.underlying t = some (.array n e)
class TM (P : Program) (t : TypeId) (k e : outParam TypeId) : Prop where
  h : P.underlying t = some (.map k e)
def Q3Y (d:Option TypeDesc) (k:Nat):Option (Nat×TypeId):=match d with
 | some (.struct a)=>(a[k]?).map fun f=>(f.offset,f.type)
 | _=>none
class TF (P : Program) (t : TypeId) (k : Nat) (off : outParam Nat) (ft : outParam TypeId) : Prop where
  h : Q3Y (P.underlying t) k = some (off, ft)
variable {P : Program} {w w0 w1 w' w'' : World} {K : Value → World → Prop}
theorem TZ.info {t:TypeId} {sz b:Nat} {z:Value} (h:TZ P t sz b z): ∃i,P.info? t=some i∧i.size=sz∧i.bytes=b∧i.zero=some z:=by
 obtain ⟨i,a,e⟩:=Option.map_eq_some_iff.1 h.h
 simp only[Prod.mk.injEq] at e
 exact ⟨i,a,e.1,e.2.1,e.2.2⟩
theorem L2 {t:TypeId} {sz b:Nat} {z:Value} (h:TZ P t sz b z) (w:World):(sizeOf t).run P w= .ok sz w:=by
 obtain ⟨i,a,rfl,_⟩:=h.info
 simp[sizeOf,typeInfo,a]
theorem Zl {t:TypeId} {sz b:Nat} {z:Value} (h:TZ P t sz b z) (w:World):(zeroValue t).run P w= .ok z w:=by
 obtain ⟨i,c,_,_,a⟩:=h.info
 simp[zeroValue,typeInfo,c,a]
theorem Xu {t:TypeId} {g:Bool} (h:TG P t g) (w:World):(isAgg t).run P w= .ok g w:=by
 have hh:=h.h
 simp only[Prod.mk.injEq] at hh
 obtain ⟨c,b⟩:=hh
 cases a:P.underlying t with
 | none=>rw[a] at b;cases b
 | some d=>
  rw[a] at c
  have:=run_underlying (P:=P) (w:=w) a
  simp only[isAgg,Sem.run_bind,this,Result.andThen_ok]
  cases d<;>simp_all [X07]
theorem Q3H (a:Addr) (i j:Nat):(a.add i).add j=a.add (i+j):=by
 unfold Addr.add
 by_cases c:i=0
 ·simp[c]
 ·by_cases b:j=0
  ·simp[b]
  ·simp[c,b,Nat.add_assoc]
theorem add_zero (a:Addr):a.add 0=a:=by simp[Addr.add]
theorem S7 (a:Addr) (i:Nat):(a.add i).block=a.block:=by unfold Addr.add;split<;>rfl
theorem Qc (a:Addr) (i:Nat):(a.add i).off=a.off+i:=by unfold Addr.add;split<;>simp_all
theorem I8 {a:Addr} (h:a.spot=none) (i:Nat):(a.add i).spot=none:=by unfold Addr.add;split<;>simp_all
abbrev Q6:=Nat→Option Obj
def X2 (w:World) (σ:Q6):Prop:= ∀b o,σ b=some o→w.heap[b]? =some o
structure Stp (w : World) (σ : Q6) (w' : World) (σ' : Q6) : Prop where
  bel : Below w.heap.size w w'
  sat : X2 w' σ'
  le : ∀ b o, σ b = some o → σ' b = some o
  old : ∀ b, b < w.heap.size → σ' b = σ b
theorem X2.lt {σ:Q6} (h:X2 w σ) {b:Nat} {o:Obj} (a:σ b=some o):b<w.heap.size:=(Array.getElem?_eq_some_iff.1 (h b o a)).1
theorem X2.below {σ:Q6} (h:X2 w σ) (a:Below w.heap.size w w'):X2 w' σ:=fun b o e=>(a.block b (h.lt e)).trans (h b o e)
theorem Stp.refl {σ:Q6} (h:X2 w σ):Stp w σ w σ:=⟨Below.refl _ _,h,fun _ _ e=>e,fun _ _=>rfl⟩
theorem Stp.trans {σ0 σ1 c:Q6} (h:Stp w σ0 w' σ1) (k:Stp w' σ1 w'' c):Stp w σ0 w'' c:=
 ⟨h.bel.trans (k.bel.mono h.bel.size),k.sat,fun b o e=>k.le b o (h.le b o e),fun b a=>(k.old b (Nat.lt_of_lt_of_le a h.bel.size)).trans (h.old b a)⟩
theorem Stp.of_below {σ:Q6} (h:X2 w σ) (a:Below w.heap.size w w'):Stp w σ w' σ:=⟨a,h.below a,fun _ _ e=>e,fun _ _=>rfl⟩
def Q6.put (σ:Q6) (b:Nat) (o:Obj):Q6:=fun k=>if k=b then some o else σ k
theorem X2.none {σ:Q6} (h:X2 w σ) {b:Nat} (a:w.heap.size≤b):σ b=none:=by
 cases e:σ b with
 | none=>rfl
 | some o=>have:=h.lt e;omega
theorem Stp.alloc {σ:Q6} (h:X2 w σ) (o:Obj):Stp w σ (w.alloc o) (σ.put w.heap.size o):=by
 refine ⟨(Below.refl _ _).alloc (Nat.le_refl _) o,?_,?_,?_⟩
 ·intro b p e
  by_cases a:b=w.heap.size
  ·subst a
   simp only[Q6.put,if_true] at e
   cases e
   exact heap_alloc_new w o
  ·simp only[Q6.put,if_neg a] at e
   rw[Below.heap_alloc w o b (h.lt e)];exact h b p e
 ·intro b p e
  have:=h.lt e
  simp only[Q6.put];rw[if_neg (by omega)];exact e
 ·intro b a
  simp only[Q6.put];rw[if_neg (by omega)]
theorem Stp.own {σ:Q6} (h:X2 w σ) (o:Obj):Stp w σ (w.alloc o) σ:=Stp.of_below h ((Below.refl _ _).alloc (Nat.le_refl _) o)
def Z4 (σ:Q6) (a:Addr) (cs:List Value):Prop:=a.spot=none∧ ∃arr e b,σ a.block=some (.cells arr e b)∧ ∀i v,cs[i]? =some v→arr[a.off+i]? =some v
theorem Z4.up {σ σ':Q6} {a:Addr} {cs:List Value} (h:Z4 σ a cs) (d:Stp w σ w' σ'):Z4 σ' a cs:=by
 obtain ⟨g,arr,e,b,c,f⟩:=h
 exact ⟨g,arr,e,b,d.le _ _ c,f⟩
theorem Z4.cell {σ:Q6} {a:Addr} {cs:List Value} (h:Z4 σ a cs) (c:X2 w σ) {i:Nat} {v:Value} (d:cs[i]? =some v):w.cell? (a.add i)=some v:=by
 obtain ⟨g,arr,e,j,b,f⟩:=h
 have:=c _ _ b
 unfold World.cell?
 rw[S7,this,Qc,I8 g]
 exact f i v d
def Y1 (σ:Q6) (w:World) (b:Nat) (cs:List Value):Prop:=σ b=none∧ ∃e,w.heap[b]? =some (.cells cs.toArray e (0,0))
theorem Y1.lt {σ:Q6} {b:Nat} {cs:List Value} (h:Y1 σ w b cs):b<w.heap.size:=by
 obtain ⟨_,e,h⟩:=h
 exact (Array.getElem?_eq_some_iff.1 h).1
theorem Y1.up {σ σ':Q6} {b:Nat} {cs:List Value} (h:Y1 σ w b cs) (a:Stp w σ w' σ'):Y1 σ' w' b cs:=by
 have c:=h.lt
 obtain ⟨f,e,d⟩:=h
 exact ⟨(a.old b c).trans f,e,(a.bel.block b c).trans d⟩
theorem Y1.cell {σ:Q6} {b:Nat} {cs:List Value} (h:Y1 σ w b cs) {i:Nat} {v:Value} (c:cs[i]? =some v):w.cell? ((⟨b,0,none⟩:Addr).add i)=some v:=by
 obtain ⟨_,e,a⟩:=h
 unfold World.cell?
 rw[S7,Qc,I8 rfl]
 simp only[a]
 simpa using c
theorem Y1.keep {σ σ0:Q6} {b:Nat} {cs:List Value} (h:Y1 σ w b cs) (d:Stp w0 σ0 w σ) (m:w0.heap.size≤b): ∃σ',Stp w0 σ0 w σ'∧Z4 σ' ⟨b,0,none⟩ cs∧(∀k o,σ k=some o→σ' k=some o)∧(∀k,k≠b→σ' k=σ k):=by
 obtain ⟨g,e,l⟩:=h
 refine ⟨σ.put b (.cells cs.toArray e (0,0)),⟨d.bel,?_,?_,?_⟩,⟨rfl,cs.toArray,e,(0,0),by simp[Q6.put],?_⟩,?_,?_⟩
 ·intro k o c
  by_cases a:k=b
  ·subst a;simp only[Q6.put,if_true] at c;cases c;exact l
  ·simp only[Q6.put,if_neg a] at c;exact d.sat k o c
 ·intro k o c
  by_cases a:k=b
  ·subst a;have:=d.le _ _ c;rw[g] at this;cases this
  ·simp only[Q6.put,if_neg a];exact d.le _ _ c
 ·intro k f
  simp only[Q6.put];rw[if_neg (by omega)];exact d.old k f
 ·intro i v j;simpa using j
 ·intro k o c
  by_cases a:k=b
  ·subst a;rw[g] at c;cases c
  ·simp only[Q6.put,if_neg a];exact c
 ·intro k a;simp only[Q6.put,if_neg a]
theorem Q7p (t:TypeId) (v:Value) (w:World):(Instr.box t v).run P w= .ok (.pointer (some ⟨w.heap.size,0,none⟩)) (w.alloc (.cells v.cells t)):=by
 simp[Instr.box,newVar,newRow]
theorem Q3t {σ:Q6} (a:X2 w σ) (cs:Array Value) (t:TypeId):Y1 σ (w.alloc (.cells cs t)) w.heap.size cs.toList:=
 ⟨a.none (Nat.le_refl _),t,by simpa using heap_alloc_new w (.cells cs t)⟩
theorem Q8O {σ:Q6} (cs:Array Value) (t:TypeId):Z4 (σ.put w.heap.size (.cells cs t)) ⟨w.heap.size,0,none⟩ cs.toList:=
 ⟨rfl,cs,t,(0,0),by simp[Q6.put],fun i v h=>by simpa using h⟩
theorem E3 {σ:Q6} {t:TypeId} {v:Value} (b:X2 w σ) (h: ∀a w' σ',Stp w σ w' σ'→Z4 σ' a v.cells.toList→K (.pointer (some a)) w'):box P t v w K:=by
 unfold box;rw[X9 (Q7p t v w)]
 exact h _ _ _ (Stp.alloc b _) (Q8O _ t)
theorem Q5L {σ:Q6} {t:TypeId} {v:Value} (a:X2 w σ) (h: ∀b w',w.heap.size≤b→Stp w σ w' σ→Y1 σ w' b v.cells.toList→K (.pointer (some ⟨b,0,none⟩)) w'):box P t v w K:=by
 unfold box;rw[X9 (Q7p t v w)]
 exact h _ _ (Nat.le_refl _) (Stp.own a _) (Q3t a _ t)
theorem Iu {σ:Q6} {t:TypeId} {sz a:Nat} {z:Value} [tz:TZ P t sz a z] (c:X2 w σ) (h: ∀b w',w.heap.size≤b→Stp w σ w' σ→Y1 σ w' b z.cells.toList→K (.pointer (some ⟨b,0,none⟩)) w'):W0 P t w K:=by
 unfold W0
 have:(Instr.alloc t true (.tuple #[])).run P w= .ok (.pointer (some ⟨w.heap.size,0,none⟩)) (w.alloc (.cells z.cells t)):=by
  simp[Instr.alloc,Zl tz,newVar,newRow]
 rw[X9 this]
 exact h _ _ (Nat.le_refl _) (Stp.own c _) (Q3t c _ t)
theorem Qd {t:TypeId} [tg:TG P t false] {a:Addr} {v:Value} (b:w.cell? a=some v) (h:K v w):Q2 P t (.pointer (some a)) w K:=by
 unfold Q2
 rw[X9 (v:=v) (w':=w) (by simp[Instr.loadAt,Instr.sureAddr,loadVar,Xu tg,b])]
 exact h
theorem Ks {t:TypeId} {sz b:Nat} {z:Value} [tg:TG P t true] [tz:TZ P t sz b z] {a:Addr} {cs:List Value} (d:cs.length=sz) (c: ∀j v,cs[j]? =some v→w.cell? (a.add j)=some v) (h:K (.agg cs.toArray) w):Q2 P t (.pointer (some a)) w K:=by
 unfold Q2
 have:=run_loadCells_list (P:=P) w a cs c
 rw[d] at this
 rw[X9 (v:= .agg cs.toArray) (w':=w) (by simp[Instr.loadAt,Instr.sureAddr,loadVar,Xu tg,L2 tz,this])]
 exact h
theorem ld {σ:Q6} {t:TypeId} [TG P t false] {a:Addr} {cs:List Value} {i:Nat} {v:Value} (b:X2 w σ) (d:Z4 σ a cs) (c:cs[i]? =some v) (h:K v w):Q2 P t (.pointer (some (a.add i))) w K:=
 Qd (d.cell b c) h
theorem X7 {σ:Q6} {t:TypeId} [TG P t false] {a:Addr} {cs:List Value} {v:Value} (b:X2 w σ) (d:Z4 σ a cs) (c:cs[0]? =some v) (h:K v w):Q2 P t (.pointer (some a)) w K:=by
 have:=ld (P:=P) (t:=t) b d c h
 rwa [add_zero] at this
theorem Y4 {σ:Q6} {t:TypeId} {sz b:Nat} {z:Value} [TG P t true] [TZ P t sz b z] {a:Addr} {cs:List Value} (c:X2 w σ) (f:Z4 σ a cs) (g:cs.length=sz) (h:K (.agg cs.toArray) w):Q2 P t (.pointer (some a)) w K:=
 Ks g (fun _ _ d=>f.cell c d) h
theorem Ye {σ:Q6} {t:TypeId} [TG P t false] {b:Nat} {cs:List Value} {i:Nat} {v:Value} (c:Y1 σ w b cs) (a:cs[i]? =some v) (h:K v w):Q2 P t (.pointer (some ((⟨b,0,none⟩:Addr).add i))) w K:=
 Qd (c.cell a) h
theorem Q83 {σ:Q6} {t:TypeId} [TG P t false] {b:Nat} {cs:List Value} {v:Value} (c:Y1 σ w b cs) (a:cs[0]? =some v) (h:K v w):Q2 P t (.pointer (some ⟨b,0,none⟩)) w K:=by
 have:=Ye (P:=P) (t:=t) c a h
 rwa [add_zero] at this
theorem Sc {σ:Q6} {t:TypeId} {sz a:Nat} {z:Value} [TG P t true] [TZ P t sz a z] {b:Nat} {cs:List Value} (d:Y1 σ w b cs) (f:cs.length=sz) (h:K (.agg cs.toArray) w):Q2 P t (.pointer (some ⟨b,0,none⟩)) w K:=
 Ks f (fun _ _ c=>d.cell c) h
theorem V2 {t:TypeId} {sz a:Nat} {z:Value} [tg:TG P t true] [tz:TZ P t sz a z] {σ:Q6} {b:Nat} {cs:List Value} {K:Value→Prop} (d:Y1 σ w b cs) (f:cs.length=sz) (h:K (.agg cs.toArray)):Y7 P t (.pointer (some ⟨b,0,none⟩)) w K:=by
 rw[Q2R]
 refine ⟨_,?_,h⟩
 have:=run_loadCells_list (P:=P) w ⟨b,0,none⟩ cs (fun _ _ c=>d.cell c)
 rw[f] at this
 simp[asAddr,loadVar,Xu tg,L2 tz,this]
structure Upd (w : World) (b : Nat) (w' : World) : Prop where
  os : w'.os = w.os
  tape : w'.tape = w.tape
  output : w'.output = w.output
  size : w'.heap.size = w.heap.size
  block : ∀ k, k ≠ b → w'.heap[k]? = w.heap[k]?
theorem Upd.stp {σ0 σ:Q6} {b:Nat} (c:Upd w b w') (a:Stp w0 σ0 w σ) (h:w0.heap.size≤b) (f:σ b=none):Stp w0 σ0 w' σ:=by
 refine ⟨⟨c.os.trans a.bel.os,c.tape.trans a.bel.tape,c.output.trans a.bel.output,by rw[c.size];exact a.bel.size,fun k g=>(c.block k (by omega)).trans (a.bel.block k g)⟩,?_,a.le,a.old⟩
 intro k o d
 rw[c.block k (by intro e;subst e;rw[f] at d;cases d)]
 exact a.sat k o d
theorem Y1.upd {σ:Q6} {b k:Nat} {cs:List Value} (h:Y1 σ w k cs) (d:Upd w b w') (a:k≠b):Y1 σ w' k cs:=by
 obtain ⟨f,e,c⟩:=h
 exact ⟨f,e,(d.block k a).trans c⟩
theorem Nf {b:Nat} {cs:Array Value} {a:Array Value} {e:TypeId} (h:w.heap[b]? =some (.cells a e (0,0))):Upd w b (w.setRow b cs)∧(w.setRow b cs).heap[b]? =some (.cells cs e (0,0)):=by
 have d:=(Array.getElem?_eq_some_iff.1 h).1
 refine ⟨⟨rfl,rfl,rfl,by simp[World.setRow],fun k c=>?_⟩,?_⟩
 ·simp only[World.setRow,Array.getElem?_modify]
  rw[if_neg (by omega)]
 ·simp only[World.setRow,Array.getElem?_modify,if_true,h]
  rfl
theorem Mj {t:TypeId} {sz a:Nat} {z:Value} [tz:TZ P t sz a z] {σ:Q6} {b:Nat} {cs ds:List Value} (g:Y1 σ w b cs) (j:cs.length=sz) (d:ds.length=sz) (n:ds.toArray.all (·.oneCell')=true)
 (h: ∀w',Upd w b w'→Y1 σ w' b ds→K undef w'):Y0 P t (.pointer (some ⟨b,0,none⟩)) (.agg ds.toArray) w K:=by
 obtain ⟨m,e,f⟩:=g
 unfold Y0
 obtain ⟨i,l,c,_⟩:=tz.info
 have:=run_storeVar_row (P:=P) w b e t cs.toArray ds.toArray f (by simp[l,c,d]) (by simp[j,d]) n
 rw[Lh (w':=w.setRow b ds.toArray) (by simpa [Instr.storeAt,Instr.sureAddr] using this)]
 obtain ⟨k,hh⟩:=Nf (cs:=ds.toArray) f
 exact h _ k ⟨m,e,hh⟩
theorem Q7j {cs:List Value} {i:Nat} {v:Value} (a:i<cs.length):(cs.take i++[v]++cs.drop (i+1))=cs.set i v:=by
 rw[List.set_eq_take_append_cons_drop,if_pos a];simp
theorem Ud {t:TypeId} {c:Nat} {z:Value} [tz:TZ P t 1 c z] {σ:Q6} {b i:Nat} {cs:List Value} {v:Value} (g:Y1 σ w b cs) (l:i<cs.length) (f:v.cells= #[v]) (n:v.oneCell'=true)
 (h: ∀w',Upd w b w'→Y1 σ w' b (cs.set i v)→K undef w'):Y0 P t (.pointer (some ((⟨b,0,none⟩:Addr).add i))) v w K:=by
 obtain ⟨m,e,d⟩:=g
 unfold Y0
 have a:(⟨b,0,none⟩:Addr).add i=⟨b,i,none⟩:=by unfold Addr.add;split<;>simp_all
 have:=run_storeCells_at P b i e [v] 0 cs.toArray w d (by simp;omega) (by simpa using n)
 simp only[Nat.add_zero] at this
 obtain ⟨j,hh⟩:=Nf (cs:=(cs.set i v).toArray) d
 have k:(List.take i cs.toArray.toList++[v]++List.drop (i+[v].length) cs.toArray.toList).toArray=(cs.set i v).toArray:=by
  rw[←Q7j l];simp
 rw[k] at this
 rw[Lh (w':=w.setRow b (cs.set i v).toArray) (by simp[Instr.storeAt,Instr.sureAddr,a,storeVar,L2 tz,f,this])]
 exact h _ j ⟨m,e,hh⟩
theorem st0 {t:TypeId} {a:Nat} {z:Value} [tz:TZ P t 1 a z] {σ:Q6} {b:Nat} {cs:List Value} {v:Value} (f:Y1 σ w b cs) (c:0<cs.length) (d:v.cells= #[v]) (g:v.oneCell'=true)
 (h: ∀w',Upd w b w'→Y1 σ w' b (cs.set 0 v)→K undef w'):Y0 P t (.pointer (some ⟨b,0,none⟩)) v w K:=by
 have:=Ud (P:=P) (t:=t) f c d g h
 rwa [add_zero] at this
class NZ (n : Nat) : Prop where
  h : (n == 0) = false
instance (n:Nat):NZ (n+1):=⟨rfl⟩
theorem fa {t:TypeId} {k b:Nat} {g:TypeId} {sz c:Nat} {z:Value} [tf:TF P t k b g] [tz:TZ P g sz c z] [nz:NZ sz] {a:Addr}:fieldAddr P t (.pointer (some a)) k w K=K (.pointer (some (a.add b))) w:=by
 unfold fieldAddr
 have hh:=tf.h
 unfold Q3Y at hh
 split at hh
 ·rename_i o l
  obtain ⟨f,m,d⟩:=Option.map_eq_some_iff.1 hh
  simp only[Prod.mk.injEq] at d
  obtain ⟨j,i⟩:=d
  subst i j
  have n: ¬sz=0:=by simpa using nz.h
  exact X9 (by simp[Instr.fieldAt,run_underlying l,m,Instr.sureAddr,fieldPlace,L2 tz,n])
 ·cases hh
theorem Sh {t e:TypeId} {sz c:Nat} {z:Value} [ts:TS P t e] [tz:TZ P e sz c z] {a:Addr} {n b:Nat} {k:IntKind} {i:Int} (f:0≤i) (d:i<n):indexAddr P t (.slice (some a) n b) (.int k i) w K=K (.pointer (some (a.add (i.toNat*sz)))) w:=by
 unfold indexAddr
 exact X9 (by simp[Instr.indexAt,run_underlying ts.h,asIntOf,L2 tz,f,d])
theorem Q9K {t e:TypeId} {n sz b:Nat} {z:Value} [ta:TA P t n e] [tz:TZ P e sz b z] {a:Addr} {k:IntKind} {i:Int} (d:0≤i) (c:i<n):indexAddr P t (.pointer (some a)) (.int k i) w K=K (.pointer (some (a.add (i.toNat*sz)))) w:=by
 unfold indexAddr
 exact X9 (by simp[Instr.indexAt,run_underlying ta.h,asIntOf,Instr.sureAddr,L2 tz,d,c])
theorem L9 {a:Addr}:nilCheck P (.pointer (some a)) w K=K (.pointer (some a)) w:=by
 unfold nilCheck
 rw[A9];unfold T2
 simp[execOp]
class Rep {α : Type} (R : Q6 → α → List Value → Prop) : Prop where
  up : ∀ {σ σ' : Q6} {x : α} {cs : List Value}, (∀ b o, σ b = some o → σ' b = some o) → R σ x cs → R σ' x cs
  one : ∀ {σ : Q6} {x : α} {cs : List Value}, R σ x cs → ∀ u ∈ cs, u.oneCell' = true
def Sl {α:Type} (sz:Nat) (R:Q6→α→List Value→Prop) (σ:Q6) (v:Value) (xs:List α):Prop:=
 ∃a c,v= .slice a xs.length c∧xs.length≤c∧c≤maxLen∧(a=none→c=0)∧
  ∀b,a=some b→(0<xs.length→b.spot=none)∧ ∀i x,xs[i]? =some x→ ∃cs,Z4 σ (b.add (i*sz)) cs∧cs.length=sz∧R σ x cs
theorem Z4.le {σ σ':Q6} {a:Addr} {cs:List Value} (h:Z4 σ a cs) (f: ∀b o,σ b=some o→σ' b=some o):Z4 σ' a cs:=by
 obtain ⟨i,arr,e,c,d,g⟩:=h
 exact ⟨i,arr,e,c,f _ _ d,g⟩
section
variable {α : Type} {R : Q6 → α → List Value → Prop} {sz : Nat} {σ σ' : Q6} {v : Value} {xs : List α}
theorem Sl.le [hr:Rep R] (h:Sl sz R σ v xs) (f: ∀b o,σ b=some o→σ' b=some o):Sl sz R σ' v xs:=by
 obtain ⟨a,c,n,l,m,k,d⟩:=h
 refine ⟨a,c,n,l,m,k,fun b g=>⟨(d b g).1,fun i x q=>?_⟩⟩
 obtain ⟨cs,p,j,r⟩:=(d b g).2 i x q
 exact ⟨cs,p.le f,j,hr.up f r⟩
theorem Sl.up [Rep R] (h:Sl sz R σ v xs) (a:Stp w σ w' σ'):Sl sz R σ' v xs:=h.le a.le
theorem Sl.max (h:Sl sz R σ v xs):xs.length≤9223372036854775807:=by
 obtain ⟨a,b,g,d,c,f⟩:=h
 simp only[maxLen] at c;omega
theorem Sl.nil:Sl sz R σ (.slice none 0 0) ([]:List α):=⟨none,0,rfl,by simp,by simp,fun _=>rfl,fun b a=>by cases a⟩
theorem Q1r {c e t:TypeId} {cs:List Bool} [ts:TS P c e] {a:Option Addr} {n b:Nat}:X3 P .len [c] t cs [.slice a n b] w K=K (I n) w:=by
 have h:(Builtin.len_ #[c] t #[.slice a n b]).run P w= .ok (I n) w:=by
  simp[Builtin.len_,run_underlying ts.h,goInt]
 exact X9 h
theorem X2R {b e t:TypeId} {cs:List Bool} [ts:TS P b e] (h:Sl sz R σ v xs):X3 P .len [b] t cs [v] w K=K (I xs.length) w:=by
 obtain ⟨a,c,rfl,_⟩:=h
 exact Q1r
theorem X3W {t e:TypeId} {c:Nat} {z:Value} [TS P t e] [TZ P e sz c z] (h:Sl sz R σ v xs) {k:IntKind} {i:Int} (n:0≤i) (o:i.toNat<xs.length)
 (j: ∀a cs,Z4 σ a cs→cs.length=sz→R σ xs[i.toNat] cs→K (.pointer (some a)) w):indexAddr P t v (.int k i) w K:=by
 obtain ⟨a,l,rfl,q,r,g,f⟩:=h
 cases a with
 | none=>have:=g rfl;omega
 | some b=>
  rw[Sh n (by omega)]
  obtain ⟨cs,m,d,p⟩:=(f b rfl).2 i.toNat xs[i.toNat] (by simp[o])
  exact j _ cs m d p
end
theorem Stp.turn {σ0 σ:Q6} {row:Option Nat} (b:w.grownBy w' row) (a:Stp w0 σ0 w σ) (d: ∀k,row=some k→w0.heap.size≤k∧σ k=none):Stp w0 σ0 w' σ:=by
 refine ⟨⟨b.os.trans a.bel.os,b.tape.trans a.bel.tape,b.output.trans a.bel.output,Nat.le_trans a.bel.size b.size,fun k f=>?_⟩,?_,a.le,a.old⟩
 ·refine (b.block k (Nat.lt_of_lt_of_le f a.bel.size) ?_).trans (a.bel.block k f)
  intro e;have:=(d k e.symm).1;omega
 ·intro k o c
  refine (b.block k (a.sat.lt c) ?_).trans (a.sat k o c)
  intro e;rw[(d k e.symm).2] at c;cases c
theorem Y1.turn {σ:Q6} {row:Option Nat} {k:Nat} {cs:List Value} (h:Y1 σ w k cs) (f:w.grownBy w' row) (a:some k≠row):Y1 σ w' k cs:=by
 have c:=h.lt
 obtain ⟨d,e,b⟩:=h
 exact ⟨d,e,(f.block k c a).trans b⟩
def V6 {α:Type} (B:Nat) (e:TypeId) (sz:Nat) (R:Q6→α→List Value→Prop) (σ:Q6) (w:World) (v:Value) (xs:List α):Prop:=
 ∃cells,w.ownsRow B e sz v xs.length cells∧(∀k,v.ownBlock=some k→σ k=none)∧ ∀i x,xs[i]? =some x→R σ x ((cells.drop (i*sz)).take sz)
section
variable {α : Type} {R : Q6 → α → List Value → Prop} {B sz : Nat} {e : TypeId} {σ σ' : Q6} {v u : Value} {xs ys : List α}
theorem V6.nil:V6 B e sz R σ w (.slice none 0 0) ([]:List α):=⟨[],World.ownsRow_nil w B e sz,by intro k a;simp[Value.ownBlock] at a,by intro i x h;simp at h⟩
theorem V6.mem (h:V6 B e sz R σ w v xs): ∀k,v.ownBlock=some k→B≤k∧k<w.heap.size∧σ k=none:=by
 obtain ⟨cells,f,d,_⟩:=h
 intro k c
 obtain ⟨a,b⟩:=f.lt k c
 exact ⟨a,b,d k c⟩
theorem V6.up [hr:Rep R] (h:V6 B e sz R σ w v xs) (a:Stp w σ w' σ'):V6 B e sz R σ' w' v xs:=by
 obtain ⟨cells,c,d,j⟩:=h
 refine ⟨cells,c.kept ⟨a.bel.os,a.bel.tape,a.bel.output,a.bel.size,fun k g _=>a.bel.block k g⟩ (by cases b:v.ownBlock<;>simp) (row:=none),?_,fun i x f=>hr.up a.le (j i x f)⟩
 intro k b
 rw[a.old k (c.lt k b).2];exact d k b
theorem Sl.cells (h:Sl sz R σ v xs) (E:X2 w σ) [hr:Rep R]: ∃(a:Option Addr) (d:Nat) (c:List Value),v= .slice a xs.length d∧(a=none→d=0)∧c.length=xs.length*sz∧(∀b,a=some b→ ∀j u,c[j]? =some u→w.cell? (b.add j)=some u)∧(∀u∈c,u.oneCell'=true)∧
 ∀i x,xs[i]? =some x→R σ x ((c.drop (i*sz)).take sz):=by
 obtain ⟨a,d,rfl,M,N,m,t⟩:=h
 cases a with
 | none=>
  have O:=m rfl
  have f:xs=[]:=List.eq_nil_of_length_eq_zero (by omega)
  subst f
  exact ⟨none,d,[],rfl,m,by simp,fun b C=>(by cases C),by simp,by simp⟩
 | some b=>
  obtain ⟨J,l⟩:=t b rfl
  clear t
  have key: ∀(ys:List α) (k:Nat),(∀i x,ys[i]? =some x→ ∃cs,Z4 σ (b.add ((k+i)*sz)) cs∧cs.length=sz∧R σ x cs)→
   ∃c:List Value,c.length=ys.length*sz∧(∀j u,c[j]? =some u→w.cell? (b.add (k*sz+j))=some u)∧(∀u∈c,u.oneCell'=true)∧ ∀i x,ys[i]? =some x→R σ x ((c.drop (i*sz)).take sz):=by
   intro ys
   induction ys with
   | nil=>intro k _;exact ⟨[],by simp,by simp,by simp,by simp⟩
   | cons y r D=>
    intro k z
    obtain ⟨cs,H,s,A⟩:=z 0 y rfl
    obtain ⟨c,q,p,n,o⟩:=D (k+1) (fun i x f=>by
     have:=z (i+1) x (by simpa using f)
     rwa [show k+1+i=k+(i+1) by omega])
    refine ⟨cs++c,by simp[q,s,Nat.add_mul,Nat.add_comm],?_,?_,?_⟩
    ·intro j u hu
     by_cases L:j<sz
     ·rw[List.getElem?_append_left (by omega)] at hu
      have:=H.cell E hu
      rwa [Q3H,Nat.add_zero] at this
     ·rw[List.getElem?_append_right (by omega)] at hu
      have:=p _ _ hu
      rwa [s,show (k+1)*sz+(j-sz)=k*sz+j by rw[Nat.add_mul];omega] at this
    ·intro u hu
     rcases List.mem_append.1 hu with hu | hu
     ·exact hr.one A u hu
     ·exact n u hu
    ·intro i x f
     cases i with
     | zero=>
      simp at f;subst f
      simp only[Nat.zero_mul,List.drop_zero]
      rw[List.take_append_of_le_length (by omega),List.take_of_length_le (by omega)];exact A
     | succ i=>
      have:=o i x (by simpa using f)
      rw[show (i+1)*sz=cs.length+i*sz by rw[Nat.add_mul];omega,List.drop_append]
      simpa [List.drop_eq_nil_of_le] using this
  obtain ⟨c,q,p,n,o⟩:=key xs 0 (fun i x f=>by rw[Nat.zero_add];exact l i x f)
  refine ⟨some b,d,c,rfl,m,q,?_,n,o⟩
  intro Q g j u hu
  cases g
  have:=p j u hu
  rwa [Nat.zero_mul,Nat.zero_add] at this
end
section
variable {α : Type} {R : Q6 → α → List Value → Prop} {sz : Nat} {e : TypeId} {σ σ0 : Q6} {v u : Value} {xs ys : List α}
theorem Ww (cells a:List Value) (n i:Nat) (c:cells.length=n*sz) (b:i<n):((cells++a).drop (i*sz)).take sz=(cells.drop (i*sz)).take sz:=by
 have h:i*sz+sz≤n*sz:=by rw[←Nat.succ_mul];exact Nat.mul_le_mul_right _ b
 rw[List.drop_append_of_le_length (by omega),List.take_append_of_le_length (by simp only[List.length_drop];omega)]
theorem app {t A:TypeId} {r:Nat} {z:Value} {cs:List Bool} [ts:TS P t e] [tz:TZ P e sz r z] [hr:Rep R] (D:Stp w0 σ0 w σ) (ha:V6 w0.heap.size e sz R σ w v xs) (Q:Sl sz R σ u ys) (N:(z.cells.size==sz&&decide (0<sz))=true)
 (hb:(xs.length+ys.length)*r≤140737488355328) (hm:xs.length+ys.length≤9223372036854775807)
 (h: ∀d w',w.grownBy w' v.ownBlock→Stp w0 σ0 w' σ→V6 w0.heap.size e sz R σ w' d (xs++ys)→(d.ownBlock=v.ownBlock∨ ∀k,d.ownBlock=some k→w.heap.size≤k)→K d w'):X3 P .append [t,t] A cs [v,u] w K:=by
 obtain ⟨cells,s,U,h3⟩:=ha
 obtain ⟨a,m,c,rfl,X,W,n3,n4,n5⟩:=Q.cells D.sat
 obtain ⟨i,L,M,H,o⟩:=tz.info
 have p: ∀d w',(Builtin.append_ #[t,t] A #[v, .slice a ys.length m]).run P w= .ok d w'→w'.ownsRow w0.heap.size e sz d (xs.length+ys.length) (cells++c)→w.grownBy w' v.ownBlock→(d.ownBlock=v.ownBlock∨d.ownBlock=some w.heap.size)→X3 P .append [t,t] A cs [v, .slice a ys.length m] w K:=by
  intro d w' y f l hat
  have q:(builtin .append #[t,t] A cs.toArray #[v, .slice a ys.length m]).run P w= .ok (.value d) w':=by
   simp[builtin,y]
  unfold X3
  rw[A9];unfold T2
  rw[q]
  refine h d w' l (Stp.turn l D fun k n=>⟨(s.lt k n).1,U k n⟩) ⟨cells++c,by rw[List.length_append];exact f,?_,?_⟩ ?_
  ·intro k n
   rcases hat with hat | hat
   ·exact U k (hat▸n)
   ·rw[hat] at n;cases n;exact D.sat.none (Nat.le_refl _)
  ·intro j x C
   by_cases O:j<xs.length
   ·rw[List.getElem?_append_left O] at C
    rw[Ww cells c xs.length j s.1 O]
    exact h3 j x C
   ·rw[List.getElem?_append_right (by omega)] at C
    have:=n5 _ _ C
    rw[show j*sz=cells.length+(j-xs.length)*sz by rw[s.1,←Nat.add_mul];congr 1;omega,List.drop_append]
    simpa [List.drop_eq_nil_of_le] using this
  ·rcases hat with hat | hat
   ·exact .inl hat
   ·right;intro k n;rw[hat] at n;cases n;exact Nat.le_refl _
 simp only[Bool.and_eq_true,beq_iff_eq,decide_eq_true_eq] at N
 cases a with
 | some b=>
  obtain ⟨d,w',g1,Y,g3,_,g5⟩:=run_append_own_at (P:=P) w w0.heap.size t A e i z sz r ts.h L o M H N.1 N.2 v xs.length cells s b ys.length m c W (n3 b rfl) n4 (by simp only[maxLen];omega) hb D.bel.size
  exact p d w' g1 Y g3 g5
 | none=>
  have hy:ys=[]:=List.eq_nil_of_length_eq_zero (by obtain ⟨a',V,e',q1,_,q3,_⟩:=Q;injection e' with _ e2 e3;have:=X rfl;subst e3;omega)
  have J:=X rfl
  subst hy J
  have hn:c=[]:=List.eq_nil_of_length_eq_zero (by simpa using W)
  subst hn
  have f:=s
  rcases s.2 with ⟨rfl,h0⟩ | ⟨g,m,Z,rfl,ae,hg,E,_⟩
  ·refine p (.slice none 0 0) w ?_ (by simpa using f) (World.grownBy.refl w _) (.inl rfl)
   simp[Builtin.append_,run_underlying ts.h,sizeOf,typeInfo,L,Builtin.lenOf,Builtin.firstCells]
  ·refine p _ w ?_ (by simpa using f) (World.grownBy.refl w _) (.inl rfl)
   simp[Builtin.append_,run_underlying ts.h,sizeOf,typeInfo,L,Builtin.lenOf,Builtin.firstCells,E,storeCells]
end
section
variable {α : Type} {R : Q6 → α → List Value → Prop} {sz : Nat} {e : TypeId} {σ σ0 : Q6} {v u : Value} {xs ys : List α}
theorem Q6.put_le {w:World} (d:X2 w σ) {b:Nat} (h:σ b=none) (o:Obj): ∀k p,σ k=some p→(σ.put b o) k=some p:=by
 intro k p c
 by_cases a:k=b
 ·subst a;rw[h] at c;cases c
 ·simp only[Q6.put,if_neg a];exact c
theorem Stp.put {b:Nat} {o:Obj} (c:Stp w0 σ0 w σ) (f:σ b=none) (h:w0.heap.size≤b) (g:w.heap[b]? =some o):Stp w0 σ0 w (σ.put b o):=by
 refine ⟨c.bel,?_,fun k p a=>Q6.put_le c.sat f o k p (c.le k p a),?_⟩
 ·intro k p a
  by_cases d:k=b
  ·subst d;simp only[Q6.put,if_true] at a;cases a;exact g
  ·simp only[Q6.put,if_neg d] at a;exact c.sat k p a
 ·intro k a
  simp only[Q6.put];rw[if_neg (by omega)];exact c.old k a
theorem V6.keep [hr:Rep R] (h:V6 w0.heap.size e sz R σ w v xs) (q:Stp w0 σ0 w σ): ∃σ',Stp w0 σ0 w σ'∧Sl sz R σ' v xs∧(∀k o,σ k=some o→σ' k=some o)∧(∀k,some k≠v.ownBlock→σ' k=σ k):=by
 obtain ⟨cells,s,C,E⟩:=h
 rcases s.2 with ⟨rfl,H⟩ | ⟨g,n,c,rfl,z,J,m,f,D,p⟩
 ·have:xs=[]:=List.eq_nil_of_length_eq_zero H
  subst this
  exact ⟨σ,q,Sl.nil,fun _ _ h=>h,fun _ _=>rfl⟩
 ·have r:=C g rfl
  have a:=Q6.put_le q.sat r (.cells c e (0,0))
  refine ⟨σ.put g (.cells c e (0,0)),q.put r z J,⟨_,n,rfl,m,f,by simp,?_⟩,a,?_⟩
  ·intro b l
   cases l
   refine ⟨fun _=>rfl,fun i x t=>⟨(cells.drop (i*sz)).take sz,⟨I8 rfl _,c,e,(0,0),by rw[S7];simp[Q6.put],?_⟩,?_,hr.up a (E i x t)⟩⟩
   ·intro j u d
    rw[Qc]
    rw[List.getElem?_take] at d
    split at d
    ·rw[List.getElem?_drop,←p,List.getElem?_take] at d
     split at d
     ·simpa using d
     ·cases d
    ·cases d
   ·have A:i<xs.length:=(List.getElem?_eq_some_iff.1 t).1
    have h:i*sz+sz≤xs.length*sz:=by rw[←Nat.succ_mul];exact Nat.mul_le_mul_right _ A
    rw[List.length_take,List.length_drop,s.1];omega
  ·intro k y
   have:k≠g:=by intro e;subst e;exact y rfl
   simp only[Q6.put,if_neg this]
theorem Sl.piece {a:Option Addr} {n d:Nat} (h:Sl sz R σ (.slice a n d) xs) (l m:Nat) (L:l+m≤xs.length):Sl sz R σ (.slice (if d=l then a else a.map (·.add (l*sz))) m (d-l)) ((xs.drop l).take m):=by
 obtain ⟨N,o,E,M,O,t,k⟩:=h
 injection E with y A D
 subst y A D
 have c:((xs.drop l).take m).length=m:=by simp;omega
 refine ⟨_,d-l,by rw[c],by rw[c];omega,by omega,?_,?_⟩
 ·intro p
  split at p
  ·omega
  ·cases a with
   | none=>have:=t rfl;omega
   | some b=>simp at p
 ·intro b f
  split at f
  ·rename_i z
   obtain ⟨q,j⟩:=k b f
   have s:m=0:=by omega
   subst s
   exact ⟨fun h=>by simp at h,by simp⟩
  ·cases a with
   | none=>simp at f
   | some H=>
    simp only[Option.map_some,Option.some.injEq] at f
    obtain ⟨q,j⟩:=k H rfl
    subst f
    refine ⟨fun h=>I8 (q (by rw[c] at h;omega)) _,fun i x g=>?_⟩
    rw[List.getElem?_take] at g
    split at g
    ·rw[List.getElem?_drop] at g
     obtain ⟨cs,C,r,J⟩:=j _ _ g
     refine ⟨cs,?_,r,J⟩
     rw[Q3H,←Nat.add_mul];exact C
    ·cases g
theorem Ei {t:TypeId} {f:Nat} {z:Value} [ts:TS P t e] [tz:TZ P e sz f z] (h:Sl sz R σ v xs) (c d:Option Value) (l m:Nat) (i:c=none∧l=0∨c=some (I l)) (g:d=none∧m=xs.length∨d=some (I m)) (j:l≤m) (r:m≤xs.length)
 (n: ∀k,Sl sz R σ k ((xs.drop l).take (m-l))→K k w):R7 P t v c d none w K:=by
 have o:=h
 obtain ⟨a,b,rfl,A,C,s,q⟩:=h
 have hh: ∀w:World,(Instr.sliceBounds true xs.length b c d none).run P w= .ok (l,m,b) w:=by
  intro w
  have y:(m:Int)≤b:=by omega
  have D:(l:Int)≤m:=by omega
  have p:m≤b:=by omega
  rcases i with ⟨rfl,rfl⟩ | rfl<;>rcases g with ⟨rfl,rfl⟩ | rfl<;>
   simp[Instr.sliceBounds,Instr.sliceBound,asIntOf,p,j]<;>intros<;>omega
 unfold R7
 have:(Instr.sliceAt t (.slice a xs.length b) c d none).run P w= .ok (.slice (if b=l then a else a.map (·.add (l*sz))) (m-l) (b-l)) w:=by
  simp[Instr.sliceAt,run_underlying ts.h,Instr.slice,hh,L2 tz]
 rw[X9 this]
 exact n _ (o.piece l (m-l) (by omega))
def en:Nat→List Value→List (Nat×Value)
 | _,[]=>[]
 | i,v::r=>(i,v)::en (i+1) r
theorem Q9Z (off:Nat): ∀(vs:List Value) (k:Nat) (cs:Array Value),off+k+vs.length≤cs.size→
 ((vs.zipIdx k).foldl (fun cs (p:Value×Nat)=>cs.setIfInBounds (off+p.2) p.1) cs).toList=cs.toList.take (off+k)++vs++cs.toList.drop (off+k+vs.length):=by
 intro vs
 induction vs with
 | nil=>intro k cs _;simp
 | cons v r ih=>
  intro k cs h
  simp only[List.length_cons] at h
  rw[List.zipIdx_cons,List.foldl_cons,ih (k+1) _ (by simp;omega)]
  simp only[Array.toList_setIfInBounds,List.length_cons]
  apply List.ext_getElem?
  intro i
  simp only[List.getElem?_append,List.length_take,List.length_set,Array.length_toList,List.getElem?_take,List.getElem?_drop,List.length_append,List.getElem?_set,List.length_cons]
  rcases Nat.lt_trichotomy i (off+k) with hi | hi | hi
  ·simp[show i<off+(k+1) by omega,hi,show i<min (off+(k+1)) cs.size by omega,show i<min (off+(k+1)) cs.size+r.length by omega,show i<min (off+k) cs.size by omega,show i<min (off+k) cs.size+(r.length+1) by omega,show off+k≠i by omega]
  ·subst hi
   simp[show off+k<off+(k+1) by omega,show off+k<min (off+(k+1)) cs.size by omega,show off+k<min (off+(k+1)) cs.size+r.length by omega,show¬off+k<min (off+k) cs.size by omega,show off+k<min (off+k) cs.size+(r.length+1) by omega,show off+k<cs.size by omega,show off+k-min (off+k) cs.size=0 by omega]
  ·by_cases h2:i<off+(k+1)+r.length
   ·simp[show¬i<min (off+(k+1)) cs.size by omega,show i<min (off+(k+1)) cs.size+r.length by omega,show¬i<min (off+k) cs.size by omega,show i<min (off+k) cs.size+(r.length+1) by omega,show i-min (off+k) cs.size=(i-min (off+(k+1)) cs.size)+1 by omega]
   ·simp only[show¬i<min (off+(k+1)) cs.size+r.length by omega,show¬i<min (off+k) cs.size+(r.length+1) by omega,if_false]
    rw[show off+(k+1)+r.length+(i-(min (off+(k+1)) cs.size+r.length))=i by omega,show off+k+(r.length+1)+(i-(min (off+k) cs.size+(r.length+1)))=i by omega,if_neg (by omega)]
theorem Q7x (sz:Nat): ∀(vs:List Value) (i:Nat) (cs:Array Value),(i+vs.length)*sz≤cs.size→(∀v∈vs,v.cells.size=sz)→
 ∃cs',Instr.fill (fun i=>some (i*sz,sz)) cs (en i vs)=some cs'∧cs'.toList=cs.toList.take (i*sz)++vs.flatMap (·.cells.toList)++cs.toList.drop ((i+vs.length)*sz):=by
 intro vs
 induction vs with
 | nil=>intro i cs _ _;exact ⟨cs,rfl,by simp⟩
 | cons v r ih=>
  intro i cs h hv
  have hv0:=hv v (by simp)
  simp only[List.length_cons] at h
  have h1:i*sz+sz≤cs.size:=by
   have:(i+1)*sz≤(i+(r.length+1))*sz:=Nat.mul_le_mul_right _ (by omega)
   rw[Nat.succ_mul] at this;omega
  have hset:=Q9Z (i*sz) v.cells.toList 0 cs (by simp;omega)
  simp only[Nat.add_zero] at hset
  have e1:v.cells.zipIdx.foldl (fun cs (p:Value×Nat)=>cs.setIfInBounds (i*sz+p.2) p.1) cs=(v.cells.toList.zipIdx 0).foldl (fun cs (p:Value×Nat)=>cs.setIfInBounds (i*sz+p.2) p.1) cs:=by
   rw[←Array.foldl_toList,Array.toList_zipIdx]
  have hsz':((v.cells.toList.zipIdx 0).foldl (fun cs (p:Value×Nat)=>cs.setIfInBounds (i*sz+p.2) p.1) cs).size=cs.size:=by
   rw[←Array.length_toList,hset]
   simp;omega
  obtain ⟨cs',q1,q2⟩:=ih (i+1) _ (by rw[hsz'];rw[show i+1+r.length=i+(r.length+1) by omega];exact h) (fun u hu=>hv u (by simp[hu]))
  refine ⟨cs',?_,?_⟩
  ·simp only[en,Instr.fill]
   rw[if_neg (by simp[hv0];omega)]
   rw[e1];exact q1
  ·rw[q2,hset]
   simp only[List.flatMap_cons,List.length_cons,Array.length_toList,hv0]
   have e2:(i+1)*sz=i*sz+sz:=by rw[Nat.succ_mul]
   have e3:(i+(r.length+1))*sz=i*sz+sz+r.length*sz:=by rw[Nat.add_mul,Nat.succ_mul];omega
   have e4:(i+1+r.length)*sz=i*sz+sz+r.length*sz:=by rw[Nat.add_mul,Nat.succ_mul]
   rw[e2,e3,e4]
   have t1:(cs.toList.take (i*sz)).length=i*sz:=by simp;omega
   have t2:(cs.toList.take (i*sz)++v.cells.toList).length=i*sz+sz:=by rw[List.length_append,t1];simp[hv0]
   have k1: ∀C:List Value,(cs.toList.take (i*sz)++v.cells.toList++C).take (i*sz+sz)=cs.toList.take (i*sz)++v.cells.toList:=by
    intro C
    rw[List.take_append_of_le_length (by omega),List.take_of_length_le (by omega)]
   have k2: ∀(C:List Value) (n:Nat),(cs.toList.take (i*sz)++v.cells.toList++C).drop (i*sz+sz+n)=C.drop n:=by
    intro C n
    rw[List.drop_append,t2,List.drop_eq_nil_of_le (by omega),List.nil_append]
    congr 1;omega
   rw[k1,k2,List.drop_drop]
   simp only[List.append_assoc]
theorem Ht {t:TypeId} {by_:Nat} {z:Value} [ts:TS P t e] [tz:TZ P e sz by_ z] (vs:List Value) (hv: ∀v∈vs,v.cells.size=sz) (hsm:vs.length*sz≤16777216) (w:World):
 ∃cells:Array Value,(Instr.buildSlice t vs.length (en 0 vs).toArray).run P w= .ok (.slice (some ⟨w.heap.size,0,none⟩) vs.length vs.length) (w.alloc (.cells cells e))∧cells.toList=vs.flatMap (·.cells.toList):=by
 have h2: ¬vs.length*sz>2 ^ 24:=by omega
 by_cases h:vs.length*sz=0
 ·obtain ⟨cells,hf,hl⟩:=Q7x sz vs 0 ((Array.range (vs.length*sz)).map ((#[]:Array Value)[· % (#[]:Array Value).size]!)) (by simp) hv
  refine ⟨cells,?_,by rw[hl];simp⟩
  simp only[Instr.buildSlice,Sem.run_bind,run_underlying ts.h,Result.andThen_ok,L2 tz,if_neg h2,if_pos h,Sem.run_pure,hf]
  simp[newRow]
 ·obtain ⟨cells,hf,hl⟩:=Q7x sz vs 0 ((Array.range (vs.length*sz)).map (z.cells[· % z.cells.size]!)) (by simp) hv
  refine ⟨cells,?_,by rw[hl];simp⟩
  simp only[Instr.buildSlice,Sem.run_bind,run_underlying ts.h,Result.andThen_ok,L2 tz,if_neg h2,if_neg h,Sem.run_pure,Zl tz,hf]
  simp[newRow]
theorem Q8K {vs:List Value} (d: ∀v∈vs,v.cells.size=sz) (i:Nat) (v:Value) (h:vs[i]? =some v):((vs.flatMap (·.cells.toList)).drop (i*sz)).take sz=v.cells.toList:=by
 induction vs generalizing i with
 | nil=>simp at h
 | cons a r f=>
  have b:=d a (by simp)
  cases i with
  | zero=>
   simp at h;subst h
   rw[List.flatMap_cons,Nat.zero_mul,List.drop_zero,List.take_append_of_le_length (by simp[b]),List.take_of_length_le (by simp[b])]
  | succ i=>
   rw[List.flatMap_cons,Nat.succ_mul,List.drop_append,List.drop_eq_nil_of_le (by simp[b]),List.nil_append]
   rw[show i*sz+sz-a.cells.toList.length=i*sz by simp[b]]
   exact f (fun v c=>d v (by simp[c])) i (by simpa using h)
theorem Q2s {vs:List Value} (b: ∀v∈vs,v.cells.size=sz):(vs.flatMap (·.cells.toList)).length=vs.length*sz:=by
 induction vs with
 | nil=>simp
 | cons a r c=>
  rw[List.flatMap_cons,List.length_append,c (fun v h=>b v (by simp[h]))]
  simp[b a (by simp),Nat.succ_mul,Nat.add_comm]
def Q0w (R:Q6→α→List Value→Prop) (σ:Q6):List Value→List α→Prop
 | [],[]=>True
 | v::vs,x::xs=>R σ x v.cells.toList∧Q0w R σ vs xs
 | _,_=>False
theorem Q0w.len {vs:List Value} (h:Q0w R σ vs xs):vs.length=xs.length:=by
 induction vs generalizing xs with
 | nil=>cases xs with
  | nil=>rfl
  | cons=>exact h.elim
 | cons v r a=>cases xs with
  | nil=>exact h.elim
  | cons x y=>simp[a h.2]
theorem Q0w.get {vs:List Value} (h:Q0w R σ vs xs) {i:Nat} {x:α} (a:xs[i]? =some x): ∃v,vs[i]? =some v∧R σ x v.cells.toList:=by
 induction vs generalizing xs i with
 | nil=>cases xs with
  | nil=>simp at a
  | cons=>exact h.elim
 | cons v r b=>cases xs with
  | nil=>exact h.elim
  | cons y ys=>
   cases i with
   | zero=>simp at a;subst a;exact ⟨v,rfl,h.1⟩
   | succ i=>obtain ⟨u,d,c⟩:=b h.2 (i:=i) (by simpa using a);exact ⟨u,by simpa using d,c⟩
theorem Zc {t:TypeId} {l:Nat} {z:Value} {n:Nat} {a:List (Nat×Value)} [ts:TS P t e] [tz:TZ P e sz l z] (m:Stp w0 σ0 w σ) (vs:List Value) (xs:List α) (s:n=vs.length) (q:a=en 0 vs) (c: ∀v∈vs,v.cells.size=sz) (b:(decide (0<sz)&&decide (vs.length*sz≤16777216))=true) (o:Q0w R σ vs xs)
 (h: ∀v w',Stp w σ w' σ→V6 w0.heap.size e sz R σ w' v xs→(∀k,v.ownBlock=some k→w.heap.size≤k)→K v w'):buildSlice P t n a w K:=by
 subst s q
 simp only[Bool.and_eq_true,decide_eq_true_eq] at b
 obtain ⟨j,b⟩:=b
 obtain ⟨cells,r,f⟩:=Ht (P:=P) (t:=t) vs c b w
 unfold buildSlice
 rw[X9 r]
 have d:=o.len
 refine h _ _ (Stp.own m.sat _) ⟨cells.toList,⟨by rw[f,Q2s c,d], .inr ⟨_,_,cells,by rw[d],m.bel.size,heap_alloc_new w _,by omega,?_,?_,?_⟩⟩,?_,?_⟩ ?_
 ·simp only[maxLen]
  have:vs.length*1≤vs.length*sz:=Nat.mul_le_mul_left _ j
  omega
 ·rw[←Array.length_toList,f,Q2s c,d]
 ·rw[List.take_of_length_le (by rw[f,Q2s c,d];exact Nat.le_refl _)]
 ·intro k g;cases g;exact m.sat.none (Nat.le_refl _)
 ·intro i x y
  obtain ⟨v,A,p⟩:=o.get y
  rw[f,Q8K c i v A];exact p
 ·intro k g;cases g;exact Nat.le_refl _
theorem P1 [Rep R] {t:TypeId} {c:Nat} {z:Value} {n:Nat} {a:List (Nat×Value)} [ts:TS P t e] [tz:TZ P e sz c z] (j:X2 w σ) (vs:List Value) (xs:List α) (l:n=vs.length) (g:a=en 0 vs) (f: ∀v∈vs,v.cells.size=sz) (b:(decide (0<sz)&&decide (vs.length*sz≤16777216))=true) (m:Q0w R σ vs xs)
 (h: ∀v w' σ',Stp w σ w' σ'→Sl sz R σ' v xs→K v w'):buildSlice P t n a w K:=by
 refine Zc (Stp.refl j) vs xs l g f b m fun v w' i o _=>?_
 obtain ⟨σ',k,d,_⟩:=o.keep i
 exact h v w' σ' k d
theorem X24 {t:TypeId} {k a:Nat} {c:TypeId} [tf:TF P t k a c] [tg:TG P c false] {cs:Array Value} {v:Value} (g:cs[a]? =some v):F4 P t (.agg cs) k w K=K v w:=by
 unfold F4
 have hh:=tf.h
 unfold Q3Y at hh
 split at hh
 ·rename_i m i
  obtain ⟨f,j,b⟩:=Option.map_eq_some_iff.1 hh
  simp only[Prod.mk.injEq] at b
  obtain ⟨l,d⟩:=b
  subst d l
  exact X9 (by simp[Instr.field,run_underlying i,j,asAgg,part,Xu tg,g])
 ·cases hh
theorem Qb {f:Fn} {first caps:List Value}:E7 P f first caps w K=K (.func f first.toArray caps.toArray) w:=X9 (by simp[Instr.makeFunc])
theorem W2 {t:TypeId} {a:List (Nat×Value)} {cells:Array Value} (h:P.built t a=some cells) (b:K (.agg cells) w):H2 P t a w K:=by
 unfold H2
 rw[X9 (run_build w t a.toArray cells h)];exact b
end
def H0 (o:Option Obj) (m:List (List UInt8×Value)):Prop:=
 ∃b a,o=some (.map b a)∧b.toList.map (fun e=>(e.key,e.val))=m.map (fun p=>(S p.1,p.2))∧(b.toList.map (·.born)).Pairwise (· < ·)∧ ∀e∈b.toList,e.born<a
def C4 (m:List (List UInt8×Value)) (k:List UInt8):Option Value:=match m with
 | []=>none
 | p::r=>if p.1=k then some p.2 else C4 r k
def Wq (m:List (List UInt8×Value)) (k:List UInt8) (v:Value):List (List UInt8×Value):=match m with
 | []=>[(k,v)]
 | p::r=>if p.1=k then (k,v)::r else p::Wq r k v
theorem Hc (a b:List UInt8):((⟨a.toArray⟩:ByteArray)==⟨b.toArray⟩)=decide (a=b):=by
 rw[←Q3G]
 show (a.toArray==b.toArray)=_
 simp
theorem Bk (k:List UInt8): ∀(c:List MapEntry) (m:List (List UInt8×Value)) (i:Nat),c.map (fun e=>(e.key,e.val))=m.map (fun p=>(S p.1,p.2))→
 ∃r,Instr.findNow .string (S k) c i=some r∧r.map (·.2)=C4 m k∧(∀j v,r=some (j,v)→i≤j∧(∃e,c[j-i]? =some e∧e.key=S k)∧ ∀u,(c.modify (j-i) fun e=>{e with key:=S k,val:=u}).map (fun e=>(e.key,e.val))=(Wq m k u).map (fun p=>(S p.1,p.2)))∧
  (r=none→ ∀u,Wq m k u=m++[(k,u)]):=by
 intro c
 induction c with
 | nil=>
  intro m i h
  cases m with
  | nil=>exact ⟨none,rfl,rfl,(by simp),fun _ u=>rfl⟩
  | cons=>simp at h
 | cons e r z=>
  intro m i h
  cases m with
  | nil=>simp at h
  | cons p q=>
   simp only[List.map_cons,List.cons.injEq,Prod.mk.injEq] at h
   obtain ⟨⟨f,g⟩,l⟩:=h
   simp only[Instr.findNow,f,Instr.sameNow,Hc]
   by_cases a:p.1=k
   ·have d:decide (k=p.1)=true:=by simp[a]
    simp only[d]
    refine ⟨_,rfl,by simp[C4,a,g],?_,by simp⟩
    intro j v b
    cases b
    refine ⟨Nat.le_refl _,⟨e,by simp,by rw[f,a]⟩,fun u=>?_⟩
    simp[Wq,a,l]
   ·have d:decide (k=p.1)=false:=by simp;exact fun e=>a e.symm
    simp only[d]
    obtain ⟨y,C,o,s,n⟩:=z q (i+1) l
    refine ⟨y,C,by simp[C4,a,o],?_,?_⟩
    ·intro j v b
     obtain ⟨E,D,t⟩:=s j v b
     refine ⟨by omega,by rw[show j-i=(j-(i+1))+1 by omega];simpa using D,fun u=>?_⟩
     have:=t u
     rw[show j-i=(j-(i+1))+1 by omega]
     simp[Wq,a,f,g,this]
    ·intro A u
     simp[Wq,a,n A u]
theorem I6 {t:TypeId} (a:P.underlying t=some .string) (b:Bool) (k:List UInt8) (w:World):(Instr.checkKey b 10000 t (S k)).run P w= .ok () w:=by
 unfold Instr.checkKey
 simp[run_underlying a]
theorem Q2w {t g f:TypeId} {sz d:Nat} {z:Value} [tm:TM P t g f] [tz:TZ P f sz d z] (c:P.underlying g=some .string) {r:Nat} {m:List (List UInt8×Value)} (l:H0 (w.heap[r]?) m) (k:List UInt8):
 lookup P t (.map (some r)) (S k) true w K=K (match C4 m k with | some v=> .tuple #[v, .bool true] | none=> .tuple #[z, .bool false]) w:=by
 obtain ⟨i,a,q,o,D,A⟩:=l
 obtain ⟨n,j,b,C,y⟩:=Bk k i.toList m 0 o
 unfold lookup
 refine X9 ?_
 simp only[Instr.lookup,Sem.run_bind,run_underlying tm.h,Result.andThen_ok,Instr.findKey,run_underlying c,j,I6 c]
 have s:(getObj r).run P w= .ok (.map i a) w:=by simp[getObj,Sem.run,q]
 simp only[s,Result.andThen_ok,Sem.run_bind,Sem.run_pure,I6 c,run_underlying c,j]
 cases n with
 | none=>simp at b;rw[←b];simp[Zl tz]
 | some p=>simp at b;rw[←b];simp
theorem Q4I {t g d:TypeId} {sz c:Nat} {z:Value} [tm:TM P t g d] [tz:TZ P d sz c z] (f:P.underlying g=some .string) {r:Nat} {m:List (List UInt8×Value)} (j:H0 (w.heap[r]?) m) (k:List UInt8):
 lookup P t (.map (some r)) (S k) false w K=K ((C4 m k).getD z) w:=by
 obtain ⟨i,a,o,n,D,A⟩:=j
 obtain ⟨l,q,b,C,y⟩:=Bk k i.toList m 0 n
 unfold lookup
 refine X9 ?_
 have s:(getObj r).run P w= .ok (.map i a) w:=by simp[getObj,Sem.run,o]
 simp only[Instr.lookup,Sem.run_bind,run_underlying tm.h,Result.andThen_ok,Instr.findKey,run_underlying f,q,I6 f,s,Sem.run_pure]
 cases l with
 | none=>simp at b;rw[←b];simp[Zl tz]
 | some p=>simp at b;rw[←b];simp
def C5 (σ:Q6) (w:World) (r:Nat) (m:List (List UInt8×Value)):Prop:=σ r=none∧H0 (w.heap[r]?) m
def Xh (σ:Q6) (r:Nat) (m:List (List UInt8×Value)):Prop:=H0 (σ r) m
theorem Xh.is {σ:Q6} {r:Nat} {m:List (List UInt8×Value)} (h:Xh σ r m) (d:X2 w σ):H0 (w.heap[r]?) m:=by
 obtain ⟨b,a,f,c⟩:=h
 exact ⟨b,a,d _ _ f,c⟩
theorem Xh.le {σ σ':Q6} {r:Nat} {m:List (List UInt8×Value)} (h:Xh σ r m) (g: ∀b o,σ b=some o→σ' b=some o):Xh σ' r m:=by
 obtain ⟨c,a,f,d⟩:=h
 exact ⟨c,a,g _ _ f,d⟩
theorem Xh.up {σ σ':Q6} {r:Nat} {m:List (List UInt8×Value)} (h:Xh σ r m) (a:Stp w σ w' σ'):Xh σ' r m:=h.le a.le
theorem C5.lt {σ:Q6} {r:Nat} {m:List (List UInt8×Value)} (h:C5 σ w r m):r<w.heap.size:=by
 obtain ⟨_,c,a,b,_⟩:=h
 exact (Array.getElem?_eq_some_iff.1 b).1
theorem C5.up {σ σ':Q6} {r:Nat} {m:List (List UInt8×Value)} (h:C5 σ w r m) (a:Stp w σ w' σ'):C5 σ' w' r m:=by
 have b:=h.lt
 exact ⟨(a.old r b).trans h.1,(a.bel.block r b).symm▸h.2⟩
theorem Q3p {t:TypeId} {σ:Q6} (a:X2 w σ) (h: ∀r w',w.heap.size≤r→Stp w σ w' σ→C5 σ w' r []→K (.map (some r)) w'):Tf P t none w K:=by
 unfold Tf
 rw[X9 (v:= .map (some w.heap.size)) (w':=w.alloc (.map #[] 0)) (by simp[Instr.makeMap])]
 exact h _ _ (Nat.le_refl _) (Stp.own a _) ⟨a.none (Nat.le_refl _), #[],0,heap_alloc_new w _,rfl,by simp,by simp⟩
theorem C5.keep {σ σ0:Q6} {r:Nat} {m:List (List UInt8×Value)} (h:C5 σ w r m) (c:Stp w0 σ0 w σ) (f:w0.heap.size≤r): ∃σ',Stp w0 σ0 w σ'∧Xh σ' r m∧(∀k o,σ k=some o→σ' k=some o)∧(∀k,k≠r→σ' k=σ k):=by
 obtain ⟨d,b,a,j,g⟩:=h
 exact ⟨σ.put r (.map b a),c.put d f j,⟨b,a,by simp[Q6.put],g⟩,Q6.put_le c.sat d _,fun k i=>by simp only[Q6.put,if_neg i]⟩
theorem Kb {t U et:TypeId} [tm:TM P t U et] (C:P.underlying U=some .string) {σ:Q6} {r:Nat} {m:List (List UInt8×Value)} (Y:C5 σ w r m) (k:List UInt8) (v:Value)
 (h: ∀w',Upd w r w'→C5 σ w' r (Wq m k v)→K undef w'):mapUpdate P t (.map (some r)) (S k) v w K:=by
 obtain ⟨Q,l,d,E,N,O,D⟩:=Y
 obtain ⟨r',V,q2,q3,X⟩:=Bk k l.toList m 0 N
 have W:(getObj r).run P w= .ok (.map l d) w:=by simp[getObj,Sem.run,E]
 have Z:=(Array.getElem?_eq_some_iff.1 E).1
 have n: ∀o,o=Obj.map l d∨True→(∀c e f,o≠ .cells c e f)→(setObj r o).run P w= .ok () {w with heap:=w.heap.setIfInBounds r o}:=by
  intro o _ _
  simp[setObj,Sem.run,E]
 have z: ∀o,Upd w r {w with heap:=w.heap.setIfInBounds r o}:=fun o=>⟨rfl,rfl,rfl,by simp,fun k C=>by simp only[Array.getElem?_setIfInBounds];rw[if_neg (by omega)]⟩
 have A: ∀o,({w with heap:=w.heap.setIfInBounds r o}:World).heap[r]? =some o:=fun o=>by simp[Array.getElem?_setIfInBounds,Z]
 unfold mapUpdate
 cases r' with
 | none=>
  rw[Lh (w':={w with heap:=w.heap.setIfInBounds r (.map (l.push {key:=S k,val:=v,born:=d}) (d+1))}) (by
   simp only[Instr.mapUpdate,Sem.run_bind,run_underlying tm.h,Result.andThen_ok,Instr.findKey,run_underlying C,V,I6 C,W,Sem.run_pure]
   exact n _ (.inr trivial) (by intros;simp))]
  refine h _ (z _) ⟨Q,_,_,A _,?_,?_,?_⟩
  ·rw[X rfl];simp[N]
  ·simp only[Array.toList_push,List.map_append,List.map_cons,List.map_nil]
   rw[List.pairwise_append]
   refine ⟨O,by simp,?_⟩
   intro a ha b M
   simp at M;subst M
   obtain ⟨e,s,rfl⟩:=List.mem_map.1 ha
   exact D e s
  ·intro e s
   simp at s
   rcases s with s | rfl
   ·have:=D e (by simpa using s);omega
   ·simp
 | some p=>
  obtain ⟨j,u⟩:=p
  obtain ⟨z1,z2,L⟩:=q3 j u rfl
  obtain ⟨e,J,e2⟩:=z2
  simp only[Nat.sub_zero] at J L
  have g:((l.modify j fun e=>{e with key:=S k,val:=v}).toList.map (·.born))=l.toList.map (·.born):=by
   apply List.ext_getElem?
   intro i
   simp only[Array.toList_modify,List.getElem?_map,List.getElem?_modify]
   by_cases H:j=i<;>cases l.toList[i]? <;>simp[H]
  have q:(Instr.keyThatStays (S k) (S k)).run P w= .ok (S k) w:=by
   simp[Instr.keyThatStays,Instr.sameBits,Hc]
  rw[Lh (w':={w with heap:=w.heap.setIfInBounds r (.map (l.modify j fun e=>{e with key:=S k,val:=v}) d)}) (by
   simp only[Instr.mapUpdate,Sem.run_bind,run_underlying tm.h,Result.andThen_ok,Instr.findKey,run_underlying C,V,I6 C,W,Sem.run_pure]
   rw[show ((l[j]?).map (·.key)).getD (S k)=S k by rw[←Array.getElem?_toList,J];simp[e2]]
   simp only[q,Result.andThen_ok]
   exact n _ (.inr trivial) (by intros;simp))]
  refine h _ (z _) ⟨Q,_,_,A _,?_,?_,?_⟩
  ·simp only[Array.toList_modify];exact L v
  ·rw[g];exact O
  ·intro x hx
   have:x.born∈l.toList.map (·.born):=by rw[←g];exact List.mem_map.2 ⟨x,hx,rfl⟩
   obtain ⟨y,hy,e⟩:=List.mem_map.1 this
   rw[←e];exact D y hy
end Go.Emb

namespace Go.Emb
open Go.RowKit
variable {P : Program} {w w0 w1 w' w'' : World} {K : Value → World → Prop}
theorem Z8 {c b:Bool} {a:World→(Value→World→Prop)→Prop} (e:c=b→a w K) (d:c=(!b)→K undef w):Q0 (.bool c) b w a K:=by
 cases c<;>cases b
 ·rw[W8];exact e rfl
 ·rw[E1];exact d rfl
 ·rw[S3];exact d rfl
 ·rw[W3];exact e rfl
theorem Q7 {c:Bool} {t e:Prop} (b:c=true→t) (a:c=false→e):X1 (.bool c) t e:=by
 cases c
 ·rw[M3];exact a rfl
 ·rw[H6];exact b rfl
theorem Q8 {α:Type} {R:Q6→α→List Value→Prop} {sz:Nat} {σ:Q6} {v:Value} {xs:List α} {a e t:TypeId} {cs:List Bool} [ts:TS P a e] (h:Sl sz R σ v xs) (b:K (I xs.length) w):X3 P .len [a] t cs [v] w K:=by
 rw[X2R h];exact b
structure Kpt (D : Nat → Prop) (w w' : World) : Prop where
  os : w'.os = w.os
  tape : w'.tape = w.tape
  output : w'.output = w.output
  size : w.heap.size ≤ w'.heap.size
  block : ∀ k, k < w.heap.size → ¬ D k → w'.heap[k]? = w.heap[k]?
theorem Kpt.refl {D:Nat→Prop}:Kpt D w w:=⟨rfl,rfl,rfl,Nat.le_refl _,fun _ _ _=>rfl⟩
theorem Kpt.trans {D:Nat→Prop} (h:Kpt D w w') (k:Kpt D w' w''):Kpt D w w'':=
 ⟨k.os.trans h.os,k.tape.trans h.tape,k.output.trans h.output,Nat.le_trans h.size k.size,fun i a b=>(k.block i (Nat.lt_of_lt_of_le a h.size) b).trans (h.block i a b)⟩
theorem Kpt.of_below {D:Nat→Prop} (h:Below w.heap.size w w'):Kpt D w w':=⟨h.os,h.tape,h.output,h.size,fun k a _=>h.block k a⟩
theorem Kpt.of_grown {D:Nat→Prop} {row:Option Nat} (h:w.grownBy w' row) (b: ∀k,row=some k→D k):Kpt D w w':=⟨h.os,h.tape,h.output,h.size,fun k c a=>h.block k c (fun e=>a (b k e.symm))⟩
theorem Kpt.of_upd {D:Nat→Prop} {b:Nat} (h:Upd w b w') (a:D b):Kpt D w w':=⟨h.os,h.tape,h.output,by rw[h.size];exact Nat.le_refl _,fun k d c=>h.block k (fun e=>c (e▸a))⟩
theorem Kpt.mono {D D':Nat→Prop} (h:Kpt D w w') (b: ∀k,k<w.heap.size→D k→D' k):Kpt D' w w':=⟨h.os,h.tape,h.output,h.size,fun k a c=>h.block k a (fun e=>c (b k a e))⟩
theorem Kpt.below {D:Nat→Prop} (h:Kpt D w w') (a: ∀k,¬D k):Below w.heap.size w w':=⟨h.os,h.tape,h.output,h.size,fun k b=>h.block k b (a k)⟩
theorem Stp.kp {σ0 σ:Q6} {D:Nat→Prop} (a:Stp w0 σ0 w σ) (b:Kpt D w w') (f: ∀k,D k→w0.heap.size≤k∧σ k=none):Stp w0 σ0 w' σ:=by
 refine ⟨⟨b.os.trans a.bel.os,b.tape.trans a.bel.tape,b.output.trans a.bel.output,Nat.le_trans a.bel.size b.size,fun k c=>?_⟩,?_,a.le,a.old⟩
 ·refine (b.block k (Nat.lt_of_lt_of_le c a.bel.size) ?_).trans (a.bel.block k c)
  intro e;have:=(f k e).1;omega
 ·intro k o d
  refine (b.block k (a.sat.lt d) ?_).trans (a.sat k o d)
  intro e;rw[(f k e).2] at d;cases d
theorem Y1.kp {σ:Q6} {D:Nat→Prop} {k:Nat} {cs:List Value} (h:Y1 σ w k cs) (c:Kpt D w w') (a: ¬D k):Y1 σ w' k cs:=by
 have d:=h.lt
 obtain ⟨f,e,b⟩:=h
 exact ⟨f,e,(c.block k d a).trans b⟩
theorem C5.kp {σ:Q6} {D:Nat→Prop} {r:Nat} {m:List (List UInt8×Value)} (h:C5 σ w r m) (b:Kpt D w w') (a: ¬D r):C5 σ w' r m:=
 ⟨h.1,(b.block r h.lt a).symm▸h.2⟩
theorem V6.kp {α:Type} {R:Q6→α→List Value→Prop} {B sz:Nat} {e:TypeId} {σ:Q6} {v:Value} {xs:List α} {D:Nat→Prop} (h:V6 B e sz R σ w v xs) (j:Kpt D w w') (c: ∀k,v.ownBlock=some k→ ¬D k):V6 B e sz R σ w' v xs:=by
 obtain ⟨cells,f,m,n⟩:=h
 refine ⟨cells,⟨f.1,?_⟩,m,n⟩
 rcases f.2 with o | ⟨g,d,b,rfl,l,i,a⟩
 ·exact .inl o
 ·refine .inr ⟨g,d,b,rfl,l,?_,a⟩
  rw[j.block g (Array.getElem?_eq_some_iff.1 i).1 (c g rfl)];exact i
theorem bt {w w1 a:World} (b:Below w.heap.size w w1) (c:Below w1.heap.size w1 a):Below w.heap.size w a:=b.trans (c.mono b.size)
abbrev U1:Nat:=140737488351232
def U6 (_:Q6) (s:List UInt8) (cs:List Value):Prop:=cs=[S s]∧s.length≤U1
instance:Rep U6:=⟨fun _ h=>h,fun h u hu=>by rw[h.1] at hu;simp at hu;subst hu;rfl⟩
def Wv (_:Q6) (n:Int) (cs:List Value):Prop:=cs=[I n]∧ -9223372036854775808≤n∧n≤9223372036854775807
instance:Rep Wv:=⟨fun _ h=>h,fun h u hu=>by rw[h.1] at hu;simp at hu;subst hu;rfl⟩
def Q38 (_:Q6) (b:Bool) (cs:List Value):Prop:=cs=[.bool b]
instance:Rep Q38:=⟨fun _ h=>h,fun h u hu=>by rw[h] at hu;simp at hu;subst hu;rfl⟩
def UpI (N:Nat) (a:Nat→World→Prop) (x:Value) (w:World):Prop:= ∃n:Nat,x=I n∧n≤N∧a n w
def UpM (N:Nat) (x:Value):Nat:=match x with | .int _ n=>N-n.toNat | _=>0
theorem U3 {A:(Value→World→Prop)→Value→(Nat→Value)→World→Prop} (N:Nat) (a:Nat→World→Prop) (f:a 0 w)
 (b: ∀n w d,n≤N→a n w→A (fun y w'=>UpI N a y w'∧UpM N y<UpM N (I n)) (I n) d w):lp (α:=Value) (.int .i64 0) w A:=by
 refine Wj (UpI N a) (fun x _=>UpM N x) ⟨0,rfl,Nat.zero_le _,f⟩ ?_
 rintro _ d w' ⟨n,rfl,e,c⟩
 exact b n w' d e c
theorem Y5 {N n:Nat} {a:Nat→World→Prop} (d:N≤9223372036854775807) (c:n<N) (b:a (n+1) w):UpI N a (.int .i64 (IntKind.i64.wrap (n+1))) w∧UpM N (.int .i64 (IntKind.i64.wrap (n+1)))<UpM N (I n):=by
 rw[F9 (by omega) (by omega)]
 exact ⟨⟨n+1,rfl,c,b⟩,by simp only[UpM];omega⟩
def Fi {α:Type} (N:Nat) (a:Nat→α→World→Prop) (x:α×Value) (w:World):Prop:= ∃n:Nat,x.2=I n∧n≤N∧a n x.1 w
def Nk {α:Type} (N:Nat) (x:α×Value):Nat:=UpM N x.2
theorem E8 {α:Type} {A:(α×Value→World→Prop)→α×Value→(Nat→Value)→World→Prop} {a:α} (N:Nat) (b:Nat→α→World→Prop) (h:b 0 a w)
 (c: ∀n a w d,n≤N→b n a w→A (fun y w'=>Fi N b y w'∧Nk N y<Nk N (a,I n)) (a,I n) d w):lp (α:=α×Value) (a, .int .i64 0) w A:=by
 refine Wj (Fi N b) (fun x _=>Nk N x) ⟨0,rfl,Nat.zero_le _,h⟩ ?_
 rintro ⟨a,x⟩ d w' ⟨n,f,g,e⟩
 simp only at f e
 subst f
 exact c n a w' d g e
theorem J5 {α:Type} {a c:α} {N n:Nat} {b:Nat→α→World→Prop} (f:N≤9223372036854775807) (e:n<N) (d:b (n+1) c w):Fi N b (c, .int .i64 (IntKind.i64.wrap (n+1))) w∧Nk N (c, .int .i64 (IntKind.i64.wrap (n+1)))<Nk N (a,I n):=by
 rw[F9 (by omega) (by omega)]
 exact ⟨⟨n+1,rfl,e,d⟩,by simp only[Nk,UpM];omega⟩
theorem M7 {α:Type} {R:Q6→α→List Value→Prop} {sz:Nat} {σ:Q6} {v:Value} {xs:List α} {t e:TypeId} {b:Nat} {z:Value} [TS P t e] [TZ P e sz b z] (h:Sl sz R σ v xs) {n:Nat} (i:n<xs.length)
 (c: ∀a cs,Z4 σ a cs→cs.length=sz→R σ xs[n] cs→K (.pointer (some a)) w):indexAddr P t v (I n) w K:=
 X3W h (by omega) (by simpa using i) (fun a cs g d f=>c a cs g d (by simpa using f))
theorem Y8 {t:TypeId} {sz e:Nat} {z:Value} {A:Value→Value→World→Prop} [tz:TZ P t sz e z] {σ:Q6} {cs:List Value} (m:X2 w σ) (q:z.cells.size=sz) (j:cs.length=sz) (o: ∀u∈cs,u.oneCell'=true)
 (h: ∀a w' c,Stp w σ w' c→Z4 c a cs→A (.pointer (some a)) undef w'):W0 P t w (fun p w=>Y0 P t p (.agg cs.toArray) w (fun u w=>A p u w)):=by
 refine Iu m fun b w1 g k f=>?_
 refine Mj f (by simpa using q) j (by rw[List.all_toArray];exact List.all_eq_true.2 o) fun s l d=>?_
 have r:Stp w σ s σ:=l.stp k g f.1
 obtain ⟨c,n,i,_⟩:=d.keep r g
 exact h _ _ _ n i
theorem U9 {t:TypeId} {f:Nat} {z:Value} {A:Value→Value→World→Prop} [tz:TZ P t 1 f z] {σ:Q6} {v:Value} (o:X2 w σ) (s:z.cells.size=1) (k:v.cells= #[v]) (r:v.oneCell'=true)
 (h: ∀a w' d,Stp w σ w' d→Z4 d a [v]→A (.pointer (some a)) undef w'):W0 P t w (fun p w=>Y0 P t p v w (fun u w=>A p u w)):=by
 refine Iu o fun b w1 i m g=>?_
 have l:z.cells.toList.length=1:=by simpa using s
 refine st0 g (by omega) k r fun B n c=>?_
 have y:Stp w σ B σ:=n.stp m i g.1
 have e:z.cells.toList.set 0 v=[v]:=by
  match hzl:z.cells.toList,l with
  | [x],_=>rfl
 rw[e] at c
 obtain ⟨d,q,j,_⟩:=c.keep y i
 exact h _ _ _ q j
theorem L3 {α:Type} {xs:List α} {p:α→Bool} {n:Nat} (h:n<xs.length):(xs.take (n+1)).any p=((xs.take n).any p||p xs[n]):=by
 rw[List.take_add_one,List.getElem?_eq_getElem h,List.any_append];simp
theorem C0 {α:Type} {xs:List α} {p:α→Bool} {n:Nat} (h:n<xs.length) (a:p xs[n]=true):xs.any p=true:=List.any_eq_true.2 ⟨_,List.getElem_mem h,a⟩
theorem E0 {α:Type} {xs:List α} {p:α→Bool} {n:Nat} (h: ¬n<xs.length):(xs.take n).any p=xs.any p:=by rw[List.take_of_length_le (by omega)]
end Go.Emb

namespace Go.Hm
open Go.Kd
structure Fld where
  name : X0
  kind : X0
  tr : Bool
deriving DecidableEq
structure Ins where
  op : X0
  n : Int
  s : X0
deriving DecidableEq
structure Cat where
  frm : Int
  to : Int
  at_ : Int
  cls : X0
deriving DecidableEq
structure Met where
  name : X0
  params : List X0
  result : X0
  abs : Bool
  locals : Int
  code : List Ins
  catches : List Cat
deriving DecidableEq
structure Cla where
  name : X0
  super : X0
  like : List X0
  iface : Bool
  abs : Bool
  fin : Bool
  fields : List Fld
  methods : List Hm.Met
deriving DecidableEq
def Fld.zero:Fld:=⟨[],[],false⟩
def Met.zero:Hm.Met:=⟨[],[],[],false,0,[],[]⟩
def Cla.zero:Cla:=⟨[],[],[],false,false,false,[],[]⟩
end Go.Hm

namespace Go.Emb
open Go.RowKit Go.Hm
abbrev Yi (n:Int):Prop:= -9223372036854775808≤n∧n≤9223372036854775807
def R8 (_:Q6) (f:Fld) (cs:List Value):Prop:=cs=[S f.name,S f.kind, .bool f.tr]∧f.name.length≤U1∧f.kind.length≤U1
def Qj (_:Q6) (i:Ins) (cs:List Value):Prop:=cs=[S i.op,I i.n,S i.s]∧i.op.length≤U1∧Yi i.n∧i.s.length≤U1
def Jj (_:Q6) (c:Cat) (cs:List Value):Prop:=cs=[I c.frm,I c.to,I c.at_,S c.cls]∧Yi c.frm∧Yi c.to∧Yi c.at_∧c.cls.length≤U1
def E4 (σ:Q6) (m:Hm.Met) (cs:List Value):Prop:= ∃pv a b,cs=[S m.name,pv,S m.result, .bool m.abs,I m.locals,a,b]∧Sl 1 U6 σ pv m.params∧Sl 3 Qj σ a m.code∧Sl 4 Jj σ b m.catches∧m.name.length≤U1∧m.result.length≤U1∧Yi m.locals
def V0 (σ:Q6) (c:Cla) (cs:List Value):Prop:= ∃a b mv,cs=[S c.name,S c.super,a, .bool c.iface, .bool c.abs, .bool c.fin,b,mv]∧Sl 1 U6 σ a c.like∧Sl 3 R8 σ b c.fields∧Sl 7 E4 σ mv c.methods∧c.name.length≤U1∧c.super.length≤U1
theorem A6 {α:Type} {sz:Nat} {R:Q6→α→List Value→Prop} {σ:Q6} {v:Value} {xs:List α} (h:Sl sz R σ v xs):v.oneCell'=true:=by
 obtain ⟨a,b,rfl,_⟩:=h;rfl
instance:Rep R8:=⟨fun _ h=>h,fun h u hu=>by rw[h.1] at hu;simp at hu;rcases hu with rfl | rfl | rfl<;>rfl⟩
instance:Rep Qj:=⟨fun _ h=>h,fun h u hu=>by rw[h.1] at hu;simp at hu;rcases hu with rfl | rfl | rfl<;>rfl⟩
instance:Rep Jj:=⟨fun _ h=>h,fun h u hu=>by rw[h.1] at hu;simp at hu;rcases hu with rfl | rfl | rfl | rfl<;>rfl⟩
instance:Rep E4:=⟨fun hk ⟨pv,cv,hv,h1,h2,h3,h4,h5⟩=>⟨pv,cv,hv,h1,h2.le hk,h3.le hk,h4.le hk,h5⟩,fun ⟨pv,cv,hv,h1,h2,h3,h4,h5⟩ u hu=>by
 rw[h1] at hu;simp at hu;rcases hu with rfl | rfl | rfl | rfl | rfl | rfl | rfl
 ·rfl
 ·exact A6 h2
 ·rfl
 ·rfl
 ·rfl
 ·exact A6 h3
 ·exact A6 h4⟩
instance:Rep V0:=⟨fun hk ⟨pv,cv,hv,h1,h2,h3,h4,h5⟩=>⟨pv,cv,hv,h1,h2.le hk,h3.le hk,h4.le hk,h5⟩,fun ⟨pv,cv,hv,h1,h2,h3,h4,h5⟩ u hu=>by
 rw[h1] at hu;simp at hu;rcases hu with rfl | rfl | rfl | rfl | rfl | rfl | rfl | rfl
 ·rfl
 ·rfl
 ·exact A6 h2
 ·rfl
 ·rfl
 ·rfl
 ·exact A6 h3
 ·exact A6 h4⟩
end Go.Emb

namespace Go.Proofs.YtjdiakhipmggjaaGreatDoor
open Go.Emb
instance z_x:TZ P T.x 1 0 (.tuple #[]):=⟨by kernel_rfl⟩
instance g_x:TG P T.x false:=⟨by kernel_rfl⟩
instance z_int64:TZ P T.a1 1 8 (.int .i64 0):=⟨by kernel_rfl⟩
instance g_int64:TG P T.a1 false:=⟨by kernel_rfl⟩
instance z_int:TZ P T.e 1 8 (.int .i64 0):=⟨by kernel_rfl⟩
instance g_int:TG P T.e false:=⟨by kernel_rfl⟩
instance z_bool:TZ P T.t 1 1 (.bool false):=⟨by kernel_rfl⟩
instance g_bool:TG P T.t false:=⟨by kernel_rfl⟩
instance z_uint8:TZ P T.a3 1 1 (.int .u8 0):=⟨by kernel_rfl⟩
instance g_uint8:TG P T.a3 false:=⟨by kernel_rfl⟩
instance z_string:TZ P T.c 1 16 (.string ⟨#[]⟩):=⟨by kernel_rfl⟩
instance g_string:TG P T.c false:=⟨by kernel_rfl⟩
instance z_uintptr:TZ P T.av 1 8 (.int .u64 0):=⟨by kernel_rfl⟩
instance g_uintptr:TG P T.av false:=⟨by kernel_rfl⟩
instance z_int32:TZ P T.an 1 4 (.int .i32 0):=⟨by kernel_rfl⟩
instance g_int32:TG P T.an false:=⟨by kernel_rfl⟩
instance z_P_hier_Table:TZ P T.r 1 8 (.pointer none):=⟨by kernel_rfl⟩
instance g_P_hier_Table:TG P T.r false:=⟨by kernel_rfl⟩
instance z_api_Errno:TZ P T.y 1 8 (.int .i64 0):=⟨by kernel_rfl⟩
instance g_api_Errno:TG P T.y false:=⟨by kernel_rfl⟩
instance z_S_api_Class:TZ P T.i 1 24 (.slice none 0 0):=⟨by kernel_rfl⟩
instance g_S_api_Class:TG P T.i false:=⟨by kernel_rfl⟩
instance s_S_api_Class:TS P T.i 85:=⟨by kernel_rfl⟩
instance z_P_heap_Heap:TZ P T.a5 1 8 (.pointer none):=⟨by kernel_rfl⟩
instance g_P_heap_Heap:TG P T.a5 false:=⟨by kernel_rfl⟩
instance z_api_Value:TZ P T.f 4 40 (.agg #[.int .i64 0, .int .i64 0, .string ⟨#[]⟩, .int .i64 0]):=⟨by kernel_rfl⟩
instance g_api_Value:TG P T.f true:=⟨by kernel_rfl⟩
instance f_api_Value_0:TF P T.f 0 0 3:=⟨by kernel_rfl⟩
instance f_api_Value_1:TF P T.f 1 1 2:=⟨by kernel_rfl⟩
instance f_api_Value_2:TF P T.f 2 2 9:=⟨by kernel_rfl⟩
instance f_api_Value_3:TF P T.f 3 3 3:=⟨by kernel_rfl⟩
instance z_S_api_Cell:TZ P T.g 1 24 (.slice none 0 0):=⟨by kernel_rfl⟩
instance g_S_api_Cell:TG P T.g false:=⟨by kernel_rfl⟩
instance s_S_api_Cell:TS P T.g 78:=⟨by kernel_rfl⟩
instance z_uint16:TZ P T.aq 1 2 (.int .u16 0):=⟨by kernel_rfl⟩
instance g_uint16:TG P T.aq false:=⟨by kernel_rfl⟩
instance z_S_squinchref09_Act:TZ P T.z 1 24 (.slice none 0 0):=⟨by kernel_rfl⟩
instance g_S_squinchref09_Act:TG P T.z false:=⟨by kernel_rfl⟩
instance s_S_squinchref09_Act:TS P T.z 51:=⟨by kernel_rfl⟩
instance z_squinchref09_Heap:TZ P T.a 3 56 (.agg #[.slice none 0 0, .int .i64 0, .slice none 0 0]):=⟨by kernel_rfl⟩
instance g_squinchref09_Heap:TG P T.a true:=⟨by kernel_rfl⟩
instance f_squinchref09_Heap_0:TF P T.a 0 0 26:=⟨by kernel_rfl⟩
instance f_squinchref09_Heap_1:TF P T.a 1 1 3:=⟨by kernel_rfl⟩
instance f_squinchref09_Heap_2:TF P T.a 2 2 37:=⟨by kernel_rfl⟩
instance z_squinchref09_Act:TZ P T.m 8 80 (.agg #[.int .i64 0, .string ⟨#[]⟩, .int .i64 0, .int .i64 0, .int .i64 0, .int .i64 0, .string ⟨#[]⟩, .int .i64 0]):=⟨by kernel_rfl⟩
instance g_squinchref09_Act:TG P T.m true:=⟨by kernel_rfl⟩
instance f_squinchref09_Act_0:TF P T.m 0 0 3:=⟨by kernel_rfl⟩
instance f_squinchref09_Act_1:TF P T.m 1 1 9:=⟨by kernel_rfl⟩
instance f_squinchref09_Act_2:TF P T.m 2 2 2:=⟨by kernel_rfl⟩
instance f_squinchref09_Act_3:TF P T.m 3 3 3:=⟨by kernel_rfl⟩
instance f_squinchref09_Act_4:TF P T.m 4 4 33:=⟨by kernel_rfl⟩
instance z_S_string:TZ P T.h 1 24 (.slice none 0 0):=⟨by kernel_rfl⟩
instance g_S_string:TG P T.h false:=⟨by kernel_rfl⟩
instance s_S_string:TS P T.h 9:=⟨by kernel_rfl⟩
instance z_S_api_Field:TZ P T.k 1 24 (.slice none 0 0):=⟨by kernel_rfl⟩
instance g_S_api_Field:TG P T.k false:=⟨by kernel_rfl⟩
instance s_S_api_Field:TS P T.k 69:=⟨by kernel_rfl⟩
instance z_api_Field:TZ P T.n 3 40 (.agg #[.string ⟨#[]⟩, .string ⟨#[]⟩, .bool false]):=⟨by kernel_rfl⟩
instance g_api_Field:TG P T.n true:=⟨by kernel_rfl⟩
instance f_api_Field_0:TF P T.n 0 0 9:=⟨by kernel_rfl⟩
instance f_api_Field_1:TF P T.n 1 1 9:=⟨by kernel_rfl⟩
instance f_api_Field_2:TF P T.n 2 2 4:=⟨by kernel_rfl⟩
instance z_func_int_2:TZ P T.ak 1 8 .nilFunc:=⟨by kernel_rfl⟩
instance g_func_int_2:TG P T.ak false:=⟨by kernel_rfl⟩
instance z_S_api_Value:TZ P T.l 1 24 (.slice none 0 0):=⟨by kernel_rfl⟩
instance g_S_api_Value:TG P T.l false:=⟨by kernel_rfl⟩
instance s_S_api_Value:TS P T.l 33:=⟨by kernel_rfl⟩
instance z_api_Cell:TZ P T.o 2 40 (.agg #[.string ⟨#[]⟩, .slice none 0 0]):=⟨by kernel_rfl⟩
instance g_api_Cell:TG P T.o true:=⟨by kernel_rfl⟩
instance f_api_Cell_0:TF P T.o 0 0 9:=⟨by kernel_rfl⟩
instance f_api_Cell_1:TF P T.o 1 1 76:=⟨by kernel_rfl⟩
instance z_M_string_int:TZ P T.a2 1 8 (.map none):=⟨by kernel_rfl⟩
instance g_M_string_int:TG P T.a2 false:=⟨by kernel_rfl⟩
instance m_M_string_int:TM P T.a2 9 3:=⟨by kernel_rfl⟩
instance z_hier_Table:TZ P T.a0 2 32 (.agg #[.slice none 0 0, .map none]):=⟨by kernel_rfl⟩
instance g_hier_Table:TG P T.a0 true:=⟨by kernel_rfl⟩
instance f_hier_Table_0:TF P T.a0 0 0 26:=⟨by kernel_rfl⟩
instance f_hier_Table_1:TF P T.a0 1 1 80:=⟨by kernel_rfl⟩
instance z_S_api_Method:TZ P T.j 1 24 (.slice none 0 0):=⟨by kernel_rfl⟩
instance g_S_api_Method:TG P T.j false:=⟨by kernel_rfl⟩
instance s_S_api_Method:TS P T.j 98:=⟨by kernel_rfl⟩
instance z_api_Class:TZ P T.b 8 112 (.agg #[.string ⟨#[]⟩, .string ⟨#[]⟩, .slice none 0 0, .bool false, .bool false, .bool false, .slice none 0 0, .slice none 0 0]):=⟨by kernel_rfl⟩
instance g_api_Class:TG P T.b true:=⟨by kernel_rfl⟩
instance f_api_Class_0:TF P T.b 0 0 9:=⟨by kernel_rfl⟩
instance f_api_Class_1:TF P T.b 1 1 9:=⟨by kernel_rfl⟩
instance f_api_Class_2:TF P T.b 2 2 54:=⟨by kernel_rfl⟩
instance f_api_Class_3:TF P T.b 3 3 4:=⟨by kernel_rfl⟩
instance f_api_Class_4:TF P T.b 4 4 4:=⟨by kernel_rfl⟩
instance f_api_Class_5:TF P T.b 5 5 4:=⟨by kernel_rfl⟩
instance f_api_Class_6:TF P T.b 6 6 65:=⟨by kernel_rfl⟩
instance f_api_Class_7:TF P T.b 7 7 83:=⟨by kernel_rfl⟩
instance z_func_string_bool:TZ P T.a4 1 8 .nilFunc:=⟨by kernel_rfl⟩
instance g_func_string_bool:TG P T.a4 false:=⟨by kernel_rfl⟩
instance z_S_int:TZ P T.a7 1 24 (.slice none 0 0):=⟨by kernel_rfl⟩
instance g_S_int:TG P T.a7 false:=⟨by kernel_rfl⟩
instance s_S_int:TS P T.a7 3:=⟨by kernel_rfl⟩
instance z_api_Instr:TZ P T.v 3 40 (.agg #[.string ⟨#[]⟩, .int .i64 0, .string ⟨#[]⟩]):=⟨by kernel_rfl⟩
instance g_api_Instr:TG P T.v true:=⟨by kernel_rfl⟩
instance f_api_Instr_0:TF P T.v 0 0 9:=⟨by kernel_rfl⟩
instance f_api_Instr_1:TF P T.v 1 1 2:=⟨by kernel_rfl⟩
instance f_api_Instr_2:TF P T.v 2 2 9:=⟨by kernel_rfl⟩
instance z_S_api_Instr:TZ P T.q 1 24 (.slice none 0 0):=⟨by kernel_rfl⟩
instance g_S_api_Instr:TG P T.q false:=⟨by kernel_rfl⟩
instance s_S_api_Instr:TS P T.q 94:=⟨by kernel_rfl⟩
instance z_S_api_Catch:TZ P T.s 1 24 (.slice none 0 0):=⟨by kernel_rfl⟩
instance g_S_api_Catch:TG P T.s false:=⟨by kernel_rfl⟩
instance s_S_api_Catch:TS P T.s 172:=⟨by kernel_rfl⟩
instance z_api_Method:TZ P T.d 7 120 (.agg #[.string ⟨#[]⟩, .slice none 0 0, .string ⟨#[]⟩, .bool false, .int .i64 0, .slice none 0 0, .slice none 0 0]):=⟨by kernel_rfl⟩
instance g_api_Method:TG P T.d true:=⟨by kernel_rfl⟩
instance f_api_Method_0:TF P T.d 0 0 9:=⟨by kernel_rfl⟩
instance f_api_Method_1:TF P T.d 1 1 54:=⟨by kernel_rfl⟩
instance f_api_Method_2:TF P T.d 2 2 9:=⟨by kernel_rfl⟩
instance f_api_Method_3:TF P T.d 3 3 4:=⟨by kernel_rfl⟩
instance f_api_Method_4:TF P T.d 4 4 3:=⟨by kernel_rfl⟩
instance f_api_Method_5:TF P T.d 5 5 95:=⟨by kernel_rfl⟩
instance f_api_Method_6:TF P T.d 6 6 96:=⟨by kernel_rfl⟩
instance z_heap_Heap:TZ P T.p 4 48 (.agg #[.pointer none, .int .i64 0, .int .i64 0, .slice none 0 0]):=⟨by kernel_rfl⟩
instance g_heap_Heap:TG P T.p true:=⟨by kernel_rfl⟩
instance f_heap_Heap_0:TF P T.p 0 0 22:=⟨by kernel_rfl⟩
instance f_heap_Heap_1:TF P T.p 1 1 3:=⟨by kernel_rfl⟩
instance f_heap_Heap_2:TF P T.p 2 2 3:=⟨by kernel_rfl⟩
instance f_heap_Heap_3:TF P T.p 3 3 37:=⟨by kernel_rfl⟩
instance z_func_string_string:TZ P T.ac 1 8 .nilFunc:=⟨by kernel_rfl⟩
instance g_func_string_string:TG P T.ac false:=⟨by kernel_rfl⟩
instance z_A6_string:TZ P T.ao 6 96 (.agg #[.string ⟨#[]⟩, .string ⟨#[]⟩, .string ⟨#[]⟩, .string ⟨#[]⟩, .string ⟨#[]⟩, .string ⟨#[]⟩]):=⟨by kernel_rfl⟩
instance g_A6_string:TG P T.ao true:=⟨by kernel_rfl⟩
instance a_A6_string:TA P T.ao 6 9:=⟨by kernel_rfl⟩
instance z_M_string_string:TZ P T.w 1 8 (.map none):=⟨by kernel_rfl⟩
instance g_M_string_string:TG P T.w false:=⟨by kernel_rfl⟩
instance m_M_string_string:TM P T.w 9 9:=⟨by kernel_rfl⟩
instance z_func_api_Method_string:TZ P T.a9 1 8 .nilFunc:=⟨by kernel_rfl⟩
instance g_func_api_Method_string:TG P T.a9 false:=⟨by kernel_rfl⟩
instance z_func_api_Method_bool:TZ P T.ae 1 8 .nilFunc:=⟨by kernel_rfl⟩
instance g_func_api_Method_bool:TG P T.ae false:=⟨by kernel_rfl⟩
instance z_S_S_bool:TZ P T.a8 1 24 (.slice none 0 0):=⟨by kernel_rfl⟩
instance g_S_S_bool:TG P T.a8 false:=⟨by kernel_rfl⟩
instance s_S_S_bool:TS P T.a8 148:=⟨by kernel_rfl⟩
instance z_S_bool:TZ P T.a6 1 24 (.slice none 0 0):=⟨by kernel_rfl⟩
instance g_S_bool:TG P T.a6 false:=⟨by kernel_rfl⟩
instance s_S_bool:TS P T.a6 4:=⟨by kernel_rfl⟩
instance g_A256_uint8:TG P T.au true:=⟨by kernel_rfl⟩
instance a_A256_uint8:TA P T.au 256 5:=⟨by kernel_rfl⟩
instance z_utf8_acceptRange:TZ P T.aj 2 2 (.agg #[.int .u8 0, .int .u8 0]):=⟨by kernel_rfl⟩
instance g_utf8_acceptRange:TG P T.aj true:=⟨by kernel_rfl⟩
instance f_utf8_acceptRange_0:TF P T.aj 0 0 5:=⟨by kernel_rfl⟩
instance f_utf8_acceptRange_1:TF P T.aj 1 1 5:=⟨by kernel_rfl⟩
instance z_A16_utf8_acceptRange:TZ P T.al 32 32 (.agg #[.int .u8 0, .int .u8 0, .int .u8 0, .int .u8 0, .int .u8 0, .int .u8 0, .int .u8 0, .int .u8 0, .int .u8 0, .int .u8 0, .int .u8 0, .int .u8 0, .int .u8 0, .int .u8 0, .int .u8 0, .int .u8 0, .int .u8 0, .int .u8 0, .int .u8 0, .int .u8 0, .int .u8 0, .int .u8 0, .int .u8 0, .int .u8 0, .int .u8 0, .int .u8 0, .int .u8 0, .int .u8 0, .int .u8 0, .int .u8 0, .int .u8 0, .int .u8 0]):=⟨by kernel_rfl⟩
instance g_A16_utf8_acceptRange:TG P T.al true:=⟨by kernel_rfl⟩
instance a_A16_utf8_acceptRange:TA P T.al 16 156:=⟨by kernel_rfl⟩
instance z_func_api_Field_string:TZ P T.aa 1 8 .nilFunc:=⟨by kernel_rfl⟩
instance g_func_api_Field_string:TG P T.aa false:=⟨by kernel_rfl⟩
instance z_func_api_Field_bool:TZ P T.ag 1 8 .nilFunc:=⟨by kernel_rfl⟩
instance g_func_api_Field_bool:TG P T.ag false:=⟨by kernel_rfl⟩
instance z_api_Catch:TZ P T.u 4 40 (.agg #[.int .i64 0, .int .i64 0, .int .i64 0, .string ⟨#[]⟩]):=⟨by kernel_rfl⟩
instance g_api_Catch:TG P T.u true:=⟨by kernel_rfl⟩
instance f_api_Catch_0:TF P T.u 0 0 3:=⟨by kernel_rfl⟩
instance f_api_Catch_1:TF P T.u 1 1 3:=⟨by kernel_rfl⟩
instance f_api_Catch_2:TF P T.u 2 2 3:=⟨by kernel_rfl⟩
instance f_api_Catch_3:TF P T.u 3 3 9:=⟨by kernel_rfl⟩
instance z_uint64:TZ P T.ax 1 8 (.int .u64 0):=⟨by kernel_rfl⟩
instance g_uint64:TG P T.ax false:=⟨by kernel_rfl⟩
instance g_strings_asciiSet:TG P T.ab true:=⟨by kernel_rfl⟩
instance a_strings_asciiSet:TA P T.ab 256 4:=⟨by kernel_rfl⟩
instance z_func_api_Catch_bool:TZ P T.ah 1 8 .nilFunc:=⟨by kernel_rfl⟩
instance g_func_api_Catch_bool:TG P T.ah false:=⟨by kernel_rfl⟩
instance z_func_api_Instr_bool:TZ P T.ai 1 8 .nilFunc:=⟨by kernel_rfl⟩
instance g_func_api_Instr_bool:TG P T.ai false:=⟨by kernel_rfl⟩
instance z_S_uint8:TZ P T.ar 1 24 (.slice none 0 0):=⟨by kernel_rfl⟩
instance g_S_uint8:TG P T.ar false:=⟨by kernel_rfl⟩
instance s_S_uint8:TS P T.ar 5:=⟨by kernel_rfl⟩
instance z_strings_Builder:TZ P T.am 2 32 (.agg #[.pointer none, .slice none 0 0]):=⟨by kernel_rfl⟩
instance g_strings_Builder:TG P T.am true:=⟨by kernel_rfl⟩
instance f_strings_Builder_0:TF P T.am 0 0 202:=⟨by kernel_rfl⟩
instance f_strings_Builder_1:TF P T.am 1 1 203:=⟨by kernel_rfl⟩
instance z_P_uint8:TZ P T.aw 1 8 (.pointer none):=⟨by kernel_rfl⟩
instance g_P_uint8:TG P T.aw false:=⟨by kernel_rfl⟩
instance z_code_op:TZ P T.ad 3 24 (.agg #[.string ⟨#[]⟩, .bool false, .bool false]):=⟨by kernel_rfl⟩
instance g_code_op:TG P T.ad true:=⟨by kernel_rfl⟩
instance f_code_op_0:TF P T.ad 0 0 9:=⟨by kernel_rfl⟩
instance f_code_op_1:TF P T.ad 1 1 4:=⟨by kernel_rfl⟩
instance f_code_op_2:TF P T.ad 2 2 4:=⟨by kernel_rfl⟩
instance g_A42_code_op:TG P T.af true:=⟨by kernel_rfl⟩
instance a_A42_code_op:TA P T.af 42 225:=⟨by kernel_rfl⟩
instance z_S_code_op:TZ P T.ap 1 24 (.slice none 0 0):=⟨by kernel_rfl⟩
instance g_S_code_op:TG P T.ap false:=⟨by kernel_rfl⟩
instance s_S_code_op:TS P T.ap 225:=⟨by kernel_rfl⟩
instance z_uint32:TZ P T.ay 1 4 (.int .u32 0):=⟨by kernel_rfl⟩
instance g_uint32:TG P T.ay false:=⟨by kernel_rfl⟩
end Go.Proofs.YtjdiakhipmggjaaGreatDoor
