/- Parts of a proof about the given program: its functions as texts of their own, what each computes, plain laws of that. The conditions of each stand in its statement. -/
import Derived.Test.YtjdiakhipmggjaaGreatDoorB1
import Derived.Below
import Derived.Maps.AppendAt
import Derived.ChangeArms
import Derived.DataReads
import Derived.SizedLaws
set_option linter.unnecessarySimpa false
set_option linter.defProp false
set_option linter.unusedSectionVars false
set_option linter.unusedVariables false
set_option linter.unusedSimpArgs false
set_option maxRecDepth 100000
namespace Go.Proofs.YtjdiakhipmggjaaGreatDoor
open Go.Emb
def Iu:V3:=[none,none,none,none,none,none,some ([38],[4,5,6,38,39,40,41,42,43,44,45,46,47,48,49,50,51]),none,none,none,none,none,none,none]
def Ls (a0 a1:Value) (w:World) (K:Value→World→Prop):Prop:= box P T.u a1 w fun e w=>dr w fun b d=>Q6 b (fun φ7=> ∀w,d w→fieldAddr P T.u e 0 w (dk b φ7 w)) fun φ7=>Q6 b (fun φ8=> ∀t7 w,d w→φ7 t7 w→Q2 P T.b t7 w (dk b φ8 w)) fun φ8=>Q6 b (fun φ9=> ∀t8 w,d w→φ8 t8 w→Q1 P F.bK [t8] w (dk b φ9 w)) fun φ9=>Q6 b (fun g=> ∀t9 w,d w→φ9 t9 w→Q3 P .eql T.b (.tmp 9) (.const (.string ⟨#[]⟩)) t9 (.string ⟨#[]⟩) w (dk b g w)) fun g=>Q6 b (fun af=> ∀c w,d w→g c w→Q0 c true w (fun w J=>J a0 w) (dk b af w)) fun af=>Q6 b (fun y=> ∀c q w,d w→g c w→af q w→Q0 c true w (nilCheck P q) (dk b y w)) fun y=>Q6 b (fun ag=> ∀c o w,d w→g c w→y o w→Q0 c true w (fieldAddr P T.r o 0) (dk b ag w)) fun ag=>Q6 b (fun p=> ∀c w,d w→g c w→Q0 c true w (fieldAddr P T.u e 0) (dk b p w)) fun p=>Q6 b (fun Y=> ∀c O w,d w→g c w→ag O w→Q0 c true w (Q2 P T.l O) (dk b Y w)) fun Y=>Q6 b (fun s=> ∀c l w,d w→g c w→p l w→Q0 c true w (Q2 P T.b l) (dk b s w)) fun s=>Q6 b (fun n=> ∀c Z D w,d w→g c w→Y Z w→s D w→Q0 c true w (Q1 P F.av [Z,D]) (dk b n w)) fun n=>Q6 b (fun ah=> ∀c U w,d w→g c w→n U w→Q0 c true w (Z8 P .not U) (dk b ah w)) fun ah=>Q6 b (fun f=> ∀c L w,d w→g c w→ah L w→Q0 c true w (fun w J=>J L w) (dk b f w)) fun f=>Q6 b (fun ad=> ∀a w,d w→f a w→Q0 a false w (fieldAddr P T.u e 1) (dk b ad w)) fun ad=>Q6 b (fun j=> ∀a w,d w→f a w→Q0 a false w (fun w J=>J a0 w) (dk b j w)) fun j=>Q6 b (fun v=> ∀a N w,d w→f a w→j N w→Q0 a false w (nilCheck P N) (dk b v w)) fun v=>Q6 b (fun t=> ∀a ab w,d w→f a w→v ab w→Q0 a false w (fieldAddr P T.r ab 0) (dk b t w)) fun t=>Q6 b (fun W=> ∀a w,d w→f a w→Q0 a false w (fieldAddr P T.u e 0) (dk b W w)) fun W=>Q6 b (fun Q=> ∀a u w,d w→f a w→ad u w→Q0 a false w (Q2 P T.n u) (dk b Q w)) fun Q=>Q6 b (fun am=> ∀a V w,d w→f a w→Q V w→Q0 a false w (X6 P .len [T.n] T.d [false] [V]) (dk b am w)) fun am=>Q6 b (fun m=> ∀a H w,d w→f a w→t H w→Q0 a false w (Q2 P T.l H) (dk b m w)) fun m=>Q6 b (fun E=> ∀a ae w,d w→f a w→W ae w→Q0 a false w (Q2 P T.b ae) (dk b E w)) fun E=>Q6 b (fun aa=> ∀a ac X w,d w→f a w→m ac w→E X w→Q0 a false w (Q1 P F.x [ac,X]) (dk b aa w)) fun aa=>Q6 b (fun al=> ∀a i w,d w→f a w→aa i w→Q0 a false w (X6 P .len [T.h] T.d [false] [i]) (dk b al w)) fun al=>∀t7 t8 t9 c q o O l Z D U L a u N ab H ae V av ac X i az w,d w→φ7 t7 w→φ8 t8 w→φ9 t9 w→g c w→af q w→y o w→ag O w→p l w→Y Z w→s D w→n U w→ah L w→f a w→ad u w→j N w→v ab w→t H w→W ae w→Q V w→am av w→m ac w→E X w→aa i w→al az w→ Q0 a false w (Q3 P .neq T.d (.tmp 23) (.tmp 31) av az) fun bi w=>Q0 c true w (pick P a (.bool true) bi) fun bd w=>pick P c bd (.bool false) w fun bb w=>X1 bb (K (.bool false) w) (fieldAddr P T.u e 1 w fun ba w=>Q2 P T.n ba w fun ax w=>X6 P .len [T.n] T.d [false] [ax] w fun bc w=>lp (α:=Value) (.int .i64 0) w fun R x6 d_ w=>Q3 P .lss T.d (.tmp 38) (.tmp 37) x6 bc w fun bg w=>X1 bg (indexAddr P T.n ax x6 w fun bf w=>Q2 P T.i bf w fun bj w=>W1 P T.i w fun h w=>Z6 P T.i h bj w fun _u w=>dr w fun b d=>Q6 b (fun ak=> ∀w,d w→Q2 P T.i h w (dk b ak w)) fun ak=>Q6 b (fun ai=> ∀w,d w→Q2 P T.u e w (dk b ai w)) fun ai=>Q6 b (fun aj=> ∀k w,d w→ai k w→Q1 P F.au [a0,k,x6] w (dk b aj w)) fun aj=>∀ap k aw w,d w→ak ap w→ai k w→aj aw w→ Q1 P F.ar [a0,ap,aw] w fun bk w=>Z8 P .not bk w fun a9 w=>X1 a9 (K (.bool false) w) (Q3 P .add T.d (.tmp 38) (.const (.int .i64 1)) x6 (.int .i64 1) w fun bh w=>R bh w)) (dr w fun b d=>Q6 b (fun r=> ∀w,d w→nilCheck P a0 w (dk b r w)) fun r=>Q6 b (fun A=> ∀z w,d w→r z w→fieldAddr P T.r z 0 w (dk b A w)) fun A=>Q6 b (fun M=> ∀w,d w→fieldAddr P T.u e 0 w (dk b M w)) fun M=>Q6 b (fun ao=> ∀C w,d w→A C w→Q2 P T.l C w (dk b ao w)) fun ao=>Q6 b (fun an=> ∀B w,d w→M B w→Q2 P T.b B w (dk b an w)) fun an=>∀z C B ar aq w,d w→r z w→A C w→M B w→ao ar w→an aq w→ Q1 P F.q [ar,aq] w fun be w=>K be w))
theorem Iv {a b:Value} {w:World} {K:Value→World→Prop} (h:Ls a b w K):Q1 P F.bp [a,b] w K:=Q8 Iu Tryz.func55 rfl (by decide) (by kernel_rfl) h
def Up (b f:Value) (w:World) (K:Value→World→Prop):Prop:= box P T.u b w fun a w=>Q2 P T.a1 f w fun e w=>Q2 P T.u a w fun c w=>Q1 P F.bp [e,c] w fun d w=>Z8 P .not d w fun g w=>K g w
theorem Sa {a b:Value} {w:World} {K:Value→World→Prop} (h:Up a b w K):Q1 P F.c7 [a,b] w K:=Q8 (List.replicate 2 none) Tryz.func54 rfl (by decide) (by kernel_rfl) h
def Mh (b:Value) (w:World) (K:Value→World→Prop):Prop:= box P T.a1 b w fun a w=>Q2 P T.a1 a w fun f w=>nilCheck P f w fun g w=>fieldAddr P T.r g 3 w fun c w=>Q2 P T.k c w fun e w=>N0 P (.func F.c7) [] [a] w fun i w=>Q1 P F.m [e,i] w fun d w=>Z8 P .not d w fun h w=>K h w
theorem Ir {a:Value} {w:World} {K:Value→World→Prop} (h:Mh a w K):Q1 P F.aD [a] w K:=Q8 (List.replicate 2 none) Tryz.func23 rfl (by decide) (by kernel_rfl) h
def Q1s (g d:Value) (w:World) (K:Value→World→Prop):Prop:= Q3 P .lss T.d (.tmp 6) (.const (.int .i64 0)) d (.int .i64 0) w fun f w=>Q0 f false w (fun w J=>J d w) fun h w=>Q0 f false w (Q3 P .gtr T.d (.tmp 9) (.const (.int .i64 1048576)) h (.int .i64 1048576)) fun a w=>pick P f (.bool true) a w fun b w=>X1 b (K (.tuple #[(.pointer none),(.int .i64 90)]) w) (N8 P T.r [(0,g),(1,d)] w fun c w=>box P T.r c w fun e w=>K (.tuple #[e,(.int .i64 0)]) w)
theorem Q6d {a b:Value} {w:World} {K:Value→World→Prop} (h:Q1s a b w K):Q1 P F.ci [a,b] w K:=Q8 (List.replicate 5 none) Tryz.func15 rfl (by decide) (by kernel_rfl) h
def Cq:V3:=[none,none,none,none,none,some ([1,3],[1,3,10,11,12,13,14,15,16,17,18,19,20,21,22,23]),none,none,none,none]
def Wr (w:World) (K:Value→World→Prop):Prop:= N8 P T.a [(0,(.string ⟨#[79,98,106,101,99,116]⟩))] w fun p w=>N8 P T.j [(0,(.string ⟨#[119,104,97,116]⟩)),(1,(.string ⟨#[116,101,120,116]⟩))] w fun o w=>buildSlice P T.h 1 [(0,o)] w fun m w=>N8 P T.a [(0,(.string ⟨#[70,97,117,108,116]⟩)),(1,(.string ⟨#[79,98,106,101,99,116]⟩)),(6,m)] w fun n w=>buildSlice P T.g 2 [(0,p),(1,n)] w fun l w=>buildSlice P T.e 6 [(0,(.string ⟨#[78,117,108,108,70,97,117,108,116]⟩)),(1,(.string ⟨#[73,110,100,101,120,70,97,117,108,116]⟩)),(2,(.string ⟨#[67,97,115,116,70,97,117,108,116]⟩)),(3,(.string ⟨#[90,101,114,111,70,97,117,108,116]⟩)),(4,(.string ⟨#[82,111,111,109,70,97,117,108,116]⟩)),(5,(.string ⟨#[67,97,108,108,70,97,117,108,116]⟩))] w fun k w=>lp (α:=Value×Value) (l,(.int .i64 0)) w fun a b q w=>X6 P .len [T.e] T.d [false] [k] w fun e w=>Q3 P .lss T.d (.tmp 10) (.tmp 12) b.2 e w fun c w=>X1 c (indexAddr P T.e k b.2 w fun d w=>Q2 P T.b d w fun h w=>N8 P T.a [(0,h),(1,(.string ⟨#[70,97,117,108,116]⟩)),(5,(.bool true))] w fun j w=>buildSlice P T.g 1 [(0,j)] w fun g w=>X6 P .append [T.g,T.g] T.g [false,false] [b.1,g] w fun f w=>Q3 P .add T.d (.tmp 14) (.const (.int .i64 1)) b.2 (.int .i64 1) w fun i w=>a (f,i) w) (K b.1 w)
theorem Fe {w:World} {K:Value→World→Prop} (h:Wr w K):Q1 P F.bb [] w K:=Q8 Cq Tryz.func99 rfl (by decide) (by kernel_rfl) h
def Ik:V3:=[none,none,none,some ([3],[2,3,4,5,6,7,8,9,10,11,12,13,14,15,16,17,18,19,20,21,22,23,24,25,26,27,28,29,30,31,32,33,34,35,36,37]),none,none,none,none,none,none,none]
def Mc (Y:Value) (w:World) (K:Value→World→Prop):Prop:= box P T.a Y w fun a w=>lp (α:=Value) (.int .i64 0) w fun h N d_ w=>fieldAddr P T.a a 7 w fun t6 w=>Q2 P T.f t6 w fun t7 w=>X6 P .len [T.f] T.d [false] [t7] w fun Z w=>Q3 P .lss T.d (.tmp 5) (.tmp 8) N Z w fun t9 w=>X1 t9 (fieldAddr P T.a a 7 w fun t w=>Q2 P T.f t w fun q w=>indexAddr P T.f q N w fun M w=>Q2 P T.c M w fun o w=>W1 P T.c w fun b w=>Z6 P T.c b o w fun _u w=>fieldAddr P T.c b 1 w fun n w=>Q2 P T.e n w fun A w=>X6 P .len [T.e] T.d [false] [A] w fun s w=>Q3 P .gtr T.d (.tmp 19) (.const (.int .i64 32)) s (.int .i64 32) w fun e w=>Q0 e false w (fieldAddr P T.c b 6) fun B w=>Q0 e false w (Q2 P T.o B) fun y w=>Q0 e false w (X6 P .len [T.o] T.d [false] [y]) fun u w=>Q0 e false w (Q3 P .gtr T.d (.tmp 24) (.const (.int .i64 32)) u (.int .i64 32)) fun X w=>pick P e (.bool true) X w fun c w=>Q0 c false w (fieldAddr P T.c b 5) fun R w=>Q0 c false w (Q2 P T.m R) fun D w=>Q0 c false w (X6 P .len [T.m] T.d [false] [D]) fun k w=>Q0 c false w (Q3 P .gtr T.d (.tmp 30) (.const (.int .i64 200)) k (.int .i64 200)) fun E w=>pick P c (.bool true) E w fun g w=>Q0 g false w (fieldAddr P T.c b 4) fun z w=>Q0 g false w (Q2 P T.d z) fun r w=>Q0 g false w (Q3 P .gtr T.d (.tmp 35) (.const (.int .i64 64)) r (.int .i64 64)) fun p w=>pick P g (.bool true) p w fun C w=>X1 C (K (.bool true) w) (Q3 P .add T.d (.tmp 10) (.const (.int .i64 1)) N (.int .i64 1) w fun W w=>h W w)) (fieldAddr P T.a a 2 w fun Q w=>Q2 P T.e Q w fun U w=>X6 P .len [T.e] T.d [false] [U] w fun L w=>Q3 P .gtr T.d (.tmp 40) (.const (.int .i64 32)) L (.int .i64 32) w fun f w=>Q0 f false w (fieldAddr P T.a a 6) fun H w=>Q0 f false w (Q2 P T.h H) fun m w=>Q0 f false w (X6 P .len [T.h] T.d [false] [m]) fun v w=>Q0 f false w (Q3 P .gtr T.d (.tmp 45) (.const (.int .i64 32)) v (.int .i64 32)) fun l w=>pick P f (.bool true) l w fun d w=>Q0 d false w (fieldAddr P T.a a 7) fun O w=>Q0 d false w (Q2 P T.f O) fun i w=>Q0 d false w (X6 P .len [T.f] T.d [false] [i]) fun V w=>Q0 d false w (Q3 P .gtr T.d (.tmp 51) (.const (.int .i64 32)) V (.int .i64 32)) fun J w=>pick P d (.bool true) J w fun j w=>K j w)
theorem Ip {a:Value} {w:World} {K:Value→World→Prop} (h:Mc a w K):Q1 P F.bu [a] w K:=Q8 Ik Tryz.func147 rfl (by decide) (by kernel_rfl) h
def Ih:V3:=[none,none,none,some ([0,3],[0,3,4,5,6,7,8,9,10,11,12,13,14,15,16,17,18,19,20,21]),none,none,none,none]
def Lm (m:Value) (w:World) (K:Value→World→Prop):Prop:= lp (α:=Value×Value) (m,(.int .i64 0)) w fun a c q w=>X6 P .len [T.b] T.d [false] [c.1] w fun p w=>Q3 P .geq T.d (.tmp 5) (.const (.int .i64 2)) p (.int .i64 2) w fun b w=>Q0 b true w (fun w J=>J c.1 w) fun n w=>Q0 b true w (fun w J=>J c.1 w) fun o w=>Q0 b true w (X6 P .len [T.b] T.d [false] [o]) fun j w=>Q0 b true w (Q3 P .sub T.d (.tmp 10) (.const (.int .i64 2)) j (.int .i64 2)) fun l w=>Q0 b true w (R6 P T.b n (some l) none none) fun g w=>Q0 b true w (Q3 P .eql T.b (.tmp 12) (.const (.string ⟨#[91,93]⟩)) g (.string ⟨#[91,93]⟩)) fun e w=>pick P b e (.bool false) w fun h w=>X1 h (Q3 P .add T.d (.tmp 15) (.const (.int .i64 1)) c.2 (.int .i64 1) w fun d w=>X6 P .len [T.b] T.d [false] [c.1] w fun f w=>Q3 P .sub T.d (.tmp 19) (.const (.int .i64 2)) f (.int .i64 2) w fun i w=>R6 P T.b c.1 none (some i) none w fun k w=>a (k,d) w) (K c.2 w)
theorem Gr {a:Value} {w:World} {K:Value→World→Prop} (h:Lm a w K):Q1 P F.aj [a] w K:=Q8 Ih Tryz.func107 rfl (by decide) (by kernel_rfl) h
def Fb:V3:=[none,none,none,some ([4],[4,5,6,7]),none,none,none,none]
def Ws (a:Value) (w:World) (K:Value→World→Prop):Prop:= jn (α:=Value) w (fun b w=>Q3 P .eql T.b (.tmp 3) (.const (.string ⟨#[105,110,116]⟩)) a (.string ⟨#[105,110,116]⟩) w fun c w=>X1 c (b c w) (Q3 P .eql T.b (.tmp 3) (.const (.string ⟨#[98,111,111,108]⟩)) a (.string ⟨#[98,111,111,108]⟩) w fun d w=>X1 d (b d w) (Q3 P .eql T.b (.tmp 3) (.const (.string ⟨#[116,101,120,116]⟩)) a (.string ⟨#[116,101,120,116]⟩) w fun f w=>b f w))) fun e g w=>X1 e (K (.bool true) w) (K (.bool false) w)
theorem Ft {a:Value} {w:World} {K:Value→World→Prop} (h:Ws a w K):Q1 P F.ad [a] w K:=Q8 Fb Tryz.func111 rfl (by decide) (by kernel_rfl) h
def Iy:V3:=[none,none,none,some ([3],[2,3,4,5,6,7,8,9,10,11,12,13,14,15,16,17,18,19,20,21,22,23,24,25,26,27,28,29,30,31,32,33,34,35,36,37,38,39,40,41,42,43,44,45,46,47,48,49,50]),none,none,none,none,none,none,none]
def Lo (h:Value) (w:World) (K:Value→World→Prop):Prop:= lp (α:=Value) (.int .i64 0) w fun j i d_ w=>X6 P .len [T.b] T.d [false] [h] w fun t7 w=>Q3 P .lss T.d (.tmp 5) (.tmp 7) i t7 w fun t8 w=>X1 t8 (D7 P T.b h i w fun v w=>Q3 P .geq T.a0 (.tmp 13) (.const (.int .u8 97)) v (.int .u8 97) w fun e w=>Q0 e true w (fun w J=>J h w) fun r w=>Q0 e true w (fun w J=>J i w) fun q w=>Q0 e true w (D7 P T.b r q) fun D w=>Q0 e true w (Q3 P .leq T.a0 (.tmp 18) (.const (.int .u8 122)) D (.int .u8 122)) fun y w=>pick P e y (.bool false) w fun b w=>Q0 b false w (fun w J=>J h w) fun E w=>Q0 b false w (fun w J=>J i w) fun C w=>Q0 b false w (D7 P T.b E C) fun z w=>Q0 b false w (Q3 P .geq T.a0 (.tmp 24) (.const (.int .u8 65)) z (.int .u8 65)) fun ab w=>Q0 b false w (fun w J=>J ab w) fun d w=>Q0 d true w (fun w J=>J h w) fun W w=>Q0 d true w (fun w J=>J i w) fun Z w=>Q0 d true w (D7 P T.b W Z) fun M w=>Q0 d true w (Q3 P .leq T.a0 (.tmp 29) (.const (.int .u8 90)) M (.int .u8 90)) fun l w=>Q0 b false w (pick P d l (.bool false)) fun N w=>pick P b (.bool true) N w fun m w=>Z8 P .not m w fun a w=>Q0 a true w (fun w J=>J i w) fun u w=>Q0 a true w (Q3 P .eql T.d (.tmp 36) (.const (.int .i64 0)) u (.int .i64 0)) fun L w=>Q0 a true w (fun w J=>J L w) fun f w=>Q0 f false w (fun w J=>J h w) fun aa w=>Q0 f false w (fun w J=>J i w) fun R w=>Q0 f false w (D7 P T.b aa R) fun Y w=>Q0 f false w (Q3 P .lss T.a0 (.tmp 41) (.const (.int .u8 48)) Y (.int .u8 48)) fun n w=>Q0 a true w (pick P f (.bool true) n) fun O w=>Q0 a true w (fun w J=>J O w) fun c w=>Q0 c false w (fun w J=>J h w) fun A w=>Q0 c false w (fun w J=>J i w) fun p w=>Q0 c false w (D7 P T.b A p) fun H w=>Q0 c false w (Q3 P .gtr T.a0 (.tmp 47) (.const (.int .u8 57)) H (.int .u8 57)) fun t w=>Q0 a true w (pick P c (.bool true) t) fun V w=>pick P a V (.bool false) w fun k w=>X1 k (K (.bool false) w) (Q3 P .add T.d (.tmp 9) (.const (.int .i64 1)) i (.int .i64 1) w fun U w=>j U w)) (X6 P .len [T.b] T.d [false] [h] w fun Q w=>Q3 P .geq T.d (.tmp 52) (.const (.int .i64 1)) Q (.int .i64 1) w fun g w=>Q0 g true w (fun w J=>J h w) fun B w=>Q0 g true w (X6 P .len [T.b] T.d [false] [B]) fun o w=>Q0 g true w (Q3 P .leq T.d (.tmp 56) (.const (.int .i64 32)) o (.int .i64 32)) fun s w=>pick P g s (.bool false) w fun X w=>K X w)
theorem Kc {a:Value} {w:World} {K:Value→World→Prop} (h:Lo a w K):Q1 P F.aK [a] w K:=Q8 Iy Tryz.func190 rfl (by decide) (by kernel_rfl) h
def Vk (b:Value) (w:World) (K:Value→World→Prop):Prop:= Q1 P F.aK [b] w fun a w=>Q0 a true w (fun w J=>J b w) fun d w=>Q0 a true w (D7 P T.b d (.int .i64 0)) fun f w=>Q0 a true w (Q3 P .leq T.a0 (.tmp 7) (.const (.int .u8 90)) f (.int .u8 90)) fun c w=>pick P a c (.bool false) w fun e w=>K e w
theorem Cp {a:Value} {w:World} {K:Value→World→Prop} (h:Vk a w K):Q1 P F.d [a] w K:=Q8 (List.replicate 2 none) Tryz.func160 rfl (by decide) (by kernel_rfl) h
def Lf (e:Value) (w:World) (K:Value→World→Prop):Prop:= Q1 P F.aj [e] w fun m w=>X6 P .len [T.b] T.d [false] [e] w fun n w=>Q3 P .mul T.d (.const (.int .i64 2)) (.tmp 10) (.int .i64 2) m w fun i w=>Q3 P .sub T.d (.tmp 9) (.tmp 11) n i w fun f w=>R6 P T.b e none (some f) none w fun c w=>Q3 P .leq T.d (.tmp 14) (.const (.int .i64 3)) m (.int .i64 3) w fun a w=>Q0 a true w (fun w J=>J c w) fun h w=>Q0 a true w (Q1 P F.ad [h]) fun l w=>Q0 a true w (fun w J=>J l w) fun b w=>Q0 b false w (fun w J=>J c w) fun g w=>Q0 b false w (Q1 P F.d [g]) fun k w=>Q0 a true w (pick P b (.bool true) k) fun d w=>pick P a d (.bool false) w fun j w=>K j w
theorem Fy {a:Value} {w:World} {K:Value→World→Prop} (h:Lf a w K):Q1 P F.h [a] w K:=Q8 (List.replicate 4 none) Tryz.func118 rfl (by decide) (by kernel_rfl) h
def Uv (b:Value) (w:World) (K:Value→World→Prop):Prop:= Q1 P F.aK [b] w fun a w=>Q0 a true w (fun w J=>J b w) fun d w=>Q0 a true w (D7 P T.b d (.int .i64 0)) fun f w=>Q0 a true w (Q3 P .geq T.a0 (.tmp 7) (.const (.int .u8 97)) f (.int .u8 97)) fun c w=>pick P a c (.bool false) w fun e w=>K e w
theorem Su {a:Value} {w:World} {K:Value→World→Prop} (h:Uv a w K):Q1 P F.s [a] w K:=Q8 (List.replicate 2 none) Tryz.func181 rfl (by decide) (by kernel_rfl) h
def Wk (d l:Value) (w:World) (K:Value→World→Prop):Prop:= X6 P .len [T.b] T.d [false] [d] w fun n w=>Q3 P .lss T.d (.tmp 5) (.tmp 7) l n w fun b w=>Q0 b true w (fun w J=>J d w) fun h w=>Q0 b true w (fun w J=>J l w) fun i w=>Q0 b true w (D7 P T.b h i) fun f w=>Q0 b true w (Q3 P .geq T.a0 (.tmp 12) (.const (.int .u8 128)) f (.int .u8 128)) fun c w=>pick P b c (.bool false) w fun a w=>Q0 a true w (fun w J=>J d w) fun j w=>Q0 a true w (fun w J=>J l w) fun k w=>Q0 a true w (D7 P T.b j k) fun m w=>Q0 a true w (Q3 P .lss T.a0 (.tmp 18) (.const (.int .u8 192)) m (.int .u8 192)) fun e w=>pick P a e (.bool false) w fun g w=>K g w
theorem Fo {a b:Value} {w:World} {K:Value→World→Prop} (h:Wk a b w K):Q1 P F.p [a,b] w K:=Q8 (List.replicate 2 none) Tryz.func154 rfl (by decide) (by kernel_rfl) h
def Ia:V3:=[none,none,some ([],[2,4,5,9,10,11,12,13,14,15,16,17,18,19,20,21,22,23,24,25,26,27,28,29,30,31,32,33,34,35,36,37,38,39,40,41,42,43,44,45,46,47,48,49,50,51,52,53,54,55,56,57,58,59,60,61,62,63,64,65,66,67,68,69,70,71,72,73,74,75,76,77,78,79,80,81,82,83,84,85,86,87,88,89,90,91,92,93,94,95,96,97,98,99,100,101,102,103,104,105,106]),none,none,none,none,none,none,none,none,none,none,none,none,none]
def Me (c:Value) (w:World) (K:Value→World→Prop):Prop:= D7 P T.b c (.int .i64 0) w fun t7 w=>conv P T.a0 T.d t7 w fun M w=>jn (α:=Unit) w (fun J2 w=>Q3 P .lss T.d (.tmp 10) (.const (.int .i64 128)) M (.int .i64 128) w fun b0 w=>X1 b0 (K (.int .i64 1) w) (Q3 P .geq T.d (.tmp 13) (.const (.int .i64 194)) M (.int .i64 194) w fun an w=>Q0 an true w (fun w J=>J M w) fun a9 w=>Q0 an true w (Q3 P .lss T.d (.tmp 16) (.const (.int .i64 224)) a9 (.int .i64 224)) fun bn w=>pick P an bn (.bool false) w fun ao w=>Q0 ao true w (fun w J=>J c w) fun bg w=>Q0 ao true w (Q1 P F.p [bg,(.int .i64 1)]) fun bh w=>pick P ao bh (.bool false) w fun bs w=>X1 bs (K (.int .i64 2) w) (Q3 P .geq T.d (.tmp 24) (.const (.int .i64 224)) M (.int .i64 224) w fun ax w=>Q0 ax true w (fun w J=>J M w) fun bw w=>Q0 ax true w (Q3 P .lss T.d (.tmp 27) (.const (.int .i64 240)) bw (.int .i64 240)) fun bz w=>pick P ax bz (.bool false) w fun aq w=>Q0 aq true w (fun w J=>J c w) fun bu w=>Q0 aq true w (Q1 P F.p [bu,(.int .i64 1)]) fun bj w=>pick P aq bj (.bool false) w fun al w=>Q0 al true w (fun w J=>J c w) fun bb w=>Q0 al true w (Q1 P F.p [bb,(.int .i64 2)]) fun bo w=>pick P al bo (.bool false) w fun bf w=>X1 bf (dr w fun a b=>Q6 a (fun X=> ∀w,b w→Q3 P .rem T.d (.tmp 38) (.const (.int .i64 16)) M (.int .i64 16) w (dk a X w)) fun X=>Q6 a (fun h=> ∀A w,b w→X A w→Q3 P .mul T.d (.tmp 39) (.const (.int .i64 4096)) A (.int .i64 4096) w (dk a h w)) fun h=>Q6 a (fun p=> ∀w,b w→D7 P T.b c (.int .i64 1) w (dk a p w)) fun p=>Q6 a (fun B=> ∀D w,b w→p D w→Q3 P .rem T.a0 (.tmp 42) (.const (.int .u8 64)) D (.int .u8 64) w (dk a B w)) fun B=>Q6 a (fun l=> ∀w,b w→D7 P T.b c (.int .i64 2) w (dk a l w)) fun l=>Q6 a (fun z=> ∀L w,b w→l L w→Q3 P .rem T.a0 (.tmp 48) (.const (.int .u8 64)) L (.int .u8 64) w (dk a z w)) fun z=>Q6 a (fun o=> ∀Y w,b w→B Y w→conv P T.a0 T.d Y w (dk a o w)) fun o=>Q6 a (fun N=> ∀i w,b w→o i w→Q3 P .mul T.d (.tmp 44) (.const (.int .i64 64)) i (.int .i64 64) w (dk a N w)) fun N=>Q6 a (fun ay=> ∀ab Q w,b w→h ab w→N Q w→Q3 P .add T.d (.tmp 40) (.tmp 45) ab Q w (dk a ay w)) fun ay=>Q6 a (fun ak=> ∀ac w,b w→z ac w→conv P T.a0 T.d ac w (dk a ak w)) fun ak=>∀A ab D Y L ac i Q a2 az w,b w→X A w→h ab w→p D w→B Y w→l L w→z ac w→o i w→N Q w→ay a2 w→ak az w→ Q3 P .add T.d (.tmp 46) (.tmp 50) a2 az w fun am w=>Q3 P .geq T.d (.tmp 52) (.const (.int .i64 2048)) am (.int .i64 2048) w fun e w=>Q0 e true w (fun w J=>J am w) fun bd w=>Q0 e true w (Q3 P .lss T.d (.tmp 55) (.const (.int .i64 55296)) bd (.int .i64 55296)) fun bl w=>Q0 e true w (fun w J=>J bl w) fun ah w=>Q0 ah false w (fun w J=>J am w) fun bi w=>Q0 ah false w (Q3 P .gtr T.d (.tmp 58) (.const (.int .i64 57343)) bi (.int .i64 57343)) fun br w=>Q0 e true w (pick P ah (.bool true) br) fun bc w=>pick P e bc (.bool false) w fun a7 w=>X1 a7 (K (.int .i64 3) w) (J2 () w)) (Q3 P .geq T.d (.tmp 63) (.const (.int .i64 240)) M (.int .i64 240) w fun aw w=>Q0 aw true w (fun w J=>J M w) fun a8 w=>Q0 aw true w (Q3 P .lss T.d (.tmp 66) (.const (.int .i64 245)) a8 (.int .i64 245)) fun ba w=>pick P aw ba (.bool false) w fun ar w=>Q0 ar true w (fun w J=>J c w) fun bq w=>Q0 ar true w (Q1 P F.p [bq,(.int .i64 1)]) fun bm w=>pick P ar bm (.bool false) w fun ap w=>Q0 ap true w (fun w J=>J c w) fun be w=>Q0 ap true w (Q1 P F.p [be,(.int .i64 2)]) fun b1 w=>pick P ap b1 (.bool false) w fun av w=>Q0 av true w (fun w J=>J c w) fun bv w=>Q0 av true w (Q1 P F.p [bv,(.int .i64 3)]) fun bp w=>pick P av bp (.bool false) w fun bk w=>X1 bk (dr w fun a b=>Q6 a (fun V=> ∀w,b w→Q3 P .rem T.d (.tmp 81) (.const (.int .i64 8)) M (.int .i64 8) w (dk a V w)) fun V=>Q6 a (fun H=> ∀R w,b w→V R w→Q3 P .mul T.d (.tmp 82) (.const (.int .i64 262144)) R (.int .i64 262144) w (dk a H w)) fun H=>Q6 a (fun Z=> ∀w,b w→D7 P T.b c (.int .i64 1) w (dk a Z w)) fun Z=>Q6 a (fun g=> ∀y w,b w→Z y w→Q3 P .rem T.a0 (.tmp 85) (.const (.int .u8 64)) y (.int .u8 64) w (dk a g w)) fun g=>Q6 a (fun af=> ∀w,b w→D7 P T.b c (.int .i64 2) w (dk a af w)) fun af=>Q6 a (fun f=> ∀u w,b w→af u w→Q3 P .rem T.a0 (.tmp 91) (.const (.int .u8 64)) u (.int .u8 64) w (dk a f w)) fun f=>Q6 a (fun t=> ∀w,b w→D7 P T.b c (.int .i64 3) w (dk a t w)) fun t=>Q6 a (fun E=> ∀q w,b w→t q w→Q3 P .rem T.a0 (.tmp 97) (.const (.int .u8 64)) q (.int .u8 64) w (dk a E w)) fun E=>Q6 a (fun v=> ∀W w,b w→g W w→conv P T.a0 T.d W w (dk a v w)) fun v=>Q6 a (fun aa=> ∀n w,b w→v n w→Q3 P .mul T.d (.tmp 87) (.const (.int .i64 4096)) n (.int .i64 4096) w (dk a aa w)) fun aa=>Q6 a (fun j=> ∀O r w,b w→H O w→aa r w→Q3 P .add T.d (.tmp 83) (.tmp 88) O r w (dk a j w)) fun j=>Q6 a (fun m=> ∀U w,b w→f U w→conv P T.a0 T.d U w (dk a m w)) fun m=>Q6 a (fun s=> ∀ae w,b w→m ae w→Q3 P .mul T.d (.tmp 93) (.const (.int .i64 64)) ae (.int .i64 64) w (dk a s w)) fun s=>Q6 a (fun aj=> ∀C k w,b w→j C w→s k w→Q3 P .add T.d (.tmp 89) (.tmp 94) C k w (dk a aj w)) fun aj=>Q6 a (fun ai=> ∀ad w,b w→E ad w→conv P T.a0 T.d ad w (dk a ai w)) fun ai=>∀R O y W u U q ad n r C ae k a1 a4 w,b w→V R w→H O w→Z y w→g W w→af u w→f U w→t q w→E ad w→v n w→aa r w→j C w→m ae w→s k w→aj a1 w→ai a4 w→ Q3 P .add T.d (.tmp 95) (.tmp 99) a1 a4 w fun ag w=>Q3 P .geq T.d (.tmp 101) (.const (.int .i64 65536)) ag (.int .i64 65536) w fun d w=>Q0 d true w (fun w J=>J ag w) fun a3 w=>Q0 d true w (Q3 P .leq T.d (.tmp 104) (.const (.int .i64 1114111)) a3 (.int .i64 1114111)) fun a5 w=>pick P d a5 (.bool false) w fun a6 w=>X1 a6 (K (.int .i64 4) w) (J2 () w)) (J2 () w))))) fun z2 d_ w=>K (.int .i64 0) w
theorem Ib {a:Value} {w:World} {K:Value→World→Prop} (h:Me a w K):Q1 P F.br [a] w K:=Q8 Ia Tryz.func113 rfl (by decide) (by kernel_rfl) h
def Fj:V3:=[none,none,some ([0],[0,2,3,4,5,6,7,8,9,10,11,12]),none,none,none,none,none,none,none]
def Vw (f:Value) (w:World) (K:Value→World→Prop):Prop:= lp (α:=Value) f w fun a b h w=>Q3 P .neq T.b (.tmp 4) (.const (.string ⟨#[]⟩)) b (.string ⟨#[]⟩) w fun e w=>X1 e (Q1 P F.br [b] w fun d w=>Q3 P .eql T.d (.tmp 8) (.const (.int .i64 0)) d (.int .i64 0) w fun g w=>X1 g (K (.bool false) w) (R6 P T.b b (some d) none none w fun c w=>a c w)) (K (.bool true) w)
theorem Cy {a:Value} {w:World} {K:Value→World→Prop} (h:Vw a w K):Q1 P F.b9 [a] w K:=Q8 Fj Tryz.func65 rfl (by decide) (by kernel_rfl) h
def Nr (w:World) (K:Value→World→Prop):Prop:= buildSlice P T.e 42 [(0,(.string ⟨#[105,110,116]⟩)),(1,(.string ⟨#[116,114,117,101]⟩)),(2,(.string ⟨#[102,97,108,115,101]⟩)),(3,(.string ⟨#[119,111,114,100]⟩)),(4,(.string ⟨#[110,117,108,108]⟩)),(5,(.string ⟨#[108,111,97,100]⟩)),(6,(.string ⟨#[115,116,111,114,101]⟩)),(7,(.string ⟨#[112,111,112]⟩)),(8,(.string ⟨#[100,117,112]⟩)),(9,(.string ⟨#[115,119,97,112]⟩)),(10,(.string ⟨#[97,100,100]⟩)),(11,(.string ⟨#[115,117,98]⟩)),(12,(.string ⟨#[109,117,108]⟩)),(13,(.string ⟨#[100,105,118]⟩)),(14,(.string ⟨#[114,101,109]⟩)),(15,(.string ⟨#[110,101,103]⟩)),(16,(.string ⟨#[108,101,115,115]⟩)),(17,(.string ⟨#[115,97,109,101]⟩)),(18,(.string ⟨#[110,111,116]⟩)),(19,(.string ⟨#[98,111,116,104]⟩)),(20,(.string ⟨#[106,111,105,110]⟩)),(21,(.string ⟨#[115,105,122,101]⟩)),(22,(.string ⟨#[106,117,109,112]⟩)),(23,(.string ⟨#[98,114,97,110,99,104]⟩)),(24,(.string ⟨#[110,101,119]⟩)),(25,(.string ⟨#[103,101,116]⟩)),(26,(.string ⟨#[112,117,116]⟩)),(27,(.string ⟨#[99,97,108,108]⟩)),(28,(.string ⟨#[97,114,114,97,121]⟩)),(29,(.string ⟨#[97,116]⟩)),(30,(.string ⟨#[115,101,116]⟩)),(31,(.string ⟨#[105,115]⟩)),(32,(.string ⟨#[99,97,115,116]⟩)),(33,(.string ⟨#[114,101,116,117,114,110]⟩)),(34,(.string ⟨#[116,104,114,111,119]⟩)),(35,(.string ⟨#[111,117,116]⟩)),(36,(.string ⟨#[101,113,117,97,108]⟩)),(37,(.string ⟨#[97,110,100]⟩)),(38,(.string ⟨#[111,114]⟩)),(39,(.string ⟨#[120,111,114]⟩)),(40,(.string ⟨#[115,104,108]⟩)),(41,(.string ⟨#[115,104,114]⟩))] w fun a w=>K a w
theorem Pl {w:World} {K:Value→World→Prop} (h:Nr w K):Q1 P F.bC [] w K:=Q8 (List.replicate 2 none) Tryz.func233 rfl (by decide) (by kernel_rfl) h
def Sj:V3:=[none,none,none,none,some ([4],[2,4,6,7,8,9,10,11,12,13,14,15,16,17,18]),none,none,none,none,none,none]
def Vh (h:Value) (w:World) (K:Value→World→Prop):Prop:= Q1 P F.bC [] w fun g w=>lp (α:=Value) (.int .i64 0) w fun a b k w=>X6 P .len [T.e] T.d [false] [g] w fun i w=>Q3 P .lss T.d (.tmp 6) (.tmp 8) b i w fun j w=>X1 j (indexAddr P T.e g b w fun d w=>Q2 P T.b d w fun e w=>Q3 P .eql T.b (.tmp 15) (.tmp 16) e h w fun c w=>X1 c (K b w) (Q3 P .add T.d (.tmp 10) (.const (.int .i64 1)) b (.int .i64 1) w fun f w=>a f w)) (K (.int .i64 (-1)) w)
theorem Cd {a:Value} {w:World} {K:Value→World→Prop} (h:Vh a w K):Q1 P F.b1 [a] w K:=Q8 Sj Tryz.func230 rfl (by decide) (by kernel_rfl) h
def Bv:V3:=[none,none,none,some ([4],[4,5,6,7,8,9]),none,none,none,none,none,some ([10],[10,11,12,13,14,15,16,17,18]),none,none,none,none,none,none,none,none,none,none,none,none]
def Lg (a:Value) (w:World) (K:Value→World→Prop):Prop:= jn (α:=Value) w (fun h w=>Q3 P .eql T.b (.tmp 3) (.const (.string ⟨#[105,110,116]⟩)) a (.string ⟨#[105,110,116]⟩) w fun q w=>X1 q (h q w) (Q3 P .eql T.b (.tmp 3) (.const (.string ⟨#[108,111,97,100]⟩)) a (.string ⟨#[108,111,97,100]⟩) w fun o w=>X1 o (h o w) (Q3 P .eql T.b (.tmp 3) (.const (.string ⟨#[115,116,111,114,101]⟩)) a (.string ⟨#[115,116,111,114,101]⟩) w fun p w=>X1 p (h p w) (Q3 P .eql T.b (.tmp 3) (.const (.string ⟨#[106,117,109,112]⟩)) a (.string ⟨#[106,117,109,112]⟩) w fun n w=>X1 n (h n w) (Q3 P .eql T.b (.tmp 3) (.const (.string ⟨#[98,114,97,110,99,104]⟩)) a (.string ⟨#[98,114,97,110,99,104]⟩) w fun t w=>h t w))))) fun r s w=>X1 r (K (.int .i64 1) w) (jn (α:=Value) w (fun b w=>Q3 P .eql T.b (.tmp 3) (.const (.string ⟨#[119,111,114,100]⟩)) a (.string ⟨#[119,111,114,100]⟩) w fun j w=>X1 j (b j w) (Q3 P .eql T.b (.tmp 3) (.const (.string ⟨#[110,101,119]⟩)) a (.string ⟨#[110,101,119]⟩) w fun f w=>X1 f (b f w) (Q3 P .eql T.b (.tmp 3) (.const (.string ⟨#[103,101,116]⟩)) a (.string ⟨#[103,101,116]⟩) w fun e w=>X1 e (b e w) (Q3 P .eql T.b (.tmp 3) (.const (.string ⟨#[112,117,116]⟩)) a (.string ⟨#[112,117,116]⟩) w fun g w=>X1 g (b g w) (Q3 P .eql T.b (.tmp 3) (.const (.string ⟨#[99,97,108,108]⟩)) a (.string ⟨#[99,97,108,108]⟩) w fun i w=>X1 i (b i w) (Q3 P .eql T.b (.tmp 3) (.const (.string ⟨#[97,114,114,97,121]⟩)) a (.string ⟨#[97,114,114,97,121]⟩) w fun d w=>X1 d (b d w) (Q3 P .eql T.b (.tmp 3) (.const (.string ⟨#[105,115]⟩)) a (.string ⟨#[105,115]⟩) w fun c w=>X1 c (b c w) (Q3 P .eql T.b (.tmp 3) (.const (.string ⟨#[99,97,115,116]⟩)) a (.string ⟨#[99,97,115,116]⟩) w fun k w=>b k w)))))))) fun u s w=>X1 u (K (.int .i64 2) w) (Q1 P F.b1 [a] w fun l w=>Q3 P .lss T.d (.tmp 20) (.const (.int .i64 0)) l (.int .i64 0) w fun m w=>X1 m (K (.int .i64 (-1)) w) (K (.int .i64 0) w)))
theorem Bd {a:Value} {w:World} {K:Value→World→Prop} (h:Lg a w K):Q1 P F.bj [a] w K:=Q8 Bv Tryz.func225 rfl (by decide) (by kernel_rfl) h
def Bi:V3:=[none,none,none,some ([5],[2,3,4,5,6,7,8,9,10,11,12,13,14,15,16,17,18,19,20,21,22,23,24,25,26,27,28,29,30,31,32,33]),none,none,none,none,none,none]
def Wc (z:Value) (w:World) (K:Value→World→Prop):Prop:= lp (α:=Value) (.int .i64 0) w fun n y N w=>X6 P .len [T.b] T.d [false] [z] w fun L w=>Q3 P .lss T.d (.tmp 6) (.tmp 8) y L w fun M w=>X1 M (D7 P T.b z y w fun D w=>Q3 P .eql T.a0 (.tmp 14) (.const (.int .u8 46)) D (.int .u8 46) w fun E w=>X1 E (dr w fun b d=>Q6 b (fun u=> ∀w,d w→R6 P T.b z none (some y) none w (dk b u w)) fun u=>Q6 b (fun p=> ∀w,d w→Q3 P .add T.d (.tmp 20) (.const (.int .i64 1)) y (.int .i64 1) w (dk b p w)) fun p=>Q6 b (fun v=> ∀m w,d w→p m w→R6 P T.b z (some m) none none w (dk b v w)) fun v=>Q6 b (fun q=> ∀w,d w→R6 P T.b z none (some y) none w (dk b q w)) fun q=>Q6 b (fun c=> ∀s w,d w→q s w→Q1 P F.d [s] w (dk b c w)) fun c=>Q6 b (fun i=> ∀a w,d w→c a w→Q0 a true w (fun w J=>J z w) (dk b i w)) fun i=>Q6 b (fun g=> ∀a w,d w→c a w→Q0 a true w (fun w J=>J y w) (dk b g w)) fun g=>Q6 b (fun l=> ∀a k w,d w→c a w→g k w→Q0 a true w (Q3 P .add T.d (.tmp 29) (.const (.int .i64 1)) k (.int .i64 1)) (dk b l w)) fun l=>Q6 b (fun o=> ∀a r e w,d w→c a w→i r w→l e w→Q0 a true w (R6 P T.b r (some e) none none) (dk b o w)) fun o=>Q6 b (fun h=> ∀a j w,d w→c a w→o j w→Q0 a true w (Q1 P F.s [j]) (dk b h w)) fun h=>Q6 b (fun t=> ∀a f w,d w→c a w→h f w→pick P a f (.bool false) w (dk b t w)) fun t=>∀A m B s a r k e j f C w,d w→u A w→p m w→v B w→q s w→c a w→i r w→g k w→l e w→o j w→h f w→t C w→ K (.tuple #[A,B,C]) w) (Q3 P .add T.d (.tmp 10) (.const (.int .i64 1)) y (.int .i64 1) w fun H w=>n H w)) (K (.tuple #[(.string ⟨#[]⟩),(.string ⟨#[]⟩),(.bool false)]) w)
theorem Bq {a:Value} {w:World} {K:Value→World→Prop} (h:Wc a w K):Q1 P F.bk [a] w K:=Q8 Bi Tryz.func226 rfl (by decide) (by kernel_rfl) h
def Cu:V3:=[none,none,none,none,none,none,some ([4],[4,5,6,7,8,30,31,32,33,34,35,36,37,38,39,40,41,42,43,44,45,46,47,48,49,50,51,52,53,54,55,56,57,58,59,60,61,62,63,64,65,66,67,68,69,70,71,72,73,74,75,76,77,78,79,80,81,82,83,84,85,86,87,88,89,90,91,92,93,94,95,96,97,98,99,100,101,102,103,104,105,106,107,108,109,110]),none,none,none,none,none,some ([4,5],[4,5,59,60,61,62,63,64,65,66,67,68,69,70,71,72,73]),none,none,none,none,some ([82],[82,83,84]),none,none,none,none,none,none,none]
def Vn (a0:Value) (w:World) (K:Value→World→Prop):Prop:= box P T.s a0 w fun d w=>fieldAddr P T.s d 0 w fun t9 w=>Q2 P T.b t9 w fun Z w=>Q1 P F.bj [Z] w fun l w=>Q3 P .lss T.d (.tmp 12) (.const (.int .i64 0)) l (.int .i64 0) w fun O w=>X1 O (K (.int .i64 40) w) (Q3 P .eql T.d (.tmp 14) (.const (.int .i64 1)) l (.int .i64 1) w fun k w=>Q0 k false w (fieldAddr P T.s d 1) fun ak w=>Q0 k false w (Q2 P T.ah ak) fun aw w=>Q0 k false w (Q3 P .eql T.ah (.tmp 18) (.const (.int .i64 0)) aw (.int .i64 0)) fun ao w=>pick P k (.bool true) ao w fun e w=>Q0 e true w (fun w J=>J l w) fun ax w=>Q0 e true w (Q3 P .eql T.d (.tmp 22) (.const (.int .i64 2)) ax (.int .i64 2)) fun W w=>Q0 e true w (fun w J=>J W w) fun j w=>Q0 j false w (fieldAddr P T.s d 2) fun bd w=>Q0 j false w (Q2 P T.b bd) fun an w=>Q0 j false w (Q3 P .eql T.b (.tmp 26) (.const (.string ⟨#[]⟩)) an (.string ⟨#[]⟩)) fun a9 w=>Q0 e true w (pick P j (.bool true) a9) fun bb w=>pick P e bb (.bool false) w fun a w=>jn (α:=Value) w (fun n w=>Q3 P .eql T.d (.tmp 30) (.const (.int .i64 2)) l (.int .i64 2) w fun a1 w=>X1 a1 (fieldAddr P T.s d 0 w fun ad w=>Q2 P T.b ad w fun f w=>Q3 P .eql T.b (.tmp 33) (.const (.string ⟨#[119,111,114,100]⟩)) f (.string ⟨#[119,111,114,100]⟩) w fun H w=>X1 H (Q0 a true w (fieldAddr P T.s d 2) fun a6 w=>Q0 a true w (Q2 P T.b a6) fun B w=>Q0 a true w (X6 P .len [T.b] T.d [false] [B]) fun ab w=>Q0 a true w (Q3 P .leq T.d (.tmp 51) (.const (.int .i64 64)) ab (.int .i64 64)) fun X w=>pick P a X (.bool false) w fun i w=>Q0 i true w (fieldAddr P T.s d 2) fun V w=>Q0 i true w (Q2 P T.b V) fun ai w=>Q0 i true w (Q1 P F.b9 [ai]) fun M w=>pick P i M (.bool false) w fun aa w=>lp (α:=Value×Value) (aa,(.int .i64 0)) w fun g b d_ w=>fieldAddr P T.s d 2 w fun R w=>Q2 P T.b R w fun D w=>X6 P .len [T.b] T.d [false] [D] w fun ac w=>Q3 P .lss T.d (.tmp 59) (.tmp 62) b.2 ac w fun C w=>X1 C (Q0 b.1 true w (fieldAddr P T.s d 2) fun a4 w=>Q0 b.1 true w (Q2 P T.b a4) fun ag w=>Q0 b.1 true w (fun w J=>J b.2 w) fun aq w=>Q0 b.1 true w (D7 P T.b ag aq) fun aj w=>Q0 b.1 true w (Q3 P .neq T.a0 (.tmp 71) (.const (.int .u8 10)) aj (.int .u8 10)) fun ay w=>pick P b.1 ay (.bool false) w fun ap w=>Q3 P .add T.d (.tmp 64) (.const (.int .i64 1)) b.2 (.int .i64 1) w fun ba w=>g (ap,ba) w) (n b.1 w)) (Q3 P .eql T.b (.tmp 33) (.const (.string ⟨#[110,101,119]⟩)) f (.string ⟨#[110,101,119]⟩) w fun bc w=>X1 bc (Q0 a true w (fieldAddr P T.s d 2) fun a3 w=>Q0 a true w (Q2 P T.b a3) fun am w=>Q0 a true w (Q1 P F.d [am]) fun ah w=>pick P a ah (.bool false) w fun av w=>n av w) (jn (α:=Value) w (fun p w=>Q3 P .eql T.b (.tmp 33) (.const (.string ⟨#[105,115]⟩)) f (.string ⟨#[105,115]⟩) w fun u w=>X1 u (p u w) (Q3 P .eql T.b (.tmp 33) (.const (.string ⟨#[99,97,115,116]⟩)) f (.string ⟨#[99,97,115,116]⟩) w fun az w=>p az w)) fun be d_ w=>X1 be (Q0 a true w (fieldAddr P T.s d 2) fun U w=>Q0 a true w (Q2 P T.b U) fun Y w=>Q0 a true w (Q1 P F.h [Y]) fun af w=>pick P a af (.bool false) w fun h w=>Q0 h true w (fieldAddr P T.s d 2) fun ar w=>Q0 h true w (Q2 P T.b ar) fun a8 w=>Q0 h true w (Q1 P F.ad [a8]) fun N w=>Q0 h true w (Z8 P .not N) fun E w=>pick P h E (.bool false) w fun ae w=>n ae w) (Q3 P .eql T.b (.tmp 33) (.const (.string ⟨#[97,114,114,97,121]⟩)) f (.string ⟨#[97,114,114,97,121]⟩) w fun a7 w=>X1 a7 (Q0 a true w (fieldAddr P T.s d 2) fun y w=>Q0 a true w (Q2 P T.b y) fun o w=>Q0 a true w (Q1 P F.h [o]) fun z w=>pick P a z (.bool false) w fun c w=>Q0 c true w (fieldAddr P T.s d 2) fun A w=>Q0 c true w (Q2 P T.b A) fun v w=>Q0 c true w (Q1 P F.aj [v]) fun t w=>Q0 c true w (Q3 P .lss T.d (.tmp 108) (.const (.int .i64 3)) t (.int .i64 3)) fun q w=>pick P c q (.bool false) w fun s w=>n s w) (fieldAddr P T.s d 2 w fun Q w=>Q2 P T.b Q w fun al w=>Q1 P F.bk [al] w fun m w=>ext P m 0 w fun bg w=>ext P m 1 w fun bh w=>ext P m 2 w fun a5 w=>Q0 a true w (fun w J=>J a5 w) fun a2 w=>pick P a a2 (.bool false) w fun L w=>n L w))))) (n a w)) fun z6 d_ w=>Z8 P .not z6 w fun r w=>X1 r (K (.int .i64 41) w) (K (.int .i64 0) w))
theorem Gb {a:Value} {w:World} {K:Value→World→Prop} (h:Vn a w K):Q1 P F.bi [a] w K:=Q8 Cu Tryz.func215 rfl (by decide) (by kernel_rfl) h
def Ki:V3:=[none,none,none,some ([3],[2,3,4,5,6,7,8,9,10,11,12,13,14,15,16,17,18]),none,none,none,none,none,none,none]
def Nt (h:Value) (w:World) (K:Value→World→Prop):Prop:= lp (α:=Value) (.int .i64 0) w fun a g k w=>X6 P .len [T.m] T.d [false] [h] w fun j w=>Q3 P .lss T.d (.tmp 5) (.tmp 7) g j w fun i w=>X1 i (indexAddr P T.m h g w fun c w=>Q2 P T.s c w fun e w=>Q1 P F.bi [e] w fun b w=>Q3 P .neq T.w (.tmp 16) (.const (.int .i64 0)) b (.int .i64 0) w fun d w=>X1 d (K b w) (Q3 P .add T.d (.tmp 9) (.const (.int .i64 1)) g (.int .i64 1) w fun f w=>a f w)) (K (.int .i64 0) w)
theorem Tn {a:Value} {w:World} {K:Value→World→Prop} (h:Nt a w K):Q1 P F.aQ [a] w K:=Q8 Ki Tryz.func203 rfl (by decide) (by kernel_rfl) h
def Ch:V3:=[none,none,none,none,some ([3,4],[3,4,21,22,23,24,25,26,27,28,29,30,31,32,33,34,35,36]),none,none,none,none,none,none,none,none,none,some ([3,6],[3,6,7,60,61,62,63,64,65,66,67,68,69,70,71,72,73,74,75,76,77,78,79,80,81,82,83,84,85,86,87,88,89,90,91,92,93,94,95,96,97,98,99,100,101,102,103,104,105,106]),none,none,none,none,none]
def Um (a0:Value) (w:World) (K:Value→World→Prop):Prop:= box P T.c a0 w fun d w=>fieldAddr P T.c d 0 w fun t8 w=>Q2 P T.b t8 w fun t9 w=>Q1 P F.s [t9] w fun g w=>Q0 g true w (fieldAddr P T.c d 2) fun af w=>Q0 g true w (Q2 P T.b af) fun ac w=>Q0 g true w (Q3 P .eql T.b (.tmp 13) (.const (.string ⟨#[]⟩)) ac (.string ⟨#[]⟩)) fun bi w=>Q0 g true w (fun w J=>J bi w) fun o w=>Q0 o false w (fieldAddr P T.c d 2) fun Z w=>Q0 o false w (Q2 P T.b Z) fun a8 w=>Q0 o false w (Q1 P F.h [a8]) fun bl w=>Q0 g true w (pick P o (.bool true) bl) fun bc w=>pick P g bc (.bool false) w fun am w=>lp (α:=Value×Value) (am,(.int .i64 0)) w fun n e d_ w=>fieldAddr P T.c d 1 w fun bm w=>Q2 P T.e bm w fun ai w=>X6 P .len [T.e] T.d [false] [ai] w fun be w=>Q3 P .lss T.d (.tmp 21) (.tmp 24) e.2 be w fun b0 w=>X1 b0 (Q0 e.1 true w (fieldAddr P T.c d 1) fun V w=>Q0 e.1 true w (Q2 P T.e V) fun bo w=>Q0 e.1 true w (fun w J=>J e.2 w) fun a1 w=>Q0 e.1 true w (indexAddr P T.e bo a1) fun aq w=>Q0 e.1 true w (Q2 P T.b aq) fun aj w=>Q0 e.1 true w (Q1 P F.h [aj]) fun ae w=>pick P e.1 ae (.bool false) w fun ba w=>Q3 P .add T.d (.tmp 26) (.const (.int .i64 1)) e.2 (.int .i64 1) w fun bw w=>n (ba,bw) w) (fieldAddr P T.c d 3 w fun al w=>Q2 P T.q al w fun ax w=>X1 ax (Q0 e.1 true w (fieldAddr P T.c d 4) fun aw w=>Q0 e.1 true w (Q2 P T.d aw) fun a4 w=>Q0 e.1 true w (Q3 P .eql T.d (.tmp 42) (.const (.int .i64 0)) a4 (.int .i64 0)) fun bp w=>pick P e.1 bp (.bool false) w fun k w=>Q0 k true w (fieldAddr P T.c d 5) fun X w=>Q0 k true w (Q2 P T.m X) fun bk w=>Q0 k true w (X6 P .len [T.m] T.d [false] [bk]) fun a9 w=>Q0 k true w (Q3 P .eql T.d (.tmp 48) (.const (.int .i64 0)) a9 (.int .i64 0)) fun bs w=>pick P k bs (.bool false) w fun i w=>Q0 i true w (fieldAddr P T.c d 6) fun an w=>Q0 i true w (Q2 P T.o an) fun az w=>Q0 i true w (X6 P .len [T.o] T.d [false] [az]) fun a7 w=>Q0 i true w (Q3 P .eql T.d (.tmp 54) (.const (.int .i64 0)) a7 (.int .i64 0)) fun ah w=>pick P i ah (.bool false) w fun a5 w=>K a5 w) (fieldAddr P T.c d 5 w fun aa w=>Q2 P T.m aa w fun av w=>X6 P .len [T.m] T.d [false] [av] w fun r w=>lp (α:=Value×Value) (e.1,(.int .i64 0)) w fun l b d_ w=>fieldAddr P T.c d 6 w fun W w=>Q2 P T.o W w fun ay w=>X6 P .len [T.o] T.d [false] [ay] w fun U w=>Q3 P .lss T.d (.tmp 60) (.tmp 63) b.2 U w fun bx w=>X1 bx (fieldAddr P T.c d 6 w fun ad w=>Q2 P T.o ad w fun bq w=>indexAddr P T.o bq b.2 w fun bg w=>Q2 P T.p bg w fun a6 w=>W1 P T.p w fun q w=>Z6 P T.p q a6 w fun _u w=>Q0 b.1 true w (fieldAddr P T.p q 0) fun ak w=>Q0 b.1 true w (Q2 P T.d ak) fun bz w=>Q0 b.1 true w (Q3 P .geq T.d (.tmp 75) (.const (.int .i64 0)) bz (.int .i64 0)) fun br w=>pick P b.1 br (.bool false) w fun h w=>Q0 h true w (fieldAddr P T.p q 0) fun bb w=>Q0 h true w (Q2 P T.d bb) fun a3 w=>Q0 h true w (fieldAddr P T.p q 1) fun bj w=>Q0 h true w (Q2 P T.d bj) fun bf w=>Q0 h true w (Q3 P .lss T.d (.tmp 80) (.tmp 82) a3 bf) fun bd w=>pick P h bd (.bool false) w fun m w=>Q0 m true w (fieldAddr P T.p q 1) fun bn w=>Q0 m true w (Q2 P T.d bn) fun ag w=>Q0 m true w (fun w J=>J r w) fun ap w=>Q0 m true w (Q3 P .leq T.d (.tmp 87) (.tmp 88) ag ap) fun a2 w=>pick P m a2 (.bool false) w fun p w=>Q0 p true w (fieldAddr P T.p q 2) fun bh w=>Q0 p true w (Q2 P T.d bh) fun bv w=>Q0 p true w (Q3 P .geq T.d (.tmp 93) (.const (.int .i64 0)) bv (.int .i64 0)) fun ab w=>pick P p ab (.bool false) w fun j w=>Q0 j true w (fieldAddr P T.p q 2) fun ao w=>Q0 j true w (Q2 P T.d ao) fun bu w=>Q0 j true w (fun w J=>J r w) fun ar w=>Q0 j true w (Q3 P .lss T.d (.tmp 98) (.tmp 99) bu ar) fun M w=>pick P j M (.bool false) w fun f w=>Q0 f true w (fieldAddr P T.p q 3) fun O w=>Q0 f true w (Q2 P T.b O) fun v w=>Q0 f true w (Q1 P F.d [v]) fun H w=>pick P f H (.bool false) w fun Q w=>Q3 P .add T.d (.tmp 65) (.const (.int .i64 1)) b.2 (.int .i64 1) w fun Y w=>l (Q,Y) w) (Q0 b.1 true w (fun w J=>J r w) fun B w=>Q0 b.1 true w (Q3 P .gtr T.d (.tmp 109) (.const (.int .i64 0)) B (.int .i64 0)) fun D w=>pick P b.1 D (.bool false) w fun a w=>Q0 a true w (fieldAddr P T.c d 4) fun z w=>Q0 a true w (Q2 P T.d z) fun y w=>Q0 a true w (fieldAddr P T.c d 1) fun u w=>Q0 a true w (Q2 P T.e u) fun N w=>Q0 a true w (X6 P .len [T.e] T.d [false] [N]) fun s w=>Q0 a true w (Q3 P .gtr T.d (.tmp 114) (.tmp 117) y s) fun L w=>pick P a L (.bool false) w fun c w=>Q0 c true w (fieldAddr P T.c d 5) fun A w=>Q0 c true w (Q2 P T.m A) fun C w=>Q0 c true w (Q1 P F.aQ [C]) fun t w=>Q0 c true w (Q3 P .eql T.w (.tmp 123) (.const (.int .i64 0)) t (.int .i64 0)) fun E w=>pick P c E (.bool false) w fun R w=>K R w)))
theorem Ca {a:Value} {w:World} {K:Value→World→Prop} (h:Um a w K):Q1 P F.z [a] w K:=Q8 Ch Tryz.func182 rfl (by decide) (by kernel_rfl) h
end Go.Proofs.YtjdiakhipmggjaaGreatDoor

set_option maxRecDepth 100000
namespace Go.Proofs.YtjdiakhipmggjaaGreatDoor
open Go.Emb
def Fs:V3:=[none,none,none,none,some ([3,4],[3,4,5,26,27,28,29,30,31,32,33,34,35,36,37,38,39,40,41,42,43,44,45,46,47,48,49,50,51,52,53,54,55,56,57,58,59,60,61,62,63,64,65,66,67,68,69,70]),none,none,none,none,none,some ([3,5],[3,5,52,53,54,55,56,57,58,59,60,61,62,63,64,65,66,67,68,69,70]),none,none,none,none,none,some ([3,6],[3,6,7,71,72,73,74,75,76,77,78,79,80,81,82,83,84,85,86,87,88,89,90,91,92,93,94,95,96,97,98,99,100,101,102,103,104,105,106,107,108,109,110,111,112,113,114,115,116,117,118,119,120,121,122]),none,none,none,none,none,some ([3,7],[3,7,102,103,104,105,106,107,108,109,110,111,112,113,114,115,116,117,118,119,120,121,122]),none,none,none,none,none,some ([3,8],[3,8,9,10,123,124,125,126,127,128,129,130,131,132,133,134,135,136,137,138,139,140,141,142,143,144,145,146,147,148,149,150,151,152,153,154,155,156,157,158,159,160,161,162,163,164,165,166,167,168,169,170,171,172,173,174]),none,none,none,none,none,none,some ([3,10],[3,10,158,159,160,161,162,163,164,165,166,167,168,169,170,171,172,173,174]),none,none,none,none]
def Wu (a0:Value) (w:World) (K:Value→World→Prop):Prop:= box P T.a a0 w fun i w=>fieldAddr P T.a i 0 w fun eo w=>Q2 P T.b eo w fun es w=>Q1 P F.d [es] w fun ay w=>Q0 ay true w (fieldAddr P T.a i 1) fun ek w=>Q0 ay true w (Q2 P T.b ek) fun er w=>Q0 ay true w (Q1 P F.d [er]) fun ez w=>pick P ay ez (.bool false) w fun ah w=>Q0 ah true w (fieldAddr P T.a i 0) fun d5 w=>Q0 ah true w (Q2 P T.b d5) fun d6 w=>Q0 ah true w (fieldAddr P T.a i 1) fun e2 w=>Q0 ah true w (Q2 P T.b e2) fun et w=>Q0 ah true w (Q3 P .neq T.b (.tmp 21) (.tmp 23) d6 et) fun ef w=>pick P ah ef (.bool false) w fun e9 w=>lp (α:=Value×Value) (e9,(.int .i64 0)) w fun a3 Q d_ w=>fieldAddr P T.a i 2 w fun em w=>Q2 P T.e em w fun e8 w=>X6 P .len [T.e] T.d [false] [e8] w fun e5 w=>Q3 P .lss T.d (.tmp 26) (.tmp 29) Q.2 e5 w fun eq w=>X1 eq (dr w fun a b=>Q6 a (fun b2=> ∀w,b w→Q0 Q.1 true w (fieldAddr P T.a i 2) (dk a b2 w)) fun b2=>Q6 a (fun br=> ∀w,b w→Q0 Q.1 true w (fun w J=>J Q.2 w) (dk a br w)) fun br=>Q6 a (fun be=> ∀bo w,b w→b2 bo w→Q0 Q.1 true w (Q2 P T.e bo) (dk a be w)) fun be=>Q6 a (fun bn=> ∀bz bs w,b w→be bz w→br bs w→Q0 Q.1 true w (indexAddr P T.e bz bs) (dk a bn w)) fun bn=>Q6 a (fun ba=> ∀bu w,b w→bn bu w→Q0 Q.1 true w (Q2 P T.b bu) (dk a ba w)) fun ba=>Q6 a (fun bi=> ∀a4 w,b w→ba a4 w→Q0 Q.1 true w (Q1 P F.d [a4]) (dk a bi w)) fun bi=>Q6 a (fun j=> ∀b3 w,b w→bi b3 w→pick P Q.1 b3 (.bool false) w (dk a j w)) fun j=>Q6 a (fun bv=> ∀c w,b w→j c w→Q0 c true w (fieldAddr P T.a i 2) (dk a bv w)) fun bv=>Q6 a (fun b0=> ∀c w,b w→j c w→Q0 c true w (fun w J=>J Q.2 w) (dk a b0 w)) fun b0=>Q6 a (fun bp=> ∀c w,b w→j c w→Q0 c true w (fieldAddr P T.a i 0) (dk a bp w)) fun bp=>Q6 a (fun a2=> ∀c bb w,b w→j c w→bv bb w→Q0 c true w (Q2 P T.e bb) (dk a a2 w)) fun a2=>Q6 a (fun bg=> ∀c bk b1 w,b w→j c w→a2 bk w→b0 b1 w→Q0 c true w (indexAddr P T.e bk b1) (dk a bg w)) fun bg=>Q6 a (fun cc=> ∀c bj w,b w→j c w→bg bj w→Q0 c true w (Q2 P T.b bj) (dk a cc w)) fun cc=>Q6 a (fun ca=> ∀c a6 w,b w→j c w→bp a6 w→Q0 c true w (Q2 P T.b a6) (dk a ca w)) fun ca=>∀bo bs bz bu a4 b3 c bb b1 a6 bk bj cz dw w,b w→b2 bo w→br bs w→be bz w→bn bu w→ba a4 w→bi b3 w→j c w→bv bb w→b0 b1 w→bp a6 w→a2 bk w→bg bj w→cc cz w→ca dw w→ Q0 c true w (Q3 P .neq T.b (.tmp 47) (.tmp 49) cz dw) fun d1 w=>pick P c d1 (.bool false) w fun d8 w=>lp (α:=Value×Value) (d8,(.int .i64 0)) w fun ar e d_ w=>Q3 P .lss T.d (.tmp 52) (.tmp 53) e.2 Q.2 w fun ey w=>X1 ey (dr w fun a b=>Q6 a (fun bq=> ∀w,b w→Q0 e.1 true w (fieldAddr P T.a i 2) (dk a bq w)) fun bq=>Q6 a (fun bh=> ∀w,b w→Q0 e.1 true w (fun w J=>J e.2 w) (dk a bh w)) fun bh=>Q6 a (fun a7=> ∀w,b w→Q0 e.1 true w (fieldAddr P T.a i 2) (dk a a7 w)) fun a7=>Q6 a (fun bm=> ∀w,b w→Q0 e.1 true w (fun w J=>J Q.2 w) (dk a bm w)) fun bm=>Q6 a (fun a9=> ∀a8 w,b w→bq a8 w→Q0 e.1 true w (Q2 P T.e a8) (dk a a9 w)) fun a9=>Q6 a (fun bc=> ∀a1 ax w,b w→a9 a1 w→bh ax w→Q0 e.1 true w (indexAddr P T.e a1 ax) (dk a bc w)) fun bc=>Q6 a (fun cb=> ∀a5 w,b w→bc a5 w→Q0 e.1 true w (Q2 P T.b a5) (dk a cb w)) fun cb=>Q6 a (fun bw=> ∀bd w,b w→a7 bd w→Q0 e.1 true w (Q2 P T.e bd) (dk a bw w)) fun bw=>Q6 a (fun bf=> ∀b4 bl w,b w→bw b4 w→bm bl w→Q0 e.1 true w (indexAddr P T.e b4 bl) (dk a bf w)) fun bf=>Q6 a (fun b9=> ∀az w,b w→bf az w→Q0 e.1 true w (Q2 P T.b az) (dk a b9 w)) fun b9=>∀a8 ax bd bl a1 a5 c5 b4 az dv w,b w→bq a8 w→bh ax w→a7 bd w→bm bl w→a9 a1 w→bc a5 w→cb c5 w→bw b4 w→bf az w→b9 dv w→ Q0 e.1 true w (Q3 P .neq T.b (.tmp 63) (.tmp 68) c5 dv) fun ec w=>pick P e.1 ec (.bool false) w fun e0 w=>Q3 P .add T.d (.tmp 55) (.const (.int .i64 1)) e.2 (.int .i64 1) w fun ex w=>ar (e0,ex) w) (Q3 P .add T.d (.tmp 31) (.const (.int .i64 1)) Q.2 (.int .i64 1) w fun ea w=>a3 (e.1,ea) w)) (lp (α:=Value×Value) (Q.1,(.int .i64 0)) w fun am f d_ w=>fieldAddr P T.a i 6 w fun e3 w=>Q2 P T.h e3 w fun eg w=>X6 P .len [T.h] T.d [false] [eg] w fun d4 w=>Q3 P .lss T.d (.tmp 71) (.tmp 74) f.2 d4 w fun ep w=>X1 ep (Q0 f.1 true w (fieldAddr P T.a i 6) fun ed w=>Q0 f.1 true w (Q2 P T.h ed) fun ei w=>Q0 f.1 true w (fun w J=>J f.2 w) fun eh w=>Q0 f.1 true w (indexAddr P T.h ei eh) fun ee w=>Q0 f.1 true w (fieldAddr P T.j ee 0) fun e4 w=>Q0 f.1 true w (Q2 P T.b e4) fun ew w=>Q0 f.1 true w (Q1 P F.s [ew]) fun ej w=>pick P f.1 ej (.bool false) w fun n w=>Q0 n true w (fieldAddr P T.a i 6) fun eb w=>Q0 n true w (Q2 P T.h eb) fun e7 w=>Q0 n true w (fun w J=>J f.2 w) fun d7 w=>Q0 n true w (indexAddr P T.h e7 d7) fun e1 w=>Q0 n true w (fieldAddr P T.j e1 1) fun e6 w=>Q0 n true w (Q2 P T.b e6) fun d3 w=>Q0 n true w (Q1 P F.h [d3]) fun d2 w=>pick P n d2 (.bool false) w fun bx w=>Q0 bx true w (fieldAddr P T.a i 3) fun el w=>Q0 bx true w (Q2 P T.q el) fun eu w=>Q0 bx true w (Z8 P .not eu) fun ds w=>pick P bx ds (.bool false) w fun dm w=>lp (α:=Value×Value) (dm,(.int .i64 0)) w fun al d d_ w=>Q3 P .lss T.d (.tmp 102) (.tmp 103) d.2 f.2 w fun db w=>X1 db (dr w fun a b=>Q6 a (fun D=> ∀w,b w→Q0 d.1 true w (fieldAddr P T.a i 6) (dk a D w)) fun D=>Q6 a (fun aa=> ∀w,b w→Q0 d.1 true w (fun w J=>J d.2 w) (dk a aa w)) fun aa=>Q6 a (fun L=> ∀w,b w→Q0 d.1 true w (fieldAddr P T.a i 6) (dk a L w)) fun L=>Q6 a (fun Y=> ∀w,b w→Q0 d.1 true w (fun w J=>J f.2 w) (dk a Y w)) fun Y=>Q6 a (fun y=> ∀V w,b w→D V w→Q0 d.1 true w (Q2 P T.h V) (dk a y w)) fun y=>Q6 a (fun z=> ∀B W w,b w→y B w→aa W w→Q0 d.1 true w (indexAddr P T.h B W) (dk a z w)) fun z=>Q6 a (fun N=> ∀A w,b w→z A w→Q0 d.1 true w (fieldAddr P T.j A 0) (dk a N w)) fun N=>Q6 a (fun aq=> ∀u w,b w→N u w→Q0 d.1 true w (Q2 P T.b u) (dk a aq w)) fun aq=>Q6 a (fun C=> ∀s w,b w→L s w→Q0 d.1 true w (Q2 P T.h s) (dk a C w)) fun C=>Q6 a (fun ag=> ∀H p w,b w→C H w→Y p w→Q0 d.1 true w (indexAddr P T.h H p) (dk a ag w)) fun ag=>Q6 a (fun ad=> ∀ae w,b w→ag ae w→Q0 d.1 true w (fieldAddr P T.j ae 0) (dk a ad w)) fun ad=>Q6 a (fun an=> ∀Z w,b w→ad Z w→Q0 d.1 true w (Q2 P T.b Z) (dk a an w)) fun an=>∀V W s p B A u b8 H ae Z b7 w,b w→D V w→aa W w→L s w→Y p w→y B w→z A w→N u w→aq b8 w→C H w→ag ae w→ad Z w→an b7 w→ Q0 d.1 true w (Q3 P .neq T.b (.tmp 114) (.tmp 120) b8 b7) fun cn w=>pick P d.1 cn (.bool false) w fun de w=>Q3 P .add T.d (.tmp 105) (.const (.int .i64 1)) d.2 (.int .i64 1) w fun dt w=>al (de,dt) w) (Q3 P .add T.d (.tmp 76) (.const (.int .i64 1)) f.2 (.int .i64 1) w fun d9 w=>am (d.1,d9) w)) (lp (α:=Value×Value) (f.1,(.int .i64 0)) w fun aw h d_ w=>fieldAddr P T.a i 7 w fun dg w=>Q2 P T.f dg w fun dy w=>X6 P .len [T.f] T.d [false] [dy] w fun c6 w=>Q3 P .lss T.d (.tmp 123) (.tmp 126) h.2 c6 w fun dj w=>X1 dj (fieldAddr P T.a i 7 w fun co w=>Q2 P T.f co w fun cj w=>indexAddr P T.f cj h.2 w fun ct w=>Q2 P T.c ct w fun dn w=>W1 P T.c w fun t9 w=>Z6 P T.c t9 dn w fun _u w=>Q0 h.1 true w (Q2 P T.c t9) fun cx w=>Q0 h.1 true w (Q1 P F.z [cx]) fun cq w=>pick P h.1 cq (.bool false) w fun m w=>Q0 m true w (fieldAddr P T.c t9 3) fun cs w=>Q0 m true w (Q2 P T.q cs) fun dq w=>Q0 m true w (Z8 P .not dq) fun dz w=>Q0 m true w (fun w J=>J dz w) fun ak w=>Q0 ak false w (fieldAddr P T.a i 4) fun ce w=>Q0 ak false w (Q2 P T.q ce) fun du w=>Q0 m true w (pick P ak (.bool true) du) fun c0 w=>pick P m c0 (.bool false) w fun l w=>Q0 l true w (fieldAddr P T.a i 3) fun cr w=>Q0 l true w (Q2 P T.q cr) fun cg w=>Q0 l true w (Z8 P .not cg) fun cp w=>Q0 l true w (fun w J=>J cp w) fun ai w=>Q0 ai false w (fieldAddr P T.c t9 3) fun cl w=>Q0 ai false w (Q2 P T.q cl) fun ch w=>Q0 l true w (pick P ai (.bool true) ch) fun dc w=>pick P l dc (.bool false) w fun dp w=>lp (α:=Value×Value) (dp,(.int .i64 0)) w fun ao g d_ w=>Q3 P .lss T.d (.tmp 158) (.tmp 159) g.2 h.2 w fun c7 w=>X1 c7 (dr w fun a b=>Q6 a (fun t=> ∀w,b w→Q0 g.1 true w (fieldAddr P T.a i 7) (dk a t w)) fun t=>Q6 a (fun E=> ∀w,b w→Q0 g.1 true w (fun w J=>J g.2 w) (dk a E w)) fun E=>Q6 a (fun X=> ∀w,b w→Q0 g.1 true w (fieldAddr P T.c t9 0) (dk a X w)) fun X=>Q6 a (fun U=> ∀M w,b w→t M w→Q0 g.1 true w (Q2 P T.f M) (dk a U w)) fun U=>Q6 a (fun O=> ∀ab r w,b w→U ab w→E r w→Q0 g.1 true w (indexAddr P T.f ab r) (dk a O w)) fun O=>Q6 a (fun af=> ∀ac w,b w→O ac w→Q0 g.1 true w (fieldAddr P T.c ac 0) (dk a af w)) fun af=>Q6 a (fun av=> ∀q w,b w→af q w→Q0 g.1 true w (Q2 P T.b q) (dk a av w)) fun av=>Q6 a (fun ap=> ∀v w,b w→X v w→Q0 g.1 true w (Q2 P T.b v) (dk a ap w)) fun ap=>∀M r v ab ac q b6 b5 w,b w→t M w→E r w→X v w→U ab w→O ac w→af q w→av b6 w→ap b5 w→ Q0 g.1 true w (Q3 P .neq T.b (.tmp 170) (.tmp 172) b6 b5) fun cd w=>pick P g.1 cd (.bool false) w fun c2 w=>Q3 P .add T.d (.tmp 161) (.const (.int .i64 1)) g.2 (.int .i64 1) w fun d0 w=>ao (c2,d0) w) (Q3 P .add T.d (.tmp 128) (.const (.int .i64 1)) h.2 (.int .i64 1) w fun c3 w=>aw (g.1,c3) w)) (Q0 h.1 true w (fieldAddr P T.a i 3) fun ck w=>Q0 h.1 true w (Q2 P T.q ck) fun cy w=>Q0 h.1 true w (Z8 P .not cy) fun c8 w=>Q0 h.1 true w (fun w J=>J c8 w) fun o w=>Q0 o false w (fieldAddr P T.a i 4) fun df w=>Q0 o false w (Q2 P T.q df) fun ci w=>Q0 o false w (fun w J=>J ci w) fun R w=>Q0 R true w (fieldAddr P T.a i 1) fun dh w=>Q0 R true w (Q2 P T.b dh) fun cf w=>Q0 R true w (Q3 P .eql T.b (.tmp 185) (.const (.string ⟨#[79,98,106,101,99,116]⟩)) cf (.string ⟨#[79,98,106,101,99,116]⟩)) fun cv w=>Q0 o false w (pick P R cv (.bool false)) fun c1 w=>Q0 h.1 true w (pick P o (.bool true) c1) fun c4 w=>pick P h.1 c4 (.bool false) w fun k w=>Q0 k true w (fieldAddr P T.a i 4) fun c9 w=>Q0 k true w (Q2 P T.q c9) fun cw w=>Q0 k true w (fun w J=>J cw w) fun aj w=>Q0 aj true w (fieldAddr P T.a i 5) fun da w=>Q0 aj true w (Q2 P T.q da) fun dx w=>Q0 k true w (pick P aj dx (.bool false)) fun dd w=>Q0 k true w (Z8 P .not dd) fun di w=>pick P k di (.bool false) w fun cm w=>K cm w)))
theorem Ge {a:Value} {w:World} {K:Value→World→Prop} (h:Wu a w K):Q1 P F.be [a] w K:=Q8 Fs Tryz.func148 rfl (by decide) (by kernel_rfl) h
def Vz (b:Value) (w:World) (K:Value→World→Prop):Prop:= box P T.a b w fun a w=>Q2 P T.a a w fun f w=>Q1 P F.bu [f] w fun e w=>X1 e (K (.int .i64 51) w) (Q2 P T.a a w fun c w=>Q1 P F.be [c] w fun d w=>Z8 P .not d w fun g w=>X1 g (K (.int .i64 50) w) (K (.int .i64 0) w))
theorem Cx {a:Value} {w:World} {K:Value→World→Prop} (h:Vz a w K):Q1 P F.bc [a] w K:=Q8 (List.replicate 8 none) Tryz.func100 rfl (by decide) (by kernel_rfl) h
def Il:V3:=[none,none,none,some ([5],[4,5,6,7,8,9,10,11,12,13,14,15,16,17,18,19]),none,none,none,none,none,none]
def Lp (h k:Value) (w:World) (K:Value→World→Prop):Prop:= lp (α:=Value) (.int .i64 0) w fun a b l w=>X6 P .len [T.g] T.d [false] [h] w fun i w=>Q3 P .lss T.d (.tmp 6) (.tmp 8) b i w fun j w=>X1 j (indexAddr P T.g h b w fun c w=>fieldAddr P T.a c 0 w fun d w=>Q2 P T.b d w fun e w=>Q3 P .eql T.b (.tmp 16) (.tmp 17) e k w fun g w=>X1 g (K b w) (Q3 P .add T.d (.tmp 10) (.const (.int .i64 1)) b (.int .i64 1) w fun f w=>a f w)) (K (.int .i64 (-1)) w)
theorem Gt {a b:Value} {w:World} {K:Value→World→Prop} (h:Lp a b w K):Q1 P F.b [a,b] w K:=Q8 Il Tryz.func101 rfl (by decide) (by kernel_rfl) h
def Sy:V3:=[none,none,none,none,none,none,none,some ([6],[4,6,7,28,29,30,31,32,33,34,35,36,37,38,39,40,41,42,43,44,45,46,47,48,49,50,51]),none,none,none,none,none,none,none]
def Vb (g V:Value) (w:World) (K:Value→World→Prop):Prop:= box P T.a V w fun a w=>fieldAddr P T.a a 1 w fun W w=>Q2 P T.b W w fun H w=>Q1 P F.b [g,H] w fun f w=>Q3 P .lss T.d (.tmp 12) (.const (.int .i64 0)) f (.int .i64 0) w fun c w=>Q0 c false w (fun w J=>J g w) fun L w=>Q0 c false w (fun w J=>J f w) fun n w=>Q0 c false w (indexAddr P T.g L n) fun m w=>Q0 c false w (fieldAddr P T.a m 3) fun y w=>Q0 c false w (Q2 P T.q y) fun q w=>pick P c (.bool true) q w fun d w=>Q0 d false w (fun w J=>J g w) fun z w=>Q0 d false w (fun w J=>J f w) fun u w=>Q0 d false w (indexAddr P T.g z u) fun s w=>Q0 d false w (fieldAddr P T.a s 5) fun U w=>Q0 d false w (Q2 P T.q U) fun r w=>pick P d (.bool true) r w fun O w=>X1 O (K (.int .i64 61) w) (lp (α:=Value) (.int .i64 0) w fun e M X w=>fieldAddr P T.a a 2 w fun C w=>Q2 P T.e C w fun j w=>X6 P .len [T.e] T.d [false] [j] w fun D w=>Q3 P .lss T.d (.tmp 28) (.tmp 31) M D w fun k w=>X1 k (fieldAddr P T.a a 2 w fun p w=>Q2 P T.e p w fun B w=>indexAddr P T.e B M w fun Q w=>Q2 P T.b Q w fun E w=>Q1 P F.b [g,E] w fun h w=>Q3 P .lss T.d (.tmp 42) (.const (.int .i64 0)) h (.int .i64 0) w fun b w=>Q0 b false w (fun w J=>J g w) fun t w=>Q0 b false w (fun w J=>J h w) fun l w=>Q0 b false w (indexAddr P T.g t l) fun A w=>Q0 b false w (fieldAddr P T.a A 3) fun o w=>Q0 b false w (Q2 P T.q o) fun N w=>Q0 b false w (Z8 P .not N) fun i w=>pick P b (.bool true) i w fun R w=>X1 R (K (.int .i64 62) w) (Q3 P .add T.d (.tmp 33) (.const (.int .i64 1)) M (.int .i64 1) w fun v w=>e v w)) (K (.int .i64 0) w))
theorem Sf {a b:Value} {w:World} {K:Value→World→Prop} (h:Vb a b w K):Q1 P F.aZ [a,b] w K:=Q8 Sy Tryz.func102 rfl (by decide) (by kernel_rfl) h
def Fa:V3:=[none,none,none,none,some ([3,4],[3,4,5,6,7,8,13,14,15,16,17,18,19,20,21,22,23,24,25,26,27,28,29,30,31,32,33,34,35,36,37,38,39,40,41,42,43,44,45,46,47,48,49,50,51,52,53,54]),none,none,none,none,none,none,none,some ([7],[7,8,34,35,36,37,38,39,40,41,42,43,44,45,46,47,48,49,50]),none,none,some ([],[8,40,41,42,43,44,45,46,47,48,49,50]),none,none,none,none,some ([9],[9,10,11,55,56,57,58,59,60,61,62,63,64,65,66,67,68,69,70,71,72,73,74,75,76,77,78,79,80,81,82,83,84,85,86,87,88,89,90,91,92,93,94,95,96,97,98,99,100,101,102,103]),none,none,none,none,some ([10],[10,11,61,62,63,64,65,66,67,68,69,70,71,72,73,74,75,76,77,78,79,80,81,82,83,84,85,86,87,88,89,90,91,92,93,94,95,96,97,98,99,100,101,102,103]),none,none,none,none,some ([11],[11,67,68,69,70,71,72,73,74,75,76,77,78,79,80,81,82,83,84,85,86,87,88,89,90,91,92,93,94,95,96,97,98,99,100,101,102,103]),none,none,none,none]
def Wq (a0:Value) (w:World) (K:Value→World→Prop):Prop:= buildSlice P T.a6 0 [] w fun bn w=>lp (α:=Value×Value) (bn,(.int .i64 0)) w fun H r d_ w=>X6 P .len [T.g] T.d [false] [a0] w fun b2 w=>Q3 P .lss T.d (.tmp 13) (.tmp 15) r.2 b2 w fun bk w=>X1 bk (X6 P .len [T.g] T.d [false] [a0] w fun a6 w=>Uy P T.a4 a6 a6 w fun a8 w=>dr w fun b d=>Q6 b (fun y=> ∀w,d w→indexAddr P T.g a0 r.2 w (dk b y w)) fun y=>Q6 b (fun Z=> ∀ai w,d w→y ai w→fieldAddr P T.a ai 1 w (dk b Z w)) fun Z=>Q6 b (fun ap=> ∀w,d w→indexAddr P T.g a0 r.2 w (dk b ap w)) fun ap=>Q6 b (fun Y=> ∀t w,d w→ap t w→fieldAddr P T.a t 2 w (dk b Y w)) fun Y=>Q6 b (fun M=> ∀ay w,d w→Z ay w→Q2 P T.b ay w (dk b M w)) fun M=>Q6 b (fun a2=> ∀ag w,d w→M ag w→buildSlice P T.e 1 [(0,ag)] w (dk b a2 w)) fun a2=>Q6 b (fun a5=> ∀an w,d w→Y an w→Q2 P T.e an w (dk b a5 w)) fun a5=>∀ai ay t an ag bf a9 w,d w→y ai w→Z ay w→ap t w→Y an w→M ag w→a2 bf w→a5 a9 w→ X6 P .append [T.e,T.e] T.e [false,false] [bf,a9] w fun a7 w=>lp (α:=Value) (.int .i64 0) w fun p a3 d_ w=>X6 P .len [T.e] T.d [false] [a7] w fun bv w=>Q3 P .lss T.d (.tmp 34) (.tmp 36) a3 bv w fun bo w=>X1 bo (jn (α:=Unit) w (fun bc w=>indexAddr P T.e a7 a3 w fun b1 w=>Q2 P T.b b1 w fun bj w=>Q1 P F.b [a0,bj] w fun ba w=>Q3 P .geq T.d (.tmp 46) (.const (.int .i64 0)) ba (.int .i64 0) w fun bx w=>X1 bx (indexAddr P T.a4 a8 ba w fun bg w=>Z6 P T.q bg (.bool true) w fun _u w=>bc () w) (bc () w)) fun b4 d_ w=>Q3 P .add T.d (.tmp 38) (.const (.int .i64 1)) a3 (.int .i64 1) w fun bq w=>p bq w) (buildSlice P T.a6 1 [(0,a8)] w fun br w=>X6 P .append [T.a6,T.a6] T.a6 [false,false] [r.1,br] w fun bu w=>Q3 P .add T.d (.tmp 17) (.const (.int .i64 1)) r.2 (.int .i64 1) w fun bz w=>H (bu,bz) w)) (lp (α:=Value) (.int .i64 0) w fun m z d_ w=>X6 P .len [T.g] T.d [false] [a0] w fun bl w=>Q3 P .lss T.d (.tmp 55) (.tmp 57) z bl w fun bp w=>X1 bp (lp (α:=Value) (.int .i64 0) w fun k n d_ w=>X6 P .len [T.g] T.d [false] [a0] w fun bh w=>Q3 P .lss T.d (.tmp 61) (.tmp 63) n bh w fun b3 w=>X1 b3 (lp (α:=Value) (.int .i64 0) w fun o l d_ w=>X6 P .len [T.g] T.d [false] [a0] w fun bs w=>Q3 P .lss T.d (.tmp 67) (.tmp 69) l bs w fun bw w=>X1 bw (dr w fun b d=>Q6 b (fun af=> ∀w,d w→indexAddr P T.a6 r.1 n w (dk b af w)) fun af=>Q6 b (fun L=> ∀w,d w→indexAddr P T.a6 r.1 n w (dk b L w)) fun L=>Q6 b (fun a4=> ∀ax w,d w→af ax w→Q2 P T.a4 ax w (dk b a4 w)) fun a4=>Q6 b (fun al=> ∀ac w,d w→L ac w→Q2 P T.a4 ac w (dk b al w)) fun al=>Q6 b (fun ae=> ∀ak w,d w→al ak w→indexAddr P T.a4 ak l w (dk b ae w)) fun ae=>Q6 b (fun e=> ∀ah w,d w→ae ah w→Q2 P T.q ah w (dk b e w)) fun e=>Q6 b (fun v=> ∀a w,d w→e a w→Q0 a false w (fun w J=>J r.1 w) (dk b v w)) fun v=>Q6 b (fun X=> ∀a w,d w→e a w→Q0 a false w (fun w J=>J n w) (dk b X w)) fun X=>Q6 b (fun ao=> ∀a am D w,d w→e a w→v am w→X D w→Q0 a false w (indexAddr P T.a6 am D) (dk b ao w)) fun ao=>Q6 b (fun aw=> ∀a w,d w→e a w→Q0 a false w (fun w J=>J z w) (dk b aw w)) fun aw=>Q6 b (fun A=> ∀a Q w,d w→e a w→ao Q w→Q0 a false w (Q2 P T.a4 Q) (dk b A w)) fun A=>Q6 b (fun av=> ∀a ab ar w,d w→e a w→A ab w→aw ar w→Q0 a false w (indexAddr P T.a4 ab ar) (dk b av w)) fun av=>Q6 b (fun s=> ∀a W w,d w→e a w→av W w→Q0 a false w (Q2 P T.q W) (dk b s w)) fun s=>Q6 b (fun f=> ∀a aj w,d w→e a w→s aj w→Q0 a false w (fun w J=>J aj w) (dk b f w)) fun f=>Q6 b (fun R=> ∀c w,d w→f c w→Q0 c true w (fun w J=>J r.1 w) (dk b R w)) fun R=>Q6 b (fun E=> ∀c w,d w→f c w→Q0 c true w (fun w J=>J z w) (dk b E w)) fun E=>Q6 b (fun O=> ∀c C u w,d w→f c w→R C w→E u w→Q0 c true w (indexAddr P T.a6 C u) (dk b O w)) fun O=>Q6 b (fun ad=> ∀c w,d w→f c w→Q0 c true w (fun w J=>J l w) (dk b ad w)) fun ad=>Q6 b (fun U=> ∀c aa w,d w→f c w→O aa w→Q0 c true w (Q2 P T.a4 aa) (dk b U w)) fun U=>Q6 b (fun B=> ∀c N aq w,d w→f c w→U N w→ad aq w→Q0 c true w (indexAddr P T.a4 N aq) (dk b B w)) fun B=>Q6 b (fun i=> ∀c V w,d w→f c w→B V w→Q0 c true w (Q2 P T.q V) (dk b i w)) fun i=>Q6 b (fun j=> ∀a c h w,d w→e a w→f c w→i h w→Q0 a false w (pick P c h (.bool false)) (dk b j w)) fun j=>Q6 b (fun q=> ∀a g w,d w→e a w→j g w→pick P a (.bool true) g w (dk b q w)) fun q=>∀ax ac be ak ah a am D Q ar ab W aj c C u aa aq N V h g az w,d w→af ax w→L ac w→a4 be w→al ak w→ae ah w→e a w→v am w→X D w→ao Q w→aw ar w→A ab w→av W w→s aj w→f c w→R C w→E u w→O aa w→ad aq w→U N w→B V w→i h w→j g w→q az w→ indexAddr P T.a4 be l w fun bd w=>Z6 P T.q bd az w fun _u w=>Q3 P .add T.d (.tmp 71) (.const (.int .i64 1)) l (.int .i64 1) w fun b0 w=>o b0 w) (Q3 P .add T.d (.tmp 65) (.const (.int .i64 1)) n (.int .i64 1) w fun bi w=>k bi w)) (Q3 P .add T.d (.tmp 59) (.const (.int .i64 1)) z (.int .i64 1) w fun bm w=>m bm w)) (K r.1 w))
theorem Fu {a:Value} {w:World} {K:Value→World→Prop} (h:Wq a w K):Q1 P F.aA [a] w K:=Q8 Fa Tryz.func103 rfl (by decide) (by kernel_rfl) h
def Py:V3:=[none,none,none,none,none,none,some ([9],[8,9,16,17,18,19,20,21,22,23,24,25,26,27,28]),none,none,none,none,none,none,none,none,some ([1,11],[1,11,41,42,43,44,45,46,47,48,49,50,51,52,53,54,55,56]),none,none,none,none]
def Nk (y s X r:Value) (w:World) (K:Value→World→Prop):Prop:= Q3 P .lss T.d (.tmp 12) (.tmp 13) r X w fun M w=>X1 M (K s w) (lp (α:=Value) (.int .i64 0) w fun h Q Y w=>X6 P .len [T.a3] T.d [false] [s] w fun O w=>Q3 P .lss T.d (.tmp 16) (.tmp 18) Q O w fun E w=>X1 E (indexAddr P T.a3 s Q w fun J w=>Q2 P T.d J w fun W w=>Q3 P .eql T.d (.tmp 25) (.tmp 26) W r w fun V w=>X1 V (K s w) (Q3 P .add T.d (.tmp 20) (.const (.int .i64 1)) Q (.int .i64 1) w fun U w=>h U w)) (dr w fun a o=>Q6 a (fun n=> ∀w,o w→indexAddr P T.g y r w (dk a n w)) fun n=>Q6 a (fun g=> ∀k w,o w→n k w→fieldAddr P T.a k 1 w (dk a g w)) fun g=>Q6 a (fun i=> ∀w,o w→indexAddr P T.g y r w (dk a i w)) fun i=>Q6 a (fun f=> ∀j w,o w→i j w→fieldAddr P T.a j 2 w (dk a f w)) fun f=>Q6 a (fun e=> ∀d w,o w→g d w→Q2 P T.b d w (dk a e w)) fun e=>Q6 a (fun p=> ∀l w,o w→e l w→buildSlice P T.e 1 [(0,l)] w (dk a p w)) fun p=>Q6 a (fun q=> ∀m w,o w→f m w→Q2 P T.e m w (dk a q w)) fun q=>∀k d j m l t v w,o w→n k w→g d w→i j w→f m w→e l w→p t w→q v w→ X6 P .append [T.e,T.e] T.e [false,false] [t,v] w fun u w=>lp (α:=Value×Value) (s,(.int .i64 0)) w fun b c Y w=>X6 P .len [T.e] T.d [false] [u] w fun R w=>Q3 P .lss T.d (.tmp 41) (.tmp 43) c.2 R w fun C w=>X1 C (indexAddr P T.e u c.2 w fun z w=>Q2 P T.b z w fun D w=>Q1 P F.b [y,D] w fun L w=>Q1 P F.aO [y,c.1,X,L] w fun A w=>Q3 P .add T.d (.tmp 45) (.const (.int .i64 1)) c.2 (.int .i64 1) w fun B w=>b (A,B) w) (buildSlice P T.a3 1 [(0,r)] w fun N w=>X6 P .append [T.a3,T.a3] T.a3 [false,false] [c.1,N] w fun H w=>K H w)))
theorem Ky {b d c a:Value} {w:World} {K:Value→World→Prop} (h:Nk b d c a w K):Q1 P F.aO [b,d,c,a] w K:=Q8 Py Tryz.func104 rfl (by decide) (by kernel_rfl) h
def Qa (u A:Value) (w:World) (K:Value→World→Prop):Prop:= Q1 P F.b [u,A] w fun v w=>Q3 P .lss T.d (.tmp 9) (.const (.int .i64 0)) v (.int .i64 0) w fun y w=>X1 y (K (.slice none 0 0) w) (dr w fun a b=>Q6 a (fun m=> ∀w,b w→indexAddr P T.g u v w (dk a m w)) fun m=>Q6 a (fun g=> ∀n w,b w→m n w→fieldAddr P T.a n 1 w (dk a g w)) fun g=>Q6 a (fun i=> ∀w,b w→indexAddr P T.g u v w (dk a i w)) fun i=>Q6 a (fun p=> ∀k w,b w→i k w→fieldAddr P T.a k 6 w (dk a p w)) fun p=>Q6 a (fun e=> ∀w,b w→buildSlice P T.h 0 [] w (dk a e w)) fun e=>Q6 a (fun l=> ∀d w,b w→g d w→Q2 P T.b d w (dk a l w)) fun l=>Q6 a (fun f=> ∀c w,b w→l c w→Q1 P F.y [u,c] w (dk a f w)) fun f=>Q6 a (fun r=> ∀o j w,b w→e o w→f j w→X6 P .append [T.h,T.h] T.h [false,false] [o,j] w (dk a r w)) fun r=>Q6 a (fun q=> ∀h w,b w→p h w→Q2 P T.h h w (dk a q w)) fun q=>∀n d k h o c j s t w,b w→m n w→g d w→i k w→p h w→e o w→l c w→f j w→r s w→q t w→ X6 P .append [T.h,T.h] T.h [false,false] [s,t] w fun z w=>K z w)
theorem Vf {a b:Value} {w:World} {K:Value→World→Prop} (h:Qa a b w K):Q1 P F.y [a,b] w K:=Q8 (List.replicate 6 none) Tryz.func73 rfl (by decide) (by kernel_rfl) h
def Cz:V3:=[none,none,none,none,some ([8],[6,8,12,13,14,15,16,17,18,19,20,21,22,23,24,25]),none,none,none,none,none,none]
def Lh (k m l:Value) (w:World) (K:Value→World→Prop):Prop:= Q1 P F.y [k,m] w fun b w=>lp (α:=Value) (.int .i64 0) w fun a c n w=>X6 P .len [T.h] T.d [false] [b] w fun h w=>Q3 P .lss T.d (.tmp 12) (.tmp 14) c h w fun i w=>X1 i (indexAddr P T.h b c w fun e w=>fieldAddr P T.j e 0 w fun j w=>Q2 P T.b j w fun d w=>Q3 P .eql T.b (.tmp 22) (.tmp 23) d l w fun f w=>X1 f (K c w) (Q3 P .add T.d (.tmp 16) (.const (.int .i64 1)) c (.int .i64 1) w fun g w=>a g w)) (K (.int .i64 (-1)) w)
theorem Bp {a c b:Value} {w:World} {K:Value→World→Prop} (h:Lh a c b w K):Q1 P F.bf [a,c,b] w K:=Q8 Cz Tryz.func149 rfl (by decide) (by kernel_rfl) h
def Lt (a:Value) (w:World) (K:Value→World→Prop):Prop:= X6 P .len [T.b] T.d [false] [a] w fun c w=>Q1 P F.aj [a] w fun f w=>Q3 P .mul T.d (.const (.int .i64 2)) (.tmp 7) (.int .i64 2) f w fun d w=>Q3 P .sub T.d (.tmp 5) (.tmp 8) c d w fun e w=>R6 P T.b a none (some e) none w fun b w=>K b w
theorem Ij {a:Value} {w:World} {K:Value→World→Prop} (h:Lt a w K):Q1 P F.aJ [a] w K:=Q8 (List.replicate 2 none) Tryz.func153 rfl (by decide) (by kernel_rfl) h
def Ln (p d:Value) (w:World) (K:Value→World→Prop):Prop:= Q3 P .eql T.b (.tmp 5) (.const (.string ⟨#[110,117,108,108]⟩)) d (.string ⟨#[110,117,108,108]⟩) w fun c w=>Q0 c false w (fun w J=>J d w) fun q w=>Q0 c false w (Q1 P F.h [q]) fun r w=>Q0 c false w (fun w J=>J r w) fun b w=>Q0 b true w (fun w J=>J d w) fun o w=>Q0 b true w (Q1 P F.aJ [o]) fun i w=>Q0 b true w (Q1 P F.ad [i]) fun g w=>Q0 b true w (fun w J=>J g w) fun a w=>Q0 a false w (fun w J=>J p w) fun m w=>Q0 a false w (fun w J=>J d w) fun f w=>Q0 a false w (Q1 P F.aJ [f]) fun e w=>Q0 a false w (Q1 P F.b [m,e]) fun j w=>Q0 a false w (Q3 P .geq T.d (.tmp 18) (.const (.int .i64 0)) j (.int .i64 0)) fun h w=>Q0 b true w (pick P a (.bool true) h) fun l w=>Q0 c false w (pick P b l (.bool false)) fun n w=>pick P c (.bool true) n w fun k w=>K k w
theorem Gx {a b:Value} {w:World} {K:Value→World→Prop} (h:Ln a b w K):Q1 P F.bq [a,b] w K:=Q8 (List.replicate 2 none) Tryz.func106 rfl (by decide) (by kernel_rfl) h
def Wv (e d:Value) (w:World) (K:Value→World→Prop):Prop:= Q3 P .neq T.b (.tmp 5) (.const (.string ⟨#[110,117,108,108]⟩)) d (.string ⟨#[110,117,108,108]⟩) w fun a w=>Q0 a true w (fun w J=>J e w) fun f w=>Q0 a true w (fun w J=>J d w) fun g w=>Q0 a true w (Q1 P F.bq [f,g]) fun b w=>pick P a b (.bool false) w fun c w=>K c w
theorem Gc {a b:Value} {w:World} {K:Value→World→Prop} (h:Wv a b w K):Q1 P F.bg [a,b] w K:=Q8 (List.replicate 2 none) Tryz.func150 rfl (by decide) (by kernel_rfl) h
def Gq:V3:=[none,none,none,none,some ([3,4],[3,4,5,6,7,8,9,10,11,12,13,14,15,16,17,18,19,20,21,22]),none,none,none,some ([3],[3,12,13,14,15]),none,none]
def Ly (q:Value) (w:World) (K:Value→World→Prop):Prop:= box P T.c q w fun a w=>lp (α:=Value×Value) ((.string ⟨#[40]⟩),(.int .i64 0)) w fun b c s w=>fieldAddr P T.c a 1 w fun u w=>Q2 P T.e u w fun y w=>X6 P .len [T.e] T.d [false] [y] w fun r w=>Q3 P .lss T.d (.tmp 5) (.tmp 8) c.2 r w fun t w=>X1 t (jn (α:=Value) w (fun p w=>Q3 P .gtr T.d (.tmp 12) (.const (.int .i64 0)) c.2 (.int .i64 0) w fun e w=>X1 e (Q3 P .add T.b (.tmp 14) (.const (.string ⟨#[44]⟩)) c.1 (.string ⟨#[44]⟩) w fun k w=>p k w) (p c.1 w)) fun v s w=>fieldAddr P T.c a 1 w fun d w=>Q2 P T.e d w fun h w=>indexAddr P T.e h c.2 w fun j w=>Q2 P T.b j w fun l w=>Q3 P .add T.b (.tmp 16) (.tmp 21) v l w fun i w=>Q3 P .add T.d (.tmp 10) (.const (.int .i64 1)) c.2 (.int .i64 1) w fun n w=>b (i,n) w) (Q3 P .add T.b (.tmp 23) (.const (.string ⟨#[41]⟩)) c.1 (.string ⟨#[41]⟩) w fun g w=>fieldAddr P T.c a 2 w fun o w=>Q2 P T.b o w fun f w=>Q3 P .add T.b (.tmp 24) (.tmp 26) g f w fun m w=>K m w)
theorem Gy {a:Value} {w:World} {K:Value→World→Prop} (h:Ly a w K):Q1 P F.aI [a] w K:=Q8 Gq Tryz.func151 rfl (by decide) (by kernel_rfl) h
def Km:V3:=[none,none,none,some ([5],[4,5,6,7,8,9,10,11,12,13,14,15,16,17,18,19,20,21]),none,none,none,none,none,none]
def Nq (m l:Value) (w:World) (K:Value→World→Prop):Prop:= box P T.a m w fun a w=>lp (α:=Value) (.int .i64 0) w fun b c q w=>fieldAddr P T.a a 7 w fun p w=>Q2 P T.f p w fun n w=>X6 P .len [T.f] T.d [false] [n] w fun o w=>Q3 P .lss T.d (.tmp 6) (.tmp 9) c o w fun k w=>X1 k (fieldAddr P T.a a 7 w fun f w=>Q2 P T.f f w fun h w=>indexAddr P T.f h c w fun e w=>fieldAddr P T.c e 0 w fun d w=>Q2 P T.b d w fun i w=>Q3 P .eql T.b (.tmp 18) (.tmp 19) i l w fun j w=>X1 j (K c w) (Q3 P .add T.d (.tmp 11) (.const (.int .i64 1)) c (.int .i64 1) w fun g w=>b g w)) (K (.int .i64 (-1)) w)
theorem Pi {a b:Value} {w:World} {K:Value→World→Prop} (h:Nq a b w K):Q1 P F.aP [a,b] w K:=Q8 Km Tryz.func183 rfl (by decide) (by kernel_rfl) h
def Fx:V3:=[none,none,none,some ([9],[6,8,9,10,11,12,13,14,15,16,17,18,19,20,21,22,23,24,25,26,27,28,29,30,31,32,33,34,35,36,37,38,39,40,41,42,43,44,45,46,47,48,49,50,51,52,53,54]),none,none,none,none,none,none,none,none,none,none,none,none]
def Wb (L a1 a2:Value) (w:World) (K:Value→World→Prop):Prop:= box P T.a a1 w fun d w=>W1 P T.c w fun s w=>lp (α:=Value) (.int .i64 0) w fun m V d_ w=>fieldAddr P T.a d 2 w fun H w=>Q2 P T.e H w fun E w=>X6 P .len [T.e] T.d [false] [E] w fun Q w=>Q3 P .lss T.d (.tmp 15) (.tmp 18) V Q w fun M w=>X1 M (fieldAddr P T.a d 2 w fun N w=>Q2 P T.e N w fun ab w=>indexAddr P T.e ab V w fun Y w=>Q2 P T.b Y w fun Z w=>Q1 P F.b [L,Z] w fun U w=>indexAddr P T.g L U w fun B w=>Q2 P T.a B w fun R w=>W1 P T.a w fun a w=>Z6 P T.a a R w fun _u w=>Q2 P T.a a w fun C w=>Q1 P F.aP [C,a2] w fun u w=>Q3 P .geq T.d (.tmp 35) (.const (.int .i64 0)) u (.int .i64 0) w fun J w=>X1 J (dr w fun b e=>Q6 b (fun h=> ∀w,e w→fieldAddr P T.a a 0 w (dk b h w)) fun h=>Q6 b (fun j=> ∀w,e w→fieldAddr P T.a a 7 w (dk b j w)) fun j=>Q6 b (fun q=> ∀k w,e w→h k w→Q2 P T.b k w (dk b q w)) fun q=>Q6 b (fun g=> ∀n w,e w→j n w→Q2 P T.f n w (dk b g w)) fun g=>Q6 b (fun i=> ∀l w,e w→g l w→indexAddr P T.f l u w (dk b i w)) fun i=>Q6 b (fun r=> ∀f w,e w→i f w→Q2 P T.c f w (dk b r w)) fun r=>∀k n y l f v w,e w→h k w→j n w→q y w→g l w→i f w→r v w→ Z6 P T.c s v w fun _u w=>V4 P T.c s w fun z=>K (.tuple #[y,z,(.bool true)]) w) (Q2 P T.a a w fun D w=>Q1 P F.aB [L,D,a2] w fun p w=>ext P p 0 w fun W w=>ext P p 1 w fun A w=>ext P p 2 w fun aa w=>W1 P T.c w fun c w=>Z6 P T.c c A w fun _u w=>X1 aa (dr w fun b e=>Q6 b (fun o=> ∀w,e w→Q2 P T.c c w (dk b o w)) fun o=>∀t w,e w→o t w→ Z6 P T.c s t w fun _u w=>V4 P T.c s w fun z=>K (.tuple #[W,z,(.bool true)]) w) (Q3 P .add T.d (.tmp 20) (.const (.int .i64 1)) V (.int .i64 1) w fun X w=>m X w))) (N8 P T.c [] w fun O w=>Z6 P T.c s O w fun _u w=>V4 P T.c s w fun z=>K (.tuple #[(.string ⟨#[]⟩),z,(.bool false)]) w)
theorem Fp {a c b:Value} {w:World} {K:Value→World→Prop} (h:Wb a c b w K):Q1 P F.aB [a,c,b] w K:=Q8 Fx Tryz.func184 rfl (by decide) (by kernel_rfl) h
def Sr:V3:=[none,none,none,some ([9],[6,8,9,10,18,19,20,21,22,23,24,25,26,27,28,29,30,31,32,33,34,35,36,37,38,39,40,41,42,43,44,45,46,47]),none,none,none,none,none,none,none,none,some ([11],[6,8,11,12,13,14,51,52,53,54,55,56,57,58,59,60,61,62,63,64,65,66,67,68,69,70,71,72,73]),none,none,none,none,none,none,none]
def Vg (c a1 a2:Value) (w:World) (K:Value→World→Prop):Prop:= W1 P T.c w fun y w=>Q1 P F.b [c,a1] w fun O w=>lp (α:=Value) O w fun n D d_ w=>Q3 P .geq T.d (.tmp 18) (.const (.int .i64 0)) D (.int .i64 0) w fun R w=>X1 R (indexAddr P T.g c D w fun ab w=>Q2 P T.a ab w fun L w=>Q1 P F.aP [L,a2] w fun z w=>Q3 P .geq T.d (.tmp 33) (.const (.int .i64 0)) z (.int .i64 0) w fun Y w=>X1 Y (dr w fun a b=>Q6 a (fun j=> ∀w,b w→indexAddr P T.g c D w (dk a j w)) fun j=>Q6 a (fun h=> ∀l w,b w→j l w→fieldAddr P T.a l 0 w (dk a h w)) fun h=>Q6 a (fun k=> ∀w,b w→indexAddr P T.g c D w (dk a k w)) fun k=>Q6 a (fun p=> ∀e w,b w→k e w→fieldAddr P T.a e 7 w (dk a p w)) fun p=>Q6 a (fun u=> ∀o w,b w→h o w→Q2 P T.b o w (dk a u w)) fun u=>Q6 a (fun i=> ∀m w,b w→p m w→Q2 P T.f m w (dk a i w)) fun i=>Q6 a (fun q=> ∀g w,b w→i g w→indexAddr P T.f g z w (dk a q w)) fun q=>Q6 a (fun s=> ∀f w,b w→q f w→Q2 P T.c f w (dk a s w)) fun s=>∀l o e m E g f C w,b w→j l w→h o w→k e w→p m w→u E w→i g w→q f w→s C w→ Z6 P T.c y C w fun _u w=>V4 P T.c y w fun H=>K (.tuple #[E,H,(.bool true)]) w) (indexAddr P T.g c D w fun X w=>fieldAddr P T.a X 1 w fun V w=>Q2 P T.b V w fun ah w=>Q1 P F.b [c,ah] w fun U w=>n U w)) (Q1 P F.b [c,a1] w fun J w=>lp (α:=Value) J w fun d v d_ w=>Q3 P .geq T.d (.tmp 51) (.const (.int .i64 0)) v (.int .i64 0) w fun ad w=>X1 ad (indexAddr P T.g c v w fun af w=>Q2 P T.a af w fun ag w=>Q1 P F.aB [c,ag,a2] w fun t w=>ext P t 0 w fun ac w=>ext P t 1 w fun M w=>ext P t 2 w fun W w=>W1 P T.c w fun A w=>Z6 P T.c A M w fun _u w=>X1 W (dr w fun a b=>Q6 a (fun r=> ∀w,b w→Q2 P T.c A w (dk a r w)) fun r=>∀B w,b w→r B w→ Z6 P T.c y B w fun _u w=>V4 P T.c y w fun H=>K (.tuple #[ac,H,(.bool true)]) w) (indexAddr P T.g c v w fun N w=>fieldAddr P T.a N 1 w fun Q w=>Q2 P T.b Q w fun ae w=>Q1 P F.b [c,ae] w fun Z w=>d Z w)) (N8 P T.c [] w fun aa w=>Z6 P T.c y aa w fun _u w=>V4 P T.c y w fun H=>K (.tuple #[(.string ⟨#[]⟩),H,(.bool false)]) w))
theorem Sc {a c b:Value} {w:World} {K:Value→World→Prop} (h:Vg a c b w K):Q1 P F.b0 [a,c,b] w K:=Q8 Sr Tryz.func152 rfl (by decide) (by kernel_rfl) h
def Rf:V3:=[none,none,none,none,some ([6],[4,6,24,25,26,27,28,29,30,31,32,33,34,35,36,37,38,39,40,41]),none,none,none,none,none,none,none,none,some ([7,8],[7,8,43,44,45,46,47,48,49,50,51,52,53,54,55,56,57,58]),none,none,none,none,none,some ([7,9],[7,9,59,60,61,62,63,64,65,66,67,68,69,70,71,72,73,74,75,76,77,78,79,80,81,82,83,84,85,86,87,88,89]),none,none,some ([7],[7,66,67,68,69,70,71,72,73,74,75,76,77,78,79,80,81,82,83,84,85,86,87,88,89]),none,none,none,none,some ([10],[4,10,90,91,92,93,94,95,96,97,98,99,100,101,102]),none,none,none,none,none,none,none,none,none,some ([12,13],[12,13,106,107,108,109,110,111,112,113,114,115,116,117,118,119,120,121,122,123,124,125,126,127,128,129,130]),none,none,some ([12],[12,112,113,114,115,116,117,118,119,120,121,122,123,124,125,126,127,128,129,130]),none,none,none,some ([14],[4,14,15,131,132,133,134,135,136,137,138,139,140,141,142,143,144,145,146,147,148,149,150,151,152,153,154,155,156,157,158,159,160,161,162,163,164,165]),none,none,none,none,some ([15],[4,15,137,138,139,140,141,142,143,144,145,146,147,148,149,150,151,152,153,154,155,156,157,158,159,160,161,162,163,164,165]),none,none,none,none,none,none,none,some ([16],[4,16,17,18,19,166,167,168,169,170,171,172,173,174,175,176,177,178,179,180,181,182,183,184,185,186,187,188,189,190,191,192,193,194,195]),none,none,none,none,none,none,none]
def Jx (a0 a1:Value) (w:World) (K:Value→World→Prop):Prop:= indexAddr P T.g a0 a1 w fun d9 w=>Q2 P T.a d9 w fun dy w=>W1 P T.a w fun t5 w=>Z6 P T.a t5 dy w fun _u w=>lp (α:=Value) (.int .i64 0) w fun a2 x4 d_ w=>fieldAddr P T.a t5 6 w fun eh w=>Q2 P T.h eh w fun dh w=>X6 P .len [T.h] T.d [false] [dh] w fun dp w=>Q3 P .lss T.d (.tmp 24) (.tmp 27) x4 dp w fun eg w=>X1 eg (dr w fun b c=>Q6 b (fun a4=> ∀w,c w→fieldAddr P T.a t5 1 w (dk b a4 w)) fun a4=>Q6 b (fun ba=> ∀w,c w→fieldAddr P T.a t5 6 w (dk b ba w)) fun ba=>Q6 b (fun bl=> ∀a3 w,c w→a4 a3 w→Q2 P T.b a3 w (dk b bl w)) fun bl=>Q6 b (fun bf=> ∀bb w,c w→ba bb w→Q2 P T.h bb w (dk b bf w)) fun bf=>Q6 b (fun bc=> ∀a9 w,c w→bf a9 w→indexAddr P T.h a9 x4 w (dk b bc w)) fun bc=>Q6 b (fun a7=> ∀bd w,c w→bc bd w→fieldAddr P T.j bd 0 w (dk b a7 w)) fun a7=>Q6 b (fun bk=> ∀be w,c w→a7 be w→Q2 P T.b be w (dk b bk w)) fun bk=>∀a3 bb bu a9 bd be bz w,c w→a4 a3 w→ba bb w→bl bu w→bf a9 w→bc bd w→a7 be w→bk bz w→ Q1 P F.bf [a0,bu,bz] w fun ec w=>Q3 P .geq T.d (.tmp 40) (.const (.int .i64 0)) ec (.int .i64 0) w fun da w=>X1 da (K (.int .i64 64) w) (Q3 P .add T.d (.tmp 29) (.const (.int .i64 1)) x4 (.int .i64 1) w fun du w=>a2 du w)) (buildSlice P T.e 0 [] w fun dg w=>lp (α:=Value×Value) (dg,(.int .i64 0)) w fun ak am d_ w=>fieldAddr P T.a t5 6 w fun dw w=>Q2 P T.h dw w fun d6 w=>X6 P .len [T.h] T.d [false] [d6] w fun dv w=>Q3 P .lss T.d (.tmp 43) (.tmp 46) am.2 dv w fun dl w=>X1 dl (fieldAddr P T.a t5 6 w fun db w=>Q2 P T.h db w fun c6 w=>indexAddr P T.h c6 am.2 w fun d4 w=>fieldAddr P T.j d4 1 w fun c3 w=>Q2 P T.b c3 w fun d2 w=>buildSlice P T.e 1 [(0,d2)] w fun cz w=>X6 P .append [T.e,T.e] T.e [false,false] [am.1,cz] w fun c9 w=>Q3 P .add T.d (.tmp 48) (.const (.int .i64 1)) am.2 (.int .i64 1) w fun ed w=>ak (c9,ed) w) (lp (α:=Value×Value) (am.1,(.int .i64 0)) w fun aj j d_ w=>fieldAddr P T.a t5 7 w fun c1 w=>Q2 P T.f c1 w fun cx w=>X6 P .len [T.f] T.d [false] [cx] w fun dc w=>Q3 P .lss T.d (.tmp 59) (.tmp 62) j.2 dc w fun dt w=>X1 dt (jn (α:=Value) w (fun b4 w=>fieldAddr P T.a t5 7 w fun c0 w=>Q2 P T.f c0 w fun eb w=>indexAddr P T.f eb j.2 w fun d7 w=>fieldAddr P T.c d7 1 w fun d3 w=>Q2 P T.e d3 w fun ea w=>X6 P .append [T.e,T.e] T.e [false,false] [j.1,ea] w fun b5 w=>fieldAddr P T.a t5 7 w fun c4 w=>Q2 P T.f c4 w fun ds w=>indexAddr P T.f ds j.2 w fun dd w=>fieldAddr P T.c dd 2 w fun dn w=>Q2 P T.b dn w fun d5 w=>Q3 P .neq T.b (.tmp 79) (.const (.string ⟨#[]⟩)) d5 (.string ⟨#[]⟩) w fun df w=>X1 df (fieldAddr P T.a t5 7 w fun dj w=>Q2 P T.f dj w fun di w=>indexAddr P T.f di j.2 w fun d1 w=>fieldAddr P T.c d1 2 w fun dm w=>Q2 P T.b dm w fun c2 w=>buildSlice P T.e 1 [(0,c2)] w fun c7 w=>X6 P .append [T.e,T.e] T.e [false,false] [b5,c7] w fun de w=>b4 de w) (b4 b5 w)) fun c8 d_ w=>Q3 P .add T.d (.tmp 64) (.const (.int .i64 1)) j.2 (.int .i64 1) w fun ef w=>aj (c8,ef) w) (lp (α:=Value) (.int .i64 0) w fun al bn d_ w=>X6 P .len [T.e] T.d [false] [j.1] w fun d8 w=>Q3 P .lss T.d (.tmp 90) (.tmp 92) bn d8 w fun ee w=>X1 ee (indexAddr P T.e j.1 bn w fun d0 w=>Q2 P T.b d0 w fun cu w=>Q1 P F.bg [a0,cu] w fun cs w=>Z8 P .not cs w fun cc w=>X1 cc (K (.int .i64 65) w) (Q3 P .add T.d (.tmp 94) (.const (.int .i64 1)) bn (.int .i64 1) w fun cy w=>al cy w)) (Q1 P F.aA [a0] w fun cg w=>buildSlice P T.f 0 [] w fun co w=>lp (α:=Value×Value) (co,(.int .i64 0)) w fun an f d_ w=>X6 P .len [T.g] T.d [false] [a0] w fun b3 w=>Q3 P .lss T.d (.tmp 106) (.tmp 108) f.2 b3 w fun cj w=>X1 cj (jn (α:=Value) w (fun cw w=>Q3 P .eql T.d (.tmp 112) (.tmp 113) f.2 a1 w fun g w=>Q0 g false w (fun w J=>J cg w) fun b6 w=>Q0 g false w (fun w J=>J a1 w) fun bo w=>Q0 g false w (indexAddr P T.a6 b6 bo) fun cr w=>Q0 g false w (Q2 P T.a4 cr) fun cp w=>Q0 g false w (fun w J=>J f.2 w) fun b7 w=>Q0 g false w (indexAddr P T.a4 cp b7) fun bw w=>Q0 g false w (Q2 P T.q bw) fun cl w=>pick P g (.bool true) cl w fun ce w=>X1 ce (indexAddr P T.g a0 f.2 w fun cn w=>fieldAddr P T.a cn 7 w fun bq w=>Q2 P T.f bq w fun b9 w=>X6 P .append [T.f,T.f] T.f [false,false] [f.1,b9] w fun bx w=>cw bx w) (cw f.1 w)) fun dq d_ w=>Q3 P .add T.d (.tmp 110) (.const (.int .i64 1)) f.2 (.int .i64 1) w fun ck w=>an (dq,ck) w) (lp (α:=Value) (.int .i64 0) w fun ao aw d_ w=>X6 P .len [T.f] T.d [false] [f.1] w fun b2 w=>Q3 P .lss T.d (.tmp 131) (.tmp 133) aw b2 w fun ct w=>X1 ct (lp (α:=Value) (.int .i64 0) w fun ar a6 d_ w=>Q3 P .lss T.d (.tmp 137) (.tmp 138) a6 aw w fun ci w=>X1 ci (dr w fun b c=>Q6 b (fun Y=> ∀w,c w→indexAddr P T.f f.1 aw w (dk b Y w)) fun Y=>Q6 b (fun M=> ∀t w,c w→Y t w→fieldAddr P T.c t 0 w (dk b M w)) fun M=>Q6 b (fun aa=> ∀w,c w→indexAddr P T.f f.1 a6 w (dk b aa w)) fun aa=>Q6 b (fun z=> ∀ac w,c w→aa ac w→fieldAddr P T.c ac 0 w (dk b z w)) fun z=>Q6 b (fun o=> ∀l w,c w→M l w→Q2 P T.b l w (dk b o w)) fun o=>Q6 b (fun U=> ∀y w,c w→z y w→Q2 P T.b y w (dk b U w)) fun U=>Q6 b (fun d=> ∀ae q w,c w→o ae w→U q w→Q3 P .eql T.b (.tmp 146) (.tmp 151) ae q w (dk b d w)) fun d=>Q6 b (fun C=> ∀a w,c w→d a w→Q0 a true w (fun w J=>J f.1 w) (dk b C w)) fun C=>Q6 b (fun D=> ∀a w,c w→d a w→Q0 a true w (fun w J=>J aw w) (dk b D w)) fun D=>Q6 b (fun B=> ∀a s r w,c w→d a w→C s w→D r w→Q0 a true w (indexAddr P T.f s r) (dk b B w)) fun B=>Q6 b (fun O=> ∀a w,c w→d a w→Q0 a true w (fun w J=>J f.1 w) (dk b O w)) fun O=>Q6 b (fun v=> ∀a w,c w→d a w→Q0 a true w (fun w J=>J a6 w) (dk b v w)) fun v=>Q6 b (fun af=> ∀a H L w,c w→d a w→O H w→v L w→Q0 a true w (indexAddr P T.f H L) (dk b af w)) fun af=>Q6 b (fun Z=> ∀a V w,c w→d a w→B V w→Q0 a true w (Q2 P T.c V) (dk b Z w)) fun Z=>Q6 b (fun ax=> ∀a ab w,c w→d a w→Z ab w→Q0 a true w (Q1 P F.aI [ab]) (dk b ax w)) fun ax=>Q6 b (fun av=> ∀a u w,c w→d a w→af u w→Q0 a true w (Q2 P T.c u) (dk b av w)) fun av=>∀t l ac y ae q a s r V H L u ab bh bi w,c w→Y t w→M l w→aa ac w→z y w→o ae w→U q w→d a w→C s w→D r w→B V w→O H w→v L w→af u w→Z ab w→ax bh w→av bi w→ Q0 a true w (Q1 P F.aI [bi]) fun cm w=>Q0 a true w (Q3 P .neq T.b (.tmp 158) (.tmp 163) bh cm) fun cd w=>pick P a cd (.bool false) w fun cb w=>X1 cb (K (.int .i64 66) w) (Q3 P .add T.d (.tmp 140) (.const (.int .i64 1)) a6 (.int .i64 1) w fun b1 w=>ar b1 w)) (Q3 P .add T.d (.tmp 135) (.const (.int .i64 1)) aw (.int .i64 1) w fun ch w=>ao ch w)) (lp (α:=Value) (.int .i64 0) w fun ai bj d_ w=>X6 P .len [T.f] T.d [false] [f.1] w fun cq w=>Q3 P .lss T.d (.tmp 166) (.tmp 168) bj cq w fun p w=>Q0 p true w (fieldAddr P T.a t5 4) fun bv w=>Q0 p true w (Q2 P T.q bv) fun b0 w=>Q0 p true w (Z8 P .not b0) fun bp w=>pick P p bp (.bool false) w fun ca w=>X1 ca (dr w fun b c=>Q6 b (fun W=> ∀w,c w→fieldAddr P T.a t5 0 w (dk b W w)) fun W=>Q6 b (fun A=> ∀w,c w→indexAddr P T.f f.1 bj w (dk b A w)) fun A=>Q6 b (fun n=> ∀R w,c w→A R w→fieldAddr P T.c R 0 w (dk b n w)) fun n=>Q6 b (fun ag=> ∀N w,c w→W N w→Q2 P T.b N w (dk b ag w)) fun ag=>Q6 b (fun Q=> ∀X w,c w→n X w→Q2 P T.b X w (dk b Q w)) fun Q=>Q6 b (fun h=> ∀ad m w,c w→ag ad w→Q m w→Q1 P F.b0 [a0,ad,m] w (dk b h w)) fun h=>Q6 b (fun ay=> ∀e w,c w→h e w→ext P e 0 w (dk b ay w)) fun ay=>Q6 b (fun E=> ∀e w,c w→h e w→ext P e 1 w (dk b E w)) fun E=>Q6 b (fun az=> ∀e w,c w→h e w→ext P e 2 w (dk b az w)) fun az=>Q6 b (fun a8=> ∀w,c w→W1 P T.c w (dk b a8 w)) fun a8=>Q4b b (fun ap=> ∀k i w,c w→a8 k w→E i w→Z6 P T.c k i w (dk b (ap [k,i]) w)) fun ap=>∀N R X ad m e b8 i bg k c5 w,c w→W N w→A R w→n X w→ag ad w→Q m w→h e w→ay b8 w→E i w→az bg w→a8 k w→ap [k,i] c5 w→ Z8 P .not bg w fun aq w=>Q0 aq false w (fieldAddr P T.c k 3) fun bs w=>Q0 aq false w (Q2 P T.q bs) fun cf w=>pick P aq (.bool true) cf w fun cv w=>X1 cv (K (.int .i64 67) w) (Q3 P .add T.d (.tmp 175) (.const (.int .i64 1)) bj (.int .i64 1) w fun br w=>ai br w)) (K (.int .i64 0) w)))))))
theorem Rt {a b:Value} {w:World} {K:Value→World→Prop} (h:Jx a b w K):Q1 P F.aV [a,b] w K:=Q8 Rf Tryz.func105 rfl (by decide) (by kernel_rfl) h
end Go.Proofs.YtjdiakhipmggjaaGreatDoor

set_option maxRecDepth 100000
namespace Go.Proofs.YtjdiakhipmggjaaGreatDoor
open Go.Emb
def Ko:V3:=[none,none,none,none,none,some ([5,7],[2,3,4,5,7,8,21,22,23,24,25,26,27,28,29,30,31,32,33,34,35,36,37,38,39,40,41,42]),none,none,none,none,none,none,none,none,none,some ([9],[2,3,4,9,43,44,45,46,47,48,49,50,51,52,53,54,55,56,57,58,59,60]),none,none,none,none,none,none,none,some ([10],[2,3,4,10,11,61,62,63,64,65,66,67,68,69,70,71,72,73,74,75,76]),none,none,none,none,none,none,none,none,none,some ([13],[2,3,4,13,79,80,81,82,83,84,85,86,87,88,89,90,91,92,93,94,95,96]),none,none,none,none,none,none,none,none,some ([14,15],[14,15,98,99,100,101,102,103,104,105,106,107,108,109,110]),none,none,none,none,none,some ([16],[2,3,4,16,17,111,112,113,114,115,116,117,118,119,120,121,122,123,124,125,126,127,128,129,130,131]),none,none,none,none,none,none,none]
def Nf (l:Value) (w:World) (K:Value→World→Prop):Prop:= Q1 P F.bb [] w fun y w=>X6 P .len [T.g] T.d [false] [y] w fun b w=>lp (α:=Value×Value) (y,(.int .i64 0)) w fun m c u w=>X6 P .len [T.g] T.d [false] [l] w fun aj w=>Q3 P .lss T.d (.tmp 21) (.tmp 23) c.2 aj w fun ae w=>X1 ae (indexAddr P T.g l c.2 w fun ao w=>Q2 P T.a ao w fun Q w=>Q1 P F.bc [Q] w fun C w=>Q3 P .neq T.w (.tmp 32) (.const (.int .i64 0)) C (.int .i64 0) w fun ax w=>X1 ax (K (.tuple #[(.slice none 0 0),c.2,C]) w) (indexAddr P T.g l c.2 w fun a4 w=>Q2 P T.a a4 w fun ar w=>buildSlice P T.g 1 [(0,ar)] w fun a2 w=>X6 P .append [T.g,T.g] T.g [false,false] [c.1,a2] w fun W w=>Q3 P .add T.d (.tmp 25) (.const (.int .i64 1)) c.2 (.int .i64 1) w fun ad w=>m (W,ad) w)) (lp (α:=Value) (.int .i64 0) w fun i k u w=>X6 P .len [T.g] T.d [false] [l] w fun af w=>Q3 P .lss T.d (.tmp 43) (.tmp 45) k af w fun X w=>X1 X (indexAddr P T.g l k w fun aq w=>fieldAddr P T.a aq 0 w fun O w=>Q2 P T.b O w fun aa w=>Q1 P F.b [c.1,aa] w fun ah w=>Q3 P .add T.d (.tmp 56) (.tmp 57) b k w fun az w=>Q3 P .neq T.d (.tmp 55) (.tmp 58) ah az w fun al w=>X1 al (K (.tuple #[(.slice none 0 0),k,(.int .i64 60)]) w) (Q3 P .add T.d (.tmp 47) (.const (.int .i64 1)) k (.int .i64 1) w fun ab w=>i ab w)) (lp (α:=Value) (.int .i64 0) w fun f n u w=>X6 P .len [T.g] T.d [false] [l] w fun R w=>Q3 P .lss T.d (.tmp 61) (.tmp 63) n R w fun a1 w=>X1 a1 (indexAddr P T.g l n w fun ai w=>Q2 P T.a ai w fun Y w=>Q1 P F.aZ [c.1,Y] w fun z w=>Q3 P .neq T.w (.tmp 73) (.const (.int .i64 0)) z (.int .i64 0) w fun am w=>X1 am (K (.tuple #[(.slice none 0 0),n,z]) w) (Q3 P .add T.d (.tmp 65) (.const (.int .i64 1)) n (.int .i64 1) w fun Z w=>f Z w)) (Q1 P F.aA [c.1] w fun ap w=>lp (α:=Value) (.int .i64 0) w fun h d u w=>X6 P .len [T.g] T.d [false] [l] w fun ak w=>Q3 P .lss T.d (.tmp 79) (.tmp 81) d ak w fun ag w=>X1 ag (Q3 P .add T.d (.tmp 86) (.tmp 87) b d w fun aw w=>indexAddr P T.a6 ap aw w fun V w=>Q2 P T.a4 V w fun a3 w=>Q3 P .add T.d (.tmp 91) (.tmp 92) b d w fun ay w=>indexAddr P T.a4 a3 ay w fun ac w=>Q2 P T.q ac w fun U w=>X1 U (K (.tuple #[(.slice none 0 0),d,(.int .i64 63)]) w) (Q3 P .add T.d (.tmp 83) (.const (.int .i64 1)) d (.int .i64 1) w fun an w=>h an w)) (buildSlice P T.a3 0 [] w fun av w=>lp (α:=Value×Value) (av,(.int .i64 0)) w fun g a u w=>X6 P .len [T.g] T.d [false] [l] w fun A w=>Q3 P .lss T.d (.tmp 98) (.tmp 100) a.2 A w fun v w=>X1 v (Q3 P .add T.d (.tmp 107) (.tmp 108) b a.2 w fun N w=>Q1 P F.aO [c.1,a.1,b,N] w fun r w=>Q3 P .add T.d (.tmp 102) (.const (.int .i64 1)) a.2 (.int .i64 1) w fun D w=>g (r,D) w) (lp (α:=Value) (.int .i64 0) w fun e o u w=>X6 P .len [T.a3] T.d [false] [a.1] w fun J w=>Q3 P .lss T.d (.tmp 111) (.tmp 113) o J w fun H w=>X1 H (indexAddr P T.a3 a.1 o w fun E w=>Q2 P T.d E w fun L w=>Q1 P F.aV [c.1,L] w fun q w=>Q3 P .neq T.w (.tmp 123) (.const (.int .i64 0)) q (.int .i64 0) w fun s w=>X1 s (dr w fun Tr Br=>Q6 Tr (fun j=> ∀w,Br w→indexAddr P T.a3 a.1 o w (dk Tr j w)) fun j=>∀p w,Br w→j p w→ Q2 P T.d p w fun t w=>Q3 P .sub T.d (.tmp 128) (.tmp 129) t b w fun M w=>K (.tuple #[(.slice none 0 0),M,q]) w) (Q3 P .add T.d (.tmp 115) (.const (.int .i64 1)) o (.int .i64 1) w fun B w=>e B w)) (K (.tuple #[c.1,(.int .i64 0),(.int .i64 0)]) w))))))
theorem Kw {a:Value} {w:World} {K:Value→World→Prop} (h:Nf a w K):Q1 P F.bx [a] w K:=Q8 Ko Tryz.func56 rfl (by decide) (by kernel_rfl) h
def Lk (D:Value) (w:World) (K:Value→World→Prop):Prop:= W1 P T.t w fun e w=>Q1 P F.aa [] w fun q w=>Q1 P F.ch [q] w fun c w=>ext P c 0 w fun g w=>ext P c 1 w fun C w=>ext P c 2 w fun t w=>Q1 P F.aa [] w fun v w=>Q1 P F.bx [v] w fun d w=>ext P d 0 w fun s w=>ext P d 1 w fun E w=>ext P d 2 w fun p w=>Q3 P .rem T.aq (.tmp 25) (.const (.int .u16 301)) D (.int .u16 301) w fun o w=>conv P T.aq T.d o w fun h w=>Q3 P .neq T.w (.tmp 28) (.const (.int .i64 0)) t (.int .i64 0) w fun a w=>Q0 a false w (fun w J=>J p w) fun y w=>Q0 a false w (Q3 P .neq T.w (.tmp 31) (.const (.int .i64 0)) y (.int .i64 0)) fun j w=>pick P a (.bool true) j w fun b w=>Q0 b false w (fun w J=>J g w) fun n w=>Q0 b false w (Q3 P .eql T.l (.tmp 35) (.const (.pointer none)) n (.pointer none)) fun m w=>pick P b (.bool true) m w fun u w=>X1 u (N8 P T.t [] w fun A w=>Z6 P T.t e A w fun _u w=>V4 P T.t e w fun i=>K (.tuple #[(.pointer none),i]) w) (Q1 P F.ci [g,h] w fun f w=>ext P f 0 w fun z w=>ext P f 1 w fun l w=>Q3 P .neq T.w (.tmp 45) (.const (.int .i64 0)) l (.int .i64 0) w fun k w=>X1 k (N8 P T.t [] w fun r w=>Z6 P T.t e r w fun _u w=>V4 P T.t e w fun i=>K (.tuple #[(.pointer none),i]) w) (N8 P T.t [(0,s),(1,h)] w fun B w=>Z6 P T.t e B w fun _u w=>V4 P T.t e w fun i=>K (.tuple #[z,i]) w))
theorem Fl {a:Value} {w:World} {K:Value→World→Prop} (h:Lk a w K):Q1 P F.b5 [a] w K:=Q8 (List.replicate 12 none) Tryz.func24 rfl (by decide) (by kernel_rfl) h
def Q0m (d:Value) (w:World) (K:Value→World→Prop):Prop:= W1 P T.i w fun a w=>Q3 P .eql T.b (.tmp 3) (.const (.string ⟨#[105,110,116]⟩)) d (.string ⟨#[105,110,116]⟩) w fun g w=>X1 g (N8 P T.i [(0,(.int .i64 1))] w fun i w=>Z6 P T.i a i w fun _u w=>V4 P T.i a w fun b=>K b w) (Q3 P .eql T.b (.tmp 3) (.const (.string ⟨#[98,111,111,108]⟩)) d (.string ⟨#[98,111,111,108]⟩) w fun h w=>X1 h (N8 P T.i [(0,(.int .i64 2))] w fun j w=>Z6 P T.i a j w fun _u w=>V4 P T.i a w fun b=>K b w) (Q3 P .eql T.b (.tmp 3) (.const (.string ⟨#[116,101,120,116]⟩)) d (.string ⟨#[116,101,120,116]⟩) w fun f w=>X1 f (N8 P T.i [(0,(.int .i64 3))] w fun e w=>Z6 P T.i a e w fun _u w=>V4 P T.i a w fun b=>K b w) (N8 P T.i [] w fun c w=>Z6 P T.i a c w fun _u w=>V4 P T.i a w fun b=>K b w)))
theorem Q54 {a:Value} {w:World} {K:Value→World→Prop} (h:Q0m a w K):Q1 P F.ca [a] w K:=Q8 (List.replicate 10 none) Tryz.func29 rfl (by decide) (by kernel_rfl) h
def On (a y v:Value) (w:World) (K:Value→World→Prop):Prop:= nilCheck P a w fun z w=>fieldAddr P T.r z 2 w fun n w=>Q2 P T.d n w fun t w=>X6 P .len [T.n] T.d [false] [v] w fun e w=>Q3 P .add T.d (.const (.int .i64 1)) (.tmp 13) (.int .i64 1) e w fun h w=>Q3 P .add T.d (.tmp 11) (.tmp 14) t h w fun p w=>nilCheck P a w fun d w=>fieldAddr P T.r d 2 w fun c w=>Z6 P T.d c p w fun _u w=>nilCheck P a w fun k w=>fieldAddr P T.r k 3 w fun q w=>Q2 P T.k q w fun j w=>N8 P T.u [(0,y),(1,v)] w fun u w=>buildSlice P T.k 1 [(0,u)] w fun g w=>X6 P .append [T.k,T.k] T.k [false,false] [j,g] w fun r w=>nilCheck P a w fun s w=>fieldAddr P T.r s 3 w fun l w=>Z6 P T.k l r w fun _u w=>nilCheck P a w fun m w=>fieldAddr P T.r m 3 w fun b w=>Q2 P T.k b w fun o w=>X6 P .len [T.k] T.d [false] [o] w fun i w=>Q3 P .sub T.d (.tmp 34) (.const (.int .i64 1)) i (.int .i64 1) w fun f w=>K (.tuple #[f,(.int .i64 0)]) w
theorem Q01 {a c b:Value} {w:World} {K:Value→World→Prop} (h:On a c b w K):Q1 P F.aT [a,c,b] w K:=Q8 (List.replicate 4 none) Tryz.func67 rfl (by decide) (by kernel_rfl) h
def Cn:V3:=[none,none,none,none,none,none,none,none,none,none,none,some ([7,31],[7,9,31,32,33,34,35,36,37,38,39,40,41]),none,none,none,none,none]
def Ld (f k:Value) (w:World) (K:Value→World→Prop):Prop:= nilCheck P f w fun H w=>fieldAddr P T.r H 0 w fun o w=>Q2 P T.l o w fun m w=>Q1 P F.av [m,k] w fun z w=>Z8 P .not z w fun j w=>X1 j (K (.tuple #[(.int .i64 0),(.int .i64 91)]) w) (nilCheck P f w fun r w=>fieldAddr P T.r r 0 w fun n w=>Q2 P T.l n w fun u w=>Q1 P F.x [u,k] w fun d w=>X6 P .len [T.h] T.d [false] [d] w fun p w=>Q3 P .add T.d (.const (.int .i64 1)) (.tmp 24) (.int .i64 1) p w fun J w=>Q1 P F.a2 [f] w fun A w=>Q3 P .gtr T.d (.tmp 25) (.tmp 27) J A w fun D w=>X1 D (K (.tuple #[(.int .i64 0),(.int .i64 90)]) w) (X6 P .len [T.h] T.d [false] [d] w fun g w=>lp (α:=Value×Value) ((.slice none 0 0),(.int .i64 0)) w fun b c L w=>Q3 P .lss T.d (.tmp 31) (.tmp 30) c.2 g w fun h w=>X1 h (indexAddr P T.h d c.2 w fun y w=>Q2 P T.j y w fun q w=>W1 P T.j w fun a w=>Z6 P T.j a q w fun _u w=>fieldAddr P T.j a 1 w fun l w=>Q2 P T.b l w fun t w=>Q1 P F.ca [t] w fun C w=>buildSlice P T.n 1 [(0,C)] w fun E w=>X6 P .append [T.n,T.n] T.n [false,false] [c.1,E] w fun v w=>Q3 P .add T.d (.tmp 31) (.const (.int .i64 1)) c.2 (.int .i64 1) w fun B w=>b (v,B) w) (Q1 P F.aT [f,k,c.1] w fun e w=>ext P e 0 w fun i w=>ext P e 1 w fun s w=>K (.tuple #[i,s]) w)))
theorem Cj {a b:Value} {w:World} {K:Value→World→Prop} (h:Ld a b w K):Q1 P F.b6 [a,b] w K:=Q8 Cn Tryz.func33 rfl (by decide) (by kernel_rfl) h
def Q2d (c:Value) (w:World) (K:Value→World→Prop):Prop:= Q1 P F.w [c] w fun f w=>Z8 P .not f w fun a w=>Q0 a false w (fun w J=>J c w) fun g w=>Q0 a false w (Q1 P F.cb [g]) fun h w=>Q0 a false w (Q3 P .eql T.d (.tmp 9) (.const (.int .i64 3)) h (.int .i64 3)) fun d w=>pick P a (.bool true) d w fun e w=>X1 e (K (.tuple #[(.string ⟨#[]⟩),(.int .i64 30)]) w) (Q3 P .add T.b (.tmp 12) (.const (.string ⟨#[91,93]⟩)) c (.string ⟨#[91,93]⟩) w fun b w=>K (.tuple #[b,(.int .i64 0)]) w)
theorem Q82 {a:Value} {w:World} {K:Value→World→Prop} (h:Q2d a w K):Q1 P F.cx [a] w K:=Q8 (List.replicate 5 none) Tryz.func68 rfl (by decide) (by kernel_rfl) h
def Ie:V3:=[none,none,none,none,none,none,none,none,none,none,none,none,some ([45],[11,45,46,47,48,49,50,51,52,53]),none,none,none,none,none]
def Mg (q h i:Value) (w:World) (K:Value→World→Prop):Prop:= Q1 P F.cx [h] w fun g w=>ext P g 0 w fun B w=>ext P g 1 w fun o w=>Q3 P .neq T.w (.tmp 18) (.const (.int .i64 0)) o (.int .i64 0) w fun a w=>Q0 a false w (fun w J=>J q w) fun C w=>Q0 a false w (nilCheck P C) fun v w=>Q0 a false w (fieldAddr P T.r v 0) fun t w=>Q0 a false w (Q2 P T.l t) fun s w=>Q0 a false w (fun w J=>J h w) fun M w=>Q0 a false w (Q1 P F.q [s,M]) fun r w=>Q0 a false w (Z8 P .not r) fun D w=>pick P a (.bool true) D w fun e w=>Q0 e false w (fun w J=>J h w) fun k w=>Q0 e false w (Q3 P .eql T.b (.tmp 30) (.const (.string ⟨#[110,117,108,108]⟩)) k (.string ⟨#[110,117,108,108]⟩)) fun y w=>pick P e (.bool true) y w fun l w=>X1 l (K (.tuple #[(.int .i64 0),(.int .i64 91)]) w) (Q3 P .lss T.ah (.tmp 34) (.const (.int .i64 0)) i (.int .i64 0) w fun p w=>X1 p (K (.tuple #[(.int .i64 0),(.int .i64 93)]) w) (Q1 P F.a2 [q] w fun H w=>Q3 P .geq T.ah (.tmp 37) (.tmp 39) i H w fun A w=>X1 A (K (.tuple #[(.int .i64 0),(.int .i64 90)]) w) (Uy P T.n i i w fun c w=>X6 P .len [T.n] T.d [false] [c] w fun n w=>lp (α:=Value) (.int .i64 0) w fun b d N w=>Q3 P .lss T.d (.tmp 45) (.tmp 44) d n w fun m w=>X1 m (Q1 P F.ca [h] w fun L w=>indexAddr P T.n c d w fun z w=>Z6 P T.i z L w fun _u w=>Q3 P .add T.d (.tmp 45) (.const (.int .i64 1)) d (.int .i64 1) w fun j w=>b j w) (Q1 P F.aT [q,B,c] w fun f w=>ext P f 0 w fun E w=>ext P f 1 w fun u w=>K (.tuple #[E,u]) w))))
theorem Is {a c b:Value} {w:World} {K:Value→World→Prop} (h:Mg a c b w K):Q1 P F.bn [a,c,b] w K:=Q8 Ie Tryz.func34 rfl (by decide) (by kernel_rfl) h
def Md (b:Value) (w:World) (K:Value→World→Prop):Prop:= nilCheck P b w fun d w=>fieldAddr P T.r d 0 w fun a w=>Q2 P T.l a w fun c w=>K c w
theorem Kg {a:Value} {w:World} {K:Value→World→Prop} (h:Md a w K):Q1 P F.bo [a] w K:=Q8 (List.replicate 2 none) Tryz.func35 rfl (by decide) (by kernel_rfl) h
def Wg (w:World) (K:Value→World→Prop):Prop:= Q1 P F.b5 [(.int .u16 10)] w fun t8 w=>ext P t8 0 w fun d w=>ext P t8 1 w fun N w=>W1 P T.t w fun t2 w=>Z6 P T.t t2 N w fun _u w=>Q3 P .eql T.a1 (.tmp 11) (.const (.pointer none)) d (.pointer none) w fun z w=>X1 z (K (.bool false) w) (Q1 P F.b6 [d,(.string ⟨#[90,101,114,111,70,97,117,108,116]⟩)] w fun l w=>ext P l 0 w fun t w=>ext P l 1 w fun s w=>Q1 P F.bn [d,(.string ⟨#[105,110,116]⟩),(.int .i64 3)] w fun k w=>ext P k 0 w fun O w=>ext P k 1 w fun E w=>Q3 P .eql T.d (.tmp 23) (.const (.int .i64 0)) t (.int .i64 0) w fun i w=>Q0 i true w (fun w J=>J s w) fun y w=>Q0 i true w (Q3 P .eql T.w (.tmp 26) (.const (.int .i64 0)) y (.int .i64 0)) fun R w=>pick P i R (.bool false) w fun j w=>Q0 j true w (fun w J=>J O w) fun o w=>Q0 j true w (Q3 P .eql T.d (.tmp 30) (.const (.int .i64 1)) o (.int .i64 1)) fun H w=>pick P j H (.bool false) w fun g w=>Q0 g true w (fun w J=>J E w) fun C w=>Q0 g true w (Q3 P .eql T.w (.tmp 34) (.const (.int .i64 0)) C (.int .i64 0)) fun v w=>pick P g v (.bool false) w fun b w=>Q0 b true w (fun w J=>J d w) fun W w=>Q0 b true w (Q1 P F.a2 [W]) fun Y w=>Q0 b true w (Q3 P .eql T.d (.tmp 39) (.const (.int .i64 4)) Y (.int .i64 4)) fun M w=>pick P b M (.bool false) w fun e w=>Q0 e true w (fun w J=>J d w) fun L w=>Q0 e true w (Q1 P F.aR [L]) fun q w=>Q0 e true w (Q3 P .eql T.d (.tmp 44) (.const (.int .i64 2)) q (.int .i64 2)) fun A w=>pick P e A (.bool false) w fun a w=>Q0 a true w (fun w J=>J d w) fun u w=>Q0 a true w (Q1 P F.ab [u,(.int .i64 0)]) fun Q w=>Q0 a true w (Q3 P .eql T.b (.tmp 49) (.const (.string ⟨#[90,101,114,111,70,97,117,108,116]⟩)) Q (.string ⟨#[90,101,114,111,70,97,117,108,116]⟩)) fun m w=>pick P a m (.bool false) w fun f w=>Q0 f true w (fun w J=>J d w) fun n w=>Q0 f true w (Q1 P F.aM [n,(.int .i64 1)]) fun r w=>Q0 f true w (Q3 P .eql T.d (.tmp 54) (.const (.int .i64 3)) r (.int .i64 3)) fun B w=>pick P f B (.bool false) w fun h w=>Q0 h true w (fun w J=>J d w) fun U w=>Q0 h true w (Q1 P F.aD [U]) fun D w=>pick P h D (.bool false) w fun c w=>Q0 c true w (fun w J=>J d w) fun Z w=>Q0 c true w (Q1 P F.bo [Z]) fun p w=>Q0 c true w (Q3 P .neq T.l (.tmp 63) (.const (.pointer none)) p (.pointer none)) fun V w=>pick P c V (.bool false) w fun X w=>K X w)
theorem Fh {w:World} {K:Value→World→Prop} (h:Wg w K):Q1 P F.b4 [] w K:=Q8 (List.replicate 8 none) Tryz.func14 rfl (by decide) (by kernel_rfl) h
def Lw (q p r:Value) (w:World) (K:Value→World→Prop):Prop:= Q1 P F.ax [q,p] w fun k w=>Z8 P .not k w fun n w=>X1 n (K (.int .i64 92) w) (Q3 P .lss T.ah (.tmp 13) (.const (.int .i64 0)) r (.int .i64 0) w fun a w=>Q0 a false w (fun w J=>J r w) fun c w=>Q0 a false w (fun w J=>J q w) fun b w=>Q0 a false w (nilCheck P b) fun h w=>Q0 a false w (fieldAddr P T.r h 3) fun d w=>Q0 a false w (Q2 P T.k d) fun j w=>Q0 a false w (fun w J=>J p w) fun l w=>Q0 a false w (indexAddr P T.k j l) fun i w=>Q0 a false w (fieldAddr P T.u i 1) fun g w=>Q0 a false w (Q2 P T.n g) fun f w=>Q0 a false w (X6 P .len [T.n] T.d [false] [f]) fun o w=>Q0 a false w (Q3 P .geq T.ah (.tmp 16) (.tmp 25) c o) fun e w=>pick P a (.bool true) e w fun m w=>X1 m (K (.int .i64 93) w) (K (.int .i64 0) w))
theorem Ig {a c b:Value} {w:World} {K:Value→World→Prop} (h:Lw a c b w K):Q1 P F.aE [a,c,b] w K:=Q8 (List.replicate 7 none) Tryz.func50 rfl (by decide) (by kernel_rfl) h
def Oi (o n p:Value) (w:World) (K:Value→World→Prop):Prop:= W1 P T.i w fun b w=>Q1 P F.aE [o,n,p] w fun a w=>Q3 P .neq T.w (.tmp 13) (.const (.int .i64 0)) a (.int .i64 0) w fun h w=>X1 h (N8 P T.i [] w fun l w=>Z6 P T.i b l w fun _u w=>V4 P T.i b w fun c=>K (.tuple #[c,a]) w) (nilCheck P o w fun i w=>fieldAddr P T.r i 3 w fun d w=>Q2 P T.k d w fun k w=>indexAddr P T.k k n w fun j w=>fieldAddr P T.u j 1 w fun g w=>Q2 P T.n g w fun f w=>indexAddr P T.n f p w fun e w=>Q2 P T.i e w fun m w=>Z6 P T.i b m w fun _u w=>V4 P T.i b w fun c=>K (.tuple #[c,(.int .i64 0)]) w)
theorem Q00 {a c b:Value} {w:World} {K:Value→World→Prop} (h:Oi a c b w K):Q1 P F.bI [a,c,b] w K:=Q8 (List.replicate 6 none) Tryz.func16 rfl (by decide) (by kernel_rfl) h
def Ke:V3:=[none,none,none,none,some ([3,12],[3,5,6,12,13,14,15,16,17,18,19,20,21,22,23,24,25,26,27,28,29,30,31]),none,none,none,none,none,none,none]
def Ma (u:Value) (w:World) (K:Value→World→Prop):Prop:= nilCheck P u w fun v w=>fieldAddr P T.r v 3 w fun y w=>Q2 P T.k y w fun f w=>X6 P .len [T.k] T.d [false] [f] w fun s w=>lp (α:=Value×Value) ((.slice none 0 0),(.int .i64 0)) w fun b e A w=>Q3 P .lss T.d (.tmp 12) (.tmp 11) e.2 s w fun j w=>X1 j (indexAddr P T.k f e.2 w fun l w=>Q2 P T.u l w fun p w=>W1 P T.u w fun a w=>Z6 P T.u a p w fun _u w=>fieldAddr P T.u a 1 w fun i w=>Q2 P T.n i w fun h w=>X6 P .len [T.n] T.d [false] [h] w fun d w=>Uy P T.n d d w fun c w=>fieldAddr P T.u a 1 w fun q w=>Q2 P T.n q w fun m w=>X6 P .copy [T.n,T.n] T.d [false,false] [c,m] w fun z w=>fieldAddr P T.u a 0 w fun t w=>Q2 P T.b t w fun k w=>N8 P T.u [(0,k),(1,c)] w fun r w=>buildSlice P T.k 1 [(0,r)] w fun o w=>X6 P .append [T.k,T.k] T.k [false,false] [e.1,o] w fun g w=>Q3 P .add T.d (.tmp 12) (.const (.int .i64 1)) e.2 (.int .i64 1) w fun n w=>b (g,n) w) (K e.1 w)
theorem Gu {a:Value} {w:World} {K:Value→World→Prop} (h:Ma a w K):Q1 P F.bm [a] w K:=Q8 Ke Tryz.func19 rfl (by decide) (by kernel_rfl) h
def Om (E O R W:Value) (w:World) (K:Value→World→Prop):Prop:= box P T.i W w fun c w=>Q1 P F.aE [E,O,R] w fun D w=>Q3 P .neq T.w (.tmp 14) (.const (.int .i64 0)) D (.int .i64 0) w fun U w=>X1 U (K D w) (dr w fun a b=>Q6 a (fun t=> ∀w,b w→nilCheck P E w (dk a t w)) fun t=>Q6 a (fun l=> ∀r w,b w→t r w→fieldAddr P T.r r 3 w (dk a l w)) fun l=>Q6 a (fun B=> ∀w,b w→Q2 P T.i c w (dk a B w)) fun B=>Q6 a (fun y=> ∀m w,b w→l m w→Q2 P T.k m w (dk a y w)) fun y=>Q6 a (fun u=> ∀i w,b w→y i w→indexAddr P T.k i O w (dk a u w)) fun u=>Q6 a (fun p=> ∀v w,b w→u v w→Q2 P T.u v w (dk a p w)) fun p=>Q6 a (fun C=> ∀h w,b w→p h w→Q1 P F.au [E,h,R] w (dk a C w)) fun C=>∀r m H i v h M w,b w→t r w→l m w→B H w→y i w→u v w→p h w→C M w→ Q1 P F.ar [E,H,M] w fun Q w=>Z8 P .not Q w fun N w=>X1 N (K (.int .i64 91) w) (dr w fun a b=>Q6 a (fun g=> ∀w,b w→nilCheck P E w (dk a g w)) fun g=>Q6 a (fun e=> ∀d w,b w→g d w→fieldAddr P T.r d 3 w (dk a e w)) fun e=>Q6 a (fun j=> ∀q w,b w→e q w→Q2 P T.k q w (dk a j w)) fun j=>Q6 a (fun s=> ∀k w,b w→j k w→indexAddr P T.k k O w (dk a s w)) fun s=>Q6 a (fun n=> ∀f w,b w→s f w→fieldAddr P T.u f 1 w (dk a n w)) fun n=>Q6 a (fun A=> ∀o w,b w→n o w→Q2 P T.n o w (dk a A w)) fun A=>Q6 a (fun z=> ∀w,b w→Q2 P T.i c w (dk a z w)) fun z=>∀d q k f o L J w,b w→g d w→e q w→j k w→s f w→n o w→A L w→z J w→ indexAddr P T.n L R w fun V w=>Z6 P T.i V J w fun _u w=>K (.int .i64 0) w))
theorem Ay {b d c a:Value} {w:World} {K:Value→World→Prop} (h:Om b d c a w K):Q1 P F.bJ [b,d,c,a] w K:=Q8 (List.replicate 10 none) Tryz.func22 rfl (by decide) (by kernel_rfl) h
def Jy (t s:Value) (w:World) (K:Value→World→Prop):Prop:= Q1 P F.aa [] w fun L w=>Q1 P F.ch [L] w fun k w=>ext P k 0 w fun r w=>ext P k 1 w fun a4 w=>ext P k 2 w fun D w=>Q1 P F.b4 [] w fun Z w=>Z8 P .not Z w fun i w=>Q0 i false w (fun w J=>J D w) fun ai w=>Q0 i false w (Q3 P .neq T.w (.tmp 21) (.const (.int .i64 0)) ai (.int .i64 0)) fun aa w=>pick P i (.bool true) aa w fun j w=>Q0 j false w (fun w J=>J r w) fun a2 w=>Q0 j false w (Q3 P .eql T.l (.tmp 25) (.const (.pointer none)) a2 (.pointer none)) fun M w=>pick P j (.bool true) M w fun am w=>X1 am (K (.bool false) w) (Q1 P F.ci [r,t] w fun p w=>ext P p 0 w fun a w=>ext P p 1 w fun q w=>Q3 P .lss T.d (.tmp 34) (.const (.int .i64 0)) t (.int .i64 0) w fun h w=>Q0 h false w (fun w J=>J t w) fun ac w=>Q0 h false w (Q3 P .gtr T.d (.tmp 37) (.const (.int .i64 1048576)) ac (.int .i64 1048576)) fun aq w=>pick P h (.bool true) aq w fun aw w=>X1 aw (Q3 P .eql T.a1 (.tmp 40) (.const (.pointer none)) a (.pointer none) w fun n w=>Q0 n true w (fun w J=>J q w) fun ad w=>Q0 n true w (Q3 P .eql T.w (.tmp 43) (.const (.int .i64 90)) ad (.int .i64 90)) fun B w=>pick P n B (.bool false) w fun O w=>K O w) (Q3 P .neq T.w (.tmp 46) (.const (.int .i64 0)) q (.int .i64 0) w fun l w=>Q0 l false w (fun w J=>J a w) fun aj w=>Q0 l false w (Q3 P .eql T.a1 (.tmp 49) (.const (.pointer none)) aj (.pointer none)) fun u w=>pick P l (.bool true) u w fun ax w=>X1 ax (K (.bool false) w) (Q1 P F.bI [a,s,(.int .i64 0)] w fun o w=>ext P o 0 w fun z w=>ext P o 1 w fun E w=>W1 P T.i w fun ah w=>Z6 P T.i ah z w fun _u w=>Q1 P F.aR [a] w fun W w=>Q3 P .eql T.d (.tmp 59) (.const (.int .i64 0)) W (.int .i64 0) w fun d w=>Q0 d true w (fun w J=>J a w) fun ay w=>Q0 d true w (Q1 P F.a2 [ay]) fun v w=>Q0 d true w (fun w J=>J t w) fun ao w=>Q0 d true w (Q3 P .eql T.d (.tmp 63) (.tmp 64) v ao) fun ar w=>pick P d ar (.bool false) w fun c w=>Q0 c true w (fun w J=>J a w) fun ae w=>Q0 c true w (Q1 P F.bm [ae]) fun y w=>Q0 c true w (X6 P .len [T.k] T.d [false] [y]) fun U w=>Q0 c true w (Q3 P .eql T.d (.tmp 70) (.const (.int .i64 0)) U (.int .i64 0)) fun C w=>pick P c C (.bool false) w fun e w=>Q0 e true w (fun w J=>J a w) fun Y w=>Q0 e true w (fun w J=>J s w) fun az w=>Q0 e true w (Q1 P F.ab [Y,az]) fun ag w=>Q0 e true w (Q3 P .eql T.b (.tmp 76) (.const (.string ⟨#[]⟩)) ag (.string ⟨#[]⟩)) fun a3 w=>pick P e a3 (.bool false) w fun f w=>Q0 f true w (fun w J=>J a w) fun A w=>Q0 f true w (fun w J=>J s w) fun X w=>Q0 f true w (Q1 P F.aM [A,X]) fun Q w=>Q0 f true w (Q3 P .eql T.d (.tmp 82) (.const (.int .i64 0)) Q (.int .i64 0)) fun N w=>pick P f N (.bool false) w fun m w=>Q0 m true w (fun w J=>J E w) fun ab w=>Q0 m true w (Q3 P .eql T.w (.tmp 86) (.const (.int .i64 92)) ab (.int .i64 92)) fun R w=>pick P m R (.bool false) w fun b w=>Q0 b true w (fun w J=>J a w) fun av w=>Q0 b true w (fun w J=>J s w) fun an w=>Q0 b true w (N8 P T.i []) fun V w=>Q0 b true w (Q1 P F.bJ [av,an,(.int .i64 0),V]) fun ak w=>Q0 b true w (Q3 P .eql T.w (.tmp 93) (.const (.int .i64 92)) ak (.int .i64 92)) fun H w=>pick P b H (.bool false) w fun g w=>Q0 g true w (fun w J=>J a w) fun af w=>Q0 g true w (Q1 P F.aD [af]) fun al w=>pick P g al (.bool false) w fun ap w=>K ap w)))
theorem Ru {a b:Value} {w:World} {K:Value→World→Prop} (h:Jy a b w K):Q1 P F.bU [a,b] w K:=Q8 (List.replicate 14 none) Tryz.func3 rfl (by decide) (by kernel_rfl) h
end Go.Proofs.YtjdiakhipmggjaaGreatDoor

set_option maxRecDepth 100000
namespace Go.Proofs.YtjdiakhipmggjaaGreatDoor
open Go.Emb
end Go.Proofs.YtjdiakhipmggjaaGreatDoor

set_option maxRecDepth 100000
namespace Go.Proofs.YtjdiakhipmggjaaGreatDoor
open Go.Emb
end Go.Proofs.YtjdiakhipmggjaaGreatDoor


namespace Go.Emb
open Go.RowKit (Below)
variable {P : Program} {w w' : World} {K : Value → World → Prop}
theorem X7 {s:Sem Value} {v:Value} (h:s.run P w= .ok v w'):op P (sv s) w K=K v w':=by
 rw[T1];unfold K1 sv;simp[h]
theorem Mn {s:Sem Unit} (h:s.run P w= .ok () w'):op P (su s) w K=K undef w':=by
 rw[T1];unfold K1 su;simp[h]
abbrev S (l:List UInt8):Value:= .string ⟨l.toArray⟩
abbrev I (n:Int):Value:= .int .i64 n
theorem Nb {b:Bool} {x y:Value}:pick P (.bool b) x y w K=K (if b then x else y) w:=by
 unfold pick;rw[T1];unfold K1;cases b<;>simp[asBool]
theorem K6 {x y:Value}:pick P (.bool true) x y w K=K x w:=by rw[Nb];rfl
theorem B7 {x y:Value}:pick P (.bool false) x y w K=K y w:=by rw[Nb];rfl
theorem Q8k {a b:Bool} {u:Value}:pick P (.bool a) (if a=true then .bool b else u) (.bool false) w K=K (.bool (a&&b)) w:=by
 rw[Nb];cases a<;>rfl
theorem Q9N {a b:Bool} {u:Value}:pick P (.bool a) (.bool true) (if a=false then .bool b else u) w K=K (.bool (a||b)) w:=by
 rw[Nb];cases a<;>rfl
theorem O9 {c:World→(Value→World→Prop)→Prop}:Q0 (.bool true) true w c K=c w K:=by rw[Ng];simp[Wm]
theorem C8 {c:World→(Value→World→Prop)→Prop}:Q0 (.bool false) false w c K=c w K:=by rw[Ng];simp[Wm]
theorem Jk {c:World→(Value→World→Prop)→Prop}:Q0 (.bool true) false w c K=K undef w:=by rw[Ng];simp[Wm]
theorem F9 {c:World→(Value→World→Prop)→Prop}:Q0 (.bool false) true w c K=K undef w:=by rw[Ng];simp[Wm]
theorem Qf {b:Bool} {c:World→(Value→World→Prop)→Prop}:Q0 undef b w c K=K undef w:=by rw[Ng];rfl
theorem Q95 {a b:Bool} {v:Value}:Q0 (.bool a) b w (fun w J=>J v w) K=K (if a=b then v else undef) w:=by
 rw[Ng];unfold Wm;by_cases h:a=b<;>simp[h]
theorem Q3P {b:Bool} {t e:Prop}:X1 (.bool b) t e=if b=true then t else e:=by rw[Q3J];cases b<;>rfl
theorem Ui {t e:Prop}:X1 (.bool true) t e=t:=by rw[Q3P];simp
theorem K4 {t e:Prop}:X1 (.bool false) t e=e:=by rw[Q3P];simp
section ints
variable {k : IntKind} {t : TypeId} {ox oy : Operand} {a b : Int}
theorem Sx:Q3 P .add t ox oy (.int k a) (.int k b) w K=K (.int k (k.wrap (a+b))) w:=X7 (by simp[eqGuard,Go.binOp,Op.intArith])
theorem Q1F:Q3 P .sub t ox oy (.int k a) (.int k b) w K=K (.int k (k.wrap (a-b))) w:=X7 (by simp[eqGuard,Go.binOp,Op.intArith])
theorem Q5Q:Q3 P .mul t ox oy (.int k a) (.int k b) w K=K (.int k (k.wrap (a*b))) w:=X7 (by simp[eqGuard,Go.binOp,Op.intArith])
theorem Q1I:Q3 P .lss t ox oy (.int k a) (.int k b) w K=K (.bool (decide (a<b))) w:=X7 (by simp[eqGuard,Go.binOp,Op.intCmp])
theorem Q1L:Q3 P .leq t ox oy (.int k a) (.int k b) w K=K (.bool (decide (a≤b))) w:=X7 (by simp[eqGuard,Go.binOp,Op.intCmp])
theorem Aa:Q3 P .gtr t ox oy (.int k a) (.int k b) w K=K (.bool (decide (b<a))) w:=X7 (by simp[eqGuard,Go.binOp,Op.intCmp])
theorem An:Q3 P .geq t ox oy (.int k a) (.int k b) w K=K (.bool (decide (b≤a))) w:=X7 (by simp[eqGuard,Go.binOp,Op.intCmp])
theorem Aq:Q3 P .eql t ox oy (.int k a) (.int k b) w K=K (.bool (decide (a=b))) w:=X7 (by
 simp[eqGuard,Go.binOp,Op.intCmp];rfl)
theorem Q1Q:Q3 P .neq t ox oy (.int k a) (.int k b) w K=K (.bool (!decide (a=b))) w:=X7 (by
 simp[eqGuard,Go.binOp,Op.intCmp];rfl)
end ints
theorem Q1G {b:Bool}:Z8 P .not (.bool b) w K=K (.bool (!b)) w:=X7 (by simp[Op.unary])
section bools
variable {t : TypeId} {ox oy : Operand} {a b : Bool}
theorem Q0T (d:Nat) (h:P.underlying t=some .bool):(Op.equalIn (d+1) t (.bool a) (.bool b)).run P w= .ok (a==b) w:=by
 simp[Op.equalIn,run_underlying h]
theorem Ss (h:P.underlying t=some .bool):(Op.equal t (.bool a) (.bool b)).run P w= .ok (a==b) w:=Q0T 9999 h
theorem Q3E (h:P.underlying t=some .bool):Q3 P .eql t ox oy (.bool a) (.bool b) w K=K (.bool (a==b)) w:=X7 (by
 simp[eqGuard,Go.binOp,Ss h])
theorem Q3O (h:P.underlying t=some .bool):Q3 P .neq t ox oy (.bool a) (.bool b) w K=K (.bool (!(a==b))) w:=X7 (by
 simp[eqGuard,Go.binOp,Ss h])
end bools
theorem Ym {vs:List Value} {i:Nat} {v:Value} (h:vs[i]? =some v):ext P (.tuple vs.toArray) i w K=K v w:=X7 (by
 simp[Instr.extract,h])
theorem X0R {a b:Value}:ext P (.tuple #[a,b]) 0 w K=K a w:=Ym (vs:=[a,b]) rfl
theorem X0A {a b:Value}:ext P (.tuple #[a,b]) 1 w K=K b w:=Ym (vs:=[a,b]) rfl
theorem Q9a {a b c:Value}:ext P (.tuple #[a,b,c]) 0 w K=K a w:=Ym (vs:=[a,b,c]) rfl
theorem Q9t {a b c:Value}:ext P (.tuple #[a,b,c]) 1 w K=K b w:=Ym (vs:=[a,b,c]) rfl
theorem Q9y {a b c:Value}:ext P (.tuple #[a,b,c]) 2 w K=K c w:=Ym (vs:=[a,b,c]) rfl
theorem S8 {n:Int} (c: -9223372036854775808≤n) (e:n≤9223372036854775807):IntKind.i64.wrap n=n:=by
 have d:n % 18446744073709551616=n∨n % 18446744073709551616=n+18446744073709551616:=by omega
 show (if (true&&decide (n % 18446744073709551616≥9223372036854775808))=true then n % 18446744073709551616-18446744073709551616 else n % 18446744073709551616)=n
 simp only[Bool.true_and,decide_eq_true_eq]
 split<;>omega
theorem w32 {n:Int} (c: -2147483648≤n) (d:n≤2147483647):IntKind.i32.wrap n=n:=by
 show (if (true&&decide (n % 4294967296≥2147483648))=true then n % 4294967296-4294967296 else n % 4294967296)=n
 simp only[Bool.true_and,decide_eq_true_eq]
 split<;>omega
section strs
variable {t : TypeId} {ox oy : Operand} {a b : List UInt8}
theorem Q1J (a b:List UInt8):(a==b)=decide (a=b):=by rw[Bool.eq_iff_iff];simp
theorem Rv:Q3 P .eql t ox oy (S a) (S b) w K=K (.bool (decide (a=b))) w:=X7 (by
 simp[eqGuard,Go.binOp,Op.stringOp,Q1J])
theorem Rp:Q3 P .neq t ox oy (S a) (S b) w K=K (.bool (!decide (a=b))) w:=X7 (by
 simp[eqGuard,Go.binOp,Op.stringOp,Q1J])
theorem S6 (l:List UInt8):(ByteArray.mk l.toArray).size=l.length:=by simp[ByteArray.size]
theorem Q7g (a b:List UInt8):ByteArray.mk a.toArray++ByteArray.mk b.toArray=ByteArray.mk (a++b).toArray:=by
 apply ByteArray.ext;simp
theorem X1d:IntKind.i64.max=9223372036854775807:=by decide
theorem Q0p (h:a.length+b.length≤9223372036854775807):Q3 P .add t ox oy (S a) (S b) w K=K (S (a++b)) w:=X7 (by
 have c: ¬(((a.length+b.length:Nat):Int)>IntKind.i64.max):=by rw[X1d];omega
 simp only[eqGuard,Go.binOp,Op.stringOp,S6,Q7g]
 simp only[if_neg c]
 simp)
theorem O8 {cs:List Bool} {r:TypeId} (c:P.underlying t=some .string):X6 P .len [t] r cs [S a] w K=K (I a.length) w:=by
 have h:(Builtin.len_ #[t] r #[S a]).run P w= .ok (I a.length) w:=by
  simp[Builtin.len_,run_underlying c,S6,goInt]
 exact X7 h
theorem T6 {i:Int} (d:P.underlying t=some .string) (c:0≤i) (h:i.toNat<a.length):D7 P t (S a) (I i) w K=K (.int .u8 (a[i.toNat]'h).toNat) w:=X7 (by
 simp only[Instr.index,asIntOf,Sem.run_bind,Sem.run_pure,Result.andThen_ok,run_underlying d,c,if_true]
 have:(ByteArray.mk a.toArray)[i.toNat]? =some (a[i.toNat]'h):=by
  rw[getElem?_pos _ _ (by rw[S6];exact h)]
  rfl
 rw[this];simp)
theorem Q1e (l:List UInt8) (i j:Nat):(ByteArray.mk l.toArray).extract i j=ByteArray.mk ((l.take j).drop i).toArray:=by
 apply ByteArray.ext
 apply Array.ext'
 simp[List.drop_take]
theorem Wi {i:Int} (d:P.underlying t=some .string) (c:0≤i) (h:i≤a.length):R6 P t (S a) (some (I i)) none none w K=K (S (a.drop i.toNat)) w:=X7 (by
 simp[Instr.sliceAt,Instr.slice,Instr.sliceBounds,Instr.sliceBound,asIntOf,run_underlying d,c,h,S6,Q1e])
theorem I6 {i:Int} (d:P.underlying t=some .string) (c:0≤i) (h:i≤a.length):R6 P t (S a) none (some (I i)) none w K=K (S (a.take i.toNat)) w:=X7 (by
 simp[Instr.sliceAt,Instr.slice,Instr.sliceBounds,Instr.sliceBound,asIntOf,run_underlying d,c,h,S6,Q1e])
end strs
theorem Bg {s d:TypeId} {k j:IntKind} {n:Int} {ds:TypeDesc} (c:P.underlying s=some ds) (e:P.underlying d=some (.int k)):conv P s d (.int j n) w K=K (.int k (k.wrap n)) w:=X7 (by
 simp[Go.convert,run_underlying c,run_underlying e,Conv.intToInt])
def Kr (w:World) (r:Nat) (o:Obj):World:={w with heap:=w.heap.setIfInBounds r o}
theorem Q2h {B r:Nat} {a w:World} {o:Obj} (h:Below B a w) (d:B≤r):Below B a (Kr w r o):=
 h.trans ⟨rfl,rfl,rfl,by simp[Kr],fun k c=>by simp only[Kr];rw[Array.getElem?_setIfInBounds_ne (by omega)]⟩
theorem Q5k {w:World} {r:Nat} {o:Obj} (h:r<w.heap.size):(Kr w r o).heap[r]? =some o:=by
 simp only[Kr];rw[Array.getElem?_setIfInBounds_self_of_lt h]
theorem X0q {t:TypeId} {a:List UInt8} (c:P.underlying t=some .string):rng P t (S a) w K=K (.pointer (some ⟨w.heap.size,0,none⟩)) (w.alloc (.stringIter ⟨a.toArray⟩ 0)):=X7 (by
 simp[Instr.range,run_underlying c])
theorem X08 {t:TypeId} {r pos:Nat} {s:ByteArray} (h:w.heap[r]? =some (.stringIter s pos)) (d:pos<s.size):
 V0 P (.pointer (some ⟨r,0,none⟩)) true t w K=K (.tuple #[.bool true,I pos, .int .i32 (Utf8.decode s pos).1]) (Kr w r (.stringIter s (pos+(Utf8.decode s pos).2))):=X7 (by
 have c: ∀(k:Obj→Sem Value),(getObj r>>=k).run P w=(k (.stringIter s pos)).run P w:=by
  intro k;rw[Sem.run_bind];simp[getObj,Sem.run,h]
 have e: ∀o,(setObj r o).run P w= .ok () (Kr w r o):=by intro o;simp[setObj,Sem.run,h,Kr]
 unfold Instr.next
 simp only[c,d,if_true]
 simp[e,goInt])
theorem Q5e {t:TypeId} {r pos:Nat} {s:ByteArray} (h:w.heap[r]? =some (.stringIter s pos)) (d: ¬pos<s.size):
 V0 P (.pointer (some ⟨r,0,none⟩)) true t w K=K (.tuple #[.bool false]) w:=X7 (by
 have c: ∀(k:Obj→Sem Value),(getObj r>>=k).run P w=(k (.stringIter s pos)).run P w:=by
  intro k;rw[Sem.run_bind];simp[getObj,Sem.run,h]
 unfold Instr.next
 simp only[c,d,if_false]
 simp)
theorem Q9h {a:Value}:ext P (.tuple #[a]) 0 w K=K a w:=Ym (vs:=[a]) rfl
theorem Q6B {s:ByteArray} {i:Nat} (h:(s.get! i).toNat<128):Utf8.decode s i=((s.get! i).toNat,1):=by
 unfold Utf8.decode
 simp only[Nat.add_zero]
 rw[if_pos h]
theorem Q4W {s:ByteArray} {i:Nat} (h: ¬(s.get! i).toNat<128):128≤(Utf8.decode s i).1:=by
 unfold Utf8.decode
 simp only[Nat.add_zero]
 rw[if_neg h]
 repeat' split
 all_goals (simp only[Utf8.runeError] at*;try omega)
 all_goals (simp only[Bool.and_eq_true,decide_eq_true_eq,ge_iff_le] at*;omega)
theorem Q3D {s:ByteArray} {i:Nat}:1≤(Utf8.decode s i).2:=by
 unfold Utf8.decode
 simp only
 repeat' split
 all_goals simp
def Bw (p:Int→Bool) (s:ByteArray):Nat→Nat→Bool
 | 0,_=>true
 | n+1,i=>if i<s.size then p (Utf8.decode s i).1&&Bw p s n (i+(Utf8.decode s i).2) else true
theorem Q22 {a:List UInt8} {i:Nat} (h:i<a.length):(ByteArray.mk a.toArray).get! i=a[i]:=by
 show (ByteArray.mk a.toArray).data[i]! =a[i]
 simp[h]
theorem Q6f (p:Int→Bool) (e: ∀c:Int,128≤c→p c=false) (a:List UInt8): ∀(n i:Nat),a.length-i≤n→Bw p ⟨a.toArray⟩ n i=(a.drop i).all (fun b=>p b.toNat):=by
 intro n
 induction n with
 | zero=>intro i h;rw[List.drop_eq_nil_of_le (by omega)];rfl
 | succ n g=>
  intro i h
  simp only[Bw,S6]
  split
  ·rename_i d
   rw[List.drop_eq_getElem_cons d,List.all_cons]
   by_cases f:a[i].toNat<128
   ·rw[Q6B (by rw[Q22 d];exact f),Q22 d]
    simp only
    rw[g (i+1) (by omega)]
   ·have j:=Q4W (s:=⟨a.toArray⟩) (i:=i) (by rw[Q22 d];exact f)
    rw[e _ (by omega),e _ (by omega)];rfl
  ·rename_i d;rw[List.drop_eq_nil_of_le (by omega)];rfl
theorem U9 {α:Type} {A:(α→World→Prop)→World→Prop} {B:α→(Nat→Value)→World→Prop} (h:A (fun x w=> ∀d,B x d w) w):jn w A B:=Wt _ h (fun _ d _ c=>c d)
theorem X2 {e:World→World→Prop} {A c:(Value→World→Prop)→Prop} (V:Value) (h:A (fun v _=>v=V)) (d:c (fun v _=>v=V)):Q6 e A c:=
 N1 _ (fun _ _ _ h _=>h) h d
theorem Mo {w w0:World} {A:(World→World→Prop)→(World→Prop)→Prop} (d:Below w0.heap.size w0 w)
 (h:A (fun w w'=>Below w.heap.size w w') (fun w'=>Below w0.heap.size w0 w')):dr w A:=
 Q1o _ _ d.drew (fun _ _ c e=>c.trans (e.mono c.size)) h
theorem Q1t {w w':World} {v V:Value} (c:Below w.heap.size w w') (h:v=V):dk (fun w w'=>Below w.heap.size w w') (fun v _=>v=V) w v w':=⟨c,h⟩
theorem X5 {w:World} {v V:Value} (h:v=V):dk (fun w w'=>Below w.heap.size w w') (fun v _=>v=V) w v w:=⟨Below.refl _ _,h⟩
theorem Q59 {n:Nat} {fn:Func} {e:Array Value→Sem Value} {xs:List Value} {v:Value} (j:P.funcs[n]? =some fn) (o:(fn.name== "runtime.NumGoroutine")=false) (m:fn.body.isNone=true)
 (g:(Extern.findNext fn).isNone=true) (l:Extern.find fn=some e) (i:(e xs.toArray).run P w= .ok v w) (h:K v w):Q1 P n xs w K:=by
 have c:Extern.findNext fn=none:=by simpa using g
 have d: ¬fn.name= "runtime.NumGoroutine":=by simpa using o
 have f:fn.body=none:=by simpa using m
 unfold Q1
 rw[T1]
 unfold K1 callFunc
 simp[j,d,f,c,l,i,h]
theorem Q1j {α:Type} (p:α→Bool) (c:Nat→Bool): ∀(l:List α),(∀i (h:i<l.length),c i=p l[i])→(List.range l.length).find? c=l.findIdx? p
 | [],_=>rfl
 | x::l,h=>by
  rw[List.length_cons,List.range_succ_eq_map,List.find?_cons,List.findIdx?_cons]
  have d:c 0=p x:=h 0 (by simp)
  rw[d]
  cases p x
  ·simp only[Bool.false_eq_true,if_false]
   rw[List.find?_map]
   have:=Q1j p (c ∘ Nat.succ) l (fun i e=>h (i+1) (by simpa using e))
   rw[this]
  ·rfl
def Mr:=And.intro @K6 <| And.intro @B7 <| And.intro @Qf <| And.intro @Sx <| And.intro @Q1F <| And.intro @Q5Q <| And.intro @Q1I <| And.intro @Q1L <| And.intro @Aa <| And.intro @An <| And.intro @Aq <| And.intro @Q1Q <| And.intro @Q1G <| And.intro @Rv <| And.intro @Rp <| And.intro @X0R <| And.intro @X0A <| And.intro @Q9a <| And.intro @Q9t <| And.intro @Q9y <| And.intro @Q9h <| And.intro @Q8k <| And.intro @Q9N <| And.intro @O9 <| And.intro @C8 <| And.intro @Jk <| And.intro @F9 <| And.intro @Q95 <| And.intro @Ui <| @K4
def Mp:=And.intro @K6 <| And.intro @B7 <| And.intro @Qf <| And.intro @Sx <| And.intro @Q1F <| And.intro @Q5Q <| And.intro @Q1I <| And.intro @Q1L <| And.intro @Aa <| And.intro @An <| And.intro @Aq <| And.intro @Q1Q <| And.intro @Q1G <| And.intro @Rv <| And.intro @Rp <| And.intro @X0R <| And.intro @X0A <| And.intro @Q9a <| And.intro @Q9t <| And.intro @Q9y <| And.intro @Q9h <| And.intro @O9 <| And.intro @C8 <| And.intro @Jk <| And.intro @F9 <| And.intro @Ui <| @K4
def Mb:=And.intro @Bool.true_eq_false <| And.intro @Bool.false_eq_true <| And.intro @Bool.not_true <| And.intro @Bool.not_false <| And.intro @Bool.and_true <| And.intro @Bool.true_and <| And.intro @Bool.and_false <| And.intro @Bool.false_and <| And.intro @Bool.or_true <| And.intro @Bool.true_or <| And.intro @Bool.or_false <| @Bool.false_or
end Go.Emb

namespace Go.Kd
abbrev X0:=List UInt8
def T0 (c:Int):Bool:=decide (65≤c)&&decide (c≤90)
def G3 (c:Int):Bool:=decide (97≤c)&&decide (c≤122)
def R5 (c:Int):Bool:=decide (48≤c)&&decide (c≤57)
def D0 (c:Int):Bool:=T0 c||G3 c||R5 c
def name (s:X0):Bool:=match s with
 | []=>false
 | c::_=>decide (s.length≤32)&& !R5 c.toNat&&s.all (fun b=>D0 b.toNat)
def W2 (s:X0):Bool:=match s with
 | []=>false
 | c::_=>name s&&T0 c.toNat
def L5 (s:X0):Bool:=match s with
 | []=>false
 | c::_=>name s&&G3 c.toNat
def plain (s:X0):Bool:=decide (s=[105,110,116])||decide (s=[98,111,111,108])||decide (s=[116,101,120,116])
def arr (s:X0):Bool:=decide (2≤s.length)&&decide (s.drop (s.length-2)=[91,93])
def cutA (s:X0):X0:=s.take (s.length-2)
def Qq:Nat→X0→X0×Nat
 | 0,s=>(s,0)
 | n+1,s=>if arr s then ((Qq n (cutA s)).1,(Qq n (cutA s)).2+1) else (s,0)
def base (s:X0):X0×Nat:=Qq s.length s
def right (s:X0):Bool:=decide ((base s).2≤3)&&(plain (base s).1||W2 (base s).1)
def elem (s:X0):X0:=if arr s&&right s then cutA s else []
def Xq (s:X0):Nat:=if right s then (base s).2 else 0
def P5 (s:X0):X0×X0×Bool:=match s with
 | []=>([],[],false)
 | c::r=>if c=46 then ([],r,true) else ((c::(P5 r).1),(P5 r).2.1,(P5 r).2.2)
def Xl (s:X0):Bool:=(P5 s).2.2&&W2 (P5 s).1&&L5 (P5 s).2.1
def Ty (c:UInt8) (s:X0):Int:=match s.findIdx? (fun b=>decide (b=c)) with
 | some i=>i
 | none=> -1
def Q1l (s:X0) (o:Option Nat):X0×X0×Bool:=match o with
 | some i=>(s.take i,s.drop (i+1),true)
 | none=>(s,[],false)
theorem Bo (s:X0):P5 s=Q1l s (s.findIdx? (fun b=>decide (b=46))):=by
 induction s with
 | nil=>rfl
 | cons c r a=>
  rw[List.findIdx?_cons]
  simp only[P5]
  by_cases h:c=46
  ·simp[h,Q1l]
  ·simp only[h,if_false,decide_false,Bool.false_eq_true]
   rw[a]
   cases r.findIdx? (fun b=>decide (b=46)) with
   | none=>simp[Q1l]
   | some i=>simp[Q1l]
end Go.Kd

namespace Go.Proofs.YtjdiakhipmggjaaGreatDoor
open Go.Emb Go.RowKit Go.Kd
variable {w : World} {K : Value → World → Prop}
theorem X9:P.underlying T.b=some .string:=by kernel_rfl
theorem Q9f:P.underlying T.d=some (.int .i64):=by kernel_rfl
theorem Q16:P.underlying T.q=some .bool:=by kernel_rfl
theorem Q1Y:P.underlying T.a0=some (.int .u8):=by kernel_rfl
theorem Q5s:P.underlying T.am=some (.int .i32):=by kernel_rfl
theorem Q5A (c:Int) (h:K (.bool (T0 c)) w):Q1 P F.bZ [.int .i32 c] w K:=Q3i (by
 unfold Pu
 (try simp only[↓Mr,Mr,Mb,reduceIte])
 cases a:decide (65≤c)<;>simp only[a,↓Mr,Mr,Mb,reduceIte]<;>simpa [T0,a] using h)
theorem Q5H (c:Int) (h:K (.bool (G3 c)) w):Q1 P F.c0 [.int .i32 c] w K:=Q4h (by
 unfold To
 (try simp only[↓Mr,Mr,Mb,reduceIte])
 cases a:decide (97≤c)<;>simp only[a,↓Mr,Mr,Mb,reduceIte]<;>simpa [G3,a] using h)
theorem X05 (c:Int) (h:K (.bool (D0 c)) w):Q1 P F.bQ [.int .i32 c] w K:=Q37 (by
 unfold Gg
 refine Q5A c ?_
 cases a:T0 c
 ·(try simp only[↓Mr,Mr,Mb,reduceIte])
  refine Q5H c ?_
  cases b:G3 c
  ·(try simp only[↓Mr,Mr,Mb,reduceIte])
   cases d:decide (48≤c)
   ·(try simp only[↓Mr,Mr,Mb,reduceIte])
    simpa [D0,R5,a,b,d] using h
   ·(try simp only[↓Mr,Mr,Mb,reduceIte])
    simpa [D0,R5,a,b,d] using h
  ·(try simp only[↓Mr,Mr,Mb,reduceIte])
   simpa [D0,a,b] using h
 ·(try simp only[↓Mr,Mr,Mb,reduceIte])
  simpa [D0,a] using h)
theorem X1h (a:List UInt8) (f:Value) (p:Int→Bool) (l: ∀(c:Int) (w:World) (K:Value→World→Prop),K (.bool (p c)) w→Y6 P f [.int .i32 c] w K)
 (h: ∀w',Below w.heap.size w w'→K (.bool (Bw p ⟨a.toArray⟩ a.length 0)) w'):Q1 P F.ck [S a,f] w K:=Q6W (by
 unfold Q1d
 rw[X0q X9]
 refine Uc (fun _ w'=> ∃pos n:Nat,a.length-pos≤n∧Bw p ⟨a.toArray⟩ a.length 0=Bw p ⟨a.toArray⟩ n pos∧Below w.heap.size w w'∧w'.heap[w.heap.size]? =some (.stringIter ⟨a.toArray⟩ pos))
  (fun _ w'=>match w'.heap[w.heap.size]? with | some (.stringIter _ pos)=>a.length-pos | _=>0) ⟨0,a.length,by omega,rfl,(Below.refl _ _).alloc (Nat.le_refl _) _,heap_alloc_new w _⟩ ?_
 rintro _ _ w1 ⟨pos,n,r,b,j,g⟩
 by_cases e:pos<a.length
 ·rw[X08 g (by rw[S6];exact e)]
  (try simp only[↓Mr,Mr,Mb,reduceIte])
  refine l _ _ _ ?_
  obtain ⟨n,rfl⟩: ∃m,n=m+1:=⟨n-1,by omega⟩
  simp only[Bw,S6,e,if_true] at b
  have q:=Q3D (s:=⟨a.toArray⟩) (i:=pos)
  have d:w.heap.size<w1.heap.size:=(Array.getElem?_eq_some_iff.1 g).1
  cases k:p (Utf8.decode ⟨a.toArray⟩ pos).1
  ·(try simp only[↓Mr,Mr,Mb,reduceIte])
   rw[k] at b
   have:=h _ (Q2h (o:= .stringIter ⟨a.toArray⟩ (pos+(Utf8.decode ⟨a.toArray⟩ pos).2)) j (Nat.le_refl _))
   rw[b] at this
   exact this
  ·(try simp only[↓Mr,Mr,Mb,reduceIte])
   rw[k] at b
   refine ⟨⟨_,n,?_,b,Q2h j (Nat.le_refl _),Q5k d⟩,?_⟩
   ·omega
   ·simp only[Q5k d,g];omega
 ·rw[Q5e g (by rw[S6];exact e)]
  (try simp only[↓Mr,Mr,Mb,reduceIte])
  have:Bw p ⟨a.toArray⟩ n pos=true:=by
   cases n with
   | zero=>rfl
   | succ n=>simp only[Bw,S6,e,if_false]
  rw[←this,←b]
  exact h _ j)
theorem Q6E (c:Int) (h:128≤c):D0 c=false:=by
 simp[D0,T0,G3,R5];omega
theorem Q3N (a:List UInt8) (n:a.length≤140737488355328) (h: ∀w',Below w.heap.size w w'→K (.bool (name a)) w'):Q1 P F.bL [S a] w K:=Q5h (by
 unfold Q0n
 have d: ∀c r,a=c::r→(decide (a.length≤32)&& !R5 c.toNat)=true→Q1 P F.ck [S a,(.func (.func F.bQ) #[] #[])] w K:=by
  intro c r m b
  refine X1h a _ D0 (fun c w K h=>Y8 (first:=[]) (caps:=[]) (X05 c h)) fun w' l=>?_
  rw[Q6f _ Q6E a _ _ (by omega)]
  have:=h w' l
  rw[m] at this b⊢
  simp only[name] at this
  rw[b,Bool.true_and] at this
  simpa using this
 cases a with
 | nil=>
  simp only[↓Mr,Mr,Mb,reduceIte,decide_true]
  exact h w (Below.refl _ _)
 | cons c r=>
  have f:decide (c::r=[])=false:=by simp
  simp only[↓Mr,Mr,Mb,reduceIte,f,O8 X9]
  by_cases i:(c::r).length≤32
  ·have e:r.length≤31:=by simpa using i
   have b:decide ((32:Int)<((c::r).length:Int))=false:=by simp only[decide_eq_false_iff_not];omega
   simp only[↓Mr,Mr,Mb,reduceIte,b]
   rw[T6 X9 (by omega) (by simp)]
   (try simp only[↓Mr,Mr,Mb,reduceIte])
   have j:(c::r)[(0:Int).toNat]'(by simp)=c:=rfl
   simp only[j]
   cases g:decide ((48:Int)≤(c.toNat:Int))
   ·(try simp only[↓Mr,Mr,Mb,reduceIte])
    exact d c r rfl (by simp[R5,e,g])
   ·(try simp only[↓Mr,Mr,Mb,reduceIte])
    rw[T6 X9 (by omega) (by simp)]
    simp only[↓Mr,Mr,Mb,reduceIte,j]
    cases k:decide ((c.toNat:Int)≤57)
    ·(try simp only[↓Mr,Mr,Mb,reduceIte])
     exact d c r rfl (by simp only[R5,g,k];simp[e])
    ·(try simp only[↓Mr,Mr,Mb,reduceIte])
     have:name (c::r)=false:=by simp only[name,R5,g,k];simp
     rw[←this];exact h w (Below.refl _ _)
  ·have b:decide ((32:Int)<((c::r).length:Int))=true:=by simp only[decide_eq_true_eq];omega
   simp only[↓Mr,Mr,Mb,reduceIte,b]
   have:name (c::r)=false:=by simp only[name];rw[decide_eq_false i];rfl
   rw[←this];exact h w (Below.refl _ _))
theorem Df (a:List UInt8) (e:a.length≤140737488355328) (h: ∀w',Below w.heap.size w w'→K (.bool (W2 a)) w'):Q1 P F.ae [S a] w K:=Q47 (by
 unfold Tb
 refine Q3N a e fun w1 b=>?_
 cases a with
 | nil=>
  simp only[name,↓Mr,Mr,Mb,reduceIte]
  exact h w1 b
 | cons c r=>
  cases d:name (c::r)
  ·(try simp only[↓Mr,Mr,Mb,reduceIte])
   have:=h w1 b
   simp only[W2,d] at this
   simpa using this
  ·(try simp only[↓Mr,Mr,Mb,reduceIte])
   rw[T6 X9 (by omega) (by simp)]
   have f:(c::r)[(0:Int).toNat]'(by simp)=c:=rfl
   simp only[f]
   rw[Bg Q1Y Q5s,w32 (by omega) (by have:=c.toNat_lt;omega)]
   refine Q5A _ ?_
   (try simp only[↓Mr,Mr,Mb,reduceIte])
   have:=h w1 b
   simp only[W2,d] at this
   simpa using this)
theorem Dg (a:List UInt8) (h:K (.bool (plain a)) w):Q1 P F.aC [S a] w K:=Q46 (by
 unfold Tm
 (try simp only[↓Mr,Mr,Mb,reduceIte])
 cases b:decide (a=[105,110,116])<;>(try simp only[↓Mr,Mr,Mb,reduceIte])
 ·cases c:decide (a=[98,111,111,108])<;>(try simp only[↓Mr,Mr,Mb,reduceIte])<;>simpa [plain,b,c] using h
 ·simpa [plain,b] using h)
def Yt (a b:List UInt8):Bool:=decide (b.length≤a.length)&&decide (a.drop (a.length-b.length)=b)
theorem Mw (a b:List UInt8) (e:a.length≤140737488355328) (f:b.length≤140737488355328) (h:K (.bool (Yt a b)) w):Q1 P F.a6 [S a,S b] w K:=He (by
 unfold Jd
 rw[O8 X9,O8 X9]
 (try simp only[↓Mr,Mr,Mb,reduceIte])
 by_cases d:b.length≤a.length
 ·have c:decide ((b.length:Int)≤a.length)=true:=by simp only[decide_eq_true_eq];omega
  simp only[↓Mr,Mr,Mb,reduceIte,c,O8 X9]
  rw[S8 (by omega) (by omega),Wi X9 (by omega) (by omega)]
  (try simp only[↓Mr,Mr,Mb,reduceIte])
  rw[show ((a.length:Int)-b.length).toNat=a.length-b.length from by omega]
  simpa [Yt,d] using h
 ·have c:decide ((b.length:Int)≤a.length)=false:=by simp only[decide_eq_false_iff_not];omega
  simp only[↓Mr,Mr,Mb,reduceIte,c]
  simpa [Yt,d] using h)
theorem Q4O (a b:List UInt8) (c:a.length≤140737488355328) (d:b.length≤140737488355328) (h:K (.bool (Yt a b)) w):Q1 P F.bv [S a,S b] w K:=Ka (by
 unfold Lr
 exact Mw a b c d h)
def Ml (a b:List UInt8):List UInt8:=if Yt a b then a.take (a.length-b.length) else a
theorem Q2E {a b:List UInt8} (h:Yt a b=true):b.length≤a.length:=by
 simp only[Yt,Bool.and_eq_true,decide_eq_true_eq] at h;exact h.1
theorem Q3m (a b:List UInt8) (d:a.length≤140737488355328) (e:b.length≤140737488355328) (h:K (S (Ml a b)) w):Q1 P F.bh [S a,S b] w K:=Fk (by
 unfold Vs
 refine Ed ?_
 unfold Yq
 refine Mw a b d e ?_
 cases c:Yt a b
 ·(try simp only[↓Mr,Mr,Mb,reduceIte])
  simpa [Ml,c] using h
 ·have f:=Q2E c
  simp only[↓Mr,Mr,Mb,reduceIte,O8 X9]
  rw[S8 (by omega) (by omega),I6 X9 (by omega) (by omega)]
  rw[show ((a.length:Int)-b.length).toNat=a.length-b.length from by omega]
  simpa [Ml,c] using h)
theorem Q4F (a b:List UInt8) (d:a.length≤140737488355328) (e:b.length≤140737488355328) (h:K (.tuple #[S (Ml a b), .bool (Yt a b)]) w):Q1 P F.bt [S a,S b] w K:=Kf (by
 unfold Mf
 refine Hc ?_
 unfold Zz
 refine Mw a b d e ?_
 cases c:Yt a b
 ·(try simp only[↓Mr,Mr,Mb,reduceIte])
  simpa [Ml,c] using h
 ·have f:=Q2E c
  simp only[↓Mr,Mr,Mb,reduceIte,O8 X9]
  rw[S8 (by omega) (by omega),I6 X9 (by omega) (by omega)]
  rw[show ((a.length:Int)-b.length).toNat=a.length-b.length from by omega]
  (try simp only[↓Mr,Mr,Mb,reduceIte])
  simpa [Ml,c] using h)
theorem Q15 (a:List UInt8):Yt a [91,93]=arr a:=rfl
theorem Q09 (a:List UInt8):Ml a [91,93]=if arr a then Kd.cutA a else a:=rfl
theorem P3 {a:List UInt8} (h:arr a=true):(Kd.cutA a).length+2=a.length:=by
 simp only[arr,Bool.and_eq_true,decide_eq_true_eq] at h
 simp only[Kd.cutA,List.length_take];omega
theorem Q17: ∀(n m:Nat) (a:List UInt8),a.length≤n→a.length≤m→Qq n a=Qq m a
 | 0,0,a,_,_=>rfl
 | 0,m+1,a,h,_=>by
  have:a=[]:=List.eq_nil_of_length_eq_zero (by omega)
  subst this;rfl
 | n+1,0,a,_,h=>by
  have:a=[]:=List.eq_nil_of_length_eq_zero (by omega)
  subst this;rfl
 | n+1,m+1,a,b,c=>by
  simp only[Qq]
  split
  ·rename_i h
   have:=P3 h
   rw[Q17 n m (Kd.cutA a) (by omega) (by omega)]
  ·rfl
theorem Zl (a:List UInt8):base a=if arr a then ((base (Kd.cutA a)).1,(base (Kd.cutA a)).2+1) else (a,0):=by
 unfold base
 cases b:a.length with
 | zero=>
  have:a=[]:=List.eq_nil_of_length_eq_zero b
  subst this;rfl
 | succ n=>
  simp only[Qq]
  split
  ·rename_i h
   have:=P3 h
   rw[Q17 n (Kd.cutA a).length (Kd.cutA a) (by omega) (Nat.le_refl _)]
  ·rfl
theorem Ac (a:List UInt8):(base a).1.length+2*(base a).2=a.length:=by
 have key: ∀n (a:List UInt8),(Qq n a).1.length+2*(Qq n a).2=a.length:=by
  intro n
  induction n with
  | zero=>intro a;simp[Qq]
  | succ n b=>
   intro a
   simp only[Qq]
   split
   ·rename_i h
    have:=P3 h
    have:=b (Kd.cutA a)
    simp only;omega
   ·simp
 exact key _ a
theorem Q7N (a:List UInt8) (e:a.length≤140737488355328) (h:K (.tuple #[S (base a).1,I (base a).2]) w):Q1 P F.cc [S a] w K:=Q51 (by
 unfold Q0v
 refine Uc (fun x w'=>w'=w∧ ∃(b:List UInt8) (n:Nat),x=(S b,I n)∧b.length+2*n=a.length∧base a=((base b).1,(base b).2+n)) (fun x _=>match x.1 with | .string s=>s.size | _=>0)
  ⟨rfl,a,0,rfl,by omega,rfl⟩ ?_
 rintro _ _ _ ⟨rfl,b,n,rfl,g,c⟩
 refine Q4O b _ (by omega) (by simp) ?_
 rw[Q15]
 cases d:arr b
 ·(try simp only[↓Mr,Mr,Mb,reduceIte])
  rw[Zl b,d] at c
  simp only[Bool.false_eq_true,if_false,Nat.zero_add] at c
  rw[c] at h;exact h
 ·(try simp only[↓Mr,Mr,Mb,reduceIte])
  refine Q3m b _ (by omega) (by simp) ?_
  rw[Q09,d]
  simp only[↓Mr,Mr,Mb,reduceIte,if_true]
  have f:=P3 d
  rw[S8 (by omega) (by omega)]
  refine ⟨⟨by first | rfl | trivial,Kd.cutA b,n+1,by simp,by omega,?_⟩,?_⟩
  ·rw[c,Zl b,d];simp;omega
  ·simp only[S6];omega)
theorem Xi (a:List UInt8) (f:a.length≤140737488355328) (h: ∀w',Below w.heap.size w w'→K (.bool (right a)) w'):Q1 P F.w [S a] w K:=Q3z (by
 unfold Tf
 have e:=Ac a
 refine Q7N a f ?_
 (try simp only[↓Mr,Mr,Mb,reduceIte])
 by_cases b:(base a).2≤3
 ·have c:decide (((base a).2:Int)≤3)=true:=by simp only[decide_eq_true_eq];omega
  simp only[↓Mr,Mr,Mb,reduceIte,c]
  refine Dg _ ?_
  cases d:plain (base a).1
  ·(try simp only[↓Mr,Mr,Mb,reduceIte])
   refine Df _ (by omega) fun w1 g=>?_
   (try simp only[↓Mr,Mr,Mb,reduceIte])
   have:=h w1 g
   simp only[right,b,d] at this
   simpa using this
  ·(try simp only[↓Mr,Mr,Mb,reduceIte])
   have:=h w (Below.refl _ _)
   simp only[right,b,d] at this
   simpa using this
 ·have c:decide (((base a).2:Int)≤3)=false:=by simp only[decide_eq_false_iff_not];omega
  simp only[↓Mr,Mr,Mb,reduceIte,c]
  have:=h w (Below.refl _ _)
  simp only[right,b] at this
  simpa using this)
theorem Q4i (a:List UInt8) (c:a.length≤140737488355328) (h: ∀w',Below w.heap.size w w'→K (S (elem a)) w'):Q1 P F.bK [S a] w K:=Q4Q (by
 unfold Q0k
 refine Q4F a _ c (by simp) ?_
 rw[Q15,Q09]
 (try simp only[↓Mr,Mr,Mb,reduceIte])
 cases b:arr a
 ·(try simp only[↓Mr,Mr,Mb,reduceIte])
  have:=h w (Below.refl _ _)
  simp only[elem,b] at this
  exact this
 ·(try simp only[↓Mr,Mr,Mb,reduceIte])
  refine Xi a c fun w1 e=>?_
  have:=h w1 e
  cases d:right a
  ·(try simp only[↓Mr,Mr,Mb,reduceIte])
   simp only[elem,b,d] at this
   exact this
  ·simp only[↓Mr,Mr,Mb,reduceIte,if_true]
   simp only[elem,b,d] at this
   exact this)
theorem Q7m (a:List UInt8) (b:a.length≤140737488355328) (h: ∀w',Below w.heap.size w w'→K (I (Xq a)) w'):Q1 P F.cb [S a] w K:=Q4H (by
 unfold Q0o
 refine Q7N a b ?_
 (try simp only[↓Mr,Mr,Mb,reduceIte])
 refine Xi a b fun w1 c=>?_
 have:=h w1 c
 cases d:right a<;>(try simp only[↓Mr,Mr,Mb,reduceIte])<;>simpa [Xq,d] using this)
theorem X1I (a:List UInt8) (i:a.length≤140737488355320) (h: ∀w',Below w.heap.size w w'→K (if right a&&decide (Xq a≠3) then .tuple #[S (a++[91,93]),I 0] else .tuple #[S [],I 30]) w'):Q1 P F.cx [S a] w K:=Q82 (by
 unfold Q2d
 refine Xi a (by omega) fun w1 b=>?_
 cases d:right a
 ·(try simp only[↓Mr,Mr,Mb,reduceIte])
  have:=h w1 b
  simp only[d] at this
  simpa using this
 ·(try simp only[↓Mr,Mr,Mb,reduceIte])
  refine Q7m a (by omega) fun g c=>?_
  have:=h g (b.trans (c.mono b.size))
  by_cases f:Xq a=3
  ·have e:decide ((Xq a:Int)=3)=true:=by simp only[decide_eq_true_eq];omega
   simp only[↓Mr,Mr,Mb,reduceIte,e]
   simp only[d,f] at this
   simpa using this
  ·have e:decide ((Xq a:Int)=3)=false:=by simp only[decide_eq_false_iff_not];omega
   simp only[↓Mr,Mr,Mb,reduceIte,e]
   rw[Q0p (by simp;omega)]
   simp only[d] at this
   simpa [f] using this)
end Go.Proofs.YtjdiakhipmggjaaGreatDoor

namespace Go.Proofs.YtjdiakhipmggjaaGreatDoor
open Go.Emb Go.RowKit Go.Kd
variable {w : World} {K : Value → World → Prop}
theorem Q02 (a:List UInt8) (c:UInt8) (h:K (I (Ty c a)) w):Q1 P F.bH [S a, .int .u8 c.toNat] w K:=by
 refine Q59 (e:=Extern.BytealgIndexByte.indexByte) Tryz.func231 (by decide) rfl (by kernel_rfl) (by kernel_rfl) ?_ h
 have f:((List.range (ByteArray.mk a.toArray).size).find? fun i=>(ByteArray.mk a.toArray)[i]! ==c)=a.findIdx? (fun b=>decide (b=c)):=by
  rw[S6]
  refine Q1j _ _ a fun i g=>?_
  have:(ByteArray.mk a.toArray)[i]! =a[i]:=by
   rw[getElem!_pos _ _ (by rw[S6];exact g)];rfl
  rw[this,Bool.eq_iff_iff];simp
 have d:((c.toNat:Int).toNat.toUInt8)=c:=by simp
 have:=run_indexByte_string (P:=P) ⟨a.toArray⟩ c.toNat w
 rw[d] at this
 refine this.trans ?_
 unfold firstIdx Ty
 rw[f]
 cases a.findIdx? (fun b=>decide (b=c))<;>rfl
theorem Q8Q (a:List UInt8) (c:UInt8) (h:K (I (Ty c a)) w):Q1 P F.bw [S a,S [c]] w K:=Iz (by
 unfold Mk
 simp only[O8 X9]
 have g:decide ((([c]:List UInt8).length:Int)=0)=false:=rfl
 have j:decide ((([c]:List UInt8).length:Int)=1)=true:=rfl
 simp only[Aq,g,j]
 simp only[↓Mr,Mr,Mb,reduceIte]
 have e:D7 P T.b (S [c]) (I 0) w fun d w=>Q1 P F.ap [S a,d] w fun b w=>K b w:=by
  rw[T6 X9 (by omega) (by simp)]
  refine Ha ?_
  unfold Jb
  exact Q02 a c h
 cases i:decide ([c]=a)
 ·(try simp only[↓Mr,Mr,Mb,reduceIte])
  exact e
 ·(try simp only[↓Mr,Mr,Mb,reduceIte])
  have f:[c]=a:=by simpa using i
  have:Ty c a=0:=by rw[←f];simp[Ty,List.findIdx?_cons]
  rw[this] at h;exact h)
theorem Q8H {c:UInt8} {a:List UInt8} {i:Nat} (h:a.findIdx? (fun b=>decide (b=c))=some i):i<a.length:=by
 have:=List.findIdx?_eq_some_iff_getElem.1 h
 exact this.1
theorem X1b (a:List UInt8) (f:a.length≤140737488355328) (h: ∀w',Below w.heap.size w w'→K (.tuple #[S (P5 a).1,S (P5 a).2.1, .bool (P5 a).2.2]) w'):Q1 P F.cg [S a,S [46]] w K:=Q36 (by
 unfold Gh
 refine Q05 ?_
 unfold Of
 refine Q8Q a 46 ?_
 rw[Bo] at h
 unfold Ty
 cases c:a.findIdx? (fun b=>decide (b=46)) with
 | none=>
  simp only[↓Mr,Mr,Mb,reduceIte,show decide ((0:Int)≤ -1)=false from rfl]
  have:=h w (Below.refl _ _)
  rw[c] at this;exact this
 | some i=>
  have g:=Q8H c
  have e:decide ((0:Int)≤(i:Int))=true:=by simp
  simp only[An,e]
  simp only[↓Mr,Mr,Mb,reduceIte]
  refine Mo (Below.refl _ w) ?_
  refine X2 (S (a.take i)) (fun w1 _=>?_) ?_
  ·rw[I6 X9 (by omega) (by omega)];exact X5 (by simp)
  refine X2 (I 1) (fun w1 _=>?_) ?_
  ·rw[O8 X9];exact X5 rfl
  refine X2 (I (i+1)) ?_ ?_
  ·rintro _ w1 _ rfl
   rw[Sx,S8 (by omega) (by omega)];exact X5 rfl
  refine X2 (S (a.drop (i+1))) ?_ ?_
  ·rintro _ w1 _ rfl
   rw[Wi X9 (by omega) (by omega)];exact X5 (by simp)
  rintro _ _ _ _ w1 d rfl rfl rfl rfl
  (try simp only[↓Mr,Mr,Mb,reduceIte])
  have:=h w1 d
  rw[c] at this;exact this)
theorem Q9M (a:List UInt8) (z:a.length≤140737488355328) (h: ∀w',Below w.heap.size w w'→K (if Xl a then .tuple #[S (P5 a).1,S (P5 a).2.1,I 0] else .tuple #[S [],S [],I 30]) w'):Q1 P F.cp [S a] w K:=Q3s (by
 unfold Te
 refine X1b a z fun w1 e=>?_
 have o:(P5 a).1.length≤a.length∧(P5 a).2.1.length≤a.length:=by
  rw[Bo]
  cases a.findIdx? (fun b=>decide (b=46))<;>simp[Q1l]
  omega
 generalize t:(P5 a).1=p at h o
 generalize A:(P5 a).2.1=q at h o
 have i:Xl a=((P5 a).2.2&&W2 p&&L5 q):=by rw[Xl,t,A]
 cases j:(P5 a).2.2
 ·simp only[↓Mr,Mr,Mb,reduceIte]
  have:=h w1 e
  rw[i,j] at this;simpa using this
 ·simp only[↓Mr,Mr,Mb,reduceIte]
  refine Df p (by omega) fun v l=>?_
  have d:=e.trans (l.mono e.size)
  cases s:W2 p
  ·(try simp only[↓Mr,Mr,Mb,reduceIte])
   have:=h v d
   rw[i,j,s] at this;simpa using this
  ·(try simp only[↓Mr,Mr,Mb,reduceIte])
   refine Q3N q (by omega) fun y m=>?_
   have f:=d.trans (m.mono d.size)
   have:=h y f
   rw[i,j,s] at this
   cases n:name q
   ·(try simp only[↓Mr,Mr,Mb,reduceIte])
    have g:L5 q=false:=by cases q with | nil=>rfl | cons c r=>simp[L5,n]
    rw[g] at this;simpa using this
   ·(try simp only[↓Mr,Mr,Mb,reduceIte])
    cases q with
    | nil=>simp[name] at n
    | cons c r=>
     rw[T6 X9 (by omega) (by simp)]
     have k:(c::r)[(0:Int).toNat]'(by simp)=c:=rfl
     (try simp only[↓Mr,Mr,Mb,reduceIte])
     rw[k,Bg Q1Y Q5s,w32 (by omega) (by have:=c.toNat_lt;omega)]
     refine Q5H _ ?_
     have g:L5 (c::r)=G3 c.toNat:=by simp[L5,n]
     rw[g] at this
     cases u:G3 c.toNat<;>(try simp only[↓Mr,Mr,Mb,reduceIte])<;>rw[u] at this<;>simpa using this)
theorem Pv (a:List UInt8) (h:K (.bool (plain a)) w):Q1 P F.ad [S a] w K:=Ft (by
 unfold Ws
 refine U9 ?_
 (try simp only[↓Mr,Mr,Mb,reduceIte])
 cases b:decide (a=[105,110,116])
 ·cases c:decide (a=[98,111,111,108])
  ·cases d:decide (a=[116,101,120,116])<;>(try simp only[↓Mr,Mr,Mb,reduceIte])<;>intro _<;>(try simp only[↓Mr,Mr,Mb,reduceIte])<;>simpa [plain,b,c,d] using h
  ·(try simp only[↓Mr,Mr,Mb,reduceIte])
   intro _
   (try simp only[↓Mr,Mr,Mb,reduceIte])
   simpa [plain,b,c] using h
 ·(try simp only[↓Mr,Mr,Mb,reduceIte])
  intro _
  (try simp only[↓Mr,Mr,Mb,reduceIte])
  simpa [plain,b] using h)
def Q9d (a:List UInt8) (w:World) (x:Value) (w':World):Prop:=
 w=w'∧ ∃i:Nat,x=I i∧i≤a.length∧(0<i→(a.head?.map fun c=>R5 c.toNat)=some false)∧(a.take i).all (fun b=>D0 b.toNat)=true
def Q3g (a:List UInt8) (x:Value):Nat:=match x with | .int _ i=>a.length-i.toNat | _=>0
theorem Q41 (a:List UInt8) (O:a.length≤140737488355328) (h:K (.bool (name a)) w):Q1 P F.aK [S a] w K:=Kc (by
 unfold Lo
 refine Uc (Q9d a w) (fun x _=>Q3g a x) ⟨rfl,0,rfl,by omega,by omega,by simp⟩ ?_
 rintro _ _ _ ⟨rfl,i,rfl,N,L,j⟩
 rw[O8 X9]
 (try simp only[↓Mr,Mr,Mb,reduceIte])
 by_cases m:i<a.length
 ·have C:decide ((i:Int)<a.length)=true:=by simp only[decide_eq_true_eq];omega
  simp only[C,↓Mr,Mr,Mb,reduceIte]
  have d: ∀B:Value→World→Prop,D7 P T.b (S a) (I i) w B=B (.int .u8 (a[i]'m).toNat) w:=fun B=>by
   rw[T6 X9 (by omega) (by simpa using m)];simp
  generalize q:a[i]=c at d
  have e:D0 c.toNat=false∨(i=0∧R5 c.toNat=true)→name a=false:=by
   intro s
   cases a with
   | nil=>rfl
   | cons c0 r=>
    simp only[name]
    rcases s with s | ⟨rfl,s⟩
    ·have:(c0::r).all (fun b=>D0 b.toNat)=false:=by
      rw[List.all_eq_false]
      exact ⟨c,by rw[←q];exact List.getElem_mem _,by simp[s]⟩
     rw[this];simp
    ·simp only[List.getElem_cons_zero] at q
     rw[q,s];simp
  have f:D0 c.toNat=true→(i=0→R5 c.toNat=false)→Q9d a w (I (IntKind.i64.wrap ((i:Int)+1))) w∧Q3g a (I (IntKind.i64.wrap ((i:Int)+1)))<Q3g a (I i):=by
   intro z H
   rw[S8 (by omega) (by omega)]
   refine ⟨⟨rfl,i+1,by simp,by omega,fun _=>?_,?_⟩,by simp only[Q3g];omega⟩
   ·by_cases p:0<i
    ·exact L p
    ·obtain rfl:i=0:=by omega
     cases a with
     | nil=>simp at m
     | cons c0 r=>simp only[List.getElem_cons_zero] at q;subst q;simp[H rfl]
   ·rw[List.take_add_one,List.getElem?_eq_getElem m,q]
    simp[j,z]
  have D:=c.toNat_lt
  have t:decide ((i:Int)=0)=decide (i=0):=by rw[Bool.eq_iff_iff];simp
  by_cases o:97≤(c.toNat:Int)
  ·by_cases E:(c.toNat:Int)≤122
   ·simp only[d,decide_eq_true o,decide_eq_true E,↓Mr,Mr,Mb,reduceIte]
    exact f (by simp[D0,G3,o,E]) (fun _=>by simp[R5];omega)
   ·have n:(65:Int)≤c.toNat:=by omega
    have u: ¬(c.toNat:Int)≤90:=by omega
    have g: ¬(c.toNat:Int)<48:=by omega
    have k:(57:Int)<c.toNat:=by omega
    simp only[d,decide_eq_true o,decide_eq_false E,decide_eq_true n,decide_eq_false u,decide_eq_false g,decide_eq_true k,t,↓Mr,Mr,Mb,reduceIte]
    have l:=e (.inl (by simp[D0,T0,G3,R5];omega))
    rw[l] at h
    cases decide (i=0)<;>(try simp only[d,decide_eq_false g,decide_eq_true k,↓Mr,Mr,Mb,reduceIte])<;>exact h
  ·by_cases n:(65:Int)≤c.toNat
   ·by_cases u:(c.toNat:Int)≤90
    ·simp only[d,decide_eq_false o,decide_eq_true n,decide_eq_true u,↓Mr,Mr,Mb,reduceIte]
     exact f (by simp[D0,T0,n,u]) (fun _=>by simp[R5];omega)
    ·have g: ¬(c.toNat:Int)<48:=by omega
     have k:(57:Int)<c.toNat:=by omega
     simp only[d,decide_eq_false o,decide_eq_true n,decide_eq_false u,decide_eq_false g,decide_eq_true k,t,↓Mr,Mr,Mb,reduceIte]
     have l:=e (.inl (by simp[D0,T0,G3,R5];omega))
     rw[l] at h
     cases decide (i=0)<;>(try simp only[d,decide_eq_false g,decide_eq_true k,↓Mr,Mr,Mb,reduceIte])<;>exact h
   ·by_cases g:(c.toNat:Int)<48
    ·simp only[d,decide_eq_false o,decide_eq_false n,decide_eq_true g,t,↓Mr,Mr,Mb,reduceIte]
     have l:=e (.inl (by simp[D0,T0,G3,R5];omega))
     rw[l] at h
     cases decide (i=0)<;>(try simp only[d,decide_eq_true g,↓Mr,Mr,Mb,reduceIte])<;>exact h
    ·by_cases k:(57:Int)<c.toNat
     ·simp only[d,decide_eq_false o,decide_eq_false n,decide_eq_false g,decide_eq_true k,t,↓Mr,Mr,Mb,reduceIte]
      have l:=e (.inl (by simp[D0,T0,G3,R5];omega))
      rw[l] at h
      cases decide (i=0)<;>(try simp only[d,decide_eq_false g,decide_eq_true k,↓Mr,Mr,Mb,reduceIte])<;>exact h
     ·have v:R5 c.toNat=true:=by simp[R5];omega
      simp only[d,decide_eq_false o,decide_eq_false n,decide_eq_false g,decide_eq_false k,t,↓Mr,Mr,Mb,reduceIte]
      by_cases p:i=0
      ·have l:=e (.inr ⟨p,v⟩)
       rw[l] at h
       simp only[decide_eq_true p,d,decide_eq_false g,decide_eq_false k,↓Mr,Mr,Mb,reduceIte]
       exact h
      ·simp only[decide_eq_false p,d,decide_eq_false g,decide_eq_false k,↓Mr,Mr,Mb,reduceIte]
       exact f (by simp[D0,v]) (fun h=>absurd h p)
 ·have C:decide ((i:Int)<a.length)=false:=by simp only[decide_eq_false_iff_not];omega
  obtain rfl:i=a.length:=by omega
  simp only[C,↓Mr,Mr,Mb,reduceIte]
  rw[O8 X9]
  cases a with
  | nil=>
   have J:decide ((1:Int)≤(([]:List UInt8).length:Int))=false:=rfl
   simp only[J,↓Mr,Mr,Mb,reduceIte];exact h
  | cons c r=>
   have J:decide ((1:Int)≤((c::r).length:Int))=true:=by simp only[decide_eq_true_eq,List.length_cons];omega
   have y:=L (by simp)
   simp only[List.head?_cons,Option.map_some,Option.some.injEq] at y
   simp only[List.take_length] at j
   have A:name (c::r)=decide ((c::r).length≤32):=by simp only[name,y,j];simp
   have M:decide (((c::r).length:Int)≤32)=decide ((c::r).length≤32):=by rw[Bool.eq_iff_iff];simp only[decide_eq_true_eq];omega
   simp only[J,O8 X9,M,↓Mr,Mr,Mb,reduceIte]
   rw[←A];exact h)
theorem Bn {c:UInt8} {r:List UInt8} (h:name (c::r)=true):D0 c.toNat=true∧R5 c.toNat=false:=by
 simp only[name,Bool.and_eq_true,List.all_cons,Bool.not_eq_true'] at h
 exact ⟨h.2.1,h.1.2⟩
theorem Qi (a:List UInt8) (e:a.length≤140737488355328) (h:K (.bool (W2 a)) w):Q1 P F.d [S a] w K:=Cp (by
 unfold Vk
 refine Q41 a e ?_
 cases a with
 | nil=>simp only[name,↓Mr,Mr,Mb,reduceIte];exact h
 | cons c r=>
  cases b:name (c::r)
  ·(try simp only[↓Mr,Mr,Mb,reduceIte])
   simpa [W2,b] using h
  ·(try simp only[↓Mr,Mr,Mb,reduceIte])
   rw[T6 X9 (by omega) (by simp)]
   have d:(c::r)[(0:Int).toNat]'(by simp)=c:=rfl
   (try simp only[↓Mr,Mr,Mb,reduceIte])
   rw[d]
   obtain ⟨f,g⟩:=Bn b
   have:decide ((c.toNat:Int)≤90)=T0 c.toNat:=by
    simp only[D0,T0,G3,R5,Bool.or_eq_true,Bool.and_eq_true,Bool.and_eq_false_iff,decide_eq_true_eq,decide_eq_false_iff_not] at f g⊢
    rw[Bool.eq_iff_iff];simp only[Bool.and_eq_true,decide_eq_true_eq];omega
   rw[this]
   simpa [W2,b] using h)
theorem Fg (a:List UInt8) (e:a.length≤140737488355328) (h:K (.bool (L5 a)) w):Q1 P F.s [S a] w K:=Su (by
 unfold Uv
 refine Q41 a e ?_
 cases a with
 | nil=>simp only[name,↓Mr,Mr,Mb,reduceIte];exact h
 | cons c r=>
  cases b:name (c::r)
  ·(try simp only[↓Mr,Mr,Mb,reduceIte])
   simpa [L5,b] using h
  ·(try simp only[↓Mr,Mr,Mb,reduceIte])
   rw[T6 X9 (by omega) (by simp)]
   have d:(c::r)[(0:Int).toNat]'(by simp)=c:=rfl
   (try simp only[↓Mr,Mr,Mb,reduceIte])
   rw[d]
   obtain ⟨f,g⟩:=Bn b
   have:decide ((97:Int)≤c.toNat)=G3 c.toNat:=by
    simp only[D0,T0,G3,R5,Bool.or_eq_true,Bool.and_eq_true,Bool.and_eq_false_iff,decide_eq_true_eq,decide_eq_false_iff_not] at f g⊢
    rw[Bool.eq_iff_iff];simp only[Bool.and_eq_true,decide_eq_true_eq];omega
   rw[this]
   simpa [L5,b] using h)
def X1a (a:List UInt8) (w:World) (x:Value×Value) (w':World):Prop:=
 w=w'∧ ∃(b:List UInt8) (n:Nat),x=(S b,I n)∧b.length+2*n=a.length∧(base a).2=(base b).2+n
def Q9c (x:Value×Value):Nat:=match x.1 with | .string s=>s.size | _=>0
theorem Q0G (a:List UInt8) (j:a.length≤140737488355328) (h:K (I (base a).2) w):Q1 P F.aj [S a] w K:=Gr (by
 unfold Lm
 refine Uc (X1a a w) (fun x _=>Q9c x) ⟨rfl,a,0,rfl,by omega,rfl⟩ ?_
 rintro _ _ _ ⟨rfl,b,n,rfl,k,c⟩
 rw[O8 X9]
 (try simp only[↓Mr,Mr,Mb,reduceIte])
 by_cases f:2≤b.length
 ·have e:decide ((2:Int)≤b.length)=true:=by simp only[decide_eq_true_eq];omega
  simp only[e,O8 X9,↓Mr,Mr,Mb,reduceIte]
  rw[S8 (by omega) (by omega),Wi X9 (by omega) (by omega)]
  rw[show ((b.length:Int)-2).toNat=b.length-2 from by omega]
  have g:decide (b.drop (b.length-2)=[91,93])=arr b:=by simp[arr,f]
  simp only[g,↓Mr,Mr,Mb,reduceIte]
  cases d:arr b
  ·(try simp only[↓Mr,Mr,Mb,reduceIte])
   rw[Zl b,d] at c
   simp only[Bool.false_eq_true,if_false,Nat.zero_add] at c
   rw[c] at h;exact h
  ·(try simp only[O8 X9,↓Mr,Mr,Mb,reduceIte])
   rw[I6 X9 (by omega) (by omega)]
   rw[show ((b.length:Int)-2).toNat=b.length-2 from by omega]
   have i:=P3 d
   refine ⟨⟨rfl,Kd.cutA b,n+1,?_,by omega,?_⟩,?_⟩
   ·simp only[Kd.cutA,Prod.mk.injEq,true_and]
    first | rfl | (rw[S8 (by omega) (by omega)];rfl)
   ·rw[c,Zl b,d];simp;omega
   ·simp only[Q9c,S6,List.length_take];omega
 ·have e:decide ((2:Int)≤b.length)=false:=by simp only[decide_eq_false_iff_not];omega
  simp only[e,↓Mr,Mr,Mb,reduceIte]
  have d:arr b=false:=by simp[arr,f]
  rw[Zl b,d] at c
  simp only[Bool.false_eq_true,if_false,Nat.zero_add] at c
  rw[c] at h;exact h)
theorem Q2D (a:List UInt8):a.take (a.length-2*(base a).2)=(base a).1:=by
 have key: ∀n (a:List UInt8),a.take (a.length-2*(Qq n a).2)=(Qq n a).1:=by
  intro n
  induction n with
  | zero=>intro a;simp[Qq]
  | succ n b=>
   intro a
   simp only[Qq]
   split
   ·rename_i h
    have c:=P3 h
    simp only
    rw[←b (Kd.cutA a)]
    rw[Kd.cutA,List.take_take,List.length_take]
    congr 1
    omega
   ·simp
 exact key _ a
theorem Us (a:List UInt8) (f:a.length≤140737488355328) (h:K (.bool (right a)) w):Q1 P F.h [S a] w K:=Fy (by
 unfold Lf
 have e:=Ac a
 refine Q0G a f ?_
 rw[O8 X9]
 (try simp only[↓Mr,Mr,Mb,reduceIte])
 rw[S8 (n:=2*((base a).2:Int)) (by omega) (by omega),S8 (by omega) (by omega),I6 X9 (by omega) (by omega)]
 rw[show ((a.length:Int)-2*((base a).2:Int)).toNat=a.length-2*(base a).2 from by omega,Q2D]
 (try simp only[↓Mr,Mr,Mb,reduceIte])
 by_cases b:(base a).2≤3
 ·have c:decide (((base a).2:Int)≤3)=true:=by simp only[decide_eq_true_eq];omega
  simp only[c,↓Mr,Mr,Mb,reduceIte]
  refine Pv _ ?_
  cases d:plain (base a).1
  ·(try simp only[↓Mr,Mr,Mb,reduceIte])
   refine Qi _ (by omega) ?_
   (try simp only[↓Mr,Mr,Mb,reduceIte])
   simpa [right,b,d] using h
  ·(try simp only[↓Mr,Mr,Mb,reduceIte])
   simpa [right,b,d] using h
 ·have c:decide (((base a).2:Int)≤3)=false:=by simp only[decide_eq_false_iff_not];omega
  simp only[c,↓Mr,Mr,Mb,reduceIte]
  simpa [right,b] using h)
def X11 (a:List UInt8) (w:World) (x:Value) (w':World):Prop:=
 w=w'∧ ∃n:Nat,x=I n∧n≤a.length∧(∀i,(h:i<n)→(b:i<a.length)→a[i]≠46)
def Q7W (a:List UInt8) (x:Value):Nat:=match x with | .int _ n=>(a.length-n).toNat | _=>0
theorem Q2H (a:List UInt8) (L:a.length≤140737488355328) (h: ∀w',Below w.heap.size w w'→K (if (P5 a).2.2 then .tuple #[S (P5 a).1,S (P5 a).2.1, .bool (Xl a)] else .tuple #[S [],S [], .bool false]) w'):Q1 P F.bk [S a] w K:=Bq (by
 unfold Wc
 refine Uc (X11 a w) (fun x _=>Q7W a x) ⟨rfl,0,rfl,by omega,by omega⟩ ?_
 rintro _ _ _ ⟨rfl,n,rfl,M,q⟩
 rw[O8 X9]
 (try simp only[↓Mr,Mr,Mb,reduceIte])
 by_cases J:n<a.length
 ·have r:decide ((n:Int)<a.length)=true:=by simp only[decide_eq_true_eq];omega
  simp only[r,↓Mr,Mr,Mb,reduceIte]
  rw[T6 X9 (by omega) (by omega)]
  (try simp only[↓Mr,Mr,Mb,reduceIte])
  simp only[Int.toNat_natCast]
  have D:decide (((a[n]).toNat:Int)=46)=decide (a[n]=46):=by
   rw[Bool.eq_iff_iff];simp only[decide_eq_true_eq]
   constructor
   ·intro e;exact UInt8.toNat_inj.1 (by have:(46:UInt8).toNat=46:=rfl;omega)
   ·intro e;rw[e];rfl
  rw[D]
  by_cases l:a[n]=46
  ·simp only[l,decide_true,↓Mr,Mr,Mb,reduceIte]
   have m:P5 a=(a.take n,a.drop (n+1),true):=by
    have:a.findIdx? (fun b=>decide (b=46))=some n:=by
     rw[List.findIdx?_eq_some_iff_getElem]
     exact ⟨J,by simpa using l,fun j C=>by simpa using q j C (by omega)⟩
    rw[Bo,this];rfl
   have s:Xl a=(W2 (a.take n)&&L5 (a.drop (n+1))):=by simp[Xl,m]
   rw[m,s] at h
   have v:((n:Int)+1).toNat=n+1:=by omega
   have o:(a.take n).length≤140737488355328:=by simp only[List.length_take];omega
   have u:(a.drop (n+1)).length≤140737488355328:=by simp only[List.length_drop];omega
   have z: ∀{w:World} {K:Value→World→Prop},K (S (a.take n)) w→R6 P T.b (S a) none (some (I n)) none w K:=by
    intro w K h
    rw[I6 X9 (by omega) (by omega),show ((n:Int)).toNat=n from by omega];exact h
   have B: ∀{w:World} {K:Value→World→Prop},K (S (a.drop (n+1))) w→R6 P T.b (S a) (some (I (n+1))) none none w K:=by
    intro w K h
    rw[Wi X9 (by omega) (by omega),v];exact h
   refine Mo (Below.refl _ _) ?_
   refine X2 (S (a.take n)) (fun w c=>z (X5 rfl)) ?_
   refine X2 (I (n+1)) (fun w c=>X5 (by rw[S8 (by omega) (by omega)])) ?_
   refine X2 (S (a.drop (n+1))) (fun t w c e=>by rw[e];exact B (X5 rfl)) ?_
   refine X2 (S (a.take n)) (fun w c=>z (X5 rfl)) ?_
   refine X2 (.bool (W2 (a.take n))) (fun t w c e=>by rw[e];exact Qi _ o (X5 rfl)) ?_
   cases g:W2 (a.take n)
   ·refine X2 undef (fun t w c e=>by rw[e,F9];exact X5 rfl) ?_
    refine X2 undef (fun t w c e=>by rw[e,F9];exact X5 rfl) ?_
    refine X2 undef (fun t f w c e d=>by rw[e,F9];exact X5 rfl) ?_
    refine X2 undef (fun t f p w c e d k=>by rw[e,F9];exact X5 rfl) ?_
    refine X2 undef (fun t f w c e d=>by rw[e,F9];exact X5 rfl) ?_
    refine X2 (.bool false) (fun t f w c e d=>by rw[e,B7];exact X5 rfl) ?_
    rintro _ _ _ _ _ _ _ _ _ _ _ w1 c rfl rfl rfl rfl rfl rfl rfl rfl rfl rfl rfl
    rw[g] at h
    exact h w1 (by simpa using c)
   ·refine X2 (S a) (fun t w c e=>by rw[e,O9];exact X5 rfl) ?_
    refine X2 (I n) (fun t w c e=>by rw[e,O9];exact X5 rfl) ?_
    refine X2 (I (n+1)) (fun t f w c e d=>by rw[e,d,O9];simp only[↓Mr,Mr,Mb,reduceIte];exact X5 (by rw[S8 (by omega) (by omega)])) ?_
    refine X2 (S (a.drop (n+1))) (fun t f p w c e d k=>by rw[e,d,k,O9];exact B (X5 rfl)) ?_
    refine X2 (.bool (L5 (a.drop (n+1)))) (fun t f w c e d=>by rw[e,d,O9];exact Fg _ u (X5 rfl)) ?_
    refine X2 (.bool (L5 (a.drop (n+1)))) (fun t f w c e d=>by rw[e,d,K6];exact X5 rfl) ?_
    rintro _ _ _ _ _ _ _ _ _ _ _ w1 c rfl rfl rfl rfl rfl rfl rfl rfl rfl rfl rfl
    rw[g] at h
    exact h w1 (by simpa using c)
  ·simp only[l,decide_false,↓Mr,Mr,Mb,reduceIte]
   rw[S8 (by omega) (by omega)]
   refine ⟨⟨rfl,n+1,rfl,by omega,fun i A E=>?_⟩,?_⟩
   ·by_cases y:i=n
    ·subst y;exact l
    ·exact q i (by omega) E
   ·simp only[Q7W];omega
 ·have r:decide ((n:Int)<a.length)=false:=by simp only[decide_eq_false_iff_not];omega
  simp only[r,↓Mr,Mr,Mb,reduceIte]
  have m:(P5 a).2.2=false∧(P5 a).1=a∧(P5 a).2.1=[]:=by
   have:a.findIdx? (fun b=>decide (b=46))=none:=by
    rw[List.findIdx?_eq_none_iff]
    intro x H
    obtain ⟨i,A,rfl⟩:=List.getElem_of_mem H
    simpa using q i (by omega) A
   rw[Bo,this];exact ⟨rfl,rfl,rfl⟩
  rw[m.1] at h
  exact h w (Below.refl _ _))
end Go.Proofs.YtjdiakhipmggjaaGreatDoor

namespace Go.Emb
open Go.RowKit
class TZ (P : Program) (t : TypeId) (sz b : outParam Nat) (z : outParam Value) : Prop where
  h : (P.info? t).map (fun i => (i.size, i.bytes, i.zero)) = some (sz, b, some z)
def Q7w:Option TypeDesc→Bool
 | some (.struct _)=>true
 | some (.array _ _)=>true
 | none=>true
 | _=>false
class TG (P : Program) (t : TypeId) (g : outParam Bool) : Prop where
  h : (Q7w (P.underlying t), (P.underlying t).isSome) = (g, true)
class TS (P : Program) (t : TypeId) (e : outParam TypeId) : Prop where
  h : P.underlying t = some (.slice e)
class TA (P : Program) (t : TypeId) (n : outParam Nat) (e : outParam TypeId) : Prop where
  h : P.underlying t = some (.array n e)
class TM (P : Program) (t : TypeId) (k e : outParam TypeId) : Prop where
  h : P.underlying t = some (.map k e)
def Q29 (d:Option TypeDesc) (k:Nat):Option (Nat×TypeId):=match d with
 | some (.struct a)=>(a[k]?).map fun f=>(f.offset,f.type)
 | _=>none
class TF (P : Program) (t : TypeId) (k : Nat) (off : outParam Nat) (ft : outParam TypeId) : Prop where
  h : Q29 (P.underlying t) k = some (off, ft)
variable {P : Program} {w w0 w1 w' w'' : World} {K : Value → World → Prop}
theorem TZ.info {t:TypeId} {sz b:Nat} {z:Value} (h:TZ P t sz b z): ∃i,P.info? t=some i∧i.size=sz∧i.bytes=b∧i.zero=some z:=by
 obtain ⟨i,a,e⟩:=Option.map_eq_some_iff.1 h.h
 simp only[Prod.mk.injEq] at e
 exact ⟨i,a,e.1,e.2.1,e.2.2⟩
theorem W5 {t:TypeId} {sz b:Nat} {z:Value} (h:TZ P t sz b z) (w:World):(sizeOf t).run P w= .ok sz w:=by
 obtain ⟨i,a,rfl,_⟩:=h.info
 simp[sizeOf,typeInfo,a]
theorem Xh {t:TypeId} {sz b:Nat} {z:Value} (h:TZ P t sz b z) (w:World):(zeroValue t).run P w= .ok z w:=by
 obtain ⟨i,c,_,_,a⟩:=h.info
 simp[zeroValue,typeInfo,c,a]
theorem Qc {t:TypeId} {g:Bool} (h:TG P t g) (w:World):(isAgg t).run P w= .ok g w:=by
 have hh:=h.h
 simp only[Prod.mk.injEq] at hh
 obtain ⟨c,b⟩:=hh
 cases a:P.underlying t with
 | none=>rw[a] at b;cases b
 | some d=>
  rw[a] at c
  have:=run_underlying (P:=P) (w:=w) a
  simp only[isAgg,Sem.run_bind,this,Result.andThen_ok]
  cases d<;>simp_all [Q7w]
theorem Q5D (a:Addr) (i j:Nat):(a.add i).add j=a.add (i+j):=by
 unfold Addr.add
 by_cases c:i=0
 ·simp[c]
 ·by_cases b:j=0
  ·simp[b]
  ·simp[c,b,Nat.add_assoc]
theorem add_zero (a:Addr):a.add 0=a:=by simp[Addr.add]
theorem C9 (a:Addr) (i:Nat):(a.add i).block=a.block:=by unfold Addr.add;split<;>rfl
theorem Zn (a:Addr) (i:Nat):(a.add i).off=a.off+i:=by unfold Addr.add;split<;>simp_all
theorem F5 {a:Addr} (h:a.spot=none) (i:Nat):(a.add i).spot=none:=by unfold Addr.add;split<;>simp_all
abbrev Q4:=Nat→Option Obj
def X4 (w:World) (σ:Q4):Prop:= ∀b o,σ b=some o→w.heap[b]? =some o
structure Stp (w : World) (σ : Q4) (w' : World) (σ' : Q4) : Prop where
  bel : Below w.heap.size w w'
  sat : X4 w' σ'
  le : ∀ b o, σ b = some o → σ' b = some o
  old : ∀ b, b < w.heap.size → σ' b = σ b
theorem X4.lt {σ:Q4} (h:X4 w σ) {b:Nat} {o:Obj} (a:σ b=some o):b<w.heap.size:=(Array.getElem?_eq_some_iff.1 (h b o a)).1
theorem X4.below {σ:Q4} (h:X4 w σ) (a:Below w.heap.size w w'):X4 w' σ:=fun b o e=>(a.block b (h.lt e)).trans (h b o e)
theorem Stp.refl {σ:Q4} (h:X4 w σ):Stp w σ w σ:=⟨Below.refl _ _,h,fun _ _ e=>e,fun _ _=>rfl⟩
theorem Stp.trans {σ0 σ1 c:Q4} (h:Stp w σ0 w' σ1) (k:Stp w' σ1 w'' c):Stp w σ0 w'' c:=
 ⟨h.bel.trans (k.bel.mono h.bel.size),k.sat,fun b o e=>k.le b o (h.le b o e),fun b a=>(k.old b (Nat.lt_of_lt_of_le a h.bel.size)).trans (h.old b a)⟩
theorem Stp.of_below {σ:Q4} (h:X4 w σ) (a:Below w.heap.size w w'):Stp w σ w' σ:=⟨a,h.below a,fun _ _ e=>e,fun _ _=>rfl⟩
def Q4.put (σ:Q4) (b:Nat) (o:Obj):Q4:=fun k=>if k=b then some o else σ k
theorem X4.none {σ:Q4} (h:X4 w σ) {b:Nat} (a:w.heap.size≤b):σ b=none:=by
 cases e:σ b with
 | none=>rfl
 | some o=>have:=h.lt e;omega
theorem Stp.alloc {σ:Q4} (h:X4 w σ) (o:Obj):Stp w σ (w.alloc o) (σ.put w.heap.size o):=by
 refine ⟨(Below.refl _ _).alloc (Nat.le_refl _) o,?_,?_,?_⟩
 ·intro b p e
  by_cases a:b=w.heap.size
  ·subst a
   simp only[Q4.put,if_true] at e
   cases e
   exact heap_alloc_new w o
  ·simp only[Q4.put,if_neg a] at e
   rw[Below.heap_alloc w o b (h.lt e)];exact h b p e
 ·intro b p e
  have:=h.lt e
  simp only[Q4.put];rw[if_neg (by omega)];exact e
 ·intro b a
  simp only[Q4.put];rw[if_neg (by omega)]
theorem Stp.own {σ:Q4} (h:X4 w σ) (o:Obj):Stp w σ (w.alloc o) σ:=Stp.of_below h ((Below.refl _ _).alloc (Nat.le_refl _) o)
def Z3 (σ:Q4) (a:Addr) (cs:List Value):Prop:=a.spot=none∧ ∃arr e b,σ a.block=some (.cells arr e b)∧ ∀i v,cs[i]? =some v→arr[a.off+i]? =some v
theorem Z3.up {σ σ':Q4} {a:Addr} {cs:List Value} (h:Z3 σ a cs) (b:Stp w σ w' σ'):Z3 σ' a cs:=by
 obtain ⟨f,arr,e,d,g,c⟩:=h
 exact ⟨f,arr,e,d,b.le _ _ g,c⟩
theorem Z3.cell {σ:Q4} {a:Addr} {cs:List Value} (h:Z3 σ a cs) (f:X4 w σ) {i:Nat} {v:Value} (d:cs[i]? =some v):w.cell? (a.add i)=some v:=by
 obtain ⟨c,arr,e,j,g,b⟩:=h
 have:=f _ _ g
 unfold World.cell?
 rw[C9,this,Zn,F5 c]
 exact b i v d
def J0 (σ:Q4) (w:World) (b:Nat) (cs:List Value):Prop:=σ b=none∧ ∃e,w.heap[b]? =some (.cells cs.toArray e (0,0))
theorem J0.lt {σ:Q4} {b:Nat} {cs:List Value} (h:J0 σ w b cs):b<w.heap.size:=by
 obtain ⟨_,e,h⟩:=h
 exact (Array.getElem?_eq_some_iff.1 h).1
theorem J0.up {σ σ':Q4} {b:Nat} {cs:List Value} (h:J0 σ w b cs) (a:Stp w σ w' σ'):J0 σ' w' b cs:=by
 have c:=h.lt
 obtain ⟨d,e,f⟩:=h
 exact ⟨(a.old b c).trans d,e,(a.bel.block b c).trans f⟩
theorem J0.cell {σ:Q4} {b:Nat} {cs:List Value} (h:J0 σ w b cs) {i:Nat} {v:Value} (a:cs[i]? =some v):w.cell? ((⟨b,0,none⟩:Addr).add i)=some v:=by
 obtain ⟨_,e,c⟩:=h
 unfold World.cell?
 rw[C9,Zn,F5 rfl]
 simp only[c]
 simpa using a
theorem J0.keep {σ σ0:Q4} {b:Nat} {cs:List Value} (h:J0 σ w b cs) (d:Stp w0 σ0 w σ) (m:w0.heap.size≤b): ∃σ',Stp w0 σ0 w σ'∧Z3 σ' ⟨b,0,none⟩ cs∧(∀k o,σ k=some o→σ' k=some o)∧(∀k,k≠b→σ' k=σ k):=by
 obtain ⟨g,e,l⟩:=h
 refine ⟨σ.put b (.cells cs.toArray e (0,0)),⟨d.bel,?_,?_,?_⟩,⟨rfl,cs.toArray,e,(0,0),by simp[Q4.put],?_⟩,?_,?_⟩
 ·intro k o c
  by_cases a:k=b
  ·subst a;simp only[Q4.put,if_true] at c;cases c;exact l
  ·simp only[Q4.put,if_neg a] at c;exact d.sat k o c
 ·intro k o c
  by_cases a:k=b
  ·subst a;have:=d.le _ _ c;rw[g] at this;cases this
  ·simp only[Q4.put,if_neg a];exact d.le _ _ c
 ·intro k f
  simp only[Q4.put];rw[if_neg (by omega)];exact d.old k f
 ·intro i v j;simpa using j
 ·intro k o c
  by_cases a:k=b
  ·subst a;rw[g] at c;cases c
  ·simp only[Q4.put,if_neg a];exact c
 ·intro k a;simp only[Q4.put,if_neg a]
theorem Q5E (t:TypeId) (v:Value) (w:World):(Instr.box t v).run P w= .ok (.pointer (some ⟨w.heap.size,0,none⟩)) (w.alloc (.cells v.cells t)):=by
 simp[Instr.box,newVar,newRow]
theorem Q1E {σ:Q4} (a:X4 w σ) (cs:Array Value) (t:TypeId):J0 σ (w.alloc (.cells cs t)) w.heap.size cs.toList:=
 ⟨a.none (Nat.le_refl _),t,by simpa using heap_alloc_new w (.cells cs t)⟩
theorem Q6z {σ:Q4} (cs:Array Value) (t:TypeId):Z3 (σ.put w.heap.size (.cells cs t)) ⟨w.heap.size,0,none⟩ cs.toList:=
 ⟨rfl,cs,t,(0,0),by simp[Q4.put],fun i v h=>by simpa using h⟩
theorem L8 {σ:Q4} {t:TypeId} {v:Value} (b:X4 w σ) (h: ∀a w' σ',Stp w σ w' σ'→Z3 σ' a v.cells.toList→K (.pointer (some a)) w'):box P t v w K:=by
 unfold box;rw[X7 (Q5E t v w)]
 exact h _ _ _ (Stp.alloc b _) (Q6z _ t)
theorem Q8g {σ:Q4} {t:TypeId} {v:Value} (a:X4 w σ) (h: ∀b w',w.heap.size≤b→Stp w σ w' σ→J0 σ w' b v.cells.toList→K (.pointer (some ⟨b,0,none⟩)) w'):box P t v w K:=by
 unfold box;rw[X7 (Q5E t v w)]
 exact h _ _ (Nat.le_refl _) (Stp.own a _) (Q1E a _ t)
theorem Bs {σ:Q4} {t:TypeId} {sz a:Nat} {z:Value} [tz:TZ P t sz a z] (c:X4 w σ) (h: ∀b w',w.heap.size≤b→Stp w σ w' σ→J0 σ w' b z.cells.toList→K (.pointer (some ⟨b,0,none⟩)) w'):W1 P t w K:=by
 unfold W1
 have:(Instr.alloc t true (.tuple #[])).run P w= .ok (.pointer (some ⟨w.heap.size,0,none⟩)) (w.alloc (.cells z.cells t)):=by
  simp[Instr.alloc,Xh tz,newVar,newRow]
 rw[X7 this]
 exact h _ _ (Nat.le_refl _) (Stp.own c _) (Q1E c _ t)
theorem T7 {t:TypeId} [tg:TG P t false] {a:Addr} {v:Value} (b:w.cell? a=some v) (h:K v w):Q2 P t (.pointer (some a)) w K:=by
 unfold Q2
 rw[X7 (v:=v) (w':=w) (by simp[Instr.loadAt,Instr.sureAddr,loadVar,Qc tg,b])]
 exact h
theorem Cs {t:TypeId} {sz b:Nat} {z:Value} [tg:TG P t true] [tz:TZ P t sz b z] {a:Addr} {cs:List Value} (d:cs.length=sz) (c: ∀j v,cs[j]? =some v→w.cell? (a.add j)=some v) (h:K (.agg cs.toArray) w):Q2 P t (.pointer (some a)) w K:=by
 unfold Q2
 have:=run_loadCells_list (P:=P) w a cs c
 rw[d] at this
 rw[X7 (v:= .agg cs.toArray) (w':=w) (by simp[Instr.loadAt,Instr.sureAddr,loadVar,Qc tg,W5 tz,this])]
 exact h
theorem ld {σ:Q4} {t:TypeId} [TG P t false] {a:Addr} {cs:List Value} {i:Nat} {v:Value} (d:X4 w σ) (b:Z3 σ a cs) (c:cs[i]? =some v) (h:K v w):Q2 P t (.pointer (some (a.add i))) w K:=
 T7 (b.cell d c) h
theorem X8 {σ:Q4} {t:TypeId} [TG P t false] {a:Addr} {cs:List Value} {v:Value} (d:X4 w σ) (b:Z3 σ a cs) (c:cs[0]? =some v) (h:K v w):Q2 P t (.pointer (some a)) w K:=by
 have:=ld (P:=P) (t:=t) d b c h
 rwa [add_zero] at this
theorem Y4 {σ:Q4} {t:TypeId} {sz b:Nat} {z:Value} [TG P t true] [TZ P t sz b z] {a:Addr} {cs:List Value} (f:X4 w σ) (c:Z3 σ a cs) (g:cs.length=sz) (h:K (.agg cs.toArray) w):Q2 P t (.pointer (some a)) w K:=
 Cs g (fun _ _ d=>c.cell f d) h
theorem Pz {σ:Q4} {t:TypeId} [TG P t false] {b:Nat} {cs:List Value} {i:Nat} {v:Value} (a:J0 σ w b cs) (c:cs[i]? =some v) (h:K v w):Q2 P t (.pointer (some ((⟨b,0,none⟩:Addr).add i))) w K:=
 T7 (a.cell c) h
theorem Q8x {σ:Q4} {t:TypeId} [TG P t false] {b:Nat} {cs:List Value} {v:Value} (a:J0 σ w b cs) (c:cs[0]? =some v) (h:K v w):Q2 P t (.pointer (some ⟨b,0,none⟩)) w K:=by
 have:=Pz (P:=P) (t:=t) a c h
 rwa [add_zero] at this
theorem X0K {σ:Q4} {t:TypeId} {sz a:Nat} {z:Value} [TG P t true] [TZ P t sz a z] {b:Nat} {cs:List Value} (c:J0 σ w b cs) (f:cs.length=sz) (h:K (.agg cs.toArray) w):Q2 P t (.pointer (some ⟨b,0,none⟩)) w K:=
 Cs f (fun _ _ d=>c.cell d) h
theorem V9 {t:TypeId} {sz a:Nat} {z:Value} [tg:TG P t true] [tz:TZ P t sz a z] {σ:Q4} {b:Nat} {cs:List Value} {K:Value→Prop} (c:J0 σ w b cs) (f:cs.length=sz) (h:K (.agg cs.toArray)):V4 P t (.pointer (some ⟨b,0,none⟩)) w K:=by
 rw[Q0Z]
 refine ⟨_,?_,h⟩
 have:=run_loadCells_list (P:=P) w ⟨b,0,none⟩ cs (fun _ _ d=>c.cell d)
 rw[f] at this
 simp[asAddr,loadVar,Qc tg,W5 tz,this]
structure Upd (w : World) (b : Nat) (w' : World) : Prop where
  os : w'.os = w.os
  tape : w'.tape = w.tape
  output : w'.output = w.output
  size : w'.heap.size = w.heap.size
  block : ∀ k, k ≠ b → w'.heap[k]? = w.heap[k]?
theorem Upd.stp {σ0 σ:Q4} {b:Nat} (c:Upd w b w') (a:Stp w0 σ0 w σ) (h:w0.heap.size≤b) (g:σ b=none):Stp w0 σ0 w' σ:=by
 refine ⟨⟨c.os.trans a.bel.os,c.tape.trans a.bel.tape,c.output.trans a.bel.output,by rw[c.size];exact a.bel.size,fun k f=>(c.block k (by omega)).trans (a.bel.block k f)⟩,?_,a.le,a.old⟩
 intro k o d
 rw[c.block k (by intro e;subst e;rw[g] at d;cases d)]
 exact a.sat k o d
theorem J0.upd {σ:Q4} {b k:Nat} {cs:List Value} (h:J0 σ w k cs) (c:Upd w b w') (a:k≠b):J0 σ w' k cs:=by
 obtain ⟨d,e,f⟩:=h
 exact ⟨d,e,(c.block k a).trans f⟩
theorem Vy {b:Nat} {cs:Array Value} {a:Array Value} {e:TypeId} (h:w.heap[b]? =some (.cells a e (0,0))):Upd w b (w.setRow b cs)∧(w.setRow b cs).heap[b]? =some (.cells cs e (0,0)):=by
 have d:=(Array.getElem?_eq_some_iff.1 h).1
 refine ⟨⟨rfl,rfl,rfl,by simp[World.setRow],fun k c=>?_⟩,?_⟩
 ·simp only[World.setRow,Array.getElem?_modify]
  rw[if_neg (by omega)]
 ·simp only[World.setRow,Array.getElem?_modify,if_true,h]
  rfl
theorem sta {t:TypeId} {sz c:Nat} {z:Value} [tz:TZ P t sz c z] {σ:Q4} {b:Nat} {cs ds:List Value} (j:J0 σ w b cs) (k:cs.length=sz) (f:ds.length=sz) (l:ds.toArray.all (·.oneCell')=true)
 (h: ∀w',Upd w b w'→J0 σ w' b ds→K undef w'):Z6 P t (.pointer (some ⟨b,0,none⟩)) (.agg ds.toArray) w K:=by
 obtain ⟨n,e,d⟩:=j
 unfold Z6
 obtain ⟨i,m,a,_⟩:=tz.info
 have:=run_storeVar_row (P:=P) w b e t cs.toArray ds.toArray d (by simp[m,a,f]) (by simp[k,f]) l
 rw[Mn (w':=w.setRow b ds.toArray) (by simpa [Instr.storeAt,Instr.sureAddr] using this)]
 obtain ⟨g,hh⟩:=Vy (cs:=ds.toArray) d
 exact h _ g ⟨n,e,hh⟩
theorem X0g {cs:List Value} {i:Nat} {v:Value} (a:i<cs.length):(cs.take i++[v]++cs.drop (i+1))=cs.set i v:=by
 rw[List.set_eq_take_append_cons_drop,if_pos a];simp
theorem Ce {t:TypeId} {c:Nat} {z:Value} [tz:TZ P t 1 c z] {σ:Q4} {b i:Nat} {cs:List Value} {v:Value} (g:J0 σ w b cs) (k:i<cs.length) (l:v.cells= #[v]) (j:v.oneCell'=true)
 (h: ∀w',Upd w b w'→J0 σ w' b (cs.set i v)→K undef w'):Z6 P t (.pointer (some ((⟨b,0,none⟩:Addr).add i))) v w K:=by
 obtain ⟨m,e,d⟩:=g
 unfold Z6
 have a:(⟨b,0,none⟩:Addr).add i=⟨b,i,none⟩:=by unfold Addr.add;split<;>simp_all
 have:=run_storeCells_at P b i e [v] 0 cs.toArray w d (by simp;omega) (by simpa using j)
 simp only[Nat.add_zero] at this
 obtain ⟨f,hh⟩:=Vy (cs:=(cs.set i v).toArray) d
 have n:(List.take i cs.toArray.toList++[v]++List.drop (i+[v].length) cs.toArray.toList).toArray=(cs.set i v).toArray:=by
  rw[←X0g k];simp
 rw[n] at this
 rw[Mn (w':=w.setRow b (cs.set i v).toArray) (by simp[Instr.storeAt,Instr.sureAddr,a,storeVar,W5 tz,l,this])]
 exact h _ f ⟨m,e,hh⟩
theorem st0 {t:TypeId} {a:Nat} {z:Value} [tz:TZ P t 1 a z] {σ:Q4} {b:Nat} {cs:List Value} {v:Value} (c:J0 σ w b cs) (f:0<cs.length) (g:v.cells= #[v]) (d:v.oneCell'=true)
 (h: ∀w',Upd w b w'→J0 σ w' b (cs.set 0 v)→K undef w'):Z6 P t (.pointer (some ⟨b,0,none⟩)) v w K:=by
 have:=Ce (P:=P) (t:=t) c f g d h
 rwa [add_zero] at this
class NZ (n : Nat) : Prop where
  h : (n == 0) = false
instance (n:Nat):NZ (n+1):=⟨rfl⟩
theorem fa {t:TypeId} {k b:Nat} {g:TypeId} {sz c:Nat} {z:Value} [tf:TF P t k b g] [tz:TZ P g sz c z] [nz:NZ sz] {a:Addr}:fieldAddr P t (.pointer (some a)) k w K=K (.pointer (some (a.add b))) w:=by
 unfold fieldAddr
 have hh:=tf.h
 unfold Q29 at hh
 split at hh
 ·rename_i o i
  obtain ⟨f,m,d⟩:=Option.map_eq_some_iff.1 hh
  simp only[Prod.mk.injEq] at d
  obtain ⟨l,n⟩:=d
  subst n l
  have j: ¬sz=0:=by simpa using nz.h
  exact X7 (by simp[Instr.fieldAt,run_underlying i,m,Instr.sureAddr,fieldPlace,W5 tz,j])
 ·cases hh
theorem Sw {t e:TypeId} {sz b:Nat} {z:Value} [ts:TS P t e] [tz:TZ P e sz b z] {a:Addr} {n c:Nat} {k:IntKind} {i:Int} (d:0≤i) (f:i<n):indexAddr P t (.slice (some a) n c) (.int k i) w K=K (.pointer (some (a.add (i.toNat*sz)))) w:=by
 unfold indexAddr
 exact X7 (by simp[Instr.indexAt,run_underlying ts.h,asIntOf,W5 tz,d,f])
theorem Q7n {t e:TypeId} {n sz b:Nat} {z:Value} [ta:TA P t n e] [tz:TZ P e sz b z] {a:Addr} {k:IntKind} {i:Int} (c:0≤i) (d:i<n):indexAddr P t (.pointer (some a)) (.int k i) w K=K (.pointer (some (a.add (i.toNat*sz)))) w:=by
 unfold indexAddr
 exact X7 (by simp[Instr.indexAt,run_underlying ta.h,asIntOf,Instr.sureAddr,W5 tz,c,d])
theorem L4 {a:Addr}:nilCheck P (.pointer (some a)) w K=K (.pointer (some a)) w:=by
 unfold nilCheck
 rw[T1];unfold K1
 simp[execOp]
class Rep {α : Type} (R : Q4 → α → List Value → Prop) : Prop where
  up : ∀ {σ σ' : Q4} {x : α} {cs : List Value}, (∀ b o, σ b = some o → σ' b = some o) → R σ x cs → R σ' x cs
  one : ∀ {σ : Q4} {x : α} {cs : List Value}, R σ x cs → ∀ u ∈ cs, u.oneCell' = true
def Sl {α:Type} (sz:Nat) (R:Q4→α→List Value→Prop) (σ:Q4) (v:Value) (xs:List α):Prop:=
 ∃a c,v= .slice a xs.length c∧xs.length≤c∧c≤maxLen∧(a=none→c=0)∧
  ∀b,a=some b→(0<xs.length→b.spot=none)∧ ∀i x,xs[i]? =some x→ ∃cs,Z3 σ (b.add (i*sz)) cs∧cs.length=sz∧R σ x cs
theorem Z3.le {σ σ':Q4} {a:Addr} {cs:List Value} (h:Z3 σ a cs) (c: ∀b o,σ b=some o→σ' b=some o):Z3 σ' a cs:=by
 obtain ⟨g,arr,e,f,i,d⟩:=h
 exact ⟨g,arr,e,f,c _ _ i,d⟩
section
variable {α : Type} {R : Q4 → α → List Value → Prop} {sz : Nat} {σ σ' : Q4} {v : Value} {xs : List α}
theorem Sl.le [hr:Rep R] (h:Sl sz R σ v xs) (d: ∀b o,σ b=some o→σ' b=some o):Sl sz R σ' v xs:=by
 obtain ⟨a,c,k,r,q,m,g⟩:=h
 refine ⟨a,c,k,r,q,m,fun b f=>⟨(g b f).1,fun i x p=>?_⟩⟩
 obtain ⟨cs,n,j,l⟩:=(g b f).2 i x p
 exact ⟨cs,n.le d,j,hr.up d l⟩
theorem Sl.up [Rep R] (h:Sl sz R σ v xs) (a:Stp w σ w' σ'):Sl sz R σ' v xs:=h.le a.le
theorem Sl.max (h:Sl sz R σ v xs):xs.length≤9223372036854775807:=by
 obtain ⟨a,c,g,f,b,d⟩:=h
 simp only[maxLen] at b;omega
theorem Sl.nil:Sl sz R σ (.slice none 0 0) ([]:List α):=⟨none,0,rfl,by simp,by simp,fun _=>rfl,fun b a=>by cases a⟩
theorem Af {c e t:TypeId} {cs:List Bool} [ts:TS P c e] {a:Option Addr} {n b:Nat}:X6 P .len [c] t cs [.slice a n b] w K=K (I n) w:=by
 have h:(Builtin.len_ #[c] t #[.slice a n b]).run P w= .ok (I n) w:=by
  simp[Builtin.len_,run_underlying ts.h,goInt]
 exact X7 h
theorem X0L {b e t:TypeId} {cs:List Bool} [ts:TS P b e] (h:Sl sz R σ v xs):X6 P .len [b] t cs [v] w K=K (I xs.length) w:=by
 obtain ⟨a,c,rfl,_⟩:=h
 exact Af
theorem X1n {t e:TypeId} {c:Nat} {z:Value} [TS P t e] [TZ P e sz c z] (h:Sl sz R σ v xs) {k:IntKind} {i:Int} (f:0≤i) (j:i.toNat<xs.length)
 (d: ∀a cs,Z3 σ a cs→cs.length=sz→R σ xs[i.toNat] cs→K (.pointer (some a)) w):indexAddr P t v (.int k i) w K:=by
 obtain ⟨a,m,rfl,r,q,o,l⟩:=h
 cases a with
 | none=>have:=o rfl;omega
 | some b=>
  rw[Sw f (by omega)]
  obtain ⟨cs,p,g,n⟩:=(l b rfl).2 i.toNat xs[i.toNat] (by simp[j])
  exact d _ cs p g n
end
theorem Stp.turn {σ0 σ:Q4} {row:Option Nat} (b:w.grownBy w' row) (a:Stp w0 σ0 w σ) (f: ∀k,row=some k→w0.heap.size≤k∧σ k=none):Stp w0 σ0 w' σ:=by
 refine ⟨⟨b.os.trans a.bel.os,b.tape.trans a.bel.tape,b.output.trans a.bel.output,Nat.le_trans a.bel.size b.size,fun k d=>?_⟩,?_,a.le,a.old⟩
 ·refine (b.block k (Nat.lt_of_lt_of_le d a.bel.size) ?_).trans (a.bel.block k d)
  intro e;have:=(f k e.symm).1;omega
 ·intro k o c
  refine (b.block k (a.sat.lt c) ?_).trans (a.sat k o c)
  intro e;rw[(f k e.symm).2] at c;cases c
def V2 {α:Type} (B:Nat) (e:TypeId) (sz:Nat) (R:Q4→α→List Value→Prop) (σ:Q4) (w:World) (v:Value) (xs:List α):Prop:=
 ∃cells,w.ownsRow B e sz v xs.length cells∧(∀k,v.ownBlock=some k→σ k=none)∧ ∀i x,xs[i]? =some x→R σ x ((cells.drop (i*sz)).take sz)
section
variable {α : Type} {R : Q4 → α → List Value → Prop} {B sz : Nat} {e : TypeId} {σ σ' : Q4} {v u : Value} {xs ys : List α}
theorem V2.nil:V2 B e sz R σ w (.slice none 0 0) ([]:List α):=⟨[],World.ownsRow_nil w B e sz,by intro k a;simp[Value.ownBlock] at a,by intro i x h;simp at h⟩
theorem V2.mem (h:V2 B e sz R σ w v xs): ∀k,v.ownBlock=some k→B≤k∧k<w.heap.size∧σ k=none:=by
 obtain ⟨cells,d,f,_⟩:=h
 intro k c
 obtain ⟨a,b⟩:=d.lt k c
 exact ⟨a,b,f k c⟩
theorem V2.up [hr:Rep R] (h:V2 B e sz R σ w v xs) (a:Stp w σ w' σ'):V2 B e sz R σ' w' v xs:=by
 obtain ⟨cells,c,j,g⟩:=h
 refine ⟨cells,c.kept ⟨a.bel.os,a.bel.tape,a.bel.output,a.bel.size,fun k d _=>a.bel.block k d⟩ (by cases b:v.ownBlock<;>simp) (row:=none),?_,fun i x f=>hr.up a.le (g i x f)⟩
 intro k b
 rw[a.old k (c.lt k b).2];exact j k b
theorem Sl.cells (h:Sl sz R σ v xs) (H:X4 w σ) [hr:Rep R]: ∃(a:Option Addr) (d:Nat) (c:List Value),v= .slice a xs.length d∧(a=none→d=0)∧c.length=xs.length*sz∧(∀b,a=some b→ ∀j u,c[j]? =some u→w.cell? (b.add j)=some u)∧(∀u∈c,u.oneCell'=true)∧
 ∀i x,xs[i]? =some x→R σ x ((c.drop (i*sz)).take sz):=by
 obtain ⟨a,d,rfl,Q,M,p,z⟩:=h
 cases a with
 | none=>
  have N:=p rfl
  have f:xs=[]:=List.eq_nil_of_length_eq_zero (by omega)
  subst f
  exact ⟨none,d,[],rfl,p,by simp,fun b D=>(by cases D),by simp,by simp⟩
 | some b=>
  obtain ⟨C,l⟩:=z b rfl
  clear z
  have key: ∀(ys:List α) (k:Nat),(∀i x,ys[i]? =some x→ ∃cs,Z3 σ (b.add ((k+i)*sz)) cs∧cs.length=sz∧R σ x cs)→
   ∃c:List Value,c.length=ys.length*sz∧(∀j u,c[j]? =some u→w.cell? (b.add (k*sz+j))=some u)∧(∀u∈c,u.oneCell'=true)∧ ∀i x,ys[i]? =some x→R σ x ((c.drop (i*sz)).take sz):=by
   intro ys
   induction ys with
   | nil=>intro k _;exact ⟨[],by simp,by simp,by simp,by simp⟩
   | cons y r E=>
    intro k t
    obtain ⟨cs,J,s,A⟩:=t 0 y rfl
    obtain ⟨c,o,n,q,g⟩:=E (k+1) (fun i x f=>by
     have:=t (i+1) x (by simpa using f)
     rwa [show k+1+i=k+(i+1) by omega])
    refine ⟨cs++c,by simp[o,s,Nat.add_mul,Nat.add_comm],?_,?_,?_⟩
    ·intro j u hu
     by_cases L:j<sz
     ·rw[List.getElem?_append_left (by omega)] at hu
      have:=J.cell H hu
      rwa [Q5D,Nat.add_zero] at this
     ·rw[List.getElem?_append_right (by omega)] at hu
      have:=n _ _ hu
      rwa [s,show (k+1)*sz+(j-sz)=k*sz+j by rw[Nat.add_mul];omega] at this
    ·intro u hu
     rcases List.mem_append.1 hu with hu | hu
     ·exact hr.one A u hu
     ·exact q u hu
    ·intro i x f
     cases i with
     | zero=>
      simp at f;subst f
      simp only[Nat.zero_mul,List.drop_zero]
      rw[List.take_append_of_le_length (by omega),List.take_of_length_le (by omega)];exact A
     | succ i=>
      have:=g i x (by simpa using f)
      rw[show (i+1)*sz=cs.length+i*sz by rw[Nat.add_mul];omega,List.drop_append]
      simpa [List.drop_eq_nil_of_le] using this
  obtain ⟨c,o,n,q,g⟩:=key xs 0 (fun i x f=>by rw[Nat.zero_add];exact l i x f)
  refine ⟨some b,d,c,rfl,p,o,?_,q,g⟩
  intro O m j u hu
  cases m
  have:=n j u hu
  rwa [Nat.zero_mul,Nat.zero_add] at this
end
section
variable {α : Type} {R : Q4 → α → List Value → Prop} {sz : Nat} {e : TypeId} {σ σ0 : Q4} {v u : Value} {xs ys : List α}
theorem Dl (cells a:List Value) (n i:Nat) (c:cells.length=n*sz) (b:i<n):((cells++a).drop (i*sz)).take sz=(cells.drop (i*sz)).take sz:=by
 have h:i*sz+sz≤n*sz:=by rw[←Nat.succ_mul];exact Nat.mul_le_mul_right _ b
 rw[List.drop_append_of_le_length (by omega),List.take_append_of_le_length (by simp only[List.length_drop];omega)]
theorem app {t A:TypeId} {q:Nat} {z:Value} {cs:List Bool} [ts:TS P t e] [tz:TZ P e sz q z] [hr:Rep R] (C:Stp w0 σ0 w σ) (ha:V2 w0.heap.size e sz R σ w v xs) (Q:Sl sz R σ u ys) (N:(z.cells.size==sz&&decide (0<sz))=true)
 (hb:(xs.length+ys.length)*q≤140737488355328) (hm:xs.length+ys.length≤9223372036854775807)
 (h: ∀d w',w.grownBy w' v.ownBlock→Stp w0 σ0 w' σ→V2 w0.heap.size e sz R σ w' d (xs++ys)→(d.ownBlock=v.ownBlock∨ ∀k,d.ownBlock=some k→w.heap.size≤k)→K d w'):X6 P .append [t,t] A cs [v,u] w K:=by
 obtain ⟨cells,s,X,h3⟩:=ha
 obtain ⟨a,m,c,rfl,W,V,n3,Y,n5⟩:=Q.cells C.sat
 obtain ⟨i,M,E,H,p⟩:=tz.info
 have o: ∀d w',(Builtin.append_ #[t,t] A #[v, .slice a ys.length m]).run P w= .ok d w'→w'.ownsRow w0.heap.size e sz d (xs.length+ys.length) (cells++c)→w.grownBy w' v.ownBlock→(d.ownBlock=v.ownBlock∨d.ownBlock=some w.heap.size)→X6 P .append [t,t] A cs [v, .slice a ys.length m] w K:=by
  intro d w' y f l hat
  have r:(builtin .append #[t,t] A cs.toArray #[v, .slice a ys.length m]).run P w= .ok (.value d) w':=by
   simp[builtin,y]
  unfold X6
  rw[T1];unfold K1
  rw[r]
  refine h d w' l (Stp.turn l C fun k n=>⟨(s.lt k n).1,X k n⟩) ⟨cells++c,by rw[List.length_append];exact f,?_,?_⟩ ?_
  ·intro k n
   rcases hat with hat | hat
   ·exact X k (hat▸n)
   ·rw[hat] at n;cases n;exact C.sat.none (Nat.le_refl _)
  ·intro j x D
   by_cases O:j<xs.length
   ·rw[List.getElem?_append_left O] at D
    rw[Dl cells c xs.length j s.1 O]
    exact h3 j x D
   ·rw[List.getElem?_append_right (by omega)] at D
    have:=n5 _ _ D
    rw[show j*sz=cells.length+(j-xs.length)*sz by rw[s.1,←Nat.add_mul];congr 1;omega,List.drop_append]
    simpa [List.drop_eq_nil_of_le] using this
  ·rcases hat with hat | hat
   ·exact .inl hat
   ·right;intro k n;rw[hat] at n;cases n;exact Nat.le_refl _
 simp only[Bool.and_eq_true,beq_iff_eq,decide_eq_true_eq] at N
 cases a with
 | some b=>
  obtain ⟨d,w',g1,g2,g3,_,g5⟩:=run_append_own_at (P:=P) w w0.heap.size t A e i z sz q ts.h M p E H N.1 N.2 v xs.length cells s b ys.length m c V (n3 b rfl) Y (by simp only[maxLen];omega) hb C.bel.size
  exact o d w' g1 g2 g3 g5
 | none=>
  have hy:ys=[]:=List.eq_nil_of_length_eq_zero (by obtain ⟨a',U,e',q1,_,q3,_⟩:=Q;injection e' with _ e2 Z;have:=W rfl;subst Z;omega)
  have J:=W rfl
  subst hy J
  have hn:c=[]:=List.eq_nil_of_length_eq_zero (by simpa using V)
  subst hn
  have f:=s
  rcases s.2 with ⟨rfl,h0⟩ | ⟨g,m,ad,rfl,ae,hg,L,_⟩
  ·refine o (.slice none 0 0) w ?_ (by simpa using f) (World.grownBy.refl w _) (.inl rfl)
   simp[Builtin.append_,run_underlying ts.h,sizeOf,typeInfo,M,Builtin.lenOf,Builtin.firstCells]
  ·refine o _ w ?_ (by simpa using f) (World.grownBy.refl w _) (.inl rfl)
   simp[Builtin.append_,run_underlying ts.h,sizeOf,typeInfo,M,Builtin.lenOf,Builtin.firstCells,L,storeCells]
end
section
variable {α : Type} {R : Q4 → α → List Value → Prop} {sz : Nat} {e : TypeId} {σ σ0 : Q4} {v u : Value} {xs ys : List α}
theorem Q4.put_le {w:World} (d:X4 w σ) {b:Nat} (h:σ b=none) (o:Obj): ∀k p,σ k=some p→(σ.put b o) k=some p:=by
 intro k p c
 by_cases a:k=b
 ·subst a;rw[h] at c;cases c
 ·simp only[Q4.put,if_neg a];exact c
theorem Stp.put {b:Nat} {o:Obj} (d:Stp w0 σ0 w σ) (g:σ b=none) (h:w0.heap.size≤b) (f:w.heap[b]? =some o):Stp w0 σ0 w (σ.put b o):=by
 refine ⟨d.bel,?_,fun k p a=>Q4.put_le d.sat g o k p (d.le k p a),?_⟩
 ·intro k p a
  by_cases c:k=b
  ·subst c;simp only[Q4.put,if_true] at a;cases a;exact f
  ·simp only[Q4.put,if_neg c] at a;exact d.sat k p a
 ·intro k a
  simp only[Q4.put];rw[if_neg (by omega)];exact d.old k a
theorem V2.keep [hr:Rep R] (h:V2 w0.heap.size e sz R σ w v xs) (q:Stp w0 σ0 w σ): ∃σ',Stp w0 σ0 w σ'∧Sl sz R σ' v xs∧(∀k o,σ k=some o→σ' k=some o)∧(∀k,some k≠v.ownBlock→σ' k=σ k):=by
 obtain ⟨cells,r,J,H⟩:=h
 rcases r.2 with ⟨rfl,C⟩ | ⟨g,n,d,rfl,D,z,l,f,A,p⟩
 ·have:xs=[]:=List.eq_nil_of_length_eq_zero C
  subst this
  exact ⟨σ,q,Sl.nil,fun _ _ h=>h,fun _ _=>rfl⟩
 ·have s:=J g rfl
  have a:=Q4.put_le q.sat s (.cells d e (0,0))
  refine ⟨σ.put g (.cells d e (0,0)),q.put s D z,⟨_,n,rfl,l,f,by simp,?_⟩,a,?_⟩
  ·intro b m
   cases m
   refine ⟨fun _=>rfl,fun i x t=>⟨(cells.drop (i*sz)).take sz,⟨F5 rfl _,d,e,(0,0),by rw[C9];simp[Q4.put],?_⟩,?_,hr.up a (H i x t)⟩⟩
   ·intro j u c
    rw[Zn]
    rw[List.getElem?_take] at c
    split at c
    ·rw[List.getElem?_drop,←p,List.getElem?_take] at c
     split at c
     ·simpa using c
     ·cases c
    ·cases c
   ·have E:i<xs.length:=(List.getElem?_eq_some_iff.1 t).1
    have h:i*sz+sz≤xs.length*sz:=by rw[←Nat.succ_mul];exact Nat.mul_le_mul_right _ E
    rw[List.length_take,List.length_drop,r.1];omega
  ·intro k y
   have:k≠g:=by intro e;subst e;exact y rfl
   simp only[Q4.put,if_neg this]
theorem Sl.piece {a:Option Addr} {n d:Nat} (h:Sl sz R σ (.slice a n d) xs) (l m:Nat) (N:l+m≤xs.length):Sl sz R σ (.slice (if d=l then a else a.map (·.add (l*sz))) m (d-l)) ((xs.drop l).take m):=by
 obtain ⟨M,j,r,O,L,E,o⟩:=h
 injection r with A C t
 subst A C t
 have c:((xs.drop l).take m).length=m:=by simp;omega
 refine ⟨_,d-l,by rw[c],by rw[c];omega,by omega,?_,?_⟩
 ·intro p
  split at p
  ·omega
  ·cases a with
   | none=>have:=E rfl;omega
   | some b=>simp at p
 ·intro b f
  split at f
  ·rename_i y
   obtain ⟨q,k⟩:=o b f
   have s:m=0:=by omega
   subst s
   exact ⟨fun h=>by simp at h,by simp⟩
  ·cases a with
   | none=>simp at f
   | some J=>
    simp only[Option.map_some,Option.some.injEq] at f
    obtain ⟨q,k⟩:=o J rfl
    subst f
    refine ⟨fun h=>F5 (q (by rw[c] at h;omega)) _,fun i x g=>?_⟩
    rw[List.getElem?_take] at g
    split at g
    ·rw[List.getElem?_drop] at g
     obtain ⟨cs,H,z,D⟩:=k _ _ g
     refine ⟨cs,?_,z,D⟩
     rw[Q5D,←Nat.add_mul];exact H
    ·cases g
theorem Sh {t:TypeId} {i:Nat} {z:Value} [ts:TS P t e] [tz:TZ P e sz i z] (h:Sl sz R σ v xs) (c d:Option Value) (l m:Nat) (g:c=none∧l=0∨c=some (I l)) (j:d=none∧m=xs.length∨d=some (I m)) (f:l≤m) (r:m≤xs.length)
 (n: ∀k,Sl sz R σ k ((xs.drop l).take (m-l))→K k w):R6 P t v c d none w K:=by
 have o:=h
 obtain ⟨a,b,rfl,D,q,C,y⟩:=h
 have hh: ∀w:World,(Instr.sliceBounds true xs.length b c d none).run P w= .ok (l,m,b) w:=by
  intro w
  have s:(m:Int)≤b:=by omega
  have A:(l:Int)≤m:=by omega
  have p:m≤b:=by omega
  rcases g with ⟨rfl,rfl⟩ | rfl<;>rcases j with ⟨rfl,rfl⟩ | rfl<;>
   simp[Instr.sliceBounds,Instr.sliceBound,asIntOf,p,f]<;>intros<;>omega
 unfold R6
 have:(Instr.sliceAt t (.slice a xs.length b) c d none).run P w= .ok (.slice (if b=l then a else a.map (·.add (l*sz))) (m-l) (b-l)) w:=by
  simp[Instr.sliceAt,run_underlying ts.h,Instr.slice,hh,W5 tz]
 rw[X7 this]
 exact n _ (o.piece l (m-l) (by omega))
def en:Nat→List Value→List (Nat×Value)
 | _,[]=>[]
 | i,v::r=>(i,v)::en (i+1) r
theorem Q7L (off:Nat): ∀(vs:List Value) (k:Nat) (cs:Array Value),off+k+vs.length≤cs.size→
 ((vs.zipIdx k).foldl (fun cs (p:Value×Nat)=>cs.setIfInBounds (off+p.2) p.1) cs).toList=cs.toList.take (off+k)++vs++cs.toList.drop (off+k+vs.length):=by
 intro vs
 induction vs with
 | nil=>intro k cs _;simp
 | cons v r ih=>
  intro k cs h
  simp only[List.length_cons] at h
  rw[List.zipIdx_cons,List.foldl_cons,ih (k+1) _ (by simp;omega)]
  simp only[Array.toList_setIfInBounds,List.length_cons]
  apply List.ext_getElem?
  intro i
  simp only[List.getElem?_append,List.length_take,List.length_set,Array.length_toList,List.getElem?_take,List.getElem?_drop,List.length_append,List.getElem?_set,List.length_cons]
  rcases Nat.lt_trichotomy i (off+k) with hi | hi | hi
  ·simp[show i<off+(k+1) by omega,hi,show i<min (off+(k+1)) cs.size by omega,show i<min (off+(k+1)) cs.size+r.length by omega,show i<min (off+k) cs.size by omega,show i<min (off+k) cs.size+(r.length+1) by omega,show off+k≠i by omega]
  ·subst hi
   simp[show off+k<off+(k+1) by omega,show off+k<min (off+(k+1)) cs.size by omega,show off+k<min (off+(k+1)) cs.size+r.length by omega,show¬off+k<min (off+k) cs.size by omega,show off+k<min (off+k) cs.size+(r.length+1) by omega,show off+k<cs.size by omega,show off+k-min (off+k) cs.size=0 by omega]
  ·by_cases h2:i<off+(k+1)+r.length
   ·simp[show¬i<min (off+(k+1)) cs.size by omega,show i<min (off+(k+1)) cs.size+r.length by omega,show¬i<min (off+k) cs.size by omega,show i<min (off+k) cs.size+(r.length+1) by omega,show i-min (off+k) cs.size=(i-min (off+(k+1)) cs.size)+1 by omega]
   ·simp only[show¬i<min (off+(k+1)) cs.size+r.length by omega,show¬i<min (off+k) cs.size+(r.length+1) by omega,if_false]
    rw[show off+(k+1)+r.length+(i-(min (off+(k+1)) cs.size+r.length))=i by omega,show off+k+(r.length+1)+(i-(min (off+k) cs.size+(r.length+1)))=i by omega,if_neg (by omega)]
theorem Q5P (sz:Nat): ∀(vs:List Value) (i:Nat) (cs:Array Value),(i+vs.length)*sz≤cs.size→(∀v∈vs,v.cells.size=sz)→
 ∃cs',Instr.fill (fun i=>some (i*sz,sz)) cs (en i vs)=some cs'∧cs'.toList=cs.toList.take (i*sz)++vs.flatMap (·.cells.toList)++cs.toList.drop ((i+vs.length)*sz):=by
 intro vs
 induction vs with
 | nil=>intro i cs _ _;exact ⟨cs,rfl,by simp⟩
 | cons v r ih=>
  intro i cs h hv
  have hv0:=hv v (by simp)
  simp only[List.length_cons] at h
  have h1:i*sz+sz≤cs.size:=by
   have:(i+1)*sz≤(i+(r.length+1))*sz:=Nat.mul_le_mul_right _ (by omega)
   rw[Nat.succ_mul] at this;omega
  have hset:=Q7L (i*sz) v.cells.toList 0 cs (by simp;omega)
  simp only[Nat.add_zero] at hset
  have e1:v.cells.zipIdx.foldl (fun cs (p:Value×Nat)=>cs.setIfInBounds (i*sz+p.2) p.1) cs=(v.cells.toList.zipIdx 0).foldl (fun cs (p:Value×Nat)=>cs.setIfInBounds (i*sz+p.2) p.1) cs:=by
   rw[←Array.foldl_toList,Array.toList_zipIdx]
  have hsz':((v.cells.toList.zipIdx 0).foldl (fun cs (p:Value×Nat)=>cs.setIfInBounds (i*sz+p.2) p.1) cs).size=cs.size:=by
   rw[←Array.length_toList,hset]
   simp;omega
  obtain ⟨cs',q1,q2⟩:=ih (i+1) _ (by rw[hsz'];rw[show i+1+r.length=i+(r.length+1) by omega];exact h) (fun u hu=>hv u (by simp[hu]))
  refine ⟨cs',?_,?_⟩
  ·simp only[en,Instr.fill]
   rw[if_neg (by simp[hv0];omega)]
   rw[e1];exact q1
  ·rw[q2,hset]
   simp only[List.flatMap_cons,List.length_cons,Array.length_toList,hv0]
   have e2:(i+1)*sz=i*sz+sz:=by rw[Nat.succ_mul]
   have e3:(i+(r.length+1))*sz=i*sz+sz+r.length*sz:=by rw[Nat.add_mul,Nat.succ_mul];omega
   have e4:(i+1+r.length)*sz=i*sz+sz+r.length*sz:=by rw[Nat.add_mul,Nat.succ_mul]
   rw[e2,e3,e4]
   have t1:(cs.toList.take (i*sz)).length=i*sz:=by simp;omega
   have t2:(cs.toList.take (i*sz)++v.cells.toList).length=i*sz+sz:=by rw[List.length_append,t1];simp[hv0]
   have k1: ∀C:List Value,(cs.toList.take (i*sz)++v.cells.toList++C).take (i*sz+sz)=cs.toList.take (i*sz)++v.cells.toList:=by
    intro C
    rw[List.take_append_of_le_length (by omega),List.take_of_length_le (by omega)]
   have k2: ∀(C:List Value) (n:Nat),(cs.toList.take (i*sz)++v.cells.toList++C).drop (i*sz+sz+n)=C.drop n:=by
    intro C n
    rw[List.drop_append,t2,List.drop_eq_nil_of_le (by omega),List.nil_append]
    congr 1;omega
   rw[k1,k2,List.drop_drop]
   simp only[List.append_assoc]
theorem Oj {t:TypeId} {by_:Nat} {z:Value} [ts:TS P t e] [tz:TZ P e sz by_ z] (vs:List Value) (hv: ∀v∈vs,v.cells.size=sz) (hsm:vs.length*sz≤16777216) (w:World):
 ∃cells:Array Value,(Instr.buildSlice t vs.length (en 0 vs).toArray).run P w= .ok (.slice (some ⟨w.heap.size,0,none⟩) vs.length vs.length) (w.alloc (.cells cells e))∧cells.toList=vs.flatMap (·.cells.toList):=by
 have h2: ¬vs.length*sz>2 ^ 24:=by omega
 by_cases h:vs.length*sz=0
 ·obtain ⟨cells,hf,hl⟩:=Q5P sz vs 0 ((Array.range (vs.length*sz)).map ((#[]:Array Value)[· % (#[]:Array Value).size]!)) (by simp) hv
  refine ⟨cells,?_,by rw[hl];simp⟩
  simp only[Instr.buildSlice,Sem.run_bind,run_underlying ts.h,Result.andThen_ok,W5 tz,if_neg h2,if_pos h,Sem.run_pure,hf]
  simp[newRow]
 ·obtain ⟨cells,hf,hl⟩:=Q5P sz vs 0 ((Array.range (vs.length*sz)).map (z.cells[· % z.cells.size]!)) (by simp) hv
  refine ⟨cells,?_,by rw[hl];simp⟩
  simp only[Instr.buildSlice,Sem.run_bind,run_underlying ts.h,Result.andThen_ok,W5 tz,if_neg h2,if_neg h,Sem.run_pure,Xh tz,hf]
  simp[newRow]
theorem Q6V {vs:List Value} (d: ∀v∈vs,v.cells.size=sz) (i:Nat) (v:Value) (h:vs[i]? =some v):((vs.flatMap (·.cells.toList)).drop (i*sz)).take sz=v.cells.toList:=by
 induction vs generalizing i with
 | nil=>simp at h
 | cons a r f=>
  have b:=d a (by simp)
  cases i with
  | zero=>
   simp at h;subst h
   rw[List.flatMap_cons,Nat.zero_mul,List.drop_zero,List.take_append_of_le_length (by simp[b]),List.take_of_length_le (by simp[b])]
  | succ i=>
   rw[List.flatMap_cons,Nat.succ_mul,List.drop_append,List.drop_eq_nil_of_le (by simp[b]),List.nil_append]
   rw[show i*sz+sz-a.cells.toList.length=i*sz by simp[b]]
   exact f (fun v c=>d v (by simp[c])) i (by simpa using h)
theorem Q0x {vs:List Value} (b: ∀v∈vs,v.cells.size=sz):(vs.flatMap (·.cells.toList)).length=vs.length*sz:=by
 induction vs with
 | nil=>simp
 | cons a r c=>
  rw[List.flatMap_cons,List.length_append,c (fun v h=>b v (by simp[h]))]
  simp[b a (by simp),Nat.succ_mul,Nat.add_comm]
def Kk (R:Q4→α→List Value→Prop) (σ:Q4):List Value→List α→Prop
 | [],[]=>True
 | v::vs,x::xs=>R σ x v.cells.toList∧Kk R σ vs xs
 | _,_=>False
theorem Kk.len {vs:List Value} (h:Kk R σ vs xs):vs.length=xs.length:=by
 induction vs generalizing xs with
 | nil=>cases xs with
  | nil=>rfl
  | cons=>exact h.elim
 | cons v r a=>cases xs with
  | nil=>exact h.elim
  | cons x y=>simp[a h.2]
theorem Kk.get {vs:List Value} (h:Kk R σ vs xs) {i:Nat} {x:α} (a:xs[i]? =some x): ∃v,vs[i]? =some v∧R σ x v.cells.toList:=by
 induction vs generalizing xs i with
 | nil=>cases xs with
  | nil=>simp at a
  | cons=>exact h.elim
 | cons v r b=>cases xs with
  | nil=>exact h.elim
  | cons y ys=>
   cases i with
   | zero=>simp at a;subst a;exact ⟨v,rfl,h.1⟩
   | succ i=>obtain ⟨u,c,d⟩:=b h.2 (i:=i) (by simpa using a);exact ⟨u,by simpa using c,d⟩
theorem Xa {t:TypeId} {l:Nat} {z:Value} {n:Nat} {a:List (Nat×Value)} [ts:TS P t e] [tz:TZ P e sz l z] (m:Stp w0 σ0 w σ) (vs:List Value) (xs:List α) (s:n=vs.length) (p:a=en 0 vs) (c: ∀v∈vs,v.cells.size=sz) (b:(decide (0<sz)&&decide (vs.length*sz≤16777216))=true) (o:Kk R σ vs xs)
 (h: ∀v w',Stp w σ w' σ→V2 w0.heap.size e sz R σ w' v xs→(∀k,v.ownBlock=some k→w.heap.size≤k)→K v w'):buildSlice P t n a w K:=by
 subst s p
 simp only[Bool.and_eq_true,decide_eq_true_eq] at b
 obtain ⟨j,b⟩:=b
 obtain ⟨cells,q,f⟩:=Oj (P:=P) (t:=t) vs c b w
 unfold buildSlice
 rw[X7 q]
 have d:=o.len
 refine h _ _ (Stp.own m.sat _) ⟨cells.toList,⟨by rw[f,Q0x c,d], .inr ⟨_,_,cells,by rw[d],m.bel.size,heap_alloc_new w _,by omega,?_,?_,?_⟩⟩,?_,?_⟩ ?_
 ·simp only[maxLen]
  have:vs.length*1≤vs.length*sz:=Nat.mul_le_mul_left _ j
  omega
 ·rw[←Array.length_toList,f,Q0x c,d]
 ·rw[List.take_of_length_le (by rw[f,Q0x c,d];exact Nat.le_refl _)]
 ·intro k g;cases g;exact m.sat.none (Nat.le_refl _)
 ·intro i x A
  obtain ⟨v,y,r⟩:=o.get A
  rw[f,Q6V c i v y];exact r
 ·intro k g;cases g;exact Nat.le_refl _
theorem T4 [Rep R] {t:TypeId} {b:Nat} {z:Value} {n:Nat} {a:List (Nat×Value)} [ts:TS P t e] [tz:TZ P e sz b z] (k:X4 w σ) (vs:List Value) (xs:List α) (o:n=vs.length) (g:a=en 0 vs) (j: ∀v∈vs,v.cells.size=sz) (c:(decide (0<sz)&&decide (vs.length*sz≤16777216))=true) (d:Kk R σ vs xs)
 (h: ∀v w' σ',Stp w σ w' σ'→Sl sz R σ' v xs→K v w'):buildSlice P t n a w K:=by
 refine Xa (Stp.refl k) vs xs o g j c d fun v w' f m _=>?_
 obtain ⟨σ',l,i,_⟩:=m.keep f
 exact h v w' σ' l i
theorem X0k {t:TypeId} {k a:Nat} {c:TypeId} [tf:TF P t k a c] [tg:TG P c false] {cs:Array Value} {v:Value} (j:cs[a]? =some v):Yy P t (.agg cs) k w K=K v w:=by
 unfold Yy
 have hh:=tf.h
 unfold Q29 at hh
 split at hh
 ·rename_i m d
  obtain ⟨f,i,b⟩:=Option.map_eq_some_iff.1 hh
  simp only[Prod.mk.injEq] at b
  obtain ⟨g,l⟩:=b
  subst l g
  exact X7 (by simp[Instr.field,run_underlying d,i,asAgg,part,Qc tg,j])
 ·cases hh
theorem Qb {f:Fn} {first caps:List Value}:N0 P f first caps w K=K (.func f first.toArray caps.toArray) w:=X7 (by simp[Instr.makeFunc])
theorem V1 {t:TypeId} {a:List (Nat×Value)} {cells:Array Value} (h:P.built t a=some cells) (b:K (.agg cells) w):N8 P t a w K:=by
 unfold N8
 rw[X7 (run_build w t a.toArray cells h)];exact b
end
def M4 (o:Option Obj) (m:List (List UInt8×Value)):Prop:=
 ∃b a,o=some (.map b a)∧b.toList.map (fun e=>(e.key,e.val))=m.map (fun p=>(S p.1,p.2))∧(b.toList.map (·.born)).Pairwise (· < ·)∧ ∀e∈b.toList,e.born<a
def E5 (m:List (List UInt8×Value)) (k:List UInt8):Option Value:=match m with
 | []=>none
 | p::r=>if p.1=k then some p.2 else E5 r k
def Uk (m:List (List UInt8×Value)) (k:List UInt8) (v:Value):List (List UInt8×Value):=match m with
 | []=>[(k,v)]
 | p::r=>if p.1=k then (k,v)::r else p::Uk r k v
theorem Na (a b:List UInt8):((⟨a.toArray⟩:ByteArray)==⟨b.toArray⟩)=decide (a=b):=by
 rw[←Q1J]
 show (a.toArray==b.toArray)=_
 simp
theorem Ho (k:List UInt8): ∀(c:List MapEntry) (m:List (List UInt8×Value)) (i:Nat),c.map (fun e=>(e.key,e.val))=m.map (fun p=>(S p.1,p.2))→
 ∃r,Instr.findNow .string (S k) c i=some r∧r.map (·.2)=E5 m k∧(∀j v,r=some (j,v)→i≤j∧(∃e,c[j-i]? =some e∧e.key=S k)∧ ∀u,(c.modify (j-i) fun e=>{e with key:=S k,val:=u}).map (fun e=>(e.key,e.val))=(Uk m k u).map (fun p=>(S p.1,p.2)))∧
  (r=none→ ∀u,Uk m k u=m++[(k,u)]):=by
 intro c
 induction c with
 | nil=>
  intro m i h
  cases m with
  | nil=>exact ⟨none,rfl,rfl,(by simp),fun _ u=>rfl⟩
  | cons=>simp at h
 | cons e r z=>
  intro m i h
  cases m with
  | nil=>simp at h
  | cons p q=>
   simp only[List.map_cons,List.cons.injEq,Prod.mk.injEq] at h
   obtain ⟨⟨d,l⟩,g⟩:=h
   simp only[Instr.findNow,d,Instr.sameNow,Na]
   by_cases a:p.1=k
   ·have f:decide (k=p.1)=true:=by simp[a]
    simp only[f]
    refine ⟨_,rfl,by simp[E5,a,l],?_,by simp⟩
    intro j v b
    cases b
    refine ⟨Nat.le_refl _,⟨e,by simp,by rw[d,a]⟩,fun u=>?_⟩
    simp[Uk,a,g]
   ·have f:decide (k=p.1)=false:=by simp;exact fun e=>a e.symm
    simp only[f]
    obtain ⟨s,C,y,t,D⟩:=z q (i+1) g
    refine ⟨s,C,by simp[E5,a,y],?_,?_⟩
    ·intro j v b
     obtain ⟨E,o,n⟩:=t j v b
     refine ⟨by omega,by rw[show j-i=(j-(i+1))+1 by omega];simpa using o,fun u=>?_⟩
     have:=n u
     rw[show j-i=(j-(i+1))+1 by omega]
     simp[Uk,a,d,l,this]
    ·intro A u
     simp[Uk,a,D A u]
theorem S4 {t:TypeId} (a:P.underlying t=some .string) (b:Bool) (k:List UInt8) (w:World):(Instr.checkKey b 10000 t (S k)).run P w= .ok () w:=by
 unfold Instr.checkKey
 simp[run_underlying a]
theorem Q0S {t g i:TypeId} {sz d:Nat} {z:Value} [tm:TM P t g i] [tz:TZ P i sz d z] (b:P.underlying g=some .string) {r:Nat} {m:List (List UInt8×Value)} (n:M4 (w.heap[r]?) m) (k:List UInt8):
 lookup P t (.map (some r)) (S k) true w K=K (match E5 m k with | some v=> .tuple #[v, .bool true] | none=> .tuple #[z, .bool false]) w:=by
 obtain ⟨f,a,q,s,y,C⟩:=n
 obtain ⟨o,j,c,A,D⟩:=Ho k f.toList m 0 s
 unfold lookup
 refine X7 ?_
 simp only[Instr.lookup,Sem.run_bind,run_underlying tm.h,Result.andThen_ok,Instr.findKey,run_underlying b,j,S4 b]
 have l:(getObj r).run P w= .ok (.map f a) w:=by simp[getObj,Sem.run,q]
 simp only[l,Result.andThen_ok,Sem.run_bind,Sem.run_pure,S4 b,run_underlying b,j]
 cases o with
 | none=>simp at c;rw[←c];simp[Xh tz]
 | some p=>simp at c;rw[←c];simp
theorem Q2P {t g i:TypeId} {sz c:Nat} {z:Value} [tm:TM P t g i] [tz:TZ P i sz c z] (d:P.underlying g=some .string) {r:Nat} {m:List (List UInt8×Value)} (l:M4 (w.heap[r]?) m) (k:List UInt8):
 lookup P t (.map (some r)) (S k) false w K=K ((E5 m k).getD z) w:=by
 obtain ⟨f,a,o,s,y,C⟩:=l
 obtain ⟨n,q,b,A,D⟩:=Ho k f.toList m 0 s
 unfold lookup
 refine X7 ?_
 have j:(getObj r).run P w= .ok (.map f a) w:=by simp[getObj,Sem.run,o]
 simp only[Instr.lookup,Sem.run_bind,run_underlying tm.h,Result.andThen_ok,Instr.findKey,run_underlying d,q,S4 d,j,Sem.run_pure]
 cases n with
 | none=>simp at b;rw[←b];simp[Xh tz]
 | some p=>simp at b;rw[←b];simp
def E4 (σ:Q4) (w:World) (r:Nat) (m:List (List UInt8×Value)):Prop:=σ r=none∧M4 (w.heap[r]?) m
def T2 (σ:Q4) (r:Nat) (m:List (List UInt8×Value)):Prop:=M4 (σ r) m
theorem T2.is {σ:Q4} {r:Nat} {m:List (List UInt8×Value)} (h:T2 σ r m) (c:X4 w σ):M4 (w.heap[r]?) m:=by
 obtain ⟨f,a,b,d⟩:=h
 exact ⟨f,a,c _ _ b,d⟩
theorem T2.le {σ σ':Q4} {r:Nat} {m:List (List UInt8×Value)} (h:T2 σ r m) (c: ∀b o,σ b=some o→σ' b=some o):T2 σ' r m:=by
 obtain ⟨g,a,d,f⟩:=h
 exact ⟨g,a,c _ _ d,f⟩
theorem T2.up {σ σ':Q4} {r:Nat} {m:List (List UInt8×Value)} (h:T2 σ r m) (a:Stp w σ w' σ'):T2 σ' r m:=h.le a.le
theorem E4.lt {σ:Q4} {r:Nat} {m:List (List UInt8×Value)} (h:E4 σ w r m):r<w.heap.size:=by
 obtain ⟨_,c,a,b,_⟩:=h
 exact (Array.getElem?_eq_some_iff.1 b).1
theorem E4.up {σ σ':Q4} {r:Nat} {m:List (List UInt8×Value)} (h:E4 σ w r m) (a:Stp w σ w' σ'):E4 σ' w' r m:=by
 have b:=h.lt
 exact ⟨(a.old r b).trans h.1,(a.bel.block r b).symm▸h.2⟩
theorem Q0U {t:TypeId} {σ:Q4} (a:X4 w σ) (h: ∀r w',w.heap.size≤r→Stp w σ w' σ→E4 σ w' r []→K (.map (some r)) w'):Cv P t none w K:=by
 unfold Cv
 rw[X7 (v:= .map (some w.heap.size)) (w':=w.alloc (.map #[] 0)) (by simp[Instr.makeMap])]
 exact h _ _ (Nat.le_refl _) (Stp.own a _) ⟨a.none (Nat.le_refl _), #[],0,heap_alloc_new w _,rfl,by simp,by simp⟩
theorem E4.keep {σ σ0:Q4} {r:Nat} {m:List (List UInt8×Value)} (h:E4 σ w r m) (c:Stp w0 σ0 w σ) (g:w0.heap.size≤r): ∃σ',Stp w0 σ0 w σ'∧T2 σ' r m∧(∀k o,σ k=some o→σ' k=some o)∧(∀k,k≠r→σ' k=σ k):=by
 obtain ⟨b,d,a,i,j⟩:=h
 exact ⟨σ.put r (.map d a),c.put b g i,⟨d,a,by simp[Q4.put],j⟩,Q4.put_le c.sat b _,fun k f=>by simp only[Q4.put,if_neg f]⟩
theorem Fz {t Q et:TypeId} [tm:TM P t Q et] (z:P.underlying Q=some .string) {σ:Q4} {r:Nat} {m:List (List UInt8×Value)} (Y:E4 σ w r m) (k:List UInt8) (v:Value)
 (h: ∀w',Upd w r w'→E4 σ w' r (Uk m k v)→K undef w'):mapUpdate P t (.map (some r)) (S k) v w K:=by
 obtain ⟨N,l,d,D,W,L,H⟩:=Y
 obtain ⟨r',V,q2,q3,q4⟩:=Ho k l.toList m 0 W
 have M:(getObj r).run P w= .ok (.map l d) w:=by simp[getObj,Sem.run,D]
 have Z:=(Array.getElem?_eq_some_iff.1 D).1
 have n: ∀o,o=Obj.map l d∨True→(∀c e f,o≠ .cells c e f)→(setObj r o).run P w= .ok () {w with heap:=w.heap.setIfInBounds r o}:=by
  intro o _ _
  simp[setObj,Sem.run,D]
 have A: ∀o,Upd w r {w with heap:=w.heap.setIfInBounds r o}:=fun o=>⟨rfl,rfl,rfl,by simp,fun k z=>by simp only[Array.getElem?_setIfInBounds];rw[if_neg (by omega)]⟩
 have C: ∀o,({w with heap:=w.heap.setIfInBounds r o}:World).heap[r]? =some o:=fun o=>by simp[Array.getElem?_setIfInBounds,Z]
 unfold mapUpdate
 cases r' with
 | none=>
  rw[Mn (w':={w with heap:=w.heap.setIfInBounds r (.map (l.push {key:=S k,val:=v,born:=d}) (d+1))}) (by
   simp only[Instr.mapUpdate,Sem.run_bind,run_underlying tm.h,Result.andThen_ok,Instr.findKey,run_underlying z,V,S4 z,M,Sem.run_pure]
   exact n _ (.inr trivial) (by intros;simp))]
  refine h _ (A _) ⟨N,_,_,C _,?_,?_,?_⟩
  ·rw[q4 rfl];simp[W]
  ·simp only[Array.toList_push,List.map_append,List.map_cons,List.map_nil]
   rw[List.pairwise_append]
   refine ⟨L,by simp,?_⟩
   intro a ha b O
   simp at O;subst O
   obtain ⟨e,s,rfl⟩:=List.mem_map.1 ha
   exact H e s
  ·intro e s
   simp at s
   rcases s with s | rfl
   ·have:=H e (by simpa using s);omega
   ·simp
 | some p=>
  obtain ⟨j,u⟩:=p
  obtain ⟨z1,X,J⟩:=q3 j u rfl
  obtain ⟨e,U,e2⟩:=X
  simp only[Nat.sub_zero] at U J
  have g:((l.modify j fun e=>{e with key:=S k,val:=v}).toList.map (·.born))=l.toList.map (·.born):=by
   apply List.ext_getElem?
   intro i
   simp only[Array.toList_modify,List.getElem?_map,List.getElem?_modify]
   by_cases E:j=i<;>cases l.toList[i]? <;>simp[E]
  have q:(Instr.keyThatStays (S k) (S k)).run P w= .ok (S k) w:=by
   simp[Instr.keyThatStays,Instr.sameBits,Na]
  rw[Mn (w':={w with heap:=w.heap.setIfInBounds r (.map (l.modify j fun e=>{e with key:=S k,val:=v}) d)}) (by
   simp only[Instr.mapUpdate,Sem.run_bind,run_underlying tm.h,Result.andThen_ok,Instr.findKey,run_underlying z,V,S4 z,M,Sem.run_pure]
   rw[show ((l[j]?).map (·.key)).getD (S k)=S k by rw[←Array.getElem?_toList,U];simp[e2]]
   simp only[q,Result.andThen_ok]
   exact n _ (.inr trivial) (by intros;simp))]
  refine h _ (A _) ⟨N,_,_,C _,?_,?_,?_⟩
  ·simp only[Array.toList_modify];exact J v
  ·rw[g];exact L
  ·intro x hx
   have:x.born∈l.toList.map (·.born):=by rw[←g];exact List.mem_map.2 ⟨x,hx,rfl⟩
   obtain ⟨y,hy,e⟩:=List.mem_map.1 this
   rw[←e];exact H y hy
end Go.Emb

namespace Go.Emb
open Go.RowKit
variable {P : Program} {w w0 w1 w' w'' : World} {K : Value → World → Prop}
theorem Y7 {c b:Bool} {a:World→(Value→World→Prop)→Prop} (d:c=b→a w K) (e:c=(!b)→K undef w):Q0 (.bool c) b w a K:=by
 cases c<;>cases b
 ·rw[C8];exact d rfl
 ·rw[F9];exact e rfl
 ·rw[Jk];exact e rfl
 ·rw[O9];exact d rfl
theorem Q5 {c:Bool} {t e:Prop} (a:c=true→t) (b:c=false→e):X1 (.bool c) t e:=by
 cases c
 ·rw[K4];exact b rfl
 ·rw[Ui];exact a rfl
theorem Q9 {α:Type} {R:Q4→α→List Value→Prop} {sz:Nat} {σ:Q4} {v:Value} {xs:List α} {a e t:TypeId} {cs:List Bool} [ts:TS P a e] (h:Sl sz R σ v xs) (b:K (I xs.length) w):X6 P .len [a] t cs [v] w K:=by
 rw[X0L h];exact b
structure Kpt (D : Nat → Prop) (w w' : World) : Prop where
  os : w'.os = w.os
  tape : w'.tape = w.tape
  output : w'.output = w.output
  size : w.heap.size ≤ w'.heap.size
  block : ∀ k, k < w.heap.size → ¬ D k → w'.heap[k]? = w.heap[k]?
theorem Kpt.refl {D:Nat→Prop}:Kpt D w w:=⟨rfl,rfl,rfl,Nat.le_refl _,fun _ _ _=>rfl⟩
theorem Kpt.trans {D:Nat→Prop} (h:Kpt D w w') (k:Kpt D w' w''):Kpt D w w'':=
 ⟨k.os.trans h.os,k.tape.trans h.tape,k.output.trans h.output,Nat.le_trans h.size k.size,fun i a b=>(k.block i (Nat.lt_of_lt_of_le a h.size) b).trans (h.block i a b)⟩
theorem Kpt.of_below {D:Nat→Prop} (h:Below w.heap.size w w'):Kpt D w w':=⟨h.os,h.tape,h.output,h.size,fun k a _=>h.block k a⟩
theorem Kpt.of_grown {D:Nat→Prop} {row:Option Nat} (h:w.grownBy w' row) (b: ∀k,row=some k→D k):Kpt D w w':=⟨h.os,h.tape,h.output,h.size,fun k a c=>h.block k a (fun e=>c (b k e.symm))⟩
theorem Kpt.of_upd {D:Nat→Prop} {b:Nat} (h:Upd w b w') (a:D b):Kpt D w w':=⟨h.os,h.tape,h.output,by rw[h.size];exact Nat.le_refl _,fun k d c=>h.block k (fun e=>c (e▸a))⟩
theorem Kpt.mono {D D':Nat→Prop} (h:Kpt D w w') (c: ∀k,k<w.heap.size→D k→D' k):Kpt D' w w':=⟨h.os,h.tape,h.output,h.size,fun k a b=>h.block k a (fun e=>b (c k a e))⟩
theorem Kpt.below {D:Nat→Prop} (h:Kpt D w w') (b: ∀k,¬D k):Below w.heap.size w w':=⟨h.os,h.tape,h.output,h.size,fun k a=>h.block k a (b k)⟩
theorem Stp.kp {σ0 σ:Q4} {D:Nat→Prop} (a:Stp w0 σ0 w σ) (b:Kpt D w w') (f: ∀k,D k→w0.heap.size≤k∧σ k=none):Stp w0 σ0 w' σ:=by
 refine ⟨⟨b.os.trans a.bel.os,b.tape.trans a.bel.tape,b.output.trans a.bel.output,Nat.le_trans a.bel.size b.size,fun k c=>?_⟩,?_,a.le,a.old⟩
 ·refine (b.block k (Nat.lt_of_lt_of_le c a.bel.size) ?_).trans (a.bel.block k c)
  intro e;have:=(f k e).1;omega
 ·intro k o d
  refine (b.block k (a.sat.lt d) ?_).trans (a.sat k o d)
  intro e;rw[(f k e).2] at d;cases d
theorem J0.kp {σ:Q4} {D:Nat→Prop} {k:Nat} {cs:List Value} (h:J0 σ w k cs) (b:Kpt D w w') (a: ¬D k):J0 σ w' k cs:=by
 have f:=h.lt
 obtain ⟨c,e,d⟩:=h
 exact ⟨c,e,(b.block k f a).trans d⟩
theorem E4.kp {σ:Q4} {D:Nat→Prop} {r:Nat} {m:List (List UInt8×Value)} (h:E4 σ w r m) (b:Kpt D w w') (a: ¬D r):E4 σ w' r m:=
 ⟨h.1,(b.block r h.lt a).symm▸h.2⟩
theorem V2.kp {α:Type} {R:Q4→α→List Value→Prop} {B sz:Nat} {e:TypeId} {σ:Q4} {v:Value} {xs:List α} {D:Nat→Prop} (h:V2 B e sz R σ w v xs) (j:Kpt D w w') (b: ∀k,v.ownBlock=some k→ ¬D k):V2 B e sz R σ w' v xs:=by
 obtain ⟨cells,i,o,n⟩:=h
 refine ⟨cells,⟨i.1,?_⟩,o,n⟩
 rcases i.2 with m | ⟨g,d,c,rfl,l,f,a⟩
 ·exact .inl m
 ·refine .inr ⟨g,d,c,rfl,l,?_,a⟩
  rw[j.block g (Array.getElem?_eq_some_iff.1 f).1 (b g rfl)];exact f
theorem bt {w w1 b:World} (a:Below w.heap.size w w1) (c:Below w1.heap.size w1 b):Below w.heap.size w b:=a.trans (c.mono a.size)
abbrev J8:Nat:=140737488351232
def J6 (_:Q4) (s:List UInt8) (cs:List Value):Prop:=cs=[S s]∧s.length≤J8
instance:Rep J6:=⟨fun _ h=>h,fun h u hu=>by rw[h.1] at hu;simp at hu;subst hu;rfl⟩
def Uj (_:Q4) (n:Int) (cs:List Value):Prop:=cs=[I n]∧ -9223372036854775808≤n∧n≤9223372036854775807
instance:Rep Uj:=⟨fun _ h=>h,fun h u hu=>by rw[h.1] at hu;simp at hu;subst hu;rfl⟩
def Q6D (_:Q4) (b:Bool) (cs:List Value):Prop:=cs=[.bool b]
instance:Rep Q6D:=⟨fun _ h=>h,fun h u hu=>by rw[h] at hu;simp at hu;subst hu;rfl⟩
def UpI (N:Nat) (a:Nat→World→Prop) (x:Value) (w:World):Prop:= ∃n:Nat,x=I n∧n≤N∧a n w
def UpM (N:Nat) (x:Value):Nat:=match x with | .int _ n=>N-n.toNat | _=>0
theorem U3 {A:(Value→World→Prop)→Value→(Nat→Value)→World→Prop} (N:Nat) (a:Nat→World→Prop) (c:a 0 w)
 (b: ∀n w d,n≤N→a n w→A (fun y w'=>UpI N a y w'∧UpM N y<UpM N (I n)) (I n) d w):lp (α:=Value) (.int .i64 0) w A:=by
 refine Uc (UpI N a) (fun x _=>UpM N x) ⟨0,rfl,Nat.zero_le _,c⟩ ?_
 rintro _ d w' ⟨n,rfl,e,f⟩
 exact b n w' d e f
theorem Y3 {N n:Nat} {a:Nat→World→Prop} (d:N≤9223372036854775807) (b:n<N) (c:a (n+1) w):UpI N a (.int .i64 (IntKind.i64.wrap (n+1))) w∧UpM N (.int .i64 (IntKind.i64.wrap (n+1)))<UpM N (I n):=by
 rw[S8 (by omega) (by omega)]
 exact ⟨⟨n+1,rfl,b,c⟩,by simp only[UpM];omega⟩
def Rd {α:Type} (N:Nat) (a:Nat→α→World→Prop) (x:α×Value) (w:World):Prop:= ∃n:Nat,x.2=I n∧n≤N∧a n x.1 w
def Lj {α:Type} (N:Nat) (x:α×Value):Nat:=UpM N x.2
theorem M3 {α:Type} {A:(α×Value→World→Prop)→α×Value→(Nat→Value)→World→Prop} {a:α} (N:Nat) (b:Nat→α→World→Prop) (h:b 0 a w)
 (c: ∀n a w d,n≤N→b n a w→A (fun y w'=>Rd N b y w'∧Lj N y<Lj N (a,I n)) (a,I n) d w):lp (α:=α×Value) (a, .int .i64 0) w A:=by
 refine Uc (Rd N b) (fun x _=>Lj N x) ⟨0,rfl,Nat.zero_le _,h⟩ ?_
 rintro ⟨a,x⟩ d w' ⟨n,f,g,e⟩
 simp only at f e
 subst f
 exact c n a w' d g e
theorem Z2 {α:Type} {a c:α} {N n:Nat} {b:Nat→α→World→Prop} (f:N≤9223372036854775807) (d:n<N) (e:b (n+1) c w):Rd N b (c, .int .i64 (IntKind.i64.wrap (n+1))) w∧Lj N (c, .int .i64 (IntKind.i64.wrap (n+1)))<Lj N (a,I n):=by
 rw[S8 (by omega) (by omega)]
 exact ⟨⟨n+1,rfl,d,e⟩,by simp only[Lj,UpM];omega⟩
theorem W7 {α:Type} {R:Q4→α→List Value→Prop} {sz:Nat} {σ:Q4} {v:Value} {xs:List α} {t e:TypeId} {b:Nat} {z:Value} [TS P t e] [TZ P e sz b z] (h:Sl sz R σ v xs) {n:Nat} (f:n<xs.length)
 (c: ∀a cs,Z3 σ a cs→cs.length=sz→R σ xs[n] cs→K (.pointer (some a)) w):indexAddr P t v (I n) w K:=
 X1n h (by omega) (by simpa using f) (fun a cs d i g=>c a cs d i (by simpa using g))
theorem Y1 {t:TypeId} {sz e:Nat} {z:Value} {A:Value→Value→World→Prop} [tz:TZ P t sz e z] {σ:Q4} {cs:List Value} (o:X4 w σ) (n:z.cells.size=sz) (k:cs.length=sz) (m: ∀u∈cs,u.oneCell'=true)
 (h: ∀a w' d,Stp w σ w' d→Z3 d a cs→A (.pointer (some a)) undef w'):W1 P t w (fun p w=>Z6 P t p (.agg cs.toArray) w (fun u w=>A p u w)):=by
 refine Bs o fun b w1 g j f=>?_
 refine sta f (by simpa using n) k (by rw[List.all_toArray];exact List.all_eq_true.2 m) fun q i c=>?_
 have s:Stp w σ q σ:=i.stp j g f.1
 obtain ⟨d,r,l,_⟩:=c.keep s g
 exact h _ _ _ r l
theorem J5 {t:TypeId} {f:Nat} {z:Value} {A:Value→Value→World→Prop} [tz:TZ P t 1 f z] {σ:Q4} {v:Value} (r:X4 w σ) (o:z.cells.size=1) (q:v.cells= #[v]) (n:v.oneCell'=true)
 (h: ∀a w' d,Stp w σ w' d→Z3 d a [v]→A (.pointer (some a)) undef w'):W1 P t w (fun p w=>Z6 P t p v w (fun u w=>A p u w)):=by
 refine Bs r fun b w1 i k g=>?_
 have l:z.cells.toList.length=1:=by simpa using o
 refine st0 g (by omega) q n fun s j c=>?_
 have B:Stp w σ s σ:=j.stp k i g.1
 have e:z.cells.toList.set 0 v=[v]:=by
  match hzl:z.cells.toList,l with
  | [x],_=>rfl
 rw[e] at c
 obtain ⟨d,y,m,_⟩:=c.keep B i
 exact h _ _ _ y m
theorem L6 {α:Type} {xs:List α} {p:α→Bool} {n:Nat} (h:n<xs.length):(xs.take (n+1)).any p=((xs.take n).any p||p xs[n]):=by
 rw[List.take_add_one,List.getElem?_eq_getElem h,List.any_append];simp
theorem R7 {α:Type} {xs:List α} {p:α→Bool} {n:Nat} (h:n<xs.length) (a:p xs[n]=true):xs.any p=true:=List.any_eq_true.2 ⟨_,List.getElem_mem h,a⟩
theorem O3 {α:Type} {xs:List α} {p:α→Bool} {n:Nat} (h: ¬n<xs.length):(xs.take n).any p=xs.any p:=by rw[List.take_of_length_le (by omega)]
end Go.Emb

namespace Go.Hm
open Go.Kd
structure Fld where
  name : X0
  kind : X0
  tr : Bool
deriving DecidableEq
structure Ins where
  op : X0
  n : Int
  s : X0
deriving DecidableEq
structure Cat where
  frm : Int
  to : Int
  at_ : Int
  cls : X0
deriving DecidableEq
structure Met where
  name : X0
  params : List X0
  result : X0
  abs : Bool
  locals : Int
  code : List Ins
  catches : List Cat
deriving DecidableEq
structure Cla where
  name : X0
  super : X0
  like : List X0
  iface : Bool
  abs : Bool
  fin : Bool
  fields : List Fld
  methods : List Hm.Met
deriving DecidableEq
def Fld.zero:Fld:=⟨[],[],false⟩
def Met.zero:Hm.Met:=⟨[],[],[],false,0,[],[]⟩
def Cla.zero:Cla:=⟨[],[],[],false,false,false,[],[]⟩
end Go.Hm

namespace Go.Emb
open Go.RowKit Go.Hm
abbrev Jh (n:Int):Prop:= -9223372036854775808≤n∧n≤9223372036854775807
def O4 (_:Q4) (f:Fld) (cs:List Value):Prop:=cs=[S f.name,S f.kind, .bool f.tr]∧f.name.length≤J8∧f.kind.length≤J8
def G8 (_:Q4) (i:Ins) (cs:List Value):Prop:=cs=[S i.op,I i.n,S i.s]∧i.op.length≤J8∧Jh i.n∧i.s.length≤J8
def Zc (_:Q4) (c:Cat) (cs:List Value):Prop:=cs=[I c.frm,I c.to,I c.at_,S c.cls]∧Jh c.frm∧Jh c.to∧Jh c.at_∧c.cls.length≤J8
def L9 (σ:Q4) (m:Hm.Met) (cs:List Value):Prop:= ∃pv a b,cs=[S m.name,pv,S m.result, .bool m.abs,I m.locals,a,b]∧Sl 1 J6 σ pv m.params∧Sl 3 G8 σ a m.code∧Sl 4 Zc σ b m.catches∧m.name.length≤J8∧m.result.length≤J8∧Jh m.locals
def U4 (σ:Q4) (c:Cla) (cs:List Value):Prop:= ∃a b mv,cs=[S c.name,S c.super,a, .bool c.iface, .bool c.abs, .bool c.fin,b,mv]∧Sl 1 J6 σ a c.like∧Sl 3 O4 σ b c.fields∧Sl 7 L9 σ mv c.methods∧c.name.length≤J8∧c.super.length≤J8
theorem F8 {α:Type} {sz:Nat} {R:Q4→α→List Value→Prop} {σ:Q4} {v:Value} {xs:List α} (h:Sl sz R σ v xs):v.oneCell'=true:=by
 obtain ⟨a,b,rfl,_⟩:=h;rfl
instance:Rep O4:=⟨fun _ h=>h,fun h u hu=>by rw[h.1] at hu;simp at hu;rcases hu with rfl | rfl | rfl<;>rfl⟩
instance:Rep G8:=⟨fun _ h=>h,fun h u hu=>by rw[h.1] at hu;simp at hu;rcases hu with rfl | rfl | rfl<;>rfl⟩
instance:Rep Zc:=⟨fun _ h=>h,fun h u hu=>by rw[h.1] at hu;simp at hu;rcases hu with rfl | rfl | rfl | rfl<;>rfl⟩
instance:Rep L9:=⟨fun hk ⟨pv,cv,hv,h1,h2,h3,h4,h5⟩=>⟨pv,cv,hv,h1,h2.le hk,h3.le hk,h4.le hk,h5⟩,fun ⟨pv,cv,hv,h1,h2,h3,h4,h5⟩ u hu=>by
 rw[h1] at hu;simp at hu;rcases hu with rfl | rfl | rfl | rfl | rfl | rfl | rfl
 ·rfl
 ·exact F8 h2
 ·rfl
 ·rfl
 ·rfl
 ·exact F8 h3
 ·exact F8 h4⟩
instance:Rep U4:=⟨fun hk ⟨pv,cv,hv,h1,h2,h3,h4,h5⟩=>⟨pv,cv,hv,h1,h2.le hk,h3.le hk,h4.le hk,h5⟩,fun ⟨pv,cv,hv,h1,h2,h3,h4,h5⟩ u hu=>by
 rw[h1] at hu;simp at hu;rcases hu with rfl | rfl | rfl | rfl | rfl | rfl | rfl | rfl
 ·rfl
 ·rfl
 ·exact F8 h2
 ·rfl
 ·rfl
 ·rfl
 ·exact F8 h3
 ·exact F8 h4⟩
end Go.Emb

namespace Go.Proofs.YtjdiakhipmggjaaGreatDoor
open Go.Emb
instance z_x:TZ P T.x 1 0 (.tuple #[]):=⟨by kernel_rfl⟩
instance g_x:TG P T.x false:=⟨by kernel_rfl⟩
instance z_int64:TZ P T.ah 1 8 (.int .i64 0):=⟨by kernel_rfl⟩
instance g_int64:TG P T.ah false:=⟨by kernel_rfl⟩
instance z_int:TZ P T.d 1 8 (.int .i64 0):=⟨by kernel_rfl⟩
instance g_int:TG P T.d false:=⟨by kernel_rfl⟩
instance z_bool:TZ P T.q 1 1 (.bool false):=⟨by kernel_rfl⟩
instance g_bool:TG P T.q false:=⟨by kernel_rfl⟩
instance z_uint8:TZ P T.a0 1 1 (.int .u8 0):=⟨by kernel_rfl⟩
instance g_uint8:TG P T.a0 false:=⟨by kernel_rfl⟩
instance z_string:TZ P T.b 1 16 (.string ⟨#[]⟩):=⟨by kernel_rfl⟩
instance g_string:TG P T.b false:=⟨by kernel_rfl⟩
instance z_uintptr:TZ P T.av 1 8 (.int .u64 0):=⟨by kernel_rfl⟩
instance g_uintptr:TG P T.av false:=⟨by kernel_rfl⟩
instance z_int32:TZ P T.am 1 4 (.int .i32 0):=⟨by kernel_rfl⟩
instance g_int32:TG P T.am false:=⟨by kernel_rfl⟩
instance z_P_hier_Table:TZ P T.l 1 8 (.pointer none):=⟨by kernel_rfl⟩
instance g_P_hier_Table:TG P T.l false:=⟨by kernel_rfl⟩
instance z_api_Errno:TZ P T.w 1 8 (.int .i64 0):=⟨by kernel_rfl⟩
instance g_api_Errno:TG P T.w false:=⟨by kernel_rfl⟩
instance z_S_api_Class:TZ P T.g 1 24 (.slice none 0 0):=⟨by kernel_rfl⟩
instance g_S_api_Class:TG P T.g false:=⟨by kernel_rfl⟩
instance s_S_api_Class:TS P T.g 85:=⟨by kernel_rfl⟩
instance z_P_heap_Heap:TZ P T.a1 1 8 (.pointer none):=⟨by kernel_rfl⟩
instance g_P_heap_Heap:TG P T.a1 false:=⟨by kernel_rfl⟩
instance z_api_Value:TZ P T.i 4 40 (.agg #[.int .i64 0, .int .i64 0, .string ⟨#[]⟩, .int .i64 0]):=⟨by kernel_rfl⟩
instance g_api_Value:TG P T.i true:=⟨by kernel_rfl⟩
instance f_api_Value_0:TF P T.i 0 0 3:=⟨by kernel_rfl⟩
instance f_api_Value_1:TF P T.i 1 1 2:=⟨by kernel_rfl⟩
instance f_api_Value_2:TF P T.i 2 2 9:=⟨by kernel_rfl⟩
instance f_api_Value_3:TF P T.i 3 3 3:=⟨by kernel_rfl⟩
instance z_S_api_Cell:TZ P T.k 1 24 (.slice none 0 0):=⟨by kernel_rfl⟩
instance g_S_api_Cell:TG P T.k false:=⟨by kernel_rfl⟩
instance s_S_api_Cell:TS P T.k 78:=⟨by kernel_rfl⟩
instance z_uint16:TZ P T.aq 1 2 (.int .u16 0):=⟨by kernel_rfl⟩
instance g_uint16:TG P T.aq false:=⟨by kernel_rfl⟩
instance z_S_squinchref09_Act:TZ P T.an 1 24 (.slice none 0 0):=⟨by kernel_rfl⟩
instance g_S_squinchref09_Act:TG P T.an false:=⟨by kernel_rfl⟩
instance s_S_squinchref09_Act:TS P T.an 51:=⟨by kernel_rfl⟩
instance z_squinchref09_Heap:TZ P T.t 3 56 (.agg #[.slice none 0 0, .int .i64 0, .slice none 0 0]):=⟨by kernel_rfl⟩
instance g_squinchref09_Heap:TG P T.t true:=⟨by kernel_rfl⟩
instance f_squinchref09_Heap_0:TF P T.t 0 0 26:=⟨by kernel_rfl⟩
instance f_squinchref09_Heap_1:TF P T.t 1 1 3:=⟨by kernel_rfl⟩
instance f_squinchref09_Heap_2:TF P T.t 2 2 37:=⟨by kernel_rfl⟩
instance z_squinchref09_Act:TZ P T.a5 8 80 (.agg #[.int .i64 0, .string ⟨#[]⟩, .int .i64 0, .int .i64 0, .int .i64 0, .int .i64 0, .string ⟨#[]⟩, .int .i64 0]):=⟨by kernel_rfl⟩
instance g_squinchref09_Act:TG P T.a5 true:=⟨by kernel_rfl⟩
instance f_squinchref09_Act_0:TF P T.a5 0 0 3:=⟨by kernel_rfl⟩
instance f_squinchref09_Act_1:TF P T.a5 1 1 9:=⟨by kernel_rfl⟩
instance f_squinchref09_Act_2:TF P T.a5 2 2 2:=⟨by kernel_rfl⟩
instance f_squinchref09_Act_3:TF P T.a5 3 3 3:=⟨by kernel_rfl⟩
instance f_squinchref09_Act_4:TF P T.a5 4 4 33:=⟨by kernel_rfl⟩
instance z_S_string:TZ P T.e 1 24 (.slice none 0 0):=⟨by kernel_rfl⟩
instance g_S_string:TG P T.e false:=⟨by kernel_rfl⟩
instance s_S_string:TS P T.e 9:=⟨by kernel_rfl⟩
instance z_S_api_Field:TZ P T.h 1 24 (.slice none 0 0):=⟨by kernel_rfl⟩
instance g_S_api_Field:TG P T.h false:=⟨by kernel_rfl⟩
instance s_S_api_Field:TS P T.h 69:=⟨by kernel_rfl⟩
instance z_api_Field:TZ P T.j 3 40 (.agg #[.string ⟨#[]⟩, .string ⟨#[]⟩, .bool false]):=⟨by kernel_rfl⟩
instance g_api_Field:TG P T.j true:=⟨by kernel_rfl⟩
instance f_api_Field_0:TF P T.j 0 0 9:=⟨by kernel_rfl⟩
instance f_api_Field_1:TF P T.j 1 1 9:=⟨by kernel_rfl⟩
instance f_api_Field_2:TF P T.j 2 2 4:=⟨by kernel_rfl⟩
instance z_func_int_2:TZ P T.aj 1 8 .nilFunc:=⟨by kernel_rfl⟩
instance g_func_int_2:TG P T.aj false:=⟨by kernel_rfl⟩
instance z_S_api_Value:TZ P T.n 1 24 (.slice none 0 0):=⟨by kernel_rfl⟩
instance g_S_api_Value:TG P T.n false:=⟨by kernel_rfl⟩
instance s_S_api_Value:TS P T.n 33:=⟨by kernel_rfl⟩
instance z_api_Cell:TZ P T.u 2 40 (.agg #[.string ⟨#[]⟩, .slice none 0 0]):=⟨by kernel_rfl⟩
instance g_api_Cell:TG P T.u true:=⟨by kernel_rfl⟩
instance f_api_Cell_0:TF P T.u 0 0 9:=⟨by kernel_rfl⟩
instance f_api_Cell_1:TF P T.u 1 1 76:=⟨by kernel_rfl⟩
instance z_M_string_int:TZ P T.z 1 8 (.map none):=⟨by kernel_rfl⟩
instance g_M_string_int:TG P T.z false:=⟨by kernel_rfl⟩
instance m_M_string_int:TM P T.z 9 3:=⟨by kernel_rfl⟩
instance z_hier_Table:TZ P T.y 2 32 (.agg #[.slice none 0 0, .map none]):=⟨by kernel_rfl⟩
instance g_hier_Table:TG P T.y true:=⟨by kernel_rfl⟩
instance f_hier_Table_0:TF P T.y 0 0 26:=⟨by kernel_rfl⟩
instance f_hier_Table_1:TF P T.y 1 1 80:=⟨by kernel_rfl⟩
instance z_S_api_Method:TZ P T.f 1 24 (.slice none 0 0):=⟨by kernel_rfl⟩
instance g_S_api_Method:TG P T.f false:=⟨by kernel_rfl⟩
instance s_S_api_Method:TS P T.f 98:=⟨by kernel_rfl⟩
instance z_api_Class:TZ P T.a 8 112 (.agg #[.string ⟨#[]⟩, .string ⟨#[]⟩, .slice none 0 0, .bool false, .bool false, .bool false, .slice none 0 0, .slice none 0 0]):=⟨by kernel_rfl⟩
instance g_api_Class:TG P T.a true:=⟨by kernel_rfl⟩
instance f_api_Class_0:TF P T.a 0 0 9:=⟨by kernel_rfl⟩
instance f_api_Class_1:TF P T.a 1 1 9:=⟨by kernel_rfl⟩
instance f_api_Class_2:TF P T.a 2 2 54:=⟨by kernel_rfl⟩
instance f_api_Class_3:TF P T.a 3 3 4:=⟨by kernel_rfl⟩
instance f_api_Class_4:TF P T.a 4 4 4:=⟨by kernel_rfl⟩
instance f_api_Class_5:TF P T.a 5 5 4:=⟨by kernel_rfl⟩
instance f_api_Class_6:TF P T.a 6 6 65:=⟨by kernel_rfl⟩
instance f_api_Class_7:TF P T.a 7 7 83:=⟨by kernel_rfl⟩
instance z_func_string_bool:TZ P T.a2 1 8 .nilFunc:=⟨by kernel_rfl⟩
instance g_func_string_bool:TG P T.a2 false:=⟨by kernel_rfl⟩
instance z_S_int:TZ P T.a3 1 24 (.slice none 0 0):=⟨by kernel_rfl⟩
instance g_S_int:TG P T.a3 false:=⟨by kernel_rfl⟩
instance s_S_int:TS P T.a3 3:=⟨by kernel_rfl⟩
instance z_api_Instr:TZ P T.s 3 40 (.agg #[.string ⟨#[]⟩, .int .i64 0, .string ⟨#[]⟩]):=⟨by kernel_rfl⟩
instance g_api_Instr:TG P T.s true:=⟨by kernel_rfl⟩
instance f_api_Instr_0:TF P T.s 0 0 9:=⟨by kernel_rfl⟩
instance f_api_Instr_1:TF P T.s 1 1 2:=⟨by kernel_rfl⟩
instance f_api_Instr_2:TF P T.s 2 2 9:=⟨by kernel_rfl⟩
instance z_S_api_Instr:TZ P T.m 1 24 (.slice none 0 0):=⟨by kernel_rfl⟩
instance g_S_api_Instr:TG P T.m false:=⟨by kernel_rfl⟩
instance s_S_api_Instr:TS P T.m 94:=⟨by kernel_rfl⟩
instance z_S_api_Catch:TZ P T.o 1 24 (.slice none 0 0):=⟨by kernel_rfl⟩
instance g_S_api_Catch:TG P T.o false:=⟨by kernel_rfl⟩
instance s_S_api_Catch:TS P T.o 172:=⟨by kernel_rfl⟩
instance z_api_Method:TZ P T.c 7 120 (.agg #[.string ⟨#[]⟩, .slice none 0 0, .string ⟨#[]⟩, .bool false, .int .i64 0, .slice none 0 0, .slice none 0 0]):=⟨by kernel_rfl⟩
instance g_api_Method:TG P T.c true:=⟨by kernel_rfl⟩
instance f_api_Method_0:TF P T.c 0 0 9:=⟨by kernel_rfl⟩
instance f_api_Method_1:TF P T.c 1 1 54:=⟨by kernel_rfl⟩
instance f_api_Method_2:TF P T.c 2 2 9:=⟨by kernel_rfl⟩
instance f_api_Method_3:TF P T.c 3 3 4:=⟨by kernel_rfl⟩
instance f_api_Method_4:TF P T.c 4 4 3:=⟨by kernel_rfl⟩
instance f_api_Method_5:TF P T.c 5 5 95:=⟨by kernel_rfl⟩
instance f_api_Method_6:TF P T.c 6 6 96:=⟨by kernel_rfl⟩
instance z_heap_Heap:TZ P T.r 4 48 (.agg #[.pointer none, .int .i64 0, .int .i64 0, .slice none 0 0]):=⟨by kernel_rfl⟩
instance g_heap_Heap:TG P T.r true:=⟨by kernel_rfl⟩
instance f_heap_Heap_0:TF P T.r 0 0 22:=⟨by kernel_rfl⟩
instance f_heap_Heap_1:TF P T.r 1 1 3:=⟨by kernel_rfl⟩
instance f_heap_Heap_2:TF P T.r 2 2 3:=⟨by kernel_rfl⟩
instance f_heap_Heap_3:TF P T.r 3 3 37:=⟨by kernel_rfl⟩
instance z_func_string_string:TZ P T.aa 1 8 .nilFunc:=⟨by kernel_rfl⟩
instance g_func_string_string:TG P T.aa false:=⟨by kernel_rfl⟩
instance z_A6_string:TZ P T.ao 6 96 (.agg #[.string ⟨#[]⟩, .string ⟨#[]⟩, .string ⟨#[]⟩, .string ⟨#[]⟩, .string ⟨#[]⟩, .string ⟨#[]⟩]):=⟨by kernel_rfl⟩
instance g_A6_string:TG P T.ao true:=⟨by kernel_rfl⟩
instance a_A6_string:TA P T.ao 6 9:=⟨by kernel_rfl⟩
instance z_M_string_string:TZ P T.v 1 8 (.map none):=⟨by kernel_rfl⟩
instance g_M_string_string:TG P T.v false:=⟨by kernel_rfl⟩
instance m_M_string_string:TM P T.v 9 9:=⟨by kernel_rfl⟩
instance z_func_api_Method_string:TZ P T.a7 1 8 .nilFunc:=⟨by kernel_rfl⟩
instance g_func_api_Method_string:TG P T.a7 false:=⟨by kernel_rfl⟩
instance z_func_api_Method_bool:TZ P T.ac 1 8 .nilFunc:=⟨by kernel_rfl⟩
instance g_func_api_Method_bool:TG P T.ac false:=⟨by kernel_rfl⟩
instance z_S_S_bool:TZ P T.a6 1 24 (.slice none 0 0):=⟨by kernel_rfl⟩
instance g_S_S_bool:TG P T.a6 false:=⟨by kernel_rfl⟩
instance s_S_S_bool:TS P T.a6 148:=⟨by kernel_rfl⟩
instance z_S_bool:TZ P T.a4 1 24 (.slice none 0 0):=⟨by kernel_rfl⟩
instance g_S_bool:TG P T.a4 false:=⟨by kernel_rfl⟩
instance s_S_bool:TS P T.a4 4:=⟨by kernel_rfl⟩
instance g_A256_uint8:TG P T.au true:=⟨by kernel_rfl⟩
instance a_A256_uint8:TA P T.au 256 5:=⟨by kernel_rfl⟩
instance z_utf8_acceptRange:TZ P T.ai 2 2 (.agg #[.int .u8 0, .int .u8 0]):=⟨by kernel_rfl⟩
instance g_utf8_acceptRange:TG P T.ai true:=⟨by kernel_rfl⟩
instance f_utf8_acceptRange_0:TF P T.ai 0 0 5:=⟨by kernel_rfl⟩
instance f_utf8_acceptRange_1:TF P T.ai 1 1 5:=⟨by kernel_rfl⟩
instance z_A16_utf8_acceptRange:TZ P T.ak 32 32 (.agg #[.int .u8 0, .int .u8 0, .int .u8 0, .int .u8 0, .int .u8 0, .int .u8 0, .int .u8 0, .int .u8 0, .int .u8 0, .int .u8 0, .int .u8 0, .int .u8 0, .int .u8 0, .int .u8 0, .int .u8 0, .int .u8 0, .int .u8 0, .int .u8 0, .int .u8 0, .int .u8 0, .int .u8 0, .int .u8 0, .int .u8 0, .int .u8 0, .int .u8 0, .int .u8 0, .int .u8 0, .int .u8 0, .int .u8 0, .int .u8 0, .int .u8 0, .int .u8 0]):=⟨by kernel_rfl⟩
instance g_A16_utf8_acceptRange:TG P T.ak true:=⟨by kernel_rfl⟩
instance a_A16_utf8_acceptRange:TA P T.ak 16 156:=⟨by kernel_rfl⟩
instance z_func_api_Field_string:TZ P T.a8 1 8 .nilFunc:=⟨by kernel_rfl⟩
instance g_func_api_Field_string:TG P T.a8 false:=⟨by kernel_rfl⟩
instance z_func_api_Field_bool:TZ P T.ae 1 8 .nilFunc:=⟨by kernel_rfl⟩
instance g_func_api_Field_bool:TG P T.ae false:=⟨by kernel_rfl⟩
instance z_api_Catch:TZ P T.p 4 40 (.agg #[.int .i64 0, .int .i64 0, .int .i64 0, .string ⟨#[]⟩]):=⟨by kernel_rfl⟩
instance g_api_Catch:TG P T.p true:=⟨by kernel_rfl⟩
instance f_api_Catch_0:TF P T.p 0 0 3:=⟨by kernel_rfl⟩
instance f_api_Catch_1:TF P T.p 1 1 3:=⟨by kernel_rfl⟩
instance f_api_Catch_2:TF P T.p 2 2 3:=⟨by kernel_rfl⟩
instance f_api_Catch_3:TF P T.p 3 3 9:=⟨by kernel_rfl⟩
instance z_uint64:TZ P T.ax 1 8 (.int .u64 0):=⟨by kernel_rfl⟩
instance g_uint64:TG P T.ax false:=⟨by kernel_rfl⟩
instance g_strings_asciiSet:TG P T.a9 true:=⟨by kernel_rfl⟩
instance a_strings_asciiSet:TA P T.a9 256 4:=⟨by kernel_rfl⟩
instance z_func_api_Catch_bool:TZ P T.af 1 8 .nilFunc:=⟨by kernel_rfl⟩
instance g_func_api_Catch_bool:TG P T.af false:=⟨by kernel_rfl⟩
instance z_func_api_Instr_bool:TZ P T.ag 1 8 .nilFunc:=⟨by kernel_rfl⟩
instance g_func_api_Instr_bool:TG P T.ag false:=⟨by kernel_rfl⟩
instance z_S_uint8:TZ P T.ar 1 24 (.slice none 0 0):=⟨by kernel_rfl⟩
instance g_S_uint8:TG P T.ar false:=⟨by kernel_rfl⟩
instance s_S_uint8:TS P T.ar 5:=⟨by kernel_rfl⟩
instance z_strings_Builder:TZ P T.al 2 32 (.agg #[.pointer none, .slice none 0 0]):=⟨by kernel_rfl⟩
instance g_strings_Builder:TG P T.al true:=⟨by kernel_rfl⟩
instance f_strings_Builder_0:TF P T.al 0 0 202:=⟨by kernel_rfl⟩
instance f_strings_Builder_1:TF P T.al 1 1 203:=⟨by kernel_rfl⟩
instance z_P_uint8:TZ P T.aw 1 8 (.pointer none):=⟨by kernel_rfl⟩
instance g_P_uint8:TG P T.aw false:=⟨by kernel_rfl⟩
instance z_code_op:TZ P T.ab 3 24 (.agg #[.string ⟨#[]⟩, .bool false, .bool false]):=⟨by kernel_rfl⟩
instance g_code_op:TG P T.ab true:=⟨by kernel_rfl⟩
instance f_code_op_0:TF P T.ab 0 0 9:=⟨by kernel_rfl⟩
instance f_code_op_1:TF P T.ab 1 1 4:=⟨by kernel_rfl⟩
instance f_code_op_2:TF P T.ab 2 2 4:=⟨by kernel_rfl⟩
instance g_A42_code_op:TG P T.ad true:=⟨by kernel_rfl⟩
instance a_A42_code_op:TA P T.ad 42 225:=⟨by kernel_rfl⟩
instance z_S_code_op:TZ P T.ap 1 24 (.slice none 0 0):=⟨by kernel_rfl⟩
instance g_S_code_op:TG P T.ap false:=⟨by kernel_rfl⟩
instance s_S_code_op:TS P T.ap 225:=⟨by kernel_rfl⟩
instance z_uint32:TZ P T.ay 1 4 (.int .u32 0):=⟨by kernel_rfl⟩
instance g_uint32:TG P T.ay false:=⟨by kernel_rfl⟩
end Go.Proofs.YtjdiakhipmggjaaGreatDoor

namespace Go.Emb
theorem aS {p:Prop} (h:p:=by (first | assumption | exact Stp.sat (by assumption) | exact Hst.sat (by assumption))):p:=h
theorem aL {p:Prop} (h:p:=by (first | assumption | exact Sl.lift (by assumption) (by (repeat (first | exact SLe.refl _ | refine SLe.more ?_ (by assumption) | refine SLe.more ?_ (Nxt.le (by assumption)) | refine SLe.step ?_ (by assumption)))) | exact Z3.lift (by assumption) (by (repeat (first | exact SLe.refl _ | refine SLe.more ?_ (by assumption) | refine SLe.more ?_ (Nxt.le (by assumption)) | refine SLe.step ?_ (by assumption)))) | exact T2.lift (by assumption) (by (repeat (first | exact SLe.refl _ | refine SLe.more ?_ (by assumption) | refine SLe.more ?_ (Nxt.le (by assumption)) | refine SLe.step ?_ (by assumption)))) | exact RCl_lift (by assumption) (by (repeat (first | exact SLe.refl _ | refine SLe.more ?_ (by assumption) | refine SLe.more ?_ (Nxt.le (by assumption)) | refine SLe.step ?_ (by assumption)))) | exact RMe_lift (by assumption) (by (repeat (first | exact SLe.refl _ | refine SLe.more ?_ (by assumption) | refine SLe.more ?_ (Nxt.le (by assumption)) | refine SLe.step ?_ (by assumption)))) | exact Glb.lift (by assumption) (by (repeat (first | exact SLe.refl _ | refine SLe.more ?_ (by assumption) | refine SLe.more ?_ (Nxt.le (by assumption)) | refine SLe.step ?_ (by assumption)))) | exact Tab.lift (by assumption) (by (repeat (first | exact SLe.refl _ | refine SLe.more ?_ (by assumption) | refine SLe.more ?_ (Nxt.le (by assumption)) | refine SLe.step ?_ (by assumption)))) | exact RIn_any (by assumption) | exact RFd_any (by assumption) | exact RCa_any (by assumption))):p:=h
theorem aR {p:Prop} (h:p:=by with_unfolding_all rfl):p:=h
theorem aF {p:Prop} (a:p:=by (refine Eq.subst (motive:=fun b=>K b _) ?_ (h _ _ (by (repeat (first | exact Stp.refl (by (first | assumption | exact Stp.sat (by assumption) | exact Hst.sat (by assumption))) | assumption | refine Stp.trans ?_ (by first | assumption | exact Hst.stp (by assumption))))));clear h;(try clear hA);(try clear hB);(try clear hC);first | rfl | ((try simp only[Bool.not_eq_true',Bool.not_eq_false',Bool.not_true,Bool.not_false,Bool.not_eq_true] at*);simp only[*,Mb,reduceIte];done) | (simp[*];done) | simp_all)):p:=a
theorem au {p:Prop} (h:p:=by (first | assumption | (first | assumption | exact Stp.sat (by assumption) | exact Hst.sat (by assumption)) | (first | assumption | exact Sl.lift (by assumption) (by (repeat (first | exact SLe.refl _ | refine SLe.more ?_ (by assumption) | refine SLe.more ?_ (Nxt.le (by assumption)) | refine SLe.step ?_ (by assumption)))) | exact Z3.lift (by assumption) (by (repeat (first | exact SLe.refl _ | refine SLe.more ?_ (by assumption) | refine SLe.more ?_ (Nxt.le (by assumption)) | refine SLe.step ?_ (by assumption)))) | exact T2.lift (by assumption) (by (repeat (first | exact SLe.refl _ | refine SLe.more ?_ (by assumption) | refine SLe.more ?_ (Nxt.le (by assumption)) | refine SLe.step ?_ (by assumption)))) | exact RCl_lift (by assumption) (by (repeat (first | exact SLe.refl _ | refine SLe.more ?_ (by assumption) | refine SLe.more ?_ (Nxt.le (by assumption)) | refine SLe.step ?_ (by assumption)))) | exact RMe_lift (by assumption) (by (repeat (first | exact SLe.refl _ | refine SLe.more ?_ (by assumption) | refine SLe.more ?_ (Nxt.le (by assumption)) | refine SLe.step ?_ (by assumption)))) | exact Glb.lift (by assumption) (by (repeat (first | exact SLe.refl _ | refine SLe.more ?_ (by assumption) | refine SLe.more ?_ (Nxt.le (by assumption)) | refine SLe.step ?_ (by assumption)))) | exact Tab.lift (by assumption) (by (repeat (first | exact SLe.refl _ | refine SLe.more ?_ (by assumption) | refine SLe.more ?_ (Nxt.le (by assumption)) | refine SLe.step ?_ (by assumption)))) | exact RIn_any (by assumption) | exact RFd_any (by assumption) | exact RCa_any (by assumption)) | exact Nat.le_trans (by assumption) (by decide) | omega)):p:=h
end Go.Emb
namespace Go.Proofs.YtjdiakhipmggjaaGreatDoor
open Go.Emb
theorem X1q {a:List UInt8} {cs:List Bool} {r:TypeId} {w:World} {K:Value→World→Prop}:X6 P .len [T.b] r cs [S a] w K=K (I a.length) w:=O8 X9
theorem X1o {c d:Operand} {a b:Bool} {w:World} {K:Value→World→Prop}:Q3 P .eql T.q c d (.bool a) (.bool b) w K=K (.bool (a==b)) w:=Q3E Q16
theorem X1i {c d:Operand} {a b:Bool} {w:World} {K:Value→World→Prop}:Q3 P .neq T.q c d (.bool a) (.bool b) w K=K (.bool (!(a==b))) w:=Q3O Q16
def Mm:=And.intro @fa <| And.intro @L4 <| And.intro @Qb <| And.intro @X1q <| And.intro @X1o @X1i
def M1:=And.intro Mm Mr
def M2:=And.intro Mm Mp
end Go.Proofs.YtjdiakhipmggjaaGreatDoor

namespace Go.Proofs.YtjdiakhipmggjaaGreatDoor
open Go.Emb Go.RowKit Go.Kd Go.Hm
variable {w : World} {K : Value → World → Prop} {σ : Q4}
def Jz (m:Hm.Met):Bool:=decide (32<m.params.length)||decide (32<m.catches.length)||decide (200<m.code.length)||decide (64<m.locals)
def Xr (c:Cla):Bool:=c.methods.any Jz||decide (32<c.like.length)||decide (32<c.fields.length)||decide (32<c.methods.length)
theorem X0F {c : Cla} {cs : List Value} (hs : X4 w σ) (hc : U4 σ c cs) (h : ∀ w', Below w.heap.size w w' → K (.bool (Xr c)) w') : Q1 P F.cn [.agg cs.toArray] w K := Q3k (by
  obtain ⟨lv, fv, mv, rfl, hl, hf, hm, hn, hsu⟩ := hc
  unfold Tg
  refine L8 hs fun a w1 σ1 hk ha => ?_
  have hs := hk.sat
  replace hl := hl.up hk
  replace hf := hf.up hk
  replace hm := hm.up hk
  simp only [Value.cells] at ha
  ((try simp only [↓M1, M1, Mb, reduceIte]); repeat ((first | refine ld (by assumption) (by assumption) rfl ?_ | refine X8 (by assumption) (by assumption) rfl ?_ | refine Q9 (by assumption) ?_); (try simp only [↓M1, M1, Mb, reduceIte])))
  refine U3 c.methods.length (fun n w' => Below w1.heap.size w1 w' ∧ ((c.methods.take n).any Jz) = false) ⟨Below.refl _ _, by simp⟩ fun n w2 d hn hi => ?_
  obtain ⟨hb, hp⟩ := hi
  have hs2 := hs.below hb
  ((try simp only [↓M1, M1, Mb, reduceIte]); repeat ((first | refine ld (by assumption) (by assumption) rfl ?_ | refine X8 (by assumption) (by assumption) rfl ?_ | refine Q9 (by assumption) ?_); (try simp only [↓M1, M1, Mb, reduceIte])))
  refine Q5 (fun hc => ?_) (fun hc => ?_)
  · have hn' : n < c.methods.length := by simpa using hc
    refine W7 hm hn' fun p cs hl1 hlen hr => ?_
    refine Y4 hs2 hl1 hlen ?_
    refine Y1 hs2 (by rfl) hlen (Rep.one hr) fun q w3 σ3 hk3 hq => ?_
    obtain ⟨pv, cv, hv, rfl, g1, g2, g3, g4⟩ := hr
    have hs3 := hk3.sat
    replace g1 := g1.up hk3
    replace g2 := g2.up hk3
    replace g3 := g3.up hk3
    ((try simp only [↓M1, M1, Mb, reduceIte]); repeat ((first | refine ld (by assumption) (by assumption) rfl ?_ | refine X8 (by assumption) (by assumption) rfl ?_ | refine Q9 (by assumption) ?_); (try simp only [↓M1, M1, Mb, reduceIte])))
    (repeat' ((first | refine Y7 (fun hh => ?_) (fun hh => ?_) | refine Q5 (fun hh => ?_) (fun hh => ?_)) <;> (try simp only [hh, Bool.not_true, Bool.not_false, ↓M1, M1, Mb, reduceIte]) <;> ((try simp only [↓M1, M1, Mb, reduceIte]); repeat ((first | refine ld (by assumption) (by assumption) rfl ?_ | refine X8 (by assumption) (by assumption) rfl ?_ | refine Q9 (by assumption) ?_); (try simp only [↓M1, M1, Mb, reduceIte])))))
    all_goals first
      | refine Y3 hm.max hn' ⟨bt hb hk3.bel, ?_⟩
        rw [L6 hn', hp]; simp only [Jz]; (first | (simp only [decide_eq_true_eq, decide_eq_false_iff_not, Bool.not_true, Bool.not_false, Bool.not_eq_true', Bool.not_eq_false', Bool.or_eq_true, Bool.and_eq_true, Bool.or_eq_false_iff, Bool.and_eq_false_iff, Bool.false_or, Bool.true_and, Bool.or_false, Bool.and_true] at *; first | omega | (and_intros <;> omega)) | (rw [Bool.eq_iff_iff]; (simp only [decide_eq_true_eq, decide_eq_false_iff_not, Bool.not_true, Bool.not_false, Bool.not_eq_true', Bool.not_eq_false', Bool.or_eq_true, Bool.and_eq_true, Bool.or_eq_false_iff, Bool.and_eq_false_iff, Bool.false_or, Bool.true_and, Bool.or_false, Bool.and_true] at *; first | omega | (and_intros <;> omega))))
      | have e : Xr c = true := by
          have : Jz c.methods[n] = true := by simp only [Jz]; (first | (simp only [decide_eq_true_eq, decide_eq_false_iff_not, Bool.not_true, Bool.not_false, Bool.not_eq_true', Bool.not_eq_false', Bool.or_eq_true, Bool.and_eq_true, Bool.or_eq_false_iff, Bool.and_eq_false_iff, Bool.false_or, Bool.true_and, Bool.or_false, Bool.and_true] at *; first | omega | (and_intros <;> omega)) | (rw [Bool.eq_iff_iff]; (simp only [decide_eq_true_eq, decide_eq_false_iff_not, Bool.not_true, Bool.not_false, Bool.not_eq_true', Bool.not_eq_false', Bool.or_eq_true, Bool.and_eq_true, Bool.or_eq_false_iff, Bool.and_eq_false_iff, Bool.false_or, Bool.true_and, Bool.or_false, Bool.and_true] at *; first | omega | (and_intros <;> omega))))
          simp [Xr, R7 hn' this]
        rw [← e]; exact h _ (bt hk.bel (bt hb hk3.bel))
  · have hn' : ¬ n < c.methods.length := by simpa using hc
    rw [O3 hn'] at hp
    have h := h w2 (bt hk.bel hb)
    ((try simp only [↓M1, M1, Mb, reduceIte]); repeat ((first | refine ld (by assumption) (by assumption) rfl ?_ | refine X8 (by assumption) (by assumption) rfl ?_ | refine Q9 (by assumption) ?_); (try simp only [↓M1, M1, Mb, reduceIte])))
    (repeat' ((first | refine Y7 (fun hh => ?_) (fun hh => ?_) | refine Q5 (fun hh => ?_) (fun hh => ?_)) <;> (try simp only [hh, Bool.not_true, Bool.not_false, ↓M1, M1, Mb, reduceIte]) <;> ((try simp only [↓M1, M1, Mb, reduceIte]); repeat ((first | refine ld (by assumption) (by assumption) rfl ?_ | refine X8 (by assumption) (by assumption) rfl ?_ | refine Q9 (by assumption) ?_); (try simp only [↓M1, M1, Mb, reduceIte])))))
    all_goals
      refine Eq.subst (motive := fun b => K (.bool b) w2) ?_ h
      simp only [Xr, hp]
      (first | (simp only [decide_eq_true_eq, decide_eq_false_iff_not, Bool.not_true, Bool.not_false, Bool.not_eq_true', Bool.not_eq_false', Bool.or_eq_true, Bool.and_eq_true, Bool.or_eq_false_iff, Bool.and_eq_false_iff, Bool.false_or, Bool.true_and, Bool.or_false, Bool.and_true] at *; first | omega | (and_intros <;> omega)) | (rw [Bool.eq_iff_iff]; (simp only [decide_eq_true_eq, decide_eq_false_iff_not, Bool.not_true, Bool.not_false, Bool.not_eq_true', Bool.not_eq_false', Bool.or_eq_true, Bool.and_eq_true, Bool.or_eq_false_iff, Bool.and_eq_false_iff, Bool.false_or, Bool.true_and, Bool.or_false, Bool.and_true] at *; first | omega | (and_intros <;> omega)))))
end Go.Proofs.YtjdiakhipmggjaaGreatDoor

namespace Go.Emb
open Go.RowKit Go.Hm
variable {H : Type} {enc : TypeId × Value → H} {P : Program} {W : World} {t : TypeId} {cs : List Value} {fuel : Nat} {x : DataW H × List MemPlace}
def Q3b (W:World):Q4:=fun b=>W.heap[b]?
theorem Q7G:X4 W (Q3b W):=fun b o h=>h
theorem Q9v {α:Type} {l:List α} (h:l.length=3): ∃a b c,l=[a,b,c]:=by
 match l,h with
 | [a,b,c],_=>exact ⟨a,b,c,rfl⟩
end Go.Emb
namespace Go.Proofs.YtjdiakhipmggjaaGreatDoor
open Go.Emb Go.RowKit Go.Kd Go.Hm
variable {H : Type} {enc : TypeId × Value → H} {W : World} {cs : List Value} {fuel : Nat} {x : DataW H × List MemPlace}
theorem Q3Q:P.cellsOf T.b=1:=by kernel_rfl
theorem X0v:P.cellsOf T.q=1:=by kernel_rfl
end Go.Proofs.YtjdiakhipmggjaaGreatDoor

namespace Go.Emb
def Z5 {α β:Type} (a:β→α→Bool×β):β→List α→Nat→Option Nat×β
 | s,[],_=>(none,s)
 | s,x::xs,i=>if (a s x).1 then (some i,(a s x).2) else Z5 a (a s x).2 xs (i+1)
def W0 (o:Option Nat):Int:=match o with | some i=>i | none=> -1
theorem F0 {α:Type} (p:α→Bool): ∀(xs:List α) (i:Nat),(Z5 (fun (_:Unit) x=>(p x,())) () xs i).1=(xs.findIdx? p).map (· +i):=by
 intro xs
 induction xs with
 | nil=>intro i;rfl
 | cons x r ih=>
  intro i
  rw[List.findIdx?_cons]
  simp only[Z5]
  cases p x with
  | true=>simp
  | false=>
   simp only[Bool.false_eq_true,if_false]
   rw[ih (i+1),Option.map_map]
   congr 1;funext n;simp only[Function.comp];omega
theorem Ef {α β:Type} (a:β→α→Bool×β) (s:β) (xs:List α) (i:Nat):decide ((0:Int)≤W0 (Z5 a s xs i).1)=(Z5 a s xs i).1.isSome:=by
 cases (Z5 a s xs i).1<;>simp[W0]
end Go.Emb
namespace Go.Proofs.YtjdiakhipmggjaaGreatDoor
open Go.Emb Go.RowKit Go.Kd Go.Hm
variable {w : World} {K : Value → World → Prop} {σ : Q4}
theorem Js {β:Type} {xs:List Hm.Met} {v f:Value} (b:β→Hm.Met→Bool×β) (k:β) (a:β→World→Prop) (D:Nat→Prop) (m: ∀s w,a s w→X4 w σ) (z:a k w) (u:Sl 7 L9 σ v xs)
 (C: ∀s x cs (w1:World) (K:Value→World→Prop),x∈xs→Kpt D w w1→a s w1→L9 σ x cs→cs.length=7→(∀w',Kpt D w w'→a (b s x).2 w'→K (.bool (b s x).1) w')→Y6 P f [.agg cs.toArray] w1 K)
 (h: ∀w',Kpt D w w'→a (Z5 b k xs 0).2 w'→K (I (W0 (Z5 b k xs 0).1)) w'):Q1 P F.f [v,f] w K:=A7 (by
 unfold H2
 ((try simp only[↓M1,M1,Mb,reduceIte]);repeat ((first | refine ld (by assumption) (by assumption) rfl ?_ | refine X8 (by assumption) (by assumption) rfl ?_ | refine Q9 (by assumption) ?_);(try simp only[↓M1,M1,Mb,reduceIte])))
 refine U3 xs.length (fun n w'=>Kpt D w w'∧ ∃s,a s w'∧Z5 b k xs 0=Z5 b s (xs.drop n) n) ⟨Kpt.refl,k,z,rfl⟩ fun n w1 d E j=>?_
 obtain ⟨t,s,j,e⟩:=j
 have o:=m s w1 j
 ((try simp only[↓M1,M1,Mb,reduceIte]);repeat ((first | refine ld (by assumption) (by assumption) rfl ?_ | refine X8 (by assumption) (by assumption) rfl ?_ | refine Q9 (by assumption) ?_);(try simp only[↓M1,M1,Mb,reduceIte])))
 refine Q5 (fun r=>?_) (fun r=>?_)
 ·have c:n<xs.length:=by simpa using r
  refine W7 u c fun p cs y g B=>?_
  refine Y4 o y g ?_
  refine C s xs[n] cs w1 _ (List.getElem_mem c) t j B g fun A l i=>?_
  rw[List.drop_eq_getElem_cons c] at e
  simp only[Z5] at e
  refine Q5 (fun q=>?_) (fun q=>?_)
  ·rw[q] at e
   have:=h A l
   rw[e] at this
   exact this i
  ·rw[q] at e
   ((try simp only[↓M1,M1,Mb,reduceIte]);repeat ((first | refine ld (by assumption) (by assumption) rfl ?_ | refine X8 (by assumption) (by assumption) rfl ?_ | refine Q9 (by assumption) ?_);(try simp only[↓M1,M1,Mb,reduceIte])))
   exact Y3 u.max c ⟨l,_,i,by simpa using e⟩
 ·have c: ¬n<xs.length:=by simpa using r
  rw[List.drop_eq_nil_of_le (by omega)] at e
  have:=h w1 t
  rw[e] at this
  exact this j)
theorem Xu {β:Type} {xs:List Hm.Met} {v f:Value} (b:β→Hm.Met→Bool×β) (d:β) (a:β→World→Prop) (D:Nat→Prop) (c: ∀s w,a s w→X4 w σ) (g:a d w) (i:Sl 7 L9 σ v xs)
 (k: ∀s x cs (w1:World) (K:Value→World→Prop),x∈xs→Kpt D w w1→a s w1→L9 σ x cs→cs.length=7→(∀w',Kpt D w w'→a (b s x).2 w'→K (.bool (b s x).1) w')→Y6 P f [.agg cs.toArray] w1 K)
 (h: ∀w',Kpt D w w'→a (Z5 b d xs 0).2 w'→K (.bool (Z5 b d xs 0).1.isSome) w'):Q1 P F.a [v,f] w K:=K3 (by
 unfold D2
 refine Js b d a D c g i k fun w1 e j=>?_
 (try simp only[↓M1,M1,Mb,reduceIte])
 rw[Ef]
 exact h w1 e j)
theorem Ri {xs:List Hm.Met} {v f:Value} (p:Hm.Met→Bool) (hs:X4 w σ) (hv:Sl 7 L9 σ v xs)
 (hf: ∀x cs (w1:World) (K:Value→World→Prop),x∈xs→X4 w1 σ→L9 σ x cs→cs.length=7→(∀w',Below w1.heap.size w1 w'→K (.bool (p x)) w')→Y6 P f [.agg cs.toArray] w1 K)
 (h: ∀w',Below w.heap.size w w'→K (I (W0 (xs.findIdx? p))) w'):Q1 P F.f [v,f] w K:=by
 refine Js (fun (_:Unit) x=>(p x,())) () (fun _ w'=>Below w.heap.size w w') (fun _=>False) (fun _ w' hb=>hs.below hb) (Below.refl _ _) hv (fun s x cs w1 K hx hk hi hr hl hK=>hf x cs w1 K hx (hs.below hi) hr hl fun w' hb=>hK w' (.of_below (bt hi hb)) (bt hi hb)) fun w' hk hi=>?_
 rw[F0]
 simpa using h w' hi
theorem H3 {xs:List Hm.Met} {v f:Value} (p:Hm.Met→Bool) (hs:X4 w σ) (hv:Sl 7 L9 σ v xs)
 (hf: ∀x cs (w1:World) (K:Value→World→Prop),x∈xs→X4 w1 σ→L9 σ x cs→cs.length=7→(∀w',Below w1.heap.size w1 w'→K (.bool (p x)) w')→Y6 P f [.agg cs.toArray] w1 K)
 (h: ∀w',Below w.heap.size w w'→K (.bool (xs.any p)) w'):Q1 P F.a [v,f] w K:=by
 refine Xu (fun (_:Unit) x=>(p x,())) () (fun _ w'=>Below w.heap.size w w') (fun _=>False) (fun _ w' hb=>hs.below hb) (Below.refl _ _) hv (fun s x cs w1 K hx hk hi hr hl hK=>hf x cs w1 K hx (hs.below hi) hr hl fun w' hb=>hK w' (.of_below (bt hi hb)) (bt hi hb)) fun w' hk hi=>?_
 rw[F0]
 simpa using h w' hi
theorem Ur {β:Type} {xs:List Fld} {v f:Value} (b:β→Fld→Bool×β) (k:β) (a:β→World→Prop) (D:Nat→Prop) (m: ∀s w,a s w→X4 w σ) (z:a k w) (u:Sl 3 O4 σ v xs)
 (C: ∀s x cs (w1:World) (K:Value→World→Prop),x∈xs→Kpt D w w1→a s w1→O4 σ x cs→cs.length=3→(∀w',Kpt D w w'→a (b s x).2 w'→K (.bool (b s x).1) w')→Y6 P f [.agg cs.toArray] w1 K)
 (h: ∀w',Kpt D w w'→a (Z5 b k xs 0).2 w'→K (I (W0 (Z5 b k xs 0).1)) w'):Q1 P F.i [v,f] w K:=Qs (by
 unfold R3
 ((try simp only[↓M1,M1,Mb,reduceIte]);repeat ((first | refine ld (by assumption) (by assumption) rfl ?_ | refine X8 (by assumption) (by assumption) rfl ?_ | refine Q9 (by assumption) ?_);(try simp only[↓M1,M1,Mb,reduceIte])))
 refine U3 xs.length (fun n w'=>Kpt D w w'∧ ∃s,a s w'∧Z5 b k xs 0=Z5 b s (xs.drop n) n) ⟨Kpt.refl,k,z,rfl⟩ fun n w1 d E j=>?_
 obtain ⟨t,s,j,e⟩:=j
 have o:=m s w1 j
 ((try simp only[↓M1,M1,Mb,reduceIte]);repeat ((first | refine ld (by assumption) (by assumption) rfl ?_ | refine X8 (by assumption) (by assumption) rfl ?_ | refine Q9 (by assumption) ?_);(try simp only[↓M1,M1,Mb,reduceIte])))
 refine Q5 (fun r=>?_) (fun r=>?_)
 ·have c:n<xs.length:=by simpa using r
  refine W7 u c fun p cs y g B=>?_
  refine Y4 o y g ?_
  refine C s xs[n] cs w1 _ (List.getElem_mem c) t j B g fun A l i=>?_
  rw[List.drop_eq_getElem_cons c] at e
  simp only[Z5] at e
  refine Q5 (fun q=>?_) (fun q=>?_)
  ·rw[q] at e
   have:=h A l
   rw[e] at this
   exact this i
  ·rw[q] at e
   ((try simp only[↓M1,M1,Mb,reduceIte]);repeat ((first | refine ld (by assumption) (by assumption) rfl ?_ | refine X8 (by assumption) (by assumption) rfl ?_ | refine Q9 (by assumption) ?_);(try simp only[↓M1,M1,Mb,reduceIte])))
   exact Y3 u.max c ⟨l,_,i,by simpa using e⟩
 ·have c: ¬n<xs.length:=by simpa using r
  rw[List.drop_eq_nil_of_le (by omega)] at e
  have:=h w1 t
  rw[e] at this
  exact this j)
theorem Ec {β:Type} {xs:List Fld} {v f:Value} (b:β→Fld→Bool×β) (d:β) (a:β→World→Prop) (D:Nat→Prop) (c: ∀s w,a s w→X4 w σ) (g:a d w) (i:Sl 3 O4 σ v xs)
 (k: ∀s x cs (w1:World) (K:Value→World→Prop),x∈xs→Kpt D w w1→a s w1→O4 σ x cs→cs.length=3→(∀w',Kpt D w w'→a (b s x).2 w'→K (.bool (b s x).1) w')→Y6 P f [.agg cs.toArray] w1 K)
 (h: ∀w',Kpt D w w'→a (Z5 b d xs 0).2 w'→K (.bool (Z5 b d xs 0).1.isSome) w'):Q1 P F.e [v,f] w K:=P9 (by
 unfold E8
 refine Ur b d a D c g i k fun w1 e j=>?_
 (try simp only[↓M1,M1,Mb,reduceIte])
 rw[Ef]
 exact h w1 e j)
theorem Sk {xs:List Fld} {v f:Value} (p:Fld→Bool) (hs:X4 w σ) (hv:Sl 3 O4 σ v xs)
 (hf: ∀x cs (w1:World) (K:Value→World→Prop),x∈xs→X4 w1 σ→O4 σ x cs→cs.length=3→(∀w',Below w1.heap.size w1 w'→K (.bool (p x)) w')→Y6 P f [.agg cs.toArray] w1 K)
 (h: ∀w',Below w.heap.size w w'→K (I (W0 (xs.findIdx? p))) w'):Q1 P F.i [v,f] w K:=by
 refine Ur (fun (_:Unit) x=>(p x,())) () (fun _ w'=>Below w.heap.size w w') (fun _=>False) (fun _ w' hb=>hs.below hb) (Below.refl _ _) hv (fun s x cs w1 K hx hk hi hr hl hK=>hf x cs w1 K hx (hs.below hi) hr hl fun w' hb=>hK w' (.of_below (bt hi hb)) (bt hi hb)) fun w' hk hi=>?_
 rw[F0]
 simpa using h w' hi
theorem Yv {xs:List Fld} {v f:Value} (p:Fld→Bool) (hs:X4 w σ) (hv:Sl 3 O4 σ v xs)
 (hf: ∀x cs (w1:World) (K:Value→World→Prop),x∈xs→X4 w1 σ→O4 σ x cs→cs.length=3→(∀w',Below w1.heap.size w1 w'→K (.bool (p x)) w')→Y6 P f [.agg cs.toArray] w1 K)
 (h: ∀w',Below w.heap.size w w'→K (.bool (xs.any p)) w'):Q1 P F.e [v,f] w K:=by
 refine Ec (fun (_:Unit) x=>(p x,())) () (fun _ w'=>Below w.heap.size w w') (fun _=>False) (fun _ w' hb=>hs.below hb) (Below.refl _ _) hv (fun s x cs w1 K hx hk hi hr hl hK=>hf x cs w1 K hx (hs.below hi) hr hl fun w' hb=>hK w' (.of_below (bt hi hb)) (bt hi hb)) fun w' hk hi=>?_
 rw[F0]
 simpa using h w' hi
theorem Cc {β:Type} {xs:List Ins} {v f:Value} (b:β→Ins→Bool×β) (k:β) (a:β→World→Prop) (D:Nat→Prop) (m: ∀s w,a s w→X4 w σ) (z:a k w) (u:Sl 3 G8 σ v xs)
 (C: ∀s x cs (w1:World) (K:Value→World→Prop),x∈xs→Kpt D w w1→a s w1→G8 σ x cs→cs.length=3→(∀w',Kpt D w w'→a (b s x).2 w'→K (.bool (b s x).1) w')→Y6 P f [.agg cs.toArray] w1 K)
 (h: ∀w',Kpt D w w'→a (Z5 b k xs 0).2 w'→K (I (W0 (Z5 b k xs 0).1)) w'):Q1 P F.a0 [v,f] w K:=Qw (by
 unfold R4
 ((try simp only[↓M1,M1,Mb,reduceIte]);repeat ((first | refine ld (by assumption) (by assumption) rfl ?_ | refine X8 (by assumption) (by assumption) rfl ?_ | refine Q9 (by assumption) ?_);(try simp only[↓M1,M1,Mb,reduceIte])))
 refine U3 xs.length (fun n w'=>Kpt D w w'∧ ∃s,a s w'∧Z5 b k xs 0=Z5 b s (xs.drop n) n) ⟨Kpt.refl,k,z,rfl⟩ fun n w1 d E j=>?_
 obtain ⟨t,s,j,e⟩:=j
 have o:=m s w1 j
 ((try simp only[↓M1,M1,Mb,reduceIte]);repeat ((first | refine ld (by assumption) (by assumption) rfl ?_ | refine X8 (by assumption) (by assumption) rfl ?_ | refine Q9 (by assumption) ?_);(try simp only[↓M1,M1,Mb,reduceIte])))
 refine Q5 (fun r=>?_) (fun r=>?_)
 ·have c:n<xs.length:=by simpa using r
  refine W7 u c fun p cs y g B=>?_
  refine Y4 o y g ?_
  refine C s xs[n] cs w1 _ (List.getElem_mem c) t j B g fun A l i=>?_
  rw[List.drop_eq_getElem_cons c] at e
  simp only[Z5] at e
  refine Q5 (fun q=>?_) (fun q=>?_)
  ·rw[q] at e
   have:=h A l
   rw[e] at this
   exact this i
  ·rw[q] at e
   ((try simp only[↓M1,M1,Mb,reduceIte]);repeat ((first | refine ld (by assumption) (by assumption) rfl ?_ | refine X8 (by assumption) (by assumption) rfl ?_ | refine Q9 (by assumption) ?_);(try simp only[↓M1,M1,Mb,reduceIte])))
   exact Y3 u.max c ⟨l,_,i,by simpa using e⟩
 ·have c: ¬n<xs.length:=by simpa using r
  rw[List.drop_eq_nil_of_le (by omega)] at e
  have:=h w1 t
  rw[e] at this
  exact this j)
theorem Dr {β:Type} {xs:List Ins} {v f:Value} (b:β→Ins→Bool×β) (d:β) (a:β→World→Prop) (D:Nat→Prop) (c: ∀s w,a s w→X4 w σ) (g:a d w) (i:Sl 3 G8 σ v xs)
 (k: ∀s x cs (w1:World) (K:Value→World→Prop),x∈xs→Kpt D w w1→a s w1→G8 σ x cs→cs.length=3→(∀w',Kpt D w w'→a (b s x).2 w'→K (.bool (b s x).1) w')→Y6 P f [.agg cs.toArray] w1 K)
 (h: ∀w',Kpt D w w'→a (Z5 b d xs 0).2 w'→K (.bool (Z5 b d xs 0).1.isSome) w'):Q1 P F.k [v,f] w K:=P8 (by
 unfold E7
 refine Cc b d a D c g i k fun w1 e j=>?_
 (try simp only[↓M1,M1,Mb,reduceIte])
 rw[Ef]
 exact h w1 e j)
theorem Ei {xs:List Ins} {v f:Value} (p:Ins→Bool) (hs:X4 w σ) (hv:Sl 3 G8 σ v xs)
 (hf: ∀x cs (w1:World) (K:Value→World→Prop),x∈xs→X4 w1 σ→G8 σ x cs→cs.length=3→(∀w',Below w1.heap.size w1 w'→K (.bool (p x)) w')→Y6 P f [.agg cs.toArray] w1 K)
 (h: ∀w',Below w.heap.size w w'→K (.bool (xs.any p)) w'):Q1 P F.k [v,f] w K:=by
 refine Dr (fun (_:Unit) x=>(p x,())) () (fun _ w'=>Below w.heap.size w w') (fun _=>False) (fun _ w' hb=>hs.below hb) (Below.refl _ _) hv (fun s x cs w1 K hx hk hi hr hl hK=>hf x cs w1 K hx (hs.below hi) hr hl fun w' hb=>hK w' (.of_below (bt hi hb)) (bt hi hb)) fun w' hk hi=>?_
 rw[F0]
 simpa using h w' hi
theorem Sd {β:Type} {xs:List Cat} {v f:Value} (b:β→Cat→Bool×β) (k:β) (a:β→World→Prop) (D:Nat→Prop) (m: ∀s w,a s w→X4 w σ) (z:a k w) (u:Sl 4 Zc σ v xs)
 (C: ∀s x cs (w1:World) (K:Value→World→Prop),x∈xs→Kpt D w w1→a s w1→Zc σ x cs→cs.length=4→(∀w',Kpt D w w'→a (b s x).2 w'→K (.bool (b s x).1) w')→Y6 P f [.agg cs.toArray] w1 K)
 (h: ∀w',Kpt D w w'→a (Z5 b k xs 0).2 w'→K (I (W0 (Z5 b k xs 0).1)) w'):Q1 P F.a1 [v,f] w K:=Qp (by
 unfold H7
 ((try simp only[↓M1,M1,Mb,reduceIte]);repeat ((first | refine ld (by assumption) (by assumption) rfl ?_ | refine X8 (by assumption) (by assumption) rfl ?_ | refine Q9 (by assumption) ?_);(try simp only[↓M1,M1,Mb,reduceIte])))
 refine U3 xs.length (fun n w'=>Kpt D w w'∧ ∃s,a s w'∧Z5 b k xs 0=Z5 b s (xs.drop n) n) ⟨Kpt.refl,k,z,rfl⟩ fun n w1 d E j=>?_
 obtain ⟨t,s,j,e⟩:=j
 have o:=m s w1 j
 ((try simp only[↓M1,M1,Mb,reduceIte]);repeat ((first | refine ld (by assumption) (by assumption) rfl ?_ | refine X8 (by assumption) (by assumption) rfl ?_ | refine Q9 (by assumption) ?_);(try simp only[↓M1,M1,Mb,reduceIte])))
 refine Q5 (fun r=>?_) (fun r=>?_)
 ·have c:n<xs.length:=by simpa using r
  refine W7 u c fun p cs y g B=>?_
  refine Y4 o y g ?_
  refine C s xs[n] cs w1 _ (List.getElem_mem c) t j B g fun A l i=>?_
  rw[List.drop_eq_getElem_cons c] at e
  simp only[Z5] at e
  refine Q5 (fun q=>?_) (fun q=>?_)
  ·rw[q] at e
   have:=h A l
   rw[e] at this
   exact this i
  ·rw[q] at e
   ((try simp only[↓M1,M1,Mb,reduceIte]);repeat ((first | refine ld (by assumption) (by assumption) rfl ?_ | refine X8 (by assumption) (by assumption) rfl ?_ | refine Q9 (by assumption) ?_);(try simp only[↓M1,M1,Mb,reduceIte])))
   exact Y3 u.max c ⟨l,_,i,by simpa using e⟩
 ·have c: ¬n<xs.length:=by simpa using r
  rw[List.drop_eq_nil_of_le (by omega)] at e
  have:=h w1 t
  rw[e] at this
  exact this j)
theorem Eo {β:Type} {xs:List Cat} {v f:Value} (b:β→Cat→Bool×β) (d:β) (a:β→World→Prop) (D:Nat→Prop) (c: ∀s w,a s w→X4 w σ) (g:a d w) (i:Sl 4 Zc σ v xs)
 (k: ∀s x cs (w1:World) (K:Value→World→Prop),x∈xs→Kpt D w w1→a s w1→Zc σ x cs→cs.length=4→(∀w',Kpt D w w'→a (b s x).2 w'→K (.bool (b s x).1) w')→Y6 P f [.agg cs.toArray] w1 K)
 (h: ∀w',Kpt D w w'→a (Z5 b d xs 0).2 w'→K (.bool (Z5 b d xs 0).1.isSome) w'):Q1 P F.l [v,f] w K:=P7 (by
 unfold E6
 refine Sd b d a D c g i k fun w1 e j=>?_
 (try simp only[↓M1,M1,Mb,reduceIte])
 rw[Ef]
 exact h w1 e j)
theorem Ex {xs:List Cat} {v f:Value} (p:Cat→Bool) (hs:X4 w σ) (hv:Sl 4 Zc σ v xs)
 (hf: ∀x cs (w1:World) (K:Value→World→Prop),x∈xs→X4 w1 σ→Zc σ x cs→cs.length=4→(∀w',Below w1.heap.size w1 w'→K (.bool (p x)) w')→Y6 P f [.agg cs.toArray] w1 K)
 (h: ∀w',Below w.heap.size w w'→K (.bool (xs.any p)) w'):Q1 P F.l [v,f] w K:=by
 refine Eo (fun (_:Unit) x=>(p x,())) () (fun _ w'=>Below w.heap.size w w') (fun _=>False) (fun _ w' hb=>hs.below hb) (Below.refl _ _) hv (fun s x cs w1 K hx hk hi hr hl hK=>hf x cs w1 K hx (hs.below hi) hr hl fun w' hb=>hK w' (.of_below (bt hi hb)) (bt hi hb)) fun w' hk hi=>?_
 rw[F0]
 simpa using h w' hi
theorem Ry {β:Type} {xs:List Cla} {v f:Value} (b:β→Cla→Bool×β) (k:β) (a:β→World→Prop) (D:Nat→Prop) (m: ∀s w,a s w→X4 w σ) (z:a k w) (u:Sl 8 U4 σ v xs)
 (C: ∀s x cs (w1:World) (K:Value→World→Prop),x∈xs→Kpt D w w1→a s w1→U4 σ x cs→cs.length=8→(∀w',Kpt D w w'→a (b s x).2 w'→K (.bool (b s x).1) w')→Y6 P f [.agg cs.toArray] w1 K)
 (h: ∀w',Kpt D w w'→a (Z5 b k xs 0).2 w'→K (I (W0 (Z5 b k xs 0).1)) w'):Q1 P F.n [v,f] w K:=Qo (by
 unfold R0
 ((try simp only[↓M1,M1,Mb,reduceIte]);repeat ((first | refine ld (by assumption) (by assumption) rfl ?_ | refine X8 (by assumption) (by assumption) rfl ?_ | refine Q9 (by assumption) ?_);(try simp only[↓M1,M1,Mb,reduceIte])))
 refine U3 xs.length (fun n w'=>Kpt D w w'∧ ∃s,a s w'∧Z5 b k xs 0=Z5 b s (xs.drop n) n) ⟨Kpt.refl,k,z,rfl⟩ fun n w1 d E j=>?_
 obtain ⟨t,s,j,e⟩:=j
 have o:=m s w1 j
 ((try simp only[↓M1,M1,Mb,reduceIte]);repeat ((first | refine ld (by assumption) (by assumption) rfl ?_ | refine X8 (by assumption) (by assumption) rfl ?_ | refine Q9 (by assumption) ?_);(try simp only[↓M1,M1,Mb,reduceIte])))
 refine Q5 (fun r=>?_) (fun r=>?_)
 ·have c:n<xs.length:=by simpa using r
  refine W7 u c fun p cs y g B=>?_
  refine Y4 o y g ?_
  refine C s xs[n] cs w1 _ (List.getElem_mem c) t j B g fun A l i=>?_
  rw[List.drop_eq_getElem_cons c] at e
  simp only[Z5] at e
  refine Q5 (fun q=>?_) (fun q=>?_)
  ·rw[q] at e
   have:=h A l
   rw[e] at this
   exact this i
  ·rw[q] at e
   ((try simp only[↓M1,M1,Mb,reduceIte]);repeat ((first | refine ld (by assumption) (by assumption) rfl ?_ | refine X8 (by assumption) (by assumption) rfl ?_ | refine Q9 (by assumption) ?_);(try simp only[↓M1,M1,Mb,reduceIte])))
   exact Y3 u.max c ⟨l,_,i,by simpa using e⟩
 ·have c: ¬n<xs.length:=by simpa using r
  rw[List.drop_eq_nil_of_le (by omega)] at e
  have:=h w1 t
  rw[e] at this
  exact this j)
theorem So {xs:List Cla} {v f:Value} (p:Cla→Bool) (hs:X4 w σ) (hv:Sl 8 U4 σ v xs)
 (hf: ∀x cs (w1:World) (K:Value→World→Prop),x∈xs→X4 w1 σ→U4 σ x cs→cs.length=8→(∀w',Below w1.heap.size w1 w'→K (.bool (p x)) w')→Y6 P f [.agg cs.toArray] w1 K)
 (h: ∀w',Below w.heap.size w w'→K (I (W0 (xs.findIdx? p))) w'):Q1 P F.n [v,f] w K:=by
 refine Ry (fun (_:Unit) x=>(p x,())) () (fun _ w'=>Below w.heap.size w w') (fun _=>False) (fun _ w' hb=>hs.below hb) (Below.refl _ _) hv (fun s x cs w1 K hx hk hi hr hl hK=>hf x cs w1 K hx (hs.below hi) hr hl fun w' hb=>hK w' (.of_below (bt hi hb)) (bt hi hb)) fun w' hk hi=>?_
 rw[F0]
 simpa using h w' hi
theorem Tl {β:Type} {xs:List X0} {v f:Value} (b:β→X0→Bool×β) (j:β) (a:β→World→Prop) (D:Nat→Prop) (m: ∀s w,a s w→X4 w σ) (A:a j w) (y:Sl 1 J6 σ v xs)
 (E: ∀s x (w1:World) (K:Value→World→Prop),x∈xs→Kpt D w w1→a s w1→x.length≤J8→(∀w',Kpt D w w'→a (b s x).2 w'→K (.bool (b s x).1) w')→Y6 P f [S x] w1 K)
 (h: ∀w',Kpt D w w'→a (Z5 b j xs 0).2 w'→K (I (W0 (Z5 b j xs 0).1)) w'):Q1 P F.t [v,f] w K:=Jg (by
 unfold B3
 ((try simp only[↓M1,M1,Mb,reduceIte]);repeat ((first | refine ld (by assumption) (by assumption) rfl ?_ | refine X8 (by assumption) (by assumption) rfl ?_ | refine Q9 (by assumption) ?_);(try simp only[↓M1,M1,Mb,reduceIte])))
 refine U3 xs.length (fun n w'=>Kpt D w w'∧ ∃s,a s w'∧Z5 b j xs 0=Z5 b s (xs.drop n) n) ⟨Kpt.refl,j,A,rfl⟩ fun n w1 d H i=>?_
 obtain ⟨t,s,i,e⟩:=i
 have o:=m s w1 i
 ((try simp only[↓M1,M1,Mb,reduceIte]);repeat ((first | refine ld (by assumption) (by assumption) rfl ?_ | refine X8 (by assumption) (by assumption) rfl ?_ | refine Q9 (by assumption) ?_);(try simp only[↓M1,M1,Mb,reduceIte])))
 refine Q5 (fun r=>?_) (fun r=>?_)
 ·have c:n<xs.length:=by simpa using r
  refine W7 y c fun p cs z u C=>?_
  obtain ⟨rfl,l⟩:=C
  refine X8 o z rfl ?_
  refine E s xs[n] w1 _ (List.getElem_mem c) t i l fun B k g=>?_
  rw[List.drop_eq_getElem_cons c] at e
  simp only[Z5] at e
  refine Q5 (fun q=>?_) (fun q=>?_)
  ·rw[q] at e
   have:=h B k
   rw[e] at this
   exact this g
  ·rw[q] at e
   ((try simp only[↓M1,M1,Mb,reduceIte]);repeat ((first | refine ld (by assumption) (by assumption) rfl ?_ | refine X8 (by assumption) (by assumption) rfl ?_ | refine Q9 (by assumption) ?_);(try simp only[↓M1,M1,Mb,reduceIte])))
   exact Y3 y.max c ⟨k,_,g,by simpa using e⟩
 ·have c: ¬n<xs.length:=by simpa using r
  rw[List.drop_eq_nil_of_le (by omega)] at e
  have:=h w1 t
  rw[e] at this
  exact this i)
theorem Ta {xs:List X0} {v f:Value} (p:X0→Bool) (hs:X4 w σ) (hv:Sl 1 J6 σ v xs)
 (hf: ∀x (w1:World) (K:Value→World→Prop),x∈xs→X4 w1 σ→x.length≤J8→(∀w',Below w1.heap.size w1 w'→K (.bool (p x)) w')→Y6 P f [S x] w1 K)
 (h: ∀w',Below w.heap.size w w'→K (I (W0 (xs.findIdx? p))) w'):Q1 P F.t [v,f] w K:=by
 refine Tl (fun (_:Unit) x=>(p x,())) () (fun _ w'=>Below w.heap.size w w') (fun _=>False) (fun _ w' hb=>hs.below hb) (Below.refl _ _) hv (fun s x w1 K hx hk hi hr hK=>hf x w1 K hx (hs.below hi) hr fun w' hb=>hK w' (.of_below (bt hi hb)) (bt hi hb)) fun w' hk hi=>?_
 rw[F0]
 simpa using h w' hi
theorem Q4e {α:Type} (p:α→Bool) (xs:List α):decide ((0:Int)≤W0 (xs.findIdx? p))=xs.any p:=by
 rw[Bool.eq_iff_iff,List.any_eq_true]
 simp only[decide_eq_true_eq]
 cases h:xs.findIdx? p with
 | none=>
  simp only[W0]
  constructor
  ·intro h;omega
  ·rintro ⟨x,b,a⟩;have:=List.findIdx?_eq_none_iff.1 h x b;rw[a] at this;cases this
 | some i=>
  simp only[W0]
  obtain ⟨c,a,_⟩:=List.findIdx?_eq_some_iff_getElem.1 h
  exact ⟨fun _=>⟨xs[i],List.getElem_mem c,a⟩,fun _=>by omega⟩
theorem B0 {xs:List X0} {v f:Value} (p:X0→Bool) (d:X4 w σ) (c:Sl 1 J6 σ v xs)
 (b: ∀x (w1:World) (K:Value→World→Prop),x∈xs→X4 w1 σ→x.length≤J8→(∀w',Below w1.heap.size w1 w'→K (.bool (p x)) w')→Y6 P f [S x] w1 K)
 (h: ∀w',Below w.heap.size w w'→K (.bool (xs.any p)) w'):Q1 P F.c [v,f] w K:=Ye (by
 unfold S7
 refine Ta p d c b fun w1 a=>?_
 (try simp only[↓M1,M1,Mb,reduceIte])
 rw[Q4e]
 exact h w1 a)
theorem Q1U {xs:List X0} {v:Value} {x:X0} (q:X4 w σ) (g:Sl 1 J6 σ v xs)
 (h:K (I (W0 (xs.findIdx? fun y=>decide (x=y)))) w):Q1 P F.am [v,S x] w K:=Li (by
 unfold I9
 ((try simp only[↓M1,M1,Mb,reduceIte]);repeat ((first | refine ld (by assumption) (by assumption) rfl ?_ | refine X8 (by assumption) (by assumption) rfl ?_ | refine Q9 (by assumption) ?_);(try simp only[↓M1,M1,Mb,reduceIte])))
 refine U3 xs.length (fun n w'=>w=w'∧(xs.take n).any (fun y=>decide (x=y))=false) ⟨rfl,rfl⟩ fun n w1 d r b=>?_
 obtain ⟨rfl,b⟩:=b
 ((try simp only[↓M1,M1,Mb,reduceIte]);repeat ((first | refine ld (by assumption) (by assumption) rfl ?_ | refine X8 (by assumption) (by assumption) rfl ?_ | refine Q9 (by assumption) ?_);(try simp only[↓M1,M1,Mb,reduceIte])))
 refine Q5 (fun e=>?_) (fun e=>?_)
 ·have a:n<xs.length:=by simpa using e
  refine W7 g a fun p cs o f l=>?_
  obtain ⟨rfl,i⟩:=l
  ((try simp only[↓M1,M1,Mb,reduceIte]);repeat ((first | refine ld (by assumption) (by assumption) rfl ?_ | refine X8 (by assumption) (by assumption) rfl ?_ | refine Q9 (by assumption) ?_);(try simp only[↓M1,M1,Mb,reduceIte])))
  refine Q5 (fun c=>?_) (fun c=>?_)
  ·have:xs.findIdx? (fun y=>decide (x=y))=some n:=by
    rw[List.findIdx?_eq_some_iff_getElem]
    refine ⟨a,c,fun j m=>?_⟩
    have:=List.any_eq_false.1 b (xs[j]) (List.mem_take_iff_getElem.2 ⟨j,by omega,rfl⟩)
    exact this
   rw[this] at h;exact h
  ·((try simp only[↓M1,M1,Mb,reduceIte]);repeat ((first | refine ld (by assumption) (by assumption) rfl ?_ | refine X8 (by assumption) (by assumption) rfl ?_ | refine Q9 (by assumption) ?_);(try simp only[↓M1,M1,Mb,reduceIte])))
   exact Y3 g.max a ⟨rfl,by rw[L6 a,b,c];rfl⟩
 ·have a: ¬n<xs.length:=by simpa using e
  rw[O3 a] at b
  have:xs.findIdx? (fun y=>decide (x=y))=none:=by
   rw[List.findIdx?_eq_none_iff];intro y k;simpa using List.any_eq_false.1 b y k
  rw[this] at h;exact h)
theorem Q07 {xs:List X0} {v:Value} {x:X0} (b:X4 w σ) (a:Sl 1 J6 σ v xs)
 (h:K (.bool (xs.any fun y=>decide (x=y))) w):Q1 P F.ac [v,S x] w K:=Jm (by
 unfold F3
 refine Q1U b a ?_
 (try simp only[↓M1,M1,Mb,reduceIte])
 rw[Q4e]
 exact h)
end Go.Proofs.YtjdiakhipmggjaaGreatDoor
