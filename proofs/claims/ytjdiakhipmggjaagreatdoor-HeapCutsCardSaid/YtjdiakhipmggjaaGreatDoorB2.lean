/- Parts of a proof about the given program: its functions as texts of their own, what each computes, plain laws of that. The conditions of each stand in its statement. -/
import Derived.Test.YtjdiakhipmggjaaGreatDoorB1
import Derived.Below
import Derived.Maps.AppendAt
set_option linter.unnecessarySimpa false
set_option linter.defProp false
set_option linter.unusedSectionVars false
set_option linter.unusedVariables false
set_option linter.unusedSimpArgs false
set_option maxRecDepth 100000
namespace Go.Proofs.YtjdiakhipmggjaaGreatDoor
open Go.Emb
def Ah:V5:=[none,none,none,none,none,none,some ([38],[4,5,6,38,39,40,41,42,43,44,45,46,47,48,49,50,51]),none,none,none,none,none,none,none]
def Di (a0 a1:Value) (w:World) (K:Value→World→Prop):Prop:= box P T.n a1 w fun e w=>dr w fun b d=>Q5 b (fun φ7=> ∀w,d w→fieldAddr P T.n e 0 w (dk b φ7 w)) fun φ7=>Q5 b (fun φ8=> ∀t7 w,d w→φ7 t7 w→Q2 P T.c t7 w (dk b φ8 w)) fun φ8=>Q5 b (fun φ9=> ∀t8 w,d w→φ8 t8 w→Q1 P F.c5 [t8] w (dk b φ9 w)) fun φ9=>Q5 b (fun g=> ∀t9 w,d w→φ9 t9 w→Q3 P .eql T.c (.tmp 9) (.const (.string ⟨#[]⟩)) t9 (.string ⟨#[]⟩) w (dk b g w)) fun g=>Q5 b (fun C=> ∀c w,d w→g c w→Q0 c true w (fun w J=>J a0 w) (dk b C w)) fun C=>Q5 b (fun V=> ∀c R w,d w→g c w→C R w→Q0 c true w (nilCheck P R) (dk b V w)) fun V=>Q5 b (fun q=> ∀c k w,d w→g c w→V k w→Q0 c true w (fieldAddr P T.p k 0) (dk b q w)) fun q=>Q5 b (fun ab=> ∀c w,d w→g c w→Q0 c true w (fieldAddr P T.n e 0) (dk b ab w)) fun ab=>Q5 b (fun i=> ∀c ah w,d w→g c w→q ah w→Q0 c true w (Q2 P T.s ah) (dk b i w)) fun i=>Q5 b (fun ac=> ∀c y w,d w→g c w→ab y w→Q0 c true w (Q2 P T.c y) (dk b ac w)) fun ac=>Q5 b (fun j=> ∀c ad ag w,d w→g c w→i ad w→ac ag w→Q0 c true w (Q1 P F.aE [ad,ag]) (dk b j w)) fun j=>Q5 b (fun B=> ∀c Q w,d w→g c w→j Q w→Q0 c true w (J8 P .not Q) (dk b B w)) fun B=>Q5 b (fun f=> ∀c o w,d w→g c w→B o w→Q0 c true w (fun w J=>J o w) (dk b f w)) fun f=>Q5 b (fun z=> ∀a w,d w→f a w→Q0 a false w (fieldAddr P T.n e 1) (dk b z w)) fun z=>Q5 b (fun l=> ∀a w,d w→f a w→Q0 a false w (fun w J=>J a0 w) (dk b l w)) fun l=>Q5 b (fun r=> ∀a M w,d w→f a w→l M w→Q0 a false w (nilCheck P M) (dk b r w)) fun r=>Q5 b (fun s=> ∀a n w,d w→f a w→r n w→Q0 a false w (fieldAddr P T.p n 0) (dk b s w)) fun s=>Q5 b (fun W=> ∀a w,d w→f a w→Q0 a false w (fieldAddr P T.n e 0) (dk b W w)) fun W=>Q5 b (fun N=> ∀a ae w,d w→f a w→z ae w→Q0 a false w (Q2 P T.l ae) (dk b N w)) fun N=>Q5 b (fun ak=> ∀a L w,d w→f a w→N L w→Q0 a false w (X2 P .len [T.l] T.e [false] [L]) (dk b ak w)) fun ak=>Q5 b (fun E=> ∀a A w,d w→f a w→s A w→Q0 a false w (Q2 P T.s A) (dk b E w)) fun E=>Q5 b (fun Y=> ∀a U w,d w→f a w→W U w→Q0 a false w (Q2 P T.c U) (dk b Y w)) fun Y=>Q5 b (fun t=> ∀a aa p w,d w→f a w→E aa w→Y p w→Q0 a false w (Q1 P F.a4 [aa,p]) (dk b t w)) fun t=>Q5 b (fun ao=> ∀a af w,d w→f a w→t af w→Q0 a false w (X2 P .len [T.k] T.e [false] [af]) (dk b ao w)) fun ao=>∀t7 t8 t9 c R k ah y ad ag Q o a ae M n A U L ap aa p af aw w,d w→φ7 t7 w→φ8 t8 w→φ9 t9 w→g c w→C R w→V k w→q ah w→ab y w→i ad w→ac ag w→j Q w→B o w→f a w→z ae w→l M w→r n w→s A w→W U w→N L w→ak ap w→E aa w→Y p w→t af w→ao aw w→ Q0 a false w (Q3 P .neq T.e (.tmp 23) (.tmp 31) ap aw) fun bf w=>Q0 c true w (pick P a (.bool true) bf) fun bd w=>pick P c bd (.bool false) w fun bg w=>X1 bg (K (.bool false) w) (fieldAddr P T.n e 1 w fun be w=>Q2 P T.l be w fun ay w=>X2 P .len [T.l] T.e [false] [ay] w fun bc w=>lp (α:=Value) (.int .i64 0) w fun m x6 d_ w=>Q3 P .lss T.e (.tmp 38) (.tmp 37) x6 bc w fun a9 w=>X1 a9 (indexAddr P T.l ay x6 w fun bj w=>Q2 P T.g bj w fun bb w=>W0 P T.g w fun h w=>Y1 P T.g h bb w fun _u w=>dr w fun b d=>Q5 b (fun am=> ∀w,d w→Q2 P T.g h w (dk b am w)) fun am=>Q5 b (fun X=> ∀w,d w→Q2 P T.n e w (dk b X w)) fun X=>Q5 b (fun aj=> ∀H w,d w→X H w→Q1 P F.aD [a0,H,x6] w (dk b aj w)) fun aj=>∀ar H aq w,d w→am ar w→X H w→aj aq w→ Q1 P F.aC [a0,ar,aq] w fun bk w=>J8 P .not bk w fun bh w=>X1 bh (K (.bool false) w) (Q3 P .add T.e (.tmp 38) (.const (.int .i64 1)) x6 (.int .i64 1) w fun bi w=>m bi w)) (dr w fun b d=>Q5 b (fun u=> ∀w,d w→nilCheck P a0 w (dk b u w)) fun u=>Q5 b (fun Z=> ∀D w,d w→u D w→fieldAddr P T.p D 0 w (dk b Z w)) fun Z=>Q5 b (fun v=> ∀w,d w→fieldAddr P T.n e 0 w (dk b v w)) fun v=>Q5 b (fun al=> ∀ai w,d w→Z ai w→Q2 P T.s ai w (dk b al w)) fun al=>Q5 b (fun an=> ∀O w,d w→v O w→Q2 P T.c O w (dk b an w)) fun an=>∀D ai O ax av w,d w→u D w→Z ai w→v O w→al ax w→an av w→ Q1 P F.t [ax,av] w fun ba w=>K ba w))
theorem Aj {a b:Value} {w:World} {K:Value→World→Prop} (h:Di a b w K):Q1 P F.bE [a,b] w K:=Q9 Ah Tryz.func55 rfl (by decide) (by kernel_rfl) h
def La (c d:Value) (w:World) (K:Value→World→Prop):Prop:= box P T.n c w fun a w=>Q2 P T.a5 d w fun b w=>Q2 P T.n a w fun e w=>Q1 P F.bE [b,e] w fun f w=>J8 P .not f w fun g w=>K g w
theorem Gg {a b:Value} {w:World} {K:Value→World→Prop} (h:La a b w K):Q1 P F.cs [a,b] w K:=Q9 (List.replicate 2 none) Tryz.func54 rfl (by decide) (by kernel_rfl) h
def Dk (c:Value) (w:World) (K:Value→World→Prop):Prop:= box P T.a5 c w fun a w=>Q2 P T.a5 a w fun i w=>nilCheck P i w fun b w=>fieldAddr P T.p b 3 w fun d w=>Q2 P T.f d w fun f w=>H3 P (.func F.cs) [] [a] w fun h w=>Q1 P F.n [f,h] w fun e w=>J8 P .not e w fun g w=>K g w
theorem An {a:Value} {w:World} {K:Value→World→Prop} (h:Dk a w K):Q1 P F.bB [a] w K:=Q9 (List.replicate 2 none) Tryz.func23 rfl (by decide) (by kernel_rfl) h
def Q3e (g b:Value) (w:World) (K:Value→World→Prop):Prop:= Q3 P .lss T.e (.tmp 6) (.const (.int .i64 0)) b (.int .i64 0) w fun e w=>Q0 e false w (fun w J=>J b w) fun h w=>Q0 e false w (Q3 P .gtr T.e (.tmp 9) (.const (.int .i64 1048576)) h (.int .i64 1048576)) fun c w=>pick P e (.bool true) c w fun a w=>X1 a (K (.tuple #[(.pointer none),(.int .i64 90)]) w) (H1 P T.p [(0,g),(1,b)] w fun d w=>box P T.p d w fun f w=>K (.tuple #[f,(.int .i64 0)]) w)
theorem Q82 {a b:Value} {w:World} {K:Value→World→Prop} (h:Q3e a b w K):Q1 P F.cO [a,b] w K:=Q9 (List.replicate 5 none) Tryz.func15 rfl (by decide) (by kernel_rfl) h
def Te:V5:=[none,none,none,none,none,some ([1,3],[1,3,10,11,12,13,14,15,16,17,18,19,20,21,22,23]),none,none,none,none]
def Ns (w:World) (K:Value→World→Prop):Prop:= H1 P T.b [(0,(.string ⟨#[79,98,106,101,99,116]⟩))] w fun n w=>H1 P T.o [(0,(.string ⟨#[119,104,97,116]⟩)),(1,(.string ⟨#[116,101,120,116]⟩))] w fun l w=>buildSlice P T.k 1 [(0,l)] w fun m w=>H1 P T.b [(0,(.string ⟨#[70,97,117,108,116]⟩)),(1,(.string ⟨#[79,98,106,101,99,116]⟩)),(6,m)] w fun p w=>buildSlice P T.i 2 [(0,n),(1,p)] w fun o w=>buildSlice P T.h 6 [(0,(.string ⟨#[78,117,108,108,70,97,117,108,116]⟩)),(1,(.string ⟨#[73,110,100,101,120,70,97,117,108,116]⟩)),(2,(.string ⟨#[67,97,115,116,70,97,117,108,116]⟩)),(3,(.string ⟨#[90,101,114,111,70,97,117,108,116]⟩)),(4,(.string ⟨#[82,111,111,109,70,97,117,108,116]⟩)),(5,(.string ⟨#[67,97,108,108,70,97,117,108,116]⟩))] w fun k w=>lp (α:=Value×Value) (o,(.int .i64 0)) w fun a b q w=>X2 P .len [T.h] T.e [false] [k] w fun h w=>Q3 P .lss T.e (.tmp 10) (.tmp 12) b.2 h w fun e w=>X1 e (indexAddr P T.h k b.2 w fun f w=>Q2 P T.c f w fun d w=>H1 P T.b [(0,d),(1,(.string ⟨#[70,97,117,108,116]⟩)),(5,(.bool true))] w fun j w=>buildSlice P T.i 1 [(0,j)] w fun g w=>X2 P .append [T.i,T.i] T.i [false,false] [b.1,g] w fun c w=>Q3 P .add T.e (.tmp 14) (.const (.int .i64 1)) b.2 (.int .i64 1) w fun i w=>a (c,i) w) (K b.1 w)
theorem Kh {w:World} {K:Value→World→Prop} (h:Ns w K):Q1 P F.bp [] w K:=Q9 Te Tryz.func99 rfl (by decide) (by kernel_rfl) h
def Aq:V5:=[none,none,none,some ([3],[2,3,4,5,6,7,8,9,10,11,12,13,14,15,16,17,18,19,20,21,22,23,24,25,26,27,28,29,30,31,32,33,34,35,36,37]),none,none,none,none,none,none,none]
def Ot (Z:Value) (w:World) (K:Value→World→Prop):Prop:= box P T.b Z w fun b w=>lp (α:=Value) (.int .i64 0) w fun g i d_ w=>fieldAddr P T.b b 7 w fun Y w=>Q2 P T.j Y w fun t7 w=>X2 P .len [T.j] T.e [false] [t7] w fun t8 w=>Q3 P .lss T.e (.tmp 5) (.tmp 8) i t8 w fun t9 w=>X1 t9 (fieldAddr P T.b b 7 w fun C w=>Q2 P T.j C w fun m w=>indexAddr P T.j m i w fun M w=>Q2 P T.d M w fun N w=>W0 P T.d w fun a w=>Y1 P T.d a N w fun _u w=>fieldAddr P T.d a 1 w fun U w=>Q2 P T.h U w fun B w=>X2 P .len [T.h] T.e [false] [B] w fun r w=>Q3 P .gtr T.e (.tmp 19) (.const (.int .i64 32)) r (.int .i64 32) w fun d w=>Q0 d false w (fieldAddr P T.d a 6) fun t w=>Q0 d false w (Q2 P T.t t) fun j w=>Q0 d false w (X2 P .len [T.t] T.e [false] [j]) fun u w=>Q0 d false w (Q3 P .gtr T.e (.tmp 24) (.const (.int .i64 32)) u (.int .i64 32)) fun q w=>pick P d (.bool true) q w fun f w=>Q0 f false w (fieldAddr P T.d a 5) fun D w=>Q0 f false w (Q2 P T.r D) fun y w=>Q0 f false w (X2 P .len [T.r] T.e [false] [y]) fun R w=>Q0 f false w (Q3 P .gtr T.e (.tmp 30) (.const (.int .i64 200)) R (.int .i64 200)) fun W w=>pick P f (.bool true) W w fun h w=>Q0 h false w (fieldAddr P T.d a 4) fun V w=>Q0 h false w (Q2 P T.e V) fun O w=>Q0 h false w (Q3 P .gtr T.e (.tmp 35) (.const (.int .i64 64)) O (.int .i64 64)) fun v w=>pick P h (.bool true) v w fun z w=>X1 z (K (.bool true) w) (Q3 P .add T.e (.tmp 10) (.const (.int .i64 1)) i (.int .i64 1) w fun p w=>g p w)) (fieldAddr P T.b b 2 w fun n w=>Q2 P T.h n w fun l w=>X2 P .len [T.h] T.e [false] [l] w fun J w=>Q3 P .gtr T.e (.tmp 40) (.const (.int .i64 32)) J (.int .i64 32) w fun e w=>Q0 e false w (fieldAddr P T.b b 6) fun A w=>Q0 e false w (Q2 P T.k A) fun L w=>Q0 e false w (X2 P .len [T.k] T.e [false] [L]) fun E w=>Q0 e false w (Q3 P .gtr T.e (.tmp 45) (.const (.int .i64 32)) E (.int .i64 32)) fun s w=>pick P e (.bool true) s w fun c w=>Q0 c false w (fieldAddr P T.b b 7) fun X w=>Q0 c false w (Q2 P T.j X) fun o w=>Q0 c false w (X2 P .len [T.j] T.e [false] [o]) fun H w=>Q0 c false w (Q3 P .gtr T.e (.tmp 51) (.const (.int .i64 32)) H (.int .i64 32)) fun Q w=>pick P c (.bool true) Q w fun k w=>K k w)
theorem Ak {a:Value} {w:World} {K:Value→World→Prop} (h:Ot a w K):Q1 P F.bL [a] w K:=Q9 Aq Tryz.func147 rfl (by decide) (by kernel_rfl) h
def Q0a:V5:=[none,none,none,some ([0,3],[0,3,4,5,6,7,8,9,10,11,12,13,14,15,16,17,18,19,20,21]),none,none,none,none]
def Ov (n:Value) (w:World) (K:Value→World→Prop):Prop:= lp (α:=Value×Value) (n,(.int .i64 0)) w fun a b q w=>X2 P .len [T.c] T.e [false] [b.1] w fun m w=>Q3 P .geq T.e (.tmp 5) (.const (.int .i64 2)) m (.int .i64 2) w fun c w=>Q0 c true w (fun w J=>J b.1 w) fun p w=>Q0 c true w (fun w J=>J b.1 w) fun o w=>Q0 c true w (X2 P .len [T.c] T.e [false] [o]) fun i w=>Q0 c true w (Q3 P .sub T.e (.tmp 10) (.const (.int .i64 2)) i (.int .i64 2)) fun f w=>Q0 c true w (S1 P T.c p (some f) none none) fun h w=>Q0 c true w (Q3 P .eql T.c (.tmp 12) (.const (.string ⟨#[91,93]⟩)) h (.string ⟨#[91,93]⟩)) fun e w=>pick P c e (.bool false) w fun l w=>X1 l (Q3 P .add T.e (.tmp 15) (.const (.int .i64 1)) b.2 (.int .i64 1) w fun j w=>X2 P .len [T.c] T.e [false] [b.1] w fun g w=>Q3 P .sub T.e (.tmp 19) (.const (.int .i64 2)) g (.int .i64 2) w fun d w=>S1 P T.c b.1 none (some d) none w fun k w=>a (k,j) w) (K b.2 w)
theorem Ac {a:Value} {w:World} {K:Value→World→Prop} (h:Ov a w K):Q1 P F.a3 [a] w K:=Q9 Q0a Tryz.func107 rfl (by decide) (by kernel_rfl) h
def Pg:V5:=[none,none,none,some ([4],[4,5,6,7]),none,none,none,none]
def Mk (b:Value) (w:World) (K:Value→World→Prop):Prop:= jn (α:=Value) w (fun a w=>Q3 P .eql T.c (.tmp 3) (.const (.string ⟨#[105,110,116]⟩)) b (.string ⟨#[105,110,116]⟩) w fun c w=>X1 c (a c w) (Q3 P .eql T.c (.tmp 3) (.const (.string ⟨#[98,111,111,108]⟩)) b (.string ⟨#[98,111,111,108]⟩) w fun d w=>X1 d (a d w) (Q3 P .eql T.c (.tmp 3) (.const (.string ⟨#[116,101,120,116]⟩)) b (.string ⟨#[116,101,120,116]⟩) w fun f w=>a f w))) fun e g w=>X1 e (K (.bool true) w) (K (.bool false) w)
theorem Kn {a:Value} {w:World} {K:Value→World→Prop} (h:Mk a w K):Q1 P F.y [a] w K:=Q9 Pg Tryz.func111 rfl (by decide) (by kernel_rfl) h
def Ad:V5:=[none,none,none,some ([3],[2,3,4,5,6,7,8,9,10,11,12,13,14,15,16,17,18,19,20,21,22,23,24,25,26,27,28,29,30,31,32,33,34,35,36,37,38,39,40,41,42,43,44,45,46,47,48,49,50]),none,none,none,none,none,none,none]
def Om (i:Value) (w:World) (K:Value→World→Prop):Prop:= lp (α:=Value) (.int .i64 0) w fun j g d_ w=>X2 P .len [T.c] T.e [false] [i] w fun t7 w=>Q3 P .lss T.e (.tmp 5) (.tmp 7) g t7 w fun t8 w=>X1 t8 (C4 P T.c i g w fun o w=>Q3 P .geq T.a3 (.tmp 13) (.const (.int .u8 97)) o (.int .u8 97) w fun e w=>Q0 e true w (fun w J=>J i w) fun U w=>Q0 e true w (fun w J=>J g w) fun Y w=>Q0 e true w (C4 P T.c U Y) fun H w=>Q0 e true w (Q3 P .leq T.a3 (.tmp 18) (.const (.int .u8 122)) H (.int .u8 122)) fun u w=>pick P e u (.bool false) w fun a w=>Q0 a false w (fun w J=>J i w) fun y w=>Q0 a false w (fun w J=>J g w) fun l w=>Q0 a false w (C4 P T.c y l) fun z w=>Q0 a false w (Q3 P .geq T.a3 (.tmp 24) (.const (.int .u8 65)) z (.int .u8 65)) fun r w=>Q0 a false w (fun w J=>J r w) fun f w=>Q0 f true w (fun w J=>J i w) fun N w=>Q0 f true w (fun w J=>J g w) fun L w=>Q0 f true w (C4 P T.c N L) fun B w=>Q0 f true w (Q3 P .leq T.a3 (.tmp 29) (.const (.int .u8 90)) B (.int .u8 90)) fun X w=>Q0 a false w (pick P f X (.bool false)) fun aa w=>pick P a (.bool true) aa w fun Z w=>J8 P .not Z w fun b w=>Q0 b true w (fun w J=>J g w) fun A w=>Q0 b true w (Q3 P .eql T.e (.tmp 36) (.const (.int .i64 0)) A (.int .i64 0)) fun C w=>Q0 b true w (fun w J=>J C w) fun c w=>Q0 c false w (fun w J=>J i w) fun n w=>Q0 c false w (fun w J=>J g w) fun Q w=>Q0 c false w (C4 P T.c n Q) fun R w=>Q0 c false w (Q3 P .lss T.a3 (.tmp 41) (.const (.int .u8 48)) R (.int .u8 48)) fun t w=>Q0 b true w (pick P c (.bool true) t) fun E w=>Q0 b true w (fun w J=>J E w) fun d w=>Q0 d false w (fun w J=>J i w) fun M w=>Q0 d false w (fun w J=>J g w) fun v w=>Q0 d false w (C4 P T.c M v) fun k w=>Q0 d false w (Q3 P .gtr T.a3 (.tmp 47) (.const (.int .u8 57)) k (.int .u8 57)) fun p w=>Q0 b true w (pick P d (.bool true) p) fun ab w=>pick P b ab (.bool false) w fun q w=>X1 q (K (.bool false) w) (Q3 P .add T.e (.tmp 9) (.const (.int .i64 1)) g (.int .i64 1) w fun O w=>j O w)) (X2 P .len [T.c] T.e [false] [i] w fun W w=>Q3 P .geq T.e (.tmp 52) (.const (.int .i64 1)) W (.int .i64 1) w fun h w=>Q0 h true w (fun w J=>J i w) fun m w=>Q0 h true w (X2 P .len [T.c] T.e [false] [m]) fun D w=>Q0 h true w (Q3 P .leq T.e (.tmp 56) (.const (.int .i64 32)) D (.int .i64 32)) fun V w=>pick P h V (.bool false) w fun s w=>K s w)
theorem Q08 {a:Value} {w:World} {K:Value→World→Prop} (h:Om a w K):Q1 P F.b0 [a] w K:=Q9 Ad Tryz.func190 rfl (by decide) (by kernel_rfl) h
def Ob (b:Value) (w:World) (K:Value→World→Prop):Prop:= Q1 P F.b0 [b] w fun a w=>Q0 a true w (fun w J=>J b w) fun d w=>Q0 a true w (C4 P T.c d (.int .i64 0)) fun f w=>Q0 a true w (Q3 P .leq T.a3 (.tmp 7) (.const (.int .u8 90)) f (.int .u8 90)) fun c w=>pick P a c (.bool false) w fun e w=>K e w
theorem Px {a:Value} {w:World} {K:Value→World→Prop} (h:Ob a w K):Q1 P F.d [a] w K:=Q9 (List.replicate 2 none) Tryz.func160 rfl (by decide) (by kernel_rfl) h
def Nv (g:Value) (w:World) (K:Value→World→Prop):Prop:= Q1 P F.a3 [g] w fun m w=>X2 P .len [T.c] T.e [false] [g] w fun n w=>Q3 P .mul T.e (.const (.int .i64 2)) (.tmp 10) (.int .i64 2) m w fun d w=>Q3 P .sub T.e (.tmp 9) (.tmp 11) n d w fun l w=>S1 P T.c g none (some l) none w fun c w=>Q3 P .leq T.e (.tmp 14) (.const (.int .i64 3)) m (.int .i64 3) w fun a w=>Q0 a true w (fun w J=>J c w) fun i w=>Q0 a true w (Q1 P F.y [i]) fun k w=>Q0 a true w (fun w J=>J k w) fun b w=>Q0 b false w (fun w J=>J c w) fun h w=>Q0 b false w (Q1 P F.d [h]) fun e w=>Q0 a true w (pick P b (.bool true) e) fun j w=>pick P a j (.bool false) w fun f w=>K f w
theorem Kb {a:Value} {w:World} {K:Value→World→Prop} (h:Nv a w K):Q1 P F.e [a] w K:=Q9 (List.replicate 4 none) Tryz.func118 rfl (by decide) (by kernel_rfl) h
def Lh (b:Value) (w:World) (K:Value→World→Prop):Prop:= Q1 P F.b0 [b] w fun a w=>Q0 a true w (fun w J=>J b w) fun d w=>Q0 a true w (C4 P T.c d (.int .i64 0)) fun f w=>Q0 a true w (Q3 P .geq T.a3 (.tmp 7) (.const (.int .u8 97)) f (.int .u8 97)) fun c w=>pick P a c (.bool false) w fun e w=>K e w
theorem Ib {a:Value} {w:World} {K:Value→World→Prop} (h:Lh a w K):Q1 P F.v [a] w K:=Q9 (List.replicate 2 none) Tryz.func181 rfl (by decide) (by kernel_rfl) h
def Oa (e f:Value) (w:World) (K:Value→World→Prop):Prop:= X2 P .len [T.c] T.e [false] [e] w fun n w=>Q3 P .lss T.e (.tmp 5) (.tmp 7) f n w fun b w=>Q0 b true w (fun w J=>J e w) fun i w=>Q0 b true w (fun w J=>J f w) fun c w=>Q0 b true w (C4 P T.c i c) fun m w=>Q0 b true w (Q3 P .geq T.a3 (.tmp 12) (.const (.int .u8 128)) m (.int .u8 128)) fun k w=>pick P b k (.bool false) w fun a w=>Q0 a true w (fun w J=>J e w) fun d w=>Q0 a true w (fun w J=>J f w) fun h w=>Q0 a true w (C4 P T.c d h) fun l w=>Q0 a true w (Q3 P .lss T.a3 (.tmp 18) (.const (.int .u8 192)) l (.int .u8 192)) fun j w=>pick P a j (.bool false) w fun g w=>K g w
theorem Pn {a b:Value} {w:World} {K:Value→World→Prop} (h:Oa a b w K):Q1 P F.s [a,b] w K:=Q9 (List.replicate 2 none) Tryz.func154 rfl (by decide) (by kernel_rfl) h
def Aw:V5:=[none,none,some ([],[2,4,5,9,10,11,12,13,14,15,16,17,18,19,20,21,22,23,24,25,26,27,28,29,30,31,32,33,34,35,36,37,38,39,40,41,42,43,44,45,46,47,48,49,50,51,52,53,54,55,56,57,58,59,60,61,62,63,64,65,66,67,68,69,70,71,72,73,74,75,76,77,78,79,80,81,82,83,84,85,86,87,88,89,90,91,92,93,94,95,96,97,98,99,100,101,102,103,104,105,106]),none,none,none,none,none,none,none,none,none,none,none,none,none]
def Df (c:Value) (w:World) (K:Value→World→Prop):Prop:= C4 P T.c c (.int .i64 0) w fun t7 w=>conv P T.a3 T.e t7 w fun t8 w=>jn (α:=Unit) w (fun J2 w=>Q3 P .lss T.e (.tmp 10) (.const (.int .i64 128)) t8 (.int .i64 128) w fun a9 w=>X1 a9 (K (.int .i64 1) w) (Q3 P .geq T.e (.tmp 13) (.const (.int .i64 194)) t8 (.int .i64 194) w fun ay w=>Q0 ay true w (fun w J=>J t8 w) fun bh w=>Q0 ay true w (Q3 P .lss T.e (.tmp 16) (.const (.int .i64 224)) bh (.int .i64 224)) fun b1 w=>pick P ay b1 (.bool false) w fun aq w=>Q0 aq true w (fun w J=>J c w) fun a7 w=>Q0 aq true w (Q1 P F.s [a7,(.int .i64 1)]) fun b0 w=>pick P aq b0 (.bool false) w fun bq w=>X1 bq (K (.int .i64 2) w) (Q3 P .geq T.e (.tmp 24) (.const (.int .i64 224)) t8 (.int .i64 224) w fun ah w=>Q0 ah true w (fun w J=>J t8 w) fun bv w=>Q0 ah true w (Q3 P .lss T.e (.tmp 27) (.const (.int .i64 240)) bv (.int .i64 240)) fun bu w=>pick P ah bu (.bool false) w fun aj w=>Q0 aj true w (fun w J=>J c w) fun bn w=>Q0 aj true w (Q1 P F.s [bn,(.int .i64 1)]) fun bj w=>pick P aj bj (.bool false) w fun al w=>Q0 al true w (fun w J=>J c w) fun bi w=>Q0 al true w (Q1 P F.s [bi,(.int .i64 2)]) fun br w=>pick P al br (.bool false) w fun bc w=>X1 bc (dr w fun a b=>Q5 a (fun ac=> ∀w,b w→Q3 P .rem T.e (.tmp 38) (.const (.int .i64 16)) t8 (.int .i64 16) w (dk a ac w)) fun ac=>Q5 a (fun v=> ∀g w,b w→ac g w→Q3 P .mul T.e (.tmp 39) (.const (.int .i64 4096)) g (.int .i64 4096) w (dk a v w)) fun v=>Q5 a (fun y=> ∀w,b w→C4 P T.c c (.int .i64 1) w (dk a y w)) fun y=>Q5 a (fun m=> ∀n w,b w→y n w→Q3 P .rem T.a3 (.tmp 42) (.const (.int .u8 64)) n (.int .u8 64) w (dk a m w)) fun m=>Q5 a (fun p=> ∀w,b w→C4 P T.c c (.int .i64 2) w (dk a p w)) fun p=>Q5 a (fun C=> ∀i w,b w→p i w→Q3 P .rem T.a3 (.tmp 48) (.const (.int .u8 64)) i (.int .u8 64) w (dk a C w)) fun C=>Q5 a (fun O=> ∀s w,b w→m s w→conv P T.a3 T.e s w (dk a O w)) fun O=>Q5 a (fun r=> ∀E w,b w→O E w→Q3 P .mul T.e (.tmp 44) (.const (.int .i64 64)) E (.int .i64 64) w (dk a r w)) fun r=>Q5 a (fun ar=> ∀ab u w,b w→v ab w→r u w→Q3 P .add T.e (.tmp 40) (.tmp 45) ab u w (dk a ar w)) fun ar=>Q5 a (fun ap=> ∀af w,b w→C af w→conv P T.a3 T.e af w (dk a ap w)) fun ap=>∀g ab n s i af E u a5 a4 w,b w→ac g w→v ab w→y n w→m s w→p i w→C af w→O E w→r u w→ar a5 w→ap a4 w→ Q3 P .add T.e (.tmp 46) (.tmp 50) a5 a4 w fun av w=>Q3 P .geq T.e (.tmp 52) (.const (.int .i64 2048)) av (.int .i64 2048) w fun d w=>Q0 d true w (fun w J=>J av w) fun bo w=>Q0 d true w (Q3 P .lss T.e (.tmp 55) (.const (.int .i64 55296)) bo (.int .i64 55296)) fun bs w=>Q0 d true w (fun w J=>J bs w) fun am w=>Q0 am false w (fun w J=>J av w) fun ba w=>Q0 am false w (Q3 P .gtr T.e (.tmp 58) (.const (.int .i64 57343)) ba (.int .i64 57343)) fun bf w=>Q0 d true w (pick P am (.bool true) bf) fun bd w=>pick P d bd (.bool false) w fun be w=>X1 be (K (.int .i64 3) w) (J2 () w)) (Q3 P .geq T.e (.tmp 63) (.const (.int .i64 240)) t8 (.int .i64 240) w fun ak w=>Q0 ak true w (fun w J=>J t8 w) fun bx w=>Q0 ak true w (Q3 P .lss T.e (.tmp 66) (.const (.int .i64 245)) bx (.int .i64 245)) fun a8 w=>pick P ak a8 (.bool false) w fun an w=>Q0 an true w (fun w J=>J c w) fun bb w=>Q0 an true w (Q1 P F.s [bb,(.int .i64 1)]) fun bz w=>pick P an bz (.bool false) w fun ao w=>Q0 ao true w (fun w J=>J c w) fun bg w=>Q0 ao true w (Q1 P F.s [bg,(.int .i64 2)]) fun bw w=>pick P ao bw (.bool false) w fun ai w=>Q0 ai true w (fun w J=>J c w) fun bk w=>Q0 ai true w (Q1 P F.s [bk,(.int .i64 3)]) fun bl w=>pick P ai bl (.bool false) w fun bp w=>X1 bp (dr w fun a b=>Q5 a (fun l=> ∀w,b w→Q3 P .rem T.e (.tmp 81) (.const (.int .i64 8)) t8 (.int .i64 8) w (dk a l w)) fun l=>Q5 a (fun Z=> ∀j w,b w→l j w→Q3 P .mul T.e (.tmp 82) (.const (.int .i64 262144)) j (.int .i64 262144) w (dk a Z w)) fun Z=>Q5 a (fun o=> ∀w,b w→C4 P T.c c (.int .i64 1) w (dk a o w)) fun o=>Q5 a (fun M=> ∀N w,b w→o N w→Q3 P .rem T.a3 (.tmp 85) (.const (.int .u8 64)) N (.int .u8 64) w (dk a M w)) fun M=>Q5 a (fun W=> ∀w,b w→C4 P T.c c (.int .i64 2) w (dk a W w)) fun W=>Q5 a (fun V=> ∀H w,b w→W H w→Q3 P .rem T.a3 (.tmp 91) (.const (.int .u8 64)) H (.int .u8 64) w (dk a V w)) fun V=>Q5 a (fun U=> ∀w,b w→C4 P T.c c (.int .i64 3) w (dk a U w)) fun U=>Q5 a (fun aa=> ∀R w,b w→U R w→Q3 P .rem T.a3 (.tmp 97) (.const (.int .u8 64)) R (.int .u8 64) w (dk a aa w)) fun aa=>Q5 a (fun z=> ∀k w,b w→M k w→conv P T.a3 T.e k w (dk a z w)) fun z=>Q5 a (fun ad=> ∀h w,b w→z h w→Q3 P .mul T.e (.tmp 87) (.const (.int .i64 4096)) h (.int .i64 4096) w (dk a ad w)) fun ad=>Q5 a (fun D=> ∀Q Y w,b w→Z Q w→ad Y w→Q3 P .add T.e (.tmp 83) (.tmp 88) Q Y w (dk a D w)) fun D=>Q5 a (fun t=> ∀q w,b w→V q w→conv P T.a3 T.e q w (dk a t w)) fun t=>Q5 a (fun B=> ∀X w,b w→t X w→Q3 P .mul T.e (.tmp 93) (.const (.int .i64 64)) X (.int .i64 64) w (dk a B w)) fun B=>Q5 a (fun ax=> ∀L A w,b w→D L w→B A w→Q3 P .add T.e (.tmp 89) (.tmp 94) L A w (dk a ax w)) fun ax=>Q5 a (fun aw=> ∀f w,b w→aa f w→conv P T.a3 T.e f w (dk a aw w)) fun aw=>∀j Q N k H q R f h Y L X A az a2 w,b w→l j w→Z Q w→o N w→M k w→W H w→V q w→U R w→aa f w→z h w→ad Y w→D L w→t X w→B A w→ax az w→aw a2 w→ Q3 P .add T.e (.tmp 95) (.tmp 99) az a2 w fun ag w=>Q3 P .geq T.e (.tmp 101) (.const (.int .i64 65536)) ag (.int .i64 65536) w fun e w=>Q0 e true w (fun w J=>J ag w) fun a3 w=>Q0 e true w (Q3 P .leq T.e (.tmp 104) (.const (.int .i64 1114111)) a3 (.int .i64 1114111)) fun a6 w=>pick P e a6 (.bool false) w fun a1 w=>X1 a1 (K (.int .i64 4) w) (J2 () w)) (J2 () w))))) fun z2 d_ w=>K (.int .i64 0) w
theorem Tu {a:Value} {w:World} {K:Value→World→Prop} (h:Df a w K):Q1 P F.bI [a] w K:=Q9 Aw Tryz.func113 rfl (by decide) (by kernel_rfl) h
def Pc:V5:=[none,none,some ([0],[0,2,3,4,5,6,7,8,9,10,11,12]),none,none,none,none,none,none,none]
def Mj (e:Value) (w:World) (K:Value→World→Prop):Prop:= lp (α:=Value) e w fun a b h w=>Q3 P .neq T.c (.tmp 4) (.const (.string ⟨#[]⟩)) b (.string ⟨#[]⟩) w fun f w=>X1 f (Q1 P F.bI [b] w fun d w=>Q3 P .eql T.e (.tmp 8) (.const (.int .i64 0)) d (.int .i64 0) w fun g w=>X1 g (K (.bool false) w) (S1 P T.c b (some d) none none w fun c w=>a c w)) (K (.bool true) w)
theorem Kg {a:Value} {w:World} {K:Value→World→Prop} (h:Mj a w K):Q1 P F.aL [a] w K:=Q9 Pc Tryz.func65 rfl (by decide) (by kernel_rfl) h
def Ew (w:World) (K:Value→World→Prop):Prop:= buildSlice P T.h 42 [(0,(.string ⟨#[105,110,116]⟩)),(1,(.string ⟨#[116,114,117,101]⟩)),(2,(.string ⟨#[102,97,108,115,101]⟩)),(3,(.string ⟨#[119,111,114,100]⟩)),(4,(.string ⟨#[110,117,108,108]⟩)),(5,(.string ⟨#[108,111,97,100]⟩)),(6,(.string ⟨#[115,116,111,114,101]⟩)),(7,(.string ⟨#[112,111,112]⟩)),(8,(.string ⟨#[100,117,112]⟩)),(9,(.string ⟨#[115,119,97,112]⟩)),(10,(.string ⟨#[97,100,100]⟩)),(11,(.string ⟨#[115,117,98]⟩)),(12,(.string ⟨#[109,117,108]⟩)),(13,(.string ⟨#[100,105,118]⟩)),(14,(.string ⟨#[114,101,109]⟩)),(15,(.string ⟨#[110,101,103]⟩)),(16,(.string ⟨#[108,101,115,115]⟩)),(17,(.string ⟨#[115,97,109,101]⟩)),(18,(.string ⟨#[110,111,116]⟩)),(19,(.string ⟨#[98,111,116,104]⟩)),(20,(.string ⟨#[106,111,105,110]⟩)),(21,(.string ⟨#[115,105,122,101]⟩)),(22,(.string ⟨#[106,117,109,112]⟩)),(23,(.string ⟨#[98,114,97,110,99,104]⟩)),(24,(.string ⟨#[110,101,119]⟩)),(25,(.string ⟨#[103,101,116]⟩)),(26,(.string ⟨#[112,117,116]⟩)),(27,(.string ⟨#[99,97,108,108]⟩)),(28,(.string ⟨#[97,114,114,97,121]⟩)),(29,(.string ⟨#[97,116]⟩)),(30,(.string ⟨#[115,101,116]⟩)),(31,(.string ⟨#[105,115]⟩)),(32,(.string ⟨#[99,97,115,116]⟩)),(33,(.string ⟨#[114,101,116,117,114,110]⟩)),(34,(.string ⟨#[116,104,114,111,119]⟩)),(35,(.string ⟨#[111,117,116]⟩)),(36,(.string ⟨#[101,113,117,97,108]⟩)),(37,(.string ⟨#[97,110,100]⟩)),(38,(.string ⟨#[111,114]⟩)),(39,(.string ⟨#[120,111,114]⟩)),(40,(.string ⟨#[115,104,108]⟩)),(41,(.string ⟨#[115,104,114]⟩))] w fun a w=>K a w
theorem Q0W {w:World} {K:Value→World→Prop} (h:Ew w K):Q1 P F.bX [] w K:=Q9 (List.replicate 2 none) Tryz.func233 rfl (by decide) (by kernel_rfl) h
def Fy:V5:=[none,none,none,none,some ([4],[2,4,6,7,8,9,10,11,12,13,14,15,16,17,18]),none,none,none,none,none,none]
def Ld (h:Value) (w:World) (K:Value→World→Prop):Prop:= Q1 P F.bX [] w fun g w=>lp (α:=Value) (.int .i64 0) w fun a b k w=>X2 P .len [T.h] T.e [false] [g] w fun i w=>Q3 P .lss T.e (.tmp 6) (.tmp 8) b i w fun j w=>X1 j (indexAddr P T.h g b w fun e w=>Q2 P T.c e w fun f w=>Q3 P .eql T.c (.tmp 15) (.tmp 16) f h w fun d w=>X1 d (K b w) (Q3 P .add T.e (.tmp 10) (.const (.int .i64 1)) b (.int .i64 1) w fun c w=>a c w)) (K (.int .i64 (-1)) w)
theorem Gy {a:Value} {w:World} {K:Value→World→Prop} (h:Ld a w K):Q1 P F.bi [a] w K:=Q9 Fy Tryz.func230 rfl (by decide) (by kernel_rfl) h
def Ir:V5:=[none,none,none,some ([4],[4,5,6,7,8,9]),none,none,none,none,none,some ([10],[10,11,12,13,14,15,16,17,18]),none,none,none,none,none,none,none,none,none,none,none,none]
def Me (a:Value) (w:World) (K:Value→World→Prop):Prop:= jn (α:=Value) w (fun c w=>Q3 P .eql T.c (.tmp 3) (.const (.string ⟨#[105,110,116]⟩)) a (.string ⟨#[105,110,116]⟩) w fun n w=>X1 n (c n w) (Q3 P .eql T.c (.tmp 3) (.const (.string ⟨#[108,111,97,100]⟩)) a (.string ⟨#[108,111,97,100]⟩) w fun o w=>X1 o (c o w) (Q3 P .eql T.c (.tmp 3) (.const (.string ⟨#[115,116,111,114,101]⟩)) a (.string ⟨#[115,116,111,114,101]⟩) w fun q w=>X1 q (c q w) (Q3 P .eql T.c (.tmp 3) (.const (.string ⟨#[106,117,109,112]⟩)) a (.string ⟨#[106,117,109,112]⟩) w fun p w=>X1 p (c p w) (Q3 P .eql T.c (.tmp 3) (.const (.string ⟨#[98,114,97,110,99,104]⟩)) a (.string ⟨#[98,114,97,110,99,104]⟩) w fun t w=>c t w))))) fun r u w=>X1 r (K (.int .i64 1) w) (jn (α:=Value) w (fun b w=>Q3 P .eql T.c (.tmp 3) (.const (.string ⟨#[119,111,114,100]⟩)) a (.string ⟨#[119,111,114,100]⟩) w fun e w=>X1 e (b e w) (Q3 P .eql T.c (.tmp 3) (.const (.string ⟨#[110,101,119]⟩)) a (.string ⟨#[110,101,119]⟩) w fun f w=>X1 f (b f w) (Q3 P .eql T.c (.tmp 3) (.const (.string ⟨#[103,101,116]⟩)) a (.string ⟨#[103,101,116]⟩) w fun d w=>X1 d (b d w) (Q3 P .eql T.c (.tmp 3) (.const (.string ⟨#[112,117,116]⟩)) a (.string ⟨#[112,117,116]⟩) w fun j w=>X1 j (b j w) (Q3 P .eql T.c (.tmp 3) (.const (.string ⟨#[99,97,108,108]⟩)) a (.string ⟨#[99,97,108,108]⟩) w fun g w=>X1 g (b g w) (Q3 P .eql T.c (.tmp 3) (.const (.string ⟨#[97,114,114,97,121]⟩)) a (.string ⟨#[97,114,114,97,121]⟩) w fun h w=>X1 h (b h w) (Q3 P .eql T.c (.tmp 3) (.const (.string ⟨#[105,115]⟩)) a (.string ⟨#[105,115]⟩) w fun i w=>X1 i (b i w) (Q3 P .eql T.c (.tmp 3) (.const (.string ⟨#[99,97,115,116]⟩)) a (.string ⟨#[99,97,115,116]⟩) w fun l w=>b l w)))))))) fun s u w=>X1 s (K (.int .i64 2) w) (Q1 P F.bi [a] w fun k w=>Q3 P .lss T.e (.tmp 20) (.const (.int .i64 0)) k (.int .i64 0) w fun m w=>X1 m (K (.int .i64 (-1)) w) (K (.int .i64 0) w)))
theorem Pf {a:Value} {w:World} {K:Value→World→Prop} (h:Me a w K):Q1 P F.bx [a] w K:=Q9 Ir Tryz.func225 rfl (by decide) (by kernel_rfl) h
def Ik:V5:=[none,none,none,some ([5],[2,3,4,5,6,7,8,9,10,11,12,13,14,15,16,17,18,19,20,21,22,23,24,25,26,27,28,29,30,31,32,33]),none,none,none,none,none,none]
def Mu (z:Value) (w:World) (K:Value→World→Prop):Prop:= lp (α:=Value) (.int .i64 0) w fun n t N w=>X2 P .len [T.c] T.e [false] [z] w fun M w=>Q3 P .lss T.e (.tmp 6) (.tmp 8) t M w fun L w=>X1 L (C4 P T.c z t w fun H w=>Q3 P .eql T.a3 (.tmp 14) (.const (.int .u8 46)) H (.int .u8 46) w fun E w=>X1 E (dr w fun b d=>Q5 b (fun u=> ∀w,d w→S1 P T.c z none (some t) none w (dk b u w)) fun u=>Q5 b (fun o=> ∀w,d w→Q3 P .add T.e (.tmp 20) (.const (.int .i64 1)) t (.int .i64 1) w (dk b o w)) fun o=>Q5 b (fun v=> ∀p w,d w→o p w→S1 P T.c z (some p) none none w (dk b v w)) fun v=>Q5 b (fun i=> ∀w,d w→S1 P T.c z none (some t) none w (dk b i w)) fun i=>Q5 b (fun c=> ∀e w,d w→i e w→Q1 P F.d [e] w (dk b c w)) fun c=>Q5 b (fun j=> ∀a w,d w→c a w→Q0 a true w (fun w J=>J z w) (dk b j w)) fun j=>Q5 b (fun k=> ∀a w,d w→c a w→Q0 a true w (fun w J=>J t w) (dk b k w)) fun k=>Q5 b (fun l=> ∀a f w,d w→c a w→k f w→Q0 a true w (Q3 P .add T.e (.tmp 29) (.const (.int .i64 1)) f (.int .i64 1)) (dk b l w)) fun l=>Q5 b (fun m=> ∀a h q w,d w→c a w→j h w→l q w→Q0 a true w (S1 P T.c h (some q) none none) (dk b m w)) fun m=>Q5 b (fun g=> ∀a s w,d w→c a w→m s w→Q0 a true w (Q1 P F.v [s]) (dk b g w)) fun g=>Q5 b (fun y=> ∀a r w,d w→c a w→g r w→pick P a r (.bool false) w (dk b y w)) fun y=>∀B p A e a h f q s r C w,d w→u B w→o p w→v A w→i e w→c a w→j h w→k f w→l q w→m s w→g r w→y C w→ K (.tuple #[B,A,C]) w) (Q3 P .add T.e (.tmp 10) (.const (.int .i64 1)) t (.int .i64 1) w fun D w=>n D w)) (K (.tuple #[(.string ⟨#[]⟩),(.string ⟨#[]⟩),(.bool false)]) w)
theorem Kv {a:Value} {w:World} {K:Value→World→Prop} (h:Mu a w K):Q1 P F.bz [a] w K:=Q9 Ik Tryz.func226 rfl (by decide) (by kernel_rfl) h
def Pa:V5:=[none,none,none,none,none,none,some ([4],[4,5,6,7,8,30,31,32,33,34,35,36,37,38,39,40,41,42,43,44,45,46,47,48,49,50,51,52,53,54,55,56,57,58,59,60,61,62,63,64,65,66,67,68,69,70,71,72,73,74,75,76,77,78,79,80,81,82,83,84,85,86,87,88,89,90,91,92,93,94,95,96,97,98,99,100,101,102,103,104,105,106,107,108,109,110]),none,none,none,none,none,some ([4,5],[4,5,59,60,61,62,63,64,65,66,67,68,69,70,71,72,73]),none,none,none,none,some ([82],[82,83,84]),none,none,none,none,none,none,none]
def Nf (a0:Value) (w:World) (K:Value→World→Prop):Prop:= box P T.w a0 w fun d w=>fieldAddr P T.w d 0 w fun t9 w=>Q2 P T.c t9 w fun ab w=>Q1 P F.bx [ab] w fun i w=>Q3 P .lss T.e (.tmp 12) (.const (.int .i64 0)) i (.int .i64 0) w fun H w=>X1 H (K (.int .i64 40) w) (Q3 P .eql T.e (.tmp 14) (.const (.int .i64 1)) i (.int .i64 1) w fun l w=>Q0 l false w (fieldAddr P T.w d 1) fun bd w=>Q0 l false w (Q2 P T.a1 bd) fun a2 w=>Q0 l false w (Q3 P .eql T.a1 (.tmp 18) (.const (.int .i64 0)) a2 (.int .i64 0)) fun U w=>pick P l (.bool true) U w fun e w=>Q0 e true w (fun w J=>J i w) fun ay w=>Q0 e true w (Q3 P .eql T.e (.tmp 22) (.const (.int .i64 2)) ay (.int .i64 2)) fun D w=>Q0 e true w (fun w J=>J D w) fun k w=>Q0 k false w (fieldAddr P T.w d 2) fun N w=>Q0 k false w (Q2 P T.c N) fun ao w=>Q0 k false w (Q3 P .eql T.c (.tmp 26) (.const (.string ⟨#[]⟩)) ao (.string ⟨#[]⟩)) fun a6 w=>Q0 e true w (pick P k (.bool true) a6) fun a3 w=>pick P e a3 (.bool false) w fun a w=>jn (α:=Value) w (fun n w=>Q3 P .eql T.e (.tmp 30) (.const (.int .i64 2)) i (.int .i64 2) w fun an w=>X1 an (fieldAddr P T.w d 0 w fun ai w=>Q2 P T.c ai w fun f w=>Q3 P .eql T.c (.tmp 33) (.const (.string ⟨#[119,111,114,100]⟩)) f (.string ⟨#[119,111,114,100]⟩) w fun ax w=>X1 ax (Q0 a true w (fieldAddr P T.w d 2) fun be w=>Q0 a true w (Q2 P T.c be) fun ar w=>Q0 a true w (X2 P .len [T.c] T.e [false] [ar]) fun a5 w=>Q0 a true w (Q3 P .leq T.e (.tmp 51) (.const (.int .i64 64)) a5 (.int .i64 64)) fun bb w=>pick P a bb (.bool false) w fun j w=>Q0 j true w (fieldAddr P T.w d 2) fun aq w=>Q0 j true w (Q2 P T.c aq) fun a1 w=>Q0 j true w (Q1 P F.aL [a1]) fun ae w=>pick P j ae (.bool false) w fun Q w=>lp (α:=Value×Value) (Q,(.int .i64 0)) w fun h b d_ w=>fieldAddr P T.w d 2 w fun Y w=>Q2 P T.c Y w fun Z w=>X2 P .len [T.c] T.e [false] [Z] w fun bc w=>Q3 P .lss T.e (.tmp 59) (.tmp 62) b.2 bc w fun O w=>X1 O (Q0 b.1 true w (fieldAddr P T.w d 2) fun al w=>Q0 b.1 true w (Q2 P T.c al) fun M w=>Q0 b.1 true w (fun w J=>J b.2 w) fun V w=>Q0 b.1 true w (C4 P T.c M V) fun ba w=>Q0 b.1 true w (Q3 P .neq T.a3 (.tmp 71) (.const (.int .u8 10)) ba (.int .u8 10)) fun ap w=>pick P b.1 ap (.bool false) w fun R w=>Q3 P .add T.e (.tmp 64) (.const (.int .i64 1)) b.2 (.int .i64 1) w fun a7 w=>h (R,a7) w) (n b.1 w)) (Q3 P .eql T.c (.tmp 33) (.const (.string ⟨#[110,101,119]⟩)) f (.string ⟨#[110,101,119]⟩) w fun a8 w=>X1 a8 (Q0 a true w (fieldAddr P T.w d 2) fun ak w=>Q0 a true w (Q2 P T.c ak) fun am w=>Q0 a true w (Q1 P F.d [am]) fun av w=>pick P a av (.bool false) w fun ah w=>n ah w) (jn (α:=Value) w (fun A w=>Q3 P .eql T.c (.tmp 33) (.const (.string ⟨#[105,115]⟩)) f (.string ⟨#[105,115]⟩) w fun r w=>X1 r (A r w) (Q3 P .eql T.c (.tmp 33) (.const (.string ⟨#[99,97,115,116]⟩)) f (.string ⟨#[99,97,115,116]⟩) w fun B w=>A B w)) fun af d_ w=>X1 af (Q0 a true w (fieldAddr P T.w d 2) fun L w=>Q0 a true w (Q2 P T.c L) fun a4 w=>Q0 a true w (Q1 P F.e [a4]) fun aj w=>pick P a aj (.bool false) w fun g w=>Q0 g true w (fieldAddr P T.w d 2) fun W w=>Q0 g true w (Q2 P T.c W) fun aw w=>Q0 g true w (Q1 P F.y [aw]) fun aa w=>Q0 g true w (J8 P .not aa) fun C w=>pick P g C (.bool false) w fun ag w=>n ag w) (Q3 P .eql T.c (.tmp 33) (.const (.string ⟨#[97,114,114,97,121]⟩)) f (.string ⟨#[97,114,114,97,121]⟩) w fun E w=>X1 E (Q0 a true w (fieldAddr P T.w d 2) fun y w=>Q0 a true w (Q2 P T.c y) fun s w=>Q0 a true w (Q1 P F.e [s]) fun z w=>pick P a z (.bool false) w fun c w=>Q0 c true w (fieldAddr P T.w d 2) fun o w=>Q0 c true w (Q2 P T.c o) fun v w=>Q0 c true w (Q1 P F.a3 [v]) fun q w=>Q0 c true w (Q3 P .lss T.e (.tmp 108) (.const (.int .i64 3)) q (.int .i64 3)) fun u w=>pick P c u (.bool false) w fun t w=>n t w) (fieldAddr P T.w d 2 w fun ad w=>Q2 P T.c ad w fun az w=>Q1 P F.bz [az] w fun m w=>ext P m 0 w fun bj w=>ext P m 1 w fun bh w=>ext P m 2 w fun a9 w=>Q0 a true w (fun w J=>J a9 w) fun X w=>pick P a X (.bool false) w fun ac w=>n ac w))))) (n a w)) fun z6 d_ w=>J8 P .not z6 w fun p w=>X1 p (K (.int .i64 41) w) (K (.int .i64 0) w))
theorem Kk {a:Value} {w:World} {K:Value→World→Prop} (h:Nf a w K):Q1 P F.bw [a] w K:=Q9 Pa Tryz.func215 rfl (by decide) (by kernel_rfl) h
def Q0L:V5:=[none,none,none,some ([3],[2,3,4,5,6,7,8,9,10,11,12,13,14,15,16,17,18]),none,none,none,none,none,none,none]
def Ea (h:Value) (w:World) (K:Value→World→Prop):Prop:= lp (α:=Value) (.int .i64 0) w fun a c k w=>X2 P .len [T.r] T.e [false] [h] w fun j w=>Q3 P .lss T.e (.tmp 5) (.tmp 7) c j w fun i w=>X1 i (indexAddr P T.r h c w fun g w=>Q2 P T.w g w fun f w=>Q1 P F.bw [f] w fun b w=>Q3 P .neq T.z (.tmp 16) (.const (.int .i64 0)) b (.int .i64 0) w fun d w=>X1 d (K b w) (Q3 P .add T.e (.tmp 9) (.const (.int .i64 1)) c (.int .i64 1) w fun e w=>a e w)) (K (.int .i64 0) w)
theorem Q1i {a:Value} {w:World} {K:Value→World→Prop} (h:Ea a w K):Q1 P F.b5 [a] w K:=Q9 Q0L Tryz.func203 rfl (by decide) (by kernel_rfl) h
def Gx:V5:=[none,none,none,none,some ([3,4],[3,4,21,22,23,24,25,26,27,28,29,30,31,32,33,34,35,36]),none,none,none,none,none,none,none,none,none,some ([3,6],[3,6,7,60,61,62,63,64,65,66,67,68,69,70,71,72,73,74,75,76,77,78,79,80,81,82,83,84,85,86,87,88,89,90,91,92,93,94,95,96,97,98,99,100,101,102,103,104,105,106]),none,none,none,none,none]
def Wz (a0:Value) (w:World) (K:Value→World→Prop):Prop:= box P T.d a0 w fun d w=>fieldAddr P T.d d 0 w fun t8 w=>Q2 P T.c t8 w fun t9 w=>Q1 P F.v [t9] w fun g w=>Q0 g true w (fieldAddr P T.d d 2) fun bl w=>Q0 g true w (Q2 P T.c bl) fun X w=>Q0 g true w (Q3 P .eql T.c (.tmp 13) (.const (.string ⟨#[]⟩)) X (.string ⟨#[]⟩)) fun bx w=>Q0 g true w (fun w J=>J bx w) fun p w=>Q0 p false w (fieldAddr P T.d d 2) fun ar w=>Q0 p false w (Q2 P T.c ar) fun bw w=>Q0 p false w (Q1 P F.e [bw]) fun bk w=>Q0 g true w (pick P p (.bool true) bk) fun ai w=>pick P g ai (.bool false) w fun V w=>lp (α:=Value×Value) (V,(.int .i64 0)) w fun o e d_ w=>fieldAddr P T.d d 1 w fun bg w=>Q2 P T.h bg w fun U w=>X2 P .len [T.h] T.e [false] [U] w fun bi w=>Q3 P .lss T.e (.tmp 21) (.tmp 24) e.2 bi w fun ad w=>X1 ad (Q0 e.1 true w (fieldAddr P T.d d 1) fun bv w=>Q0 e.1 true w (Q2 P T.h bv) fun a5 w=>Q0 e.1 true w (fun w J=>J e.2 w) fun az w=>Q0 e.1 true w (indexAddr P T.h a5 az) fun av w=>Q0 e.1 true w (Q2 P T.c av) fun a1 w=>Q0 e.1 true w (Q1 P F.e [a1]) fun aw w=>pick P e.1 aw (.bool false) w fun bh w=>Q3 P .add T.e (.tmp 26) (.const (.int .i64 1)) e.2 (.int .i64 1) w fun bn w=>o (bh,bn) w) (fieldAddr P T.d d 3 w fun al w=>Q2 P T.v al w fun bc w=>X1 bc (Q0 e.1 true w (fieldAddr P T.d d 4) fun bp w=>Q0 e.1 true w (Q2 P T.e bp) fun ag w=>Q0 e.1 true w (Q3 P .eql T.e (.tmp 42) (.const (.int .i64 0)) ag (.int .i64 0)) fun am w=>pick P e.1 am (.bool false) w fun l w=>Q0 l true w (fieldAddr P T.d d 5) fun bf w=>Q0 l true w (Q2 P T.r bf) fun a6 w=>Q0 l true w (X2 P .len [T.r] T.e [false] [a6]) fun Z w=>Q0 l true w (Q3 P .eql T.e (.tmp 48) (.const (.int .i64 0)) Z (.int .i64 0)) fun bz w=>pick P l bz (.bool false) w fun m w=>Q0 m true w (fieldAddr P T.d d 6) fun bs w=>Q0 m true w (Q2 P T.t bs) fun ba w=>Q0 m true w (X2 P .len [T.t] T.e [false] [ba]) fun b0 w=>Q0 m true w (Q3 P .eql T.e (.tmp 54) (.const (.int .i64 0)) b0 (.int .i64 0)) fun a8 w=>pick P m a8 (.bool false) w fun bj w=>K bj w) (fieldAddr P T.d d 5 w fun ax w=>Q2 P T.r ax w fun af w=>X2 P .len [T.r] T.e [false] [af] w fun r w=>lp (α:=Value×Value) (e.1,(.int .i64 0)) w fun k b d_ w=>fieldAddr P T.d d 6 w fun an w=>Q2 P T.t an w fun bu w=>X2 P .len [T.t] T.e [false] [bu] w fun ae w=>Q3 P .lss T.e (.tmp 60) (.tmp 63) b.2 ae w fun ap w=>X1 ap (fieldAddr P T.d d 6 w fun ab w=>Q2 P T.t ab w fun a3 w=>indexAddr P T.t a3 b.2 w fun aj w=>Q2 P T.u aj w fun br w=>W0 P T.u w fun q w=>Y1 P T.u q br w fun _u w=>Q0 b.1 true w (fieldAddr P T.u q 0) fun aq w=>Q0 b.1 true w (Q2 P T.e aq) fun bo w=>Q0 b.1 true w (Q3 P .geq T.e (.tmp 75) (.const (.int .i64 0)) bo (.int .i64 0)) fun ah w=>pick P b.1 ah (.bool false) w fun h w=>Q0 h true w (fieldAddr P T.u q 0) fun a4 w=>Q0 h true w (Q2 P T.e a4) fun bd w=>Q0 h true w (fieldAddr P T.u q 1) fun ay w=>Q0 h true w (Q2 P T.e ay) fun aa w=>Q0 h true w (Q3 P .lss T.e (.tmp 80) (.tmp 82) bd aa) fun a9 w=>pick P h a9 (.bool false) w fun i w=>Q0 i true w (fieldAddr P T.u q 1) fun ac w=>Q0 i true w (Q2 P T.e ac) fun Y w=>Q0 i true w (fun w J=>J r w) fun bm w=>Q0 i true w (Q3 P .leq T.e (.tmp 87) (.tmp 88) Y bm) fun a2 w=>pick P i a2 (.bool false) w fun n w=>Q0 n true w (fieldAddr P T.u q 2) fun ak w=>Q0 n true w (Q2 P T.e ak) fun be w=>Q0 n true w (Q3 P .geq T.e (.tmp 93) (.const (.int .i64 0)) be (.int .i64 0)) fun ao w=>pick P n ao (.bool false) w fun j w=>Q0 j true w (fieldAddr P T.u q 2) fun bb w=>Q0 j true w (Q2 P T.e bb) fun W w=>Q0 j true w (fun w J=>J r w) fun a7 w=>Q0 j true w (Q3 P .lss T.e (.tmp 98) (.tmp 99) W a7) fun v w=>pick P j v (.bool false) w fun f w=>Q0 f true w (fieldAddr P T.u q 3) fun Q w=>Q0 f true w (Q2 P T.c Q) fun D w=>Q0 f true w (Q1 P F.d [D]) fun O w=>pick P f O (.bool false) w fun z w=>Q3 P .add T.e (.tmp 65) (.const (.int .i64 1)) b.2 (.int .i64 1) w fun bq w=>k (z,bq) w) (Q0 b.1 true w (fun w J=>J r w) fun N w=>Q0 b.1 true w (Q3 P .gtr T.e (.tmp 109) (.const (.int .i64 0)) N (.int .i64 0)) fun E w=>pick P b.1 E (.bool false) w fun a w=>Q0 a true w (fieldAddr P T.d d 4) fun B w=>Q0 a true w (Q2 P T.e B) fun R w=>Q0 a true w (fieldAddr P T.d d 1) fun s w=>Q0 a true w (Q2 P T.h s) fun t w=>Q0 a true w (X2 P .len [T.h] T.e [false] [t]) fun L w=>Q0 a true w (Q3 P .gtr T.e (.tmp 114) (.tmp 117) R L) fun A w=>pick P a A (.bool false) w fun c w=>Q0 c true w (fieldAddr P T.d d 5) fun C w=>Q0 c true w (Q2 P T.r C) fun u w=>Q0 c true w (Q1 P F.b5 [u]) fun M w=>Q0 c true w (Q3 P .eql T.z (.tmp 123) (.const (.int .i64 0)) M (.int .i64 0)) fun y w=>pick P c y (.bool false) w fun H w=>K H w)))
theorem Fq {a:Value} {w:World} {K:Value→World→Prop} (h:Wz a w K):Q1 P F.a6 [a] w K:=Q9 Gx Tryz.func182 rfl (by decide) (by kernel_rfl) h
end Go.Proofs.YtjdiakhipmggjaaGreatDoor

set_option maxRecDepth 100000
namespace Go.Proofs.YtjdiakhipmggjaaGreatDoor
open Go.Emb
def Ps:V5:=[none,none,none,none,some ([3,4],[3,4,5,26,27,28,29,30,31,32,33,34,35,36,37,38,39,40,41,42,43,44,45,46,47,48,49,50,51,52,53,54,55,56,57,58,59,60,61,62,63,64,65,66,67,68,69,70]),none,none,none,none,none,some ([3,5],[3,5,52,53,54,55,56,57,58,59,60,61,62,63,64,65,66,67,68,69,70]),none,none,none,none,none,some ([3,6],[3,6,7,71,72,73,74,75,76,77,78,79,80,81,82,83,84,85,86,87,88,89,90,91,92,93,94,95,96,97,98,99,100,101,102,103,104,105,106,107,108,109,110,111,112,113,114,115,116,117,118,119,120,121,122]),none,none,none,none,none,some ([3,7],[3,7,102,103,104,105,106,107,108,109,110,111,112,113,114,115,116,117,118,119,120,121,122]),none,none,none,none,none,some ([3,8],[3,8,9,10,123,124,125,126,127,128,129,130,131,132,133,134,135,136,137,138,139,140,141,142,143,144,145,146,147,148,149,150,151,152,153,154,155,156,157,158,159,160,161,162,163,164,165,166,167,168,169,170,171,172,173,174]),none,none,none,none,none,none,some ([3,10],[3,10,158,159,160,161,162,163,164,165,166,167,168,169,170,171,172,173,174]),none,none,none,none]
def Ml (a0:Value) (w:World) (K:Value→World→Prop):Prop:= box P T.b a0 w fun i w=>fieldAddr P T.b i 0 w fun d1 w=>Q2 P T.c d1 w fun e7 w=>Q1 P F.d [e7] w fun bj w=>Q0 bj true w (fieldAddr P T.b i 1) fun ef w=>Q0 bj true w (Q2 P T.c ef) fun d6 w=>Q0 bj true w (Q1 P F.d [d6]) fun ei w=>pick P bj ei (.bool false) w fun ah w=>Q0 ah true w (fieldAddr P T.b i 0) fun em w=>Q0 ah true w (Q2 P T.c em) fun eg w=>Q0 ah true w (fieldAddr P T.b i 1) fun ea w=>Q0 ah true w (Q2 P T.c ea) fun el w=>Q0 ah true w (Q3 P .neq T.c (.tmp 21) (.tmp 23) eg el) fun e6 w=>pick P ah e6 (.bool false) w fun es w=>lp (α:=Value×Value) (es,(.int .i64 0)) w fun a9 R d_ w=>fieldAddr P T.b i 2 w fun ed w=>Q2 P T.h ed w fun e8 w=>X2 P .len [T.h] T.e [false] [e8] w fun eu w=>Q3 P .lss T.e (.tmp 26) (.tmp 29) R.2 eu w fun eh w=>X1 eh (dr w fun a b=>Q5 a (fun bn=> ∀w,b w→Q0 R.1 true w (fieldAddr P T.b i 2) (dk a bn w)) fun bn=>Q5 a (fun bw=> ∀w,b w→Q0 R.1 true w (fun w J=>J R.2 w) (dk a bw w)) fun bw=>Q5 a (fun bh=> ∀a7 w,b w→bn a7 w→Q0 R.1 true w (Q2 P T.h a7) (dk a bh w)) fun bh=>Q5 a (fun bp=> ∀bb bq w,b w→bh bb w→bw bq w→Q0 R.1 true w (indexAddr P T.h bb bq) (dk a bp w)) fun bp=>Q5 a (fun bd=> ∀bx w,b w→bp bx w→Q0 R.1 true w (Q2 P T.c bx) (dk a bd w)) fun bd=>Q5 a (fun a4=> ∀ax w,b w→bd ax w→Q0 R.1 true w (Q1 P F.d [ax]) (dk a a4 w)) fun a4=>Q5 a (fun j=> ∀b2 w,b w→a4 b2 w→pick P R.1 b2 (.bool false) w (dk a j w)) fun j=>Q5 a (fun bm=> ∀c w,b w→j c w→Q0 c true w (fieldAddr P T.b i 2) (dk a bm w)) fun bm=>Q5 a (fun a1=> ∀c w,b w→j c w→Q0 c true w (fun w J=>J R.2 w) (dk a a1 w)) fun a1=>Q5 a (fun bo=> ∀c w,b w→j c w→Q0 c true w (fieldAddr P T.b i 0) (dk a bo w)) fun bo=>Q5 a (fun a8=> ∀c a2 w,b w→j c w→bm a2 w→Q0 c true w (Q2 P T.h a2) (dk a a8 w)) fun a8=>Q5 a (fun b1=> ∀c a6 a3 w,b w→j c w→a8 a6 w→a1 a3 w→Q0 c true w (indexAddr P T.h a6 a3) (dk a b1 w)) fun b1=>Q5 a (fun cb=> ∀c ba w,b w→j c w→b1 ba w→Q0 c true w (Q2 P T.c ba) (dk a cb w)) fun cb=>Q5 a (fun ca=> ∀c ay w,b w→j c w→bo ay w→Q0 c true w (Q2 P T.c ay) (dk a ca w)) fun ca=>∀a7 bq bb bx ax b2 c a2 a3 ay a6 ba co c2 w,b w→bn a7 w→bw bq w→bh bb w→bp bx w→bd ax w→a4 b2 w→j c w→bm a2 w→a1 a3 w→bo ay w→a8 a6 w→b1 ba w→cb co w→ca c2 w→ Q0 c true w (Q3 P .neq T.c (.tmp 47) (.tmp 49) co c2) fun d9 w=>pick P c d9 (.bool false) w fun ec w=>lp (α:=Value×Value) (ec,(.int .i64 0)) w fun ao e d_ w=>Q3 P .lss T.e (.tmp 52) (.tmp 53) e.2 R.2 w fun e9 w=>X1 e9 (dr w fun a b=>Q5 a (fun bk=> ∀w,b w→Q0 e.1 true w (fieldAddr P T.b i 2) (dk a bk w)) fun bk=>Q5 a (fun bg=> ∀w,b w→Q0 e.1 true w (fun w J=>J e.2 w) (dk a bg w)) fun bg=>Q5 a (fun b0=> ∀w,b w→Q0 e.1 true w (fieldAddr P T.b i 2) (dk a b0 w)) fun b0=>Q5 a (fun b4=> ∀w,b w→Q0 e.1 true w (fun w J=>J R.2 w) (dk a b4 w)) fun b4=>Q5 a (fun az=> ∀bu w,b w→bk bu w→Q0 e.1 true w (Q2 P T.h bu) (dk a az w)) fun az=>Q5 a (fun bz=> ∀br bs w,b w→az br w→bg bs w→Q0 e.1 true w (indexAddr P T.h br bs) (dk a bz w)) fun bz=>Q5 a (fun b9=> ∀be w,b w→bz be w→Q0 e.1 true w (Q2 P T.c be) (dk a b9 w)) fun b9=>Q5 a (fun bf=> ∀a5 w,b w→b0 a5 w→Q0 e.1 true w (Q2 P T.h a5) (dk a bf w)) fun bf=>Q5 a (fun bi=> ∀bc b3 w,b w→bf bc w→b4 b3 w→Q0 e.1 true w (indexAddr P T.h bc b3) (dk a bi w)) fun bi=>Q5 a (fun cc=> ∀bl w,b w→bi bl w→Q0 e.1 true w (Q2 P T.c bl) (dk a cc w)) fun cc=>∀bu bs a5 b3 br be c7 bc bl di w,b w→bk bu w→bg bs w→b0 a5 w→b4 b3 w→az br w→bz be w→b9 c7 w→bf bc w→bi bl w→cc di w→ Q0 e.1 true w (Q3 P .neq T.c (.tmp 63) (.tmp 68) c7 di) fun eq w=>pick P e.1 eq (.bool false) w fun d3 w=>Q3 P .add T.e (.tmp 55) (.const (.int .i64 1)) e.2 (.int .i64 1) w fun eb w=>ao (d3,eb) w) (Q3 P .add T.e (.tmp 31) (.const (.int .i64 1)) R.2 (.int .i64 1) w fun ey w=>a9 (e.1,ey) w)) (lp (α:=Value×Value) (R.1,(.int .i64 0)) w fun aq f d_ w=>fieldAddr P T.b i 6 w fun d7 w=>Q2 P T.k d7 w fun d2 w=>X2 P .len [T.k] T.e [false] [d2] w fun d5 w=>Q3 P .lss T.e (.tmp 71) (.tmp 74) f.2 d5 w fun ee w=>X1 ee (Q0 f.1 true w (fieldAddr P T.b i 6) fun e4 w=>Q0 f.1 true w (Q2 P T.k e4) fun ew w=>Q0 f.1 true w (fun w J=>J f.2 w) fun ep w=>Q0 f.1 true w (indexAddr P T.k ew ep) fun e3 w=>Q0 f.1 true w (fieldAddr P T.o e3 0) fun ej w=>Q0 f.1 true w (Q2 P T.c ej) fun e1 w=>Q0 f.1 true w (Q1 P F.v [e1]) fun er w=>pick P f.1 er (.bool false) w fun n w=>Q0 n true w (fieldAddr P T.b i 6) fun ez w=>Q0 n true w (Q2 P T.k ez) fun ex w=>Q0 n true w (fun w J=>J f.2 w) fun e0 w=>Q0 n true w (indexAddr P T.k ex e0) fun et w=>Q0 n true w (fieldAddr P T.o et 1) fun e5 w=>Q0 n true w (Q2 P T.c e5) fun d4 w=>Q0 n true w (Q1 P F.e [d4]) fun ek w=>pick P n ek (.bool false) w fun bv w=>Q0 bv true w (fieldAddr P T.b i 3) fun eo w=>Q0 bv true w (Q2 P T.v eo) fun e2 w=>Q0 bv true w (J8 P .not e2) fun cj w=>pick P bv cj (.bool false) w fun dv w=>lp (α:=Value×Value) (dv,(.int .i64 0)) w fun ap d d_ w=>Q3 P .lss T.e (.tmp 102) (.tmp 103) d.2 f.2 w fun dp w=>X1 dp (dr w fun a b=>Q5 a (fun X=> ∀w,b w→Q0 d.1 true w (fieldAddr P T.b i 6) (dk a X w)) fun X=>Q5 a (fun ag=> ∀w,b w→Q0 d.1 true w (fun w J=>J d.2 w) (dk a ag w)) fun ag=>Q5 a (fun O=> ∀w,b w→Q0 d.1 true w (fieldAddr P T.b i 6) (dk a O w)) fun O=>Q5 a (fun Y=> ∀w,b w→Q0 d.1 true w (fun w J=>J f.2 w) (dk a Y w)) fun Y=>Q5 a (fun L=> ∀C w,b w→X C w→Q0 d.1 true w (Q2 P T.k C) (dk a L w)) fun L=>Q5 a (fun af=> ∀A Z w,b w→L A w→ag Z w→Q0 d.1 true w (indexAddr P T.k A Z) (dk a af w)) fun af=>Q5 a (fun r=> ∀y w,b w→af y w→Q0 d.1 true w (fieldAddr P T.o y 0) (dk a r w)) fun r=>Q5 a (fun al=> ∀v w,b w→r v w→Q0 d.1 true w (Q2 P T.c v) (dk a al w)) fun al=>Q5 a (fun B=> ∀M w,b w→O M w→Q0 d.1 true w (Q2 P T.k M) (dk a B w)) fun B=>Q5 a (fun aa=> ∀p ac w,b w→B p w→Y ac w→Q0 d.1 true w (indexAddr P T.k p ac) (dk a aa w)) fun aa=>Q5 a (fun N=> ∀u w,b w→aa u w→Q0 d.1 true w (fieldAddr P T.o u 0) (dk a N w)) fun N=>Q5 a (fun aj=> ∀s w,b w→N s w→Q0 d.1 true w (Q2 P T.c s) (dk a aj w)) fun aj=>∀C Z M ac A y v b8 p u s b6 w,b w→X C w→ag Z w→O M w→Y ac w→L A w→af y w→r v w→al b8 w→B p w→aa u w→N s w→aj b6 w→ Q0 d.1 true w (Q3 P .neq T.c (.tmp 114) (.tmp 120) b8 b6) fun cn w=>pick P d.1 cn (.bool false) w fun c6 w=>Q3 P .add T.e (.tmp 105) (.const (.int .i64 1)) d.2 (.int .i64 1) w fun cm w=>ap (c6,cm) w) (Q3 P .add T.e (.tmp 76) (.const (.int .i64 1)) f.2 (.int .i64 1) w fun d8 w=>aq (d.1,d8) w)) (lp (α:=Value×Value) (f.1,(.int .i64 0)) w fun aw h d_ w=>fieldAddr P T.b i 7 w fun ck w=>Q2 P T.j ck w fun dq w=>X2 P .len [T.j] T.e [false] [dq] w fun cu w=>Q3 P .lss T.e (.tmp 123) (.tmp 126) h.2 cu w fun dy w=>X1 dy (fieldAddr P T.b i 7 w fun cs w=>Q2 P T.j cs w fun d0 w=>indexAddr P T.j d0 h.2 w fun dl w=>Q2 P T.d dl w fun c8 w=>W0 P T.d w fun t9 w=>Y1 P T.d t9 c8 w fun _u w=>Q0 h.1 true w (Q2 P T.d t9) fun cy w=>Q0 h.1 true w (Q1 P F.a6 [cy]) fun c9 w=>pick P h.1 c9 (.bool false) w fun l w=>Q0 l true w (fieldAddr P T.d t9 3) fun cr w=>Q0 l true w (Q2 P T.v cr) fun cq w=>Q0 l true w (J8 P .not cq) fun dm w=>Q0 l true w (fun w J=>J dm w) fun ak w=>Q0 ak false w (fieldAddr P T.b i 4) fun cw w=>Q0 ak false w (Q2 P T.v cw) fun cg w=>Q0 l true w (pick P ak (.bool true) cg) fun cz w=>pick P l cz (.bool false) w fun k w=>Q0 k true w (fieldAddr P T.b i 3) fun cx w=>Q0 k true w (Q2 P T.v cx) fun dj w=>Q0 k true w (J8 P .not dj) fun dg w=>Q0 k true w (fun w J=>J dg w) fun av w=>Q0 av false w (fieldAddr P T.d t9 3) fun ce w=>Q0 av false w (Q2 P T.v ce) fun dz w=>Q0 k true w (pick P av (.bool true) dz) fun ch w=>pick P k ch (.bool false) w fun du w=>lp (α:=Value×Value) (du,(.int .i64 0)) w fun ar g d_ w=>Q3 P .lss T.e (.tmp 158) (.tmp 159) g.2 h.2 w fun c4 w=>X1 c4 (dr w fun a b=>Q5 a (fun Q=> ∀w,b w→Q0 g.1 true w (fieldAddr P T.b i 7) (dk a Q w)) fun Q=>Q5 a (fun E=> ∀w,b w→Q0 g.1 true w (fun w J=>J g.2 w) (dk a E w)) fun E=>Q5 a (fun U=> ∀w,b w→Q0 g.1 true w (fieldAddr P T.d t9 0) (dk a U w)) fun U=>Q5 a (fun z=> ∀ad w,b w→Q ad w→Q0 g.1 true w (Q2 P T.j ad) (dk a z w)) fun z=>Q5 a (fun ab=> ∀D V w,b w→z D w→E V w→Q0 g.1 true w (indexAddr P T.j D V) (dk a ab w)) fun ab=>Q5 a (fun H=> ∀q w,b w→ab q w→Q0 g.1 true w (fieldAddr P T.d q 0) (dk a H w)) fun H=>Q5 a (fun am=> ∀t w,b w→H t w→Q0 g.1 true w (Q2 P T.c t) (dk a am w)) fun am=>Q5 a (fun ai=> ∀ae w,b w→U ae w→Q0 g.1 true w (Q2 P T.c ae) (dk a ai w)) fun ai=>∀ad V ae D q t b7 b5 w,b w→Q ad w→E V w→U ae w→z D w→ab q w→H t w→am b7 w→ai b5 w→ Q0 g.1 true w (Q3 P .neq T.c (.tmp 170) (.tmp 172) b7 b5) fun dc w=>pick P g.1 dc (.bool false) w fun cf w=>Q3 P .add T.e (.tmp 161) (.const (.int .i64 1)) g.2 (.int .i64 1) w fun ci w=>ar (cf,ci) w) (Q3 P .add T.e (.tmp 128) (.const (.int .i64 1)) h.2 (.int .i64 1) w fun c1 w=>aw (g.1,c1) w)) (Q0 h.1 true w (fieldAddr P T.b i 3) fun dh w=>Q0 h.1 true w (Q2 P T.v dh) fun de w=>Q0 h.1 true w (J8 P .not de) fun cp w=>Q0 h.1 true w (fun w J=>J cp w) fun o w=>Q0 o false w (fieldAddr P T.b i 4) fun dw w=>Q0 o false w (Q2 P T.v dw) fun cv w=>Q0 o false w (fun w J=>J cv w) fun W w=>Q0 W true w (fieldAddr P T.b i 1) fun db w=>Q0 W true w (Q2 P T.c db) fun cl w=>Q0 W true w (Q3 P .eql T.c (.tmp 185) (.const (.string ⟨#[79,98,106,101,99,116]⟩)) cl (.string ⟨#[79,98,106,101,99,116]⟩)) fun da w=>Q0 o false w (pick P W da (.bool false)) fun c0 w=>Q0 h.1 true w (pick P o (.bool true) c0) fun cd w=>pick P h.1 cd (.bool false) w fun m w=>Q0 m true w (fieldAddr P T.b i 4) fun df w=>Q0 m true w (Q2 P T.v df) fun c5 w=>Q0 m true w (fun w J=>J c5 w) fun an w=>Q0 an true w (fieldAddr P T.b i 5) fun dt w=>Q0 an true w (Q2 P T.v dt) fun dn w=>Q0 m true w (pick P an dn (.bool false)) fun dx w=>Q0 m true w (J8 P .not dx) fun ds w=>pick P m ds (.bool false) w fun ct w=>K ct w)))
theorem Kt {a:Value} {w:World} {K:Value→World→Prop} (h:Ml a w K):Q1 P F.bs [a] w K:=Q9 Ps Tryz.func148 rfl (by decide) (by kernel_rfl) h
def Ly (c:Value) (w:World) (K:Value→World→Prop):Prop:= box P T.b c w fun a w=>Q2 P T.b a w fun g w=>Q1 P F.bL [g] w fun b w=>X1 b (K (.int .i64 51) w) (Q2 P T.b a w fun d w=>Q1 P F.bs [d] w fun e w=>J8 P .not e w fun f w=>X1 f (K (.int .i64 50) w) (K (.int .i64 0) w))
theorem Pw {a:Value} {w:World} {K:Value→World→Prop} (h:Ly a w K):Q1 P F.bq [a] w K:=Q9 (List.replicate 8 none) Tryz.func100 rfl (by decide) (by kernel_rfl) h
def Tx:V5:=[none,none,none,some ([5],[4,5,6,7,8,9,10,11,12,13,14,15,16,17,18,19]),none,none,none,none,none,none]
def On (h i:Value) (w:World) (K:Value→World→Prop):Prop:= lp (α:=Value) (.int .i64 0) w fun a b l w=>X2 P .len [T.i] T.e [false] [h] w fun j w=>Q3 P .lss T.e (.tmp 6) (.tmp 8) b j w fun k w=>X1 k (indexAddr P T.i h b w fun f w=>fieldAddr P T.b f 0 w fun g w=>Q2 P T.c g w fun d w=>Q3 P .eql T.c (.tmp 16) (.tmp 17) d i w fun e w=>X1 e (K b w) (Q3 P .add T.e (.tmp 10) (.const (.int .i64 1)) b (.int .i64 1) w fun c w=>a c w)) (K (.int .i64 (-1)) w)
theorem Ts {a b:Value} {w:World} {K:Value→World→Prop} (h:On a b w K):Q1 P F.b [a,b] w K:=Q9 Tx Tryz.func101 rfl (by decide) (by kernel_rfl) h
def Gh:V5:=[none,none,none,none,none,none,none,some ([6],[4,6,7,28,29,30,31,32,33,34,35,36,37,38,39,40,41,42,43,44,45,46,47,48,49,50,51]),none,none,none,none,none,none,none]
def Lm (g V:Value) (w:World) (K:Value→World→Prop):Prop:= box P T.b V w fun b w=>fieldAddr P T.b b 1 w fun W w=>Q2 P T.c W w fun B w=>Q1 P F.b [g,B] w fun f w=>Q3 P .lss T.e (.tmp 12) (.const (.int .i64 0)) f (.int .i64 0) w fun d w=>Q0 d false w (fun w J=>J g w) fun D w=>Q0 d false w (fun w J=>J f w) fun E w=>Q0 d false w (indexAddr P T.i D E) fun M w=>Q0 d false w (fieldAddr P T.b M 3) fun v w=>Q0 d false w (Q2 P T.v v) fun o w=>pick P d (.bool true) o w fun c w=>Q0 c false w (fun w J=>J g w) fun q w=>Q0 c false w (fun w J=>J f w) fun j w=>Q0 c false w (indexAddr P T.i q j) fun r w=>Q0 c false w (fieldAddr P T.b r 5) fun n w=>Q0 c false w (Q2 P T.v n) fun U w=>pick P c (.bool true) U w fun A w=>X1 A (K (.int .i64 61) w) (lp (α:=Value) (.int .i64 0) w fun e H X w=>fieldAddr P T.b b 2 w fun u w=>Q2 P T.h u w fun L w=>X2 P .len [T.h] T.e [false] [L] w fun Q w=>Q3 P .lss T.e (.tmp 28) (.tmp 31) H Q w fun N w=>X1 N (fieldAddr P T.b b 2 w fun s w=>Q2 P T.h s w fun t w=>indexAddr P T.h t H w fun k w=>Q2 P T.c k w fun C w=>Q1 P F.b [g,C] w fun h w=>Q3 P .lss T.e (.tmp 42) (.const (.int .i64 0)) h (.int .i64 0) w fun a w=>Q0 a false w (fun w J=>J g w) fun y w=>Q0 a false w (fun w J=>J h w) fun p w=>Q0 a false w (indexAddr P T.i y p) fun i w=>Q0 a false w (fieldAddr P T.b i 3) fun l w=>Q0 a false w (Q2 P T.v l) fun R w=>Q0 a false w (J8 P .not R) fun m w=>pick P a (.bool true) m w fun z w=>X1 z (K (.int .i64 62) w) (Q3 P .add T.e (.tmp 33) (.const (.int .i64 1)) H (.int .i64 1) w fun O w=>e O w)) (K (.int .i64 0) w))
theorem Gr {a b:Value} {w:World} {K:Value→World→Prop} (h:Lm a b w K):Q1 P F.bg [a,b] w K:=Q9 Gh Tryz.func102 rfl (by decide) (by kernel_rfl) h
def Ij:V5:=[none,none,none,none,some ([3,4],[3,4,5,6,7,8,13,14,15,16,17,18,19,20,21,22,23,24,25,26,27,28,29,30,31,32,33,34,35,36,37,38,39,40,41,42,43,44,45,46,47,48,49,50,51,52,53,54]),none,none,none,none,none,none,none,some ([7],[7,8,34,35,36,37,38,39,40,41,42,43,44,45,46,47,48,49,50]),none,none,some ([],[8,40,41,42,43,44,45,46,47,48,49,50]),none,none,none,none,some ([9],[9,10,11,55,56,57,58,59,60,61,62,63,64,65,66,67,68,69,70,71,72,73,74,75,76,77,78,79,80,81,82,83,84,85,86,87,88,89,90,91,92,93,94,95,96,97,98,99,100,101,102,103]),none,none,none,none,some ([10],[10,11,61,62,63,64,65,66,67,68,69,70,71,72,73,74,75,76,77,78,79,80,81,82,83,84,85,86,87,88,89,90,91,92,93,94,95,96,97,98,99,100,101,102,103]),none,none,none,none,some ([11],[11,67,68,69,70,71,72,73,74,75,76,77,78,79,80,81,82,83,84,85,86,87,88,89,90,91,92,93,94,95,96,97,98,99,100,101,102,103]),none,none,none,none]
def Mo (a0:Value) (w:World) (K:Value→World→Prop):Prop:= buildSlice P T.a8 0 [] w fun b0 w=>lp (α:=Value×Value) (b0,(.int .i64 0)) w fun ai r d_ w=>X2 P .len [T.i] T.e [false] [a0] w fun b1 w=>Q3 P .lss T.e (.tmp 13) (.tmp 15) r.2 b1 w fun bq w=>X1 bq (X2 P .len [T.i] T.e [false] [a0] w fun a6 w=>Lg P T.a6 a6 a6 w fun be w=>dr w fun b d=>Q5 b (fun y=> ∀w,d w→indexAddr P T.i a0 r.2 w (dk b y w)) fun y=>Q5 b (fun B=> ∀ak w,d w→y ak w→fieldAddr P T.b ak 1 w (dk b B w)) fun B=>Q5 b (fun D=> ∀w,d w→indexAddr P T.i a0 r.2 w (dk b D w)) fun D=>Q5 b (fun ar=> ∀aw w,d w→D aw w→fieldAddr P T.b aw 2 w (dk b ar w)) fun ar=>Q5 b (fun C=> ∀z w,d w→B z w→Q2 P T.c z w (dk b C w)) fun C=>Q5 b (fun a3=> ∀Y w,d w→C Y w→buildSlice P T.h 1 [(0,Y)] w (dk b a3 w)) fun a3=>Q5 b (fun a5=> ∀W w,d w→ar W w→Q2 P T.h W w (dk b a5 w)) fun a5=>∀ak z aw W Y bc ba w,d w→y ak w→B z w→D aw w→ar W w→C Y w→a3 bc w→a5 ba w→ X2 P .append [T.h,T.h] T.h [false,false] [bc,ba] w fun a9 w=>lp (α:=Value) (.int .i64 0) w fun n a4 d_ w=>X2 P .len [T.h] T.e [false] [a9] w fun bx w=>Q3 P .lss T.e (.tmp 34) (.tmp 36) a4 bx w fun bl w=>X1 bl (jn (α:=Unit) w (fun bb w=>indexAddr P T.h a9 a4 w fun bm w=>Q2 P T.c bm w fun bp w=>Q1 P F.b [a0,bp] w fun a8 w=>Q3 P .geq T.e (.tmp 46) (.const (.int .i64 0)) a8 (.int .i64 0) w fun bu w=>X1 bu (indexAddr P T.a6 be a8 w fun bw w=>Y1 P T.v bw (.bool true) w fun _u w=>bb () w) (bb () w)) fun b4 d_ w=>Q3 P .add T.e (.tmp 38) (.const (.int .i64 1)) a4 (.int .i64 1) w fun bg w=>n bg w) (buildSlice P T.a8 1 [(0,be)] w fun bv w=>X2 P .append [T.a8,T.a8] T.a8 [false,false] [r.1,bv] w fun b3 w=>Q3 P .add T.e (.tmp 17) (.const (.int .i64 1)) r.2 (.int .i64 1) w fun bz w=>ai (b3,bz) w)) (lp (α:=Value) (.int .i64 0) w fun o an d_ w=>X2 P .len [T.i] T.e [false] [a0] w fun br w=>Q3 P .lss T.e (.tmp 55) (.tmp 57) an br w fun bj w=>X1 bj (lp (α:=Value) (.int .i64 0) w fun p k d_ w=>X2 P .len [T.i] T.e [false] [a0] w fun bi w=>Q3 P .lss T.e (.tmp 61) (.tmp 63) k bi w fun bo w=>X1 bo (lp (α:=Value) (.int .i64 0) w fun l q d_ w=>X2 P .len [T.i] T.e [false] [a0] w fun bh w=>Q3 P .lss T.e (.tmp 67) (.tmp 69) q bh w fun bk w=>X1 bk (dr w fun b d=>Q5 b (fun ad=> ∀w,d w→indexAddr P T.a8 r.1 k w (dk b ad w)) fun ad=>Q5 b (fun ay=> ∀w,d w→indexAddr P T.a8 r.1 k w (dk b ay w)) fun ay=>Q5 b (fun a2=> ∀ap w,d w→ad ap w→Q2 P T.a6 ap w (dk b a2 w)) fun a2=>Q5 b (fun N=> ∀ag w,d w→ay ag w→Q2 P T.a6 ag w (dk b N w)) fun N=>Q5 b (fun am=> ∀Q w,d w→N Q w→indexAddr P T.a6 Q q w (dk b am w)) fun am=>Q5 b (fun e=> ∀ab w,d w→am ab w→Q2 P T.v ab w (dk b e w)) fun e=>Q5 b (fun X=> ∀a w,d w→e a w→Q0 a false w (fun w J=>J r.1 w) (dk b X w)) fun X=>Q5 b (fun E=> ∀a w,d w→e a w→Q0 a false w (fun w J=>J k w) (dk b E w)) fun E=>Q5 b (fun av=> ∀a v u w,d w→e a w→X v w→E u w→Q0 a false w (indexAddr P T.a8 v u) (dk b av w)) fun av=>Q5 b (fun aj=> ∀a w,d w→e a w→Q0 a false w (fun w J=>J an w) (dk b aj w)) fun aj=>Q5 b (fun M=> ∀a al w,d w→e a w→av al w→Q0 a false w (Q2 P T.a6 al) (dk b M w)) fun M=>Q5 b (fun ah=> ∀a U R w,d w→e a w→M U w→aj R w→Q0 a false w (indexAddr P T.a6 U R) (dk b ah w)) fun ah=>Q5 b (fun af=> ∀a V w,d w→e a w→ah V w→Q0 a false w (Q2 P T.v V) (dk b af w)) fun af=>Q5 b (fun f=> ∀a A w,d w→e a w→af A w→Q0 a false w (fun w J=>J A w) (dk b f w)) fun f=>Q5 b (fun L=> ∀c w,d w→f c w→Q0 c true w (fun w J=>J r.1 w) (dk b L w)) fun L=>Q5 b (fun ax=> ∀c w,d w→f c w→Q0 c true w (fun w J=>J an w) (dk b ax w)) fun ax=>Q5 b (fun Z=> ∀c H s w,d w→f c w→L H w→ax s w→Q0 c true w (indexAddr P T.a8 H s) (dk b Z w)) fun Z=>Q5 b (fun ao=> ∀c w,d w→f c w→Q0 c true w (fun w J=>J q w) (dk b ao w)) fun ao=>Q5 b (fun ae=> ∀c O w,d w→f c w→Z O w→Q0 c true w (Q2 P T.a6 O) (dk b ae w)) fun ae=>Q5 b (fun aq=> ∀c ac t w,d w→f c w→ae ac w→ao t w→Q0 c true w (indexAddr P T.a6 ac t) (dk b aq w)) fun aq=>Q5 b (fun i=> ∀c aa w,d w→f c w→aq aa w→Q0 c true w (Q2 P T.v aa) (dk b i w)) fun i=>Q5 b (fun g=> ∀a c h w,d w→e a w→f c w→i h w→Q0 a false w (pick P c h (.bool false)) (dk b g w)) fun g=>Q5 b (fun m=> ∀a j w,d w→e a w→g j w→pick P a (.bool true) j w (dk b m w)) fun m=>∀ap ag a7 Q ab a v u al R U V A c H s O t ac aa h j az w,d w→ad ap w→ay ag w→a2 a7 w→N Q w→am ab w→e a w→X v w→E u w→av al w→aj R w→M U w→ah V w→af A w→f c w→L H w→ax s w→Z O w→ao t w→ae ac w→aq aa w→i h w→g j w→m az w→ indexAddr P T.a6 a7 q w fun bd w=>Y1 P T.v bd az w fun _u w=>Q3 P .add T.e (.tmp 71) (.const (.int .i64 1)) q (.int .i64 1) w fun bs w=>l bs w) (Q3 P .add T.e (.tmp 65) (.const (.int .i64 1)) k (.int .i64 1) w fun b2 w=>p b2 w)) (Q3 P .add T.e (.tmp 59) (.const (.int .i64 1)) an (.int .i64 1) w fun bn w=>o bn w)) (K r.1 w))
theorem Kz {a:Value} {w:World} {K:Value→World→Prop} (h:Mo a w K):Q1 P F.al [a] w K:=Q9 Ij Tryz.func103 rfl (by decide) (by kernel_rfl) h
def Q0o:V5:=[none,none,none,none,none,none,some ([9],[8,9,16,17,18,19,20,21,22,23,24,25,26,27,28]),none,none,none,none,none,none,none,none,some ([1,11],[1,11,41,42,43,44,45,46,47,48,49,50,51,52,53,54,55,56]),none,none,none,none]
def Ez (y t X s:Value) (w:World) (K:Value→World→Prop):Prop:= Q3 P .lss T.e (.tmp 12) (.tmp 13) s X w fun U w=>X1 U (K t w) (lp (α:=Value) (.int .i64 0) w fun e V Y w=>X2 P .len [T.a7] T.e [false] [t] w fun J w=>Q3 P .lss T.e (.tmp 16) (.tmp 18) V J w fun C w=>X1 C (indexAddr P T.a7 t V w fun E w=>Q2 P T.e E w fun B w=>Q3 P .eql T.e (.tmp 25) (.tmp 26) B s w fun N w=>X1 N (K t w) (Q3 P .add T.e (.tmp 20) (.const (.int .i64 1)) V (.int .i64 1) w fun R w=>e R w)) (dr w fun a o=>Q5 a (fun j=> ∀w,o w→indexAddr P T.i y s w (dk a j w)) fun j=>Q5 a (fun h=> ∀n w,o w→j n w→fieldAddr P T.b n 1 w (dk a h w)) fun h=>Q5 a (fun l=> ∀w,o w→indexAddr P T.i y s w (dk a l w)) fun l=>Q5 a (fun f=> ∀g w,o w→l g w→fieldAddr P T.b g 2 w (dk a f w)) fun f=>Q5 a (fun i=> ∀m w,o w→h m w→Q2 P T.c m w (dk a i w)) fun i=>Q5 a (fun p=> ∀k w,o w→i k w→buildSlice P T.h 1 [(0,k)] w (dk a p w)) fun p=>Q5 a (fun q=> ∀d w,o w→f d w→Q2 P T.h d w (dk a q w)) fun q=>∀n m g d k v r w,o w→j n w→h m w→l g w→f d w→i k w→p v w→q r w→ X2 P .append [T.h,T.h] T.h [false,false] [v,r] w fun u w=>lp (α:=Value×Value) (t,(.int .i64 0)) w fun c b Y w=>X2 P .len [T.h] T.e [false] [u] w fun L w=>Q3 P .lss T.e (.tmp 41) (.tmp 43) b.2 L w fun Q w=>X1 Q (indexAddr P T.h u b.2 w fun A w=>Q2 P T.c A w fun W w=>Q1 P F.b [y,W] w fun z w=>Q1 P F.b3 [y,b.1,X,z] w fun H w=>Q3 P .add T.e (.tmp 45) (.const (.int .i64 1)) b.2 (.int .i64 1) w fun D w=>c (H,D) w) (buildSlice P T.a7 1 [(0,s)] w fun O w=>X2 P .append [T.a7,T.a7] T.a7 [false,false] [b.1,O] w fun M w=>K M w)))
theorem Q0y {c d a b:Value} {w:World} {K:Value→World→Prop} (h:Ez c d a b w K):Q1 P F.b3 [c,d,a,b] w K:=Q9 Q0o Tryz.func104 rfl (by decide) (by kernel_rfl) h
def Xt (u A:Value) (w:World) (K:Value→World→Prop):Prop:= Q1 P F.b [u,A] w fun z w=>Q3 P .lss T.e (.tmp 9) (.const (.int .i64 0)) z (.int .i64 0) w fun y w=>X1 y (K (.slice none 0 0) w) (dr w fun a b=>Q5 a (fun d=> ∀w,b w→indexAddr P T.i u z w (dk a d w)) fun d=>Q5 a (fun k=> ∀n w,b w→d n w→fieldAddr P T.b n 1 w (dk a k w)) fun k=>Q5 a (fun i=> ∀w,b w→indexAddr P T.i u z w (dk a i w)) fun i=>Q5 a (fun m=> ∀g w,b w→i g w→fieldAddr P T.b g 6 w (dk a m w)) fun m=>Q5 a (fun h=> ∀w,b w→buildSlice P T.k 0 [] w (dk a h w)) fun h=>Q5 a (fun l=> ∀o w,b w→k o w→Q2 P T.c o w (dk a l w)) fun l=>Q5 a (fun e=> ∀p w,b w→l p w→Q1 P F.p [u,p] w (dk a e w)) fun e=>Q5 a (fun q=> ∀f j w,b w→h f w→e j w→X2 P .append [T.k,T.k] T.k [false,false] [f,j] w (dk a q w)) fun q=>Q5 a (fun r=> ∀c w,b w→m c w→Q2 P T.k c w (dk a r w)) fun r=>∀n o g c f p j s t w,b w→d n w→k o w→i g w→m c w→h f w→l p w→e j w→q s w→r t w→ X2 P .append [T.k,T.k] T.k [false,false] [s,t] w fun v w=>K v w)
theorem Lv {a b:Value} {w:World} {K:Value→World→Prop} (h:Xt a b w K):Q1 P F.p [a,b] w K:=Q9 (List.replicate 6 none) Tryz.func73 rfl (by decide) (by kernel_rfl) h
def Kw:V5:=[none,none,none,none,some ([8],[6,8,12,13,14,15,16,17,18,19,20,21,22,23,24,25]),none,none,none,none,none,none]
def Nn (l m k:Value) (w:World) (K:Value→World→Prop):Prop:= Q1 P F.p [l,m] w fun b w=>lp (α:=Value) (.int .i64 0) w fun a c n w=>X2 P .len [T.k] T.e [false] [b] w fun i w=>Q3 P .lss T.e (.tmp 12) (.tmp 14) c i w fun j w=>X1 j (indexAddr P T.k b c w fun e w=>fieldAddr P T.o e 0 w fun d w=>Q2 P T.c d w fun g w=>Q3 P .eql T.c (.tmp 22) (.tmp 23) g k w fun h w=>X1 h (K c w) (Q3 P .add T.e (.tmp 16) (.const (.int .i64 1)) c (.int .i64 1) w fun f w=>a f w)) (K (.int .i64 (-1)) w)
theorem Pe {b c a:Value} {w:World} {K:Value→World→Prop} (h:Nn b c a w K):Q1 P F.bt [b,c,a] w K:=Q9 Kw Tryz.func149 rfl (by decide) (by kernel_rfl) h
def Ol (a:Value) (w:World) (K:Value→World→Prop):Prop:= X2 P .len [T.c] T.e [false] [a] w fun c w=>Q1 P F.a3 [a] w fun f w=>Q3 P .mul T.e (.const (.int .i64 2)) (.tmp 7) (.int .i64 2) f w fun d w=>Q3 P .sub T.e (.tmp 5) (.tmp 8) c d w fun e w=>S1 P T.c a none (some e) none w fun b w=>K b w
theorem Am {a:Value} {w:World} {K:Value→World→Prop} (h:Ol a w K):Q1 P F.aZ [a] w K:=Q9 (List.replicate 2 none) Tryz.func153 rfl (by decide) (by kernel_rfl) h
def Db (p d:Value) (w:World) (K:Value→World→Prop):Prop:= Q3 P .eql T.c (.tmp 5) (.const (.string ⟨#[110,117,108,108]⟩)) d (.string ⟨#[110,117,108,108]⟩) w fun c w=>Q0 c false w (fun w J=>J d w) fun r w=>Q0 c false w (Q1 P F.e [r]) fun q w=>Q0 c false w (fun w J=>J q w) fun a w=>Q0 a true w (fun w J=>J d w) fun g w=>Q0 a true w (Q1 P F.aZ [g]) fun k w=>Q0 a true w (Q1 P F.y [k]) fun f w=>Q0 a true w (fun w J=>J f w) fun b w=>Q0 b false w (fun w J=>J p w) fun l w=>Q0 b false w (fun w J=>J d w) fun m w=>Q0 b false w (Q1 P F.aZ [m]) fun o w=>Q0 b false w (Q1 P F.b [l,o]) fun j w=>Q0 b false w (Q3 P .geq T.e (.tmp 18) (.const (.int .i64 0)) j (.int .i64 0)) fun h w=>Q0 a true w (pick P b (.bool true) h) fun e w=>Q0 c false w (pick P a e (.bool false)) fun n w=>pick P c (.bool true) n w fun i w=>K i w
theorem Q01 {a b:Value} {w:World} {K:Value→World→Prop} (h:Db a b w K):Q1 P F.a2 [a,b] w K:=Q9 (List.replicate 2 none) Tryz.func106 rfl (by decide) (by kernel_rfl) h
def Mx (e d:Value) (w:World) (K:Value→World→Prop):Prop:= Q3 P .neq T.c (.tmp 5) (.const (.string ⟨#[110,117,108,108]⟩)) d (.string ⟨#[110,117,108,108]⟩) w fun a w=>Q0 a true w (fun w J=>J e w) fun f w=>Q0 a true w (fun w J=>J d w) fun g w=>Q0 a true w (Q1 P F.a2 [f,g]) fun c w=>pick P a c (.bool false) w fun b w=>K b w
theorem Pm {a b:Value} {w:World} {K:Value→World→Prop} (h:Mx a b w K):Q1 P F.bu [a,b] w K:=Q9 (List.replicate 2 none) Tryz.func150 rfl (by decide) (by kernel_rfl) h
def Tv:V5:=[none,none,none,none,some ([3,4],[3,4,5,6,7,8,9,10,11,12,13,14,15,16,17,18,19,20,21,22]),none,none,none,some ([3],[3,12,13,14,15]),none,none]
def Dd (s:Value) (w:World) (K:Value→World→Prop):Prop:= box P T.d s w fun a w=>lp (α:=Value×Value) ((.string ⟨#[40]⟩),(.int .i64 0)) w fun b c y w=>fieldAddr P T.d a 1 w fun r w=>Q2 P T.h r w fun v w=>X2 P .len [T.h] T.e [false] [v] w fun u w=>Q3 P .lss T.e (.tmp 5) (.tmp 8) c.2 u w fun t w=>X1 t (jn (α:=Value) w (fun p w=>Q3 P .gtr T.e (.tmp 12) (.const (.int .i64 0)) c.2 (.int .i64 0) w fun e w=>X1 e (Q3 P .add T.c (.tmp 14) (.const (.string ⟨#[44]⟩)) c.1 (.string ⟨#[44]⟩) w fun l w=>p l w) (p c.1 w)) fun q y w=>fieldAddr P T.d a 1 w fun n w=>Q2 P T.h n w fun j w=>indexAddr P T.h j c.2 w fun d w=>Q2 P T.c d w fun m w=>Q3 P .add T.c (.tmp 16) (.tmp 21) q m w fun h w=>Q3 P .add T.e (.tmp 10) (.const (.int .i64 1)) c.2 (.int .i64 1) w fun f w=>b (h,f) w) (Q3 P .add T.c (.tmp 23) (.const (.string ⟨#[41]⟩)) c.1 (.string ⟨#[41]⟩) w fun i w=>fieldAddr P T.d a 2 w fun g w=>Q2 P T.c g w fun o w=>Q3 P .add T.c (.tmp 24) (.tmp 26) i o w fun k w=>K k w)
theorem Ty {a:Value} {w:World} {K:Value→World→Prop} (h:Dd a w K):Q1 P F.aY [a] w K:=Q9 Tv Tryz.func151 rfl (by decide) (by kernel_rfl) h
def Q0f:V5:=[none,none,none,some ([5],[4,5,6,7,8,9,10,11,12,13,14,15,16,17,18,19,20,21]),none,none,none,none,none,none]
def Ey (l m:Value) (w:World) (K:Value→World→Prop):Prop:= box P T.b l w fun a w=>lp (α:=Value) (.int .i64 0) w fun b c q w=>fieldAddr P T.b a 7 w fun p w=>Q2 P T.j p w fun o w=>X2 P .len [T.j] T.e [false] [o] w fun n w=>Q3 P .lss T.e (.tmp 6) (.tmp 9) c n w fun h w=>X1 h (fieldAddr P T.b a 7 w fun e w=>Q2 P T.j e w fun k w=>indexAddr P T.j k c w fun i w=>fieldAddr P T.d i 0 w fun j w=>Q2 P T.c j w fun f w=>Q3 P .eql T.c (.tmp 18) (.tmp 19) f m w fun d w=>X1 d (K c w) (Q3 P .add T.e (.tmp 11) (.const (.int .i64 1)) c (.int .i64 1) w fun g w=>b g w)) (K (.int .i64 (-1)) w)
theorem Q1e {a b:Value} {w:World} {K:Value→World→Prop} (h:Ey a b w K):Q1 P F.b4 [a,b] w K:=Q9 Q0f Tryz.func183 rfl (by decide) (by kernel_rfl) h
def Kx:V5:=[none,none,none,some ([9],[6,8,9,10,11,12,13,14,15,16,17,18,19,20,21,22,23,24,25,26,27,28,29,30,31,32,33,34,35,36,37,38,39,40,41,42,43,44,45,46,47,48,49,50,51,52,53,54]),none,none,none,none,none,none,none,none,none,none,none,none]
def Nj (U a1 a2:Value) (w:World) (K:Value→World→Prop):Prop:= box P T.b a1 w fun d w=>W0 P T.d w fun s w=>lp (α:=Value) (.int .i64 0) w fun m A d_ w=>fieldAddr P T.b d 2 w fun V w=>Q2 P T.h V w fun Y w=>X2 P .len [T.h] T.e [false] [Y] w fun N w=>Q3 P .lss T.e (.tmp 15) (.tmp 18) A N w fun E w=>X1 E (fieldAddr P T.b d 2 w fun J w=>Q2 P T.h J w fun D w=>indexAddr P T.h D A w fun R w=>Q2 P T.c R w fun O w=>Q1 P F.b [U,O] w fun M w=>indexAddr P T.i U M w fun X w=>Q2 P T.b X w fun aa w=>W0 P T.b w fun a w=>Y1 P T.b a aa w fun _u w=>Q2 P T.b a w fun Z w=>Q1 P F.b4 [Z,a2] w fun y w=>Q3 P .geq T.e (.tmp 35) (.const (.int .i64 0)) y (.int .i64 0) w fun L w=>X1 L (dr w fun b e=>Q5 b (fun n=> ∀w,e w→fieldAddr P T.b a 0 w (dk b n w)) fun n=>Q5 b (fun l=> ∀w,e w→fieldAddr P T.b a 7 w (dk b l w)) fun l=>Q5 b (fun q=> ∀h w,e w→n h w→Q2 P T.c h w (dk b q w)) fun q=>Q5 b (fun i=> ∀f w,e w→l f w→Q2 P T.j f w (dk b i w)) fun i=>Q5 b (fun j=> ∀k w,e w→i k w→indexAddr P T.j k y w (dk b j w)) fun j=>Q5 b (fun p=> ∀g w,e w→j g w→Q2 P T.d g w (dk b p w)) fun p=>∀h f u k g v w,e w→n h w→l f w→q u w→i k w→j g w→p v w→ Y1 P T.d s v w fun _u w=>Y7 P T.d s w fun t=>K (.tuple #[u,t,(.bool true)]) w) (Q2 P T.b a w fun H w=>Q1 P F.aO [U,H,a2] w fun o w=>ext P o 0 w fun ab w=>ext P o 1 w fun C w=>ext P o 2 w fun Q w=>W0 P T.d w fun c w=>Y1 P T.d c C w fun _u w=>X1 Q (dr w fun b e=>Q5 b (fun r=> ∀w,e w→Q2 P T.d c w (dk b r w)) fun r=>∀z w,e w→r z w→ Y1 P T.d s z w fun _u w=>Y7 P T.d s w fun t=>K (.tuple #[ab,t,(.bool true)]) w) (Q3 P .add T.e (.tmp 20) (.const (.int .i64 1)) A (.int .i64 1) w fun W w=>m W w))) (H1 P T.d [] w fun B w=>Y1 P T.d s B w fun _u w=>Y7 P T.d s w fun t=>K (.tuple #[(.string ⟨#[]⟩),t,(.bool false)]) w)
theorem Ip {b c a:Value} {w:World} {K:Value→World→Prop} (h:Nj b c a w K):Q1 P F.aO [b,c,a] w K:=Q9 Kx Tryz.func184 rfl (by decide) (by kernel_rfl) h
def Fv:V5:=[none,none,none,some ([9],[6,8,9,10,18,19,20,21,22,23,24,25,26,27,28,29,30,31,32,33,34,35,36,37,38,39,40,41,42,43,44,45,46,47]),none,none,none,none,none,none,none,none,some ([11],[6,8,11,12,13,14,51,52,53,54,55,56,57,58,59,60,61,62,63,64,65,66,67,68,69,70,71,72,73]),none,none,none,none,none,none,none]
def Ll (d a1 a2:Value) (w:World) (K:Value→World→Prop):Prop:= W0 P T.d w fun y w=>Q1 P F.b [d,a1] w fun ae w=>lp (α:=Value) ae w fun p z d_ w=>Q3 P .geq T.e (.tmp 18) (.const (.int .i64 0)) z (.int .i64 0) w fun Q w=>X1 Q (indexAddr P T.i d z w fun V w=>Q2 P T.b V w fun ad w=>Q1 P F.b4 [ad,a2] w fun H w=>Q3 P .geq T.e (.tmp 33) (.const (.int .i64 0)) H (.int .i64 0) w fun af w=>X1 af (dr w fun a b=>Q5 a (fun q=> ∀w,b w→indexAddr P T.i d z w (dk a q w)) fun q=>Q5 a (fun j=> ∀k w,b w→q k w→fieldAddr P T.b k 0 w (dk a j w)) fun j=>Q5 a (fun n=> ∀w,b w→indexAddr P T.i d z w (dk a n w)) fun n=>Q5 a (fun g=> ∀h w,b w→n h w→fieldAddr P T.b h 7 w (dk a g w)) fun g=>Q5 a (fun u=> ∀f w,b w→j f w→Q2 P T.c f w (dk a u w)) fun u=>Q5 a (fun e=> ∀l w,b w→g l w→Q2 P T.j l w (dk a e w)) fun e=>Q5 a (fun m=> ∀o w,b w→e o w→indexAddr P T.j o H w (dk a m w)) fun m=>Q5 a (fun v=> ∀i w,b w→m i w→Q2 P T.d i w (dk a v w)) fun v=>∀k f h l C o i A w,b w→q k w→j f w→n h w→g l w→u C w→e o w→m i w→v A w→ Y1 P T.d y A w fun _u w=>Y7 P T.d y w fun B=>K (.tuple #[C,B,(.bool true)]) w) (indexAddr P T.i d z w fun J w=>fieldAddr P T.b J 1 w fun R w=>Q2 P T.c R w fun N w=>Q1 P F.b [d,N] w fun ah w=>p ah w)) (Q1 P F.b [d,a1] w fun M w=>lp (α:=Value) M w fun c r d_ w=>Q3 P .geq T.e (.tmp 51) (.const (.int .i64 0)) r (.int .i64 0) w fun ac w=>X1 ac (indexAddr P T.i d r w fun Z w=>Q2 P T.b Z w fun X w=>Q1 P F.aO [d,X,a2] w fun s w=>ext P s 0 w fun ag w=>ext P s 1 w fun L w=>ext P s 2 w fun U w=>W0 P T.d w fun D w=>Y1 P T.d D L w fun _u w=>X1 U (dr w fun a b=>Q5 a (fun t=> ∀w,b w→Q2 P T.d D w (dk a t w)) fun t=>∀E w,b w→t E w→ Y1 P T.d y E w fun _u w=>Y7 P T.d y w fun B=>K (.tuple #[ag,B,(.bool true)]) w) (indexAddr P T.i d r w fun W w=>fieldAddr P T.b W 1 w fun ab w=>Q2 P T.c ab w fun O w=>Q1 P F.b [d,O] w fun Y w=>c Y w)) (H1 P T.d [] w fun aa w=>Y1 P T.d y aa w fun _u w=>Y7 P T.d y w fun B=>K (.tuple #[(.string ⟨#[]⟩),B,(.bool false)]) w))
theorem Fm {b c a:Value} {w:World} {K:Value→World→Prop} (h:Ll b c a w K):Q1 P F.bh [b,c,a] w K:=Q9 Fv Tryz.func152 rfl (by decide) (by kernel_rfl) h
def Bq:V5:=[none,none,none,none,some ([6],[4,6,24,25,26,27,28,29,30,31,32,33,34,35,36,37,38,39,40,41]),none,none,none,none,none,none,none,none,some ([7,8],[7,8,43,44,45,46,47,48,49,50,51,52,53,54,55,56,57,58]),none,none,none,none,none,some ([7,9],[7,9,59,60,61,62,63,64,65,66,67,68,69,70,71,72,73,74,75,76,77,78,79,80,81,82,83,84,85,86,87,88,89]),none,none,some ([7],[7,66,67,68,69,70,71,72,73,74,75,76,77,78,79,80,81,82,83,84,85,86,87,88,89]),none,none,none,none,some ([10],[4,10,90,91,92,93,94,95,96,97,98,99,100,101,102]),none,none,none,none,none,none,none,none,none,some ([12,13],[12,13,106,107,108,109,110,111,112,113,114,115,116,117,118,119,120,121,122,123,124,125,126,127,128,129,130]),none,none,some ([12],[12,112,113,114,115,116,117,118,119,120,121,122,123,124,125,126,127,128,129,130]),none,none,none,some ([14],[4,14,15,131,132,133,134,135,136,137,138,139,140,141,142,143,144,145,146,147,148,149,150,151,152,153,154,155,156,157,158,159,160,161,162,163,164,165]),none,none,none,none,some ([15],[4,15,137,138,139,140,141,142,143,144,145,146,147,148,149,150,151,152,153,154,155,156,157,158,159,160,161,162,163,164,165]),none,none,none,none,none,none,none,some ([16],[4,16,17,18,19,166,167,168,169,170,171,172,173,174,175,176,177,178,179,180,181,182,183,184,185,186,187,188,189,190,191,192,193,194,195]),none,none,none,none,none,none,none]
def Vp (a0 a1:Value) (w:World) (K:Value→World→Prop):Prop:= indexAddr P T.i a0 a1 w fun da w=>Q2 P T.b da w fun dn w=>W0 P T.b w fun t5 w=>Y1 P T.b t5 dn w fun _u w=>lp (α:=Value) (.int .i64 0) w fun a5 x4 d_ w=>fieldAddr P T.b t5 6 w fun du w=>Q2 P T.k du w fun c5 w=>X2 P .len [T.k] T.e [false] [c5] w fun de w=>Q3 P .lss T.e (.tmp 24) (.tmp 27) x4 de w fun ec w=>X1 ec (dr w fun b c=>Q5 b (fun a6=> ∀w,c w→fieldAddr P T.b t5 1 w (dk b a6 w)) fun a6=>Q5 b (fun a3=> ∀w,c w→fieldAddr P T.b t5 6 w (dk b a3 w)) fun a3=>Q5 b (fun bk=> ∀bd w,c w→a6 bd w→Q2 P T.c bd w (dk b bk w)) fun bk=>Q5 b (fun a9=> ∀be w,c w→a3 be w→Q2 P T.k be w (dk b a9 w)) fun a9=>Q5 b (fun bc=> ∀a4 w,c w→a9 a4 w→indexAddr P T.k a4 x4 w (dk b bc w)) fun bc=>Q5 b (fun ba=> ∀bb w,c w→bc bb w→fieldAddr P T.o bb 0 w (dk b ba w)) fun ba=>Q5 b (fun bm=> ∀bf w,c w→ba bf w→Q2 P T.c bf w (dk b bm w)) fun bm=>∀bd be bz a4 bb bf bq w,c w→a6 bd w→a3 be w→bk bz w→a9 a4 w→bc bb w→ba bf w→bm bq w→ Q1 P F.bt [a0,bz,bq] w fun ee w=>Q3 P .geq T.e (.tmp 40) (.const (.int .i64 0)) ee (.int .i64 0) w fun ef w=>X1 ef (K (.int .i64 64) w) (Q3 P .add T.e (.tmp 29) (.const (.int .i64 1)) x4 (.int .i64 1) w fun dj w=>a5 dj w)) (buildSlice P T.h 0 [] w fun dw w=>lp (α:=Value×Value) (dw,(.int .i64 0)) w fun ay ak d_ w=>fieldAddr P T.b t5 6 w fun c0 w=>Q2 P T.k c0 w fun cz w=>X2 P .len [T.k] T.e [false] [cz] w fun c9 w=>Q3 P .lss T.e (.tmp 43) (.tmp 46) ak.2 c9 w fun c7 w=>X1 c7 (fieldAddr P T.b t5 6 w fun dd w=>Q2 P T.k dd w fun dh w=>indexAddr P T.k dh ak.2 w fun eh w=>fieldAddr P T.o eh 1 w fun d8 w=>Q2 P T.c d8 w fun db w=>buildSlice P T.h 1 [(0,db)] w fun c3 w=>X2 P .append [T.h,T.h] T.h [false,false] [ak.1,c3] w fun cx w=>Q3 P .add T.e (.tmp 48) (.const (.int .i64 1)) ak.2 (.int .i64 1) w fun dl w=>ay (cx,dl) w) (lp (α:=Value×Value) (ak.1,(.int .i64 0)) w fun aq j d_ w=>fieldAddr P T.b t5 7 w fun dz w=>Q2 P T.j dz w fun d0 w=>X2 P .len [T.j] T.e [false] [d0] w fun di w=>Q3 P .lss T.e (.tmp 59) (.tmp 62) j.2 di w fun dv w=>X1 dv (jn (α:=Value) w (fun ce w=>fieldAddr P T.b t5 7 w fun ds w=>Q2 P T.j ds w fun d5 w=>indexAddr P T.j d5 j.2 w fun cy w=>fieldAddr P T.d cy 1 w fun eg w=>Q2 P T.h eg w fun c6 w=>X2 P .append [T.h,T.h] T.h [false,false] [j.1,c6] w fun bs w=>fieldAddr P T.b t5 7 w fun c1 w=>Q2 P T.j c1 w fun dg w=>indexAddr P T.j dg j.2 w fun c8 w=>fieldAddr P T.d c8 2 w fun d4 w=>Q2 P T.c d4 w fun c4 w=>Q3 P .neq T.c (.tmp 79) (.const (.string ⟨#[]⟩)) c4 (.string ⟨#[]⟩) w fun ea w=>X1 ea (fieldAddr P T.b t5 7 w fun dq w=>Q2 P T.j dq w fun d9 w=>indexAddr P T.j d9 j.2 w fun d6 w=>fieldAddr P T.d d6 2 w fun dt w=>Q2 P T.c dt w fun dp w=>buildSlice P T.h 1 [(0,dp)] w fun dc w=>X2 P .append [T.h,T.h] T.h [false,false] [bs,dc] w fun d3 w=>ce d3 w) (ce bs w)) fun ed d_ w=>Q3 P .add T.e (.tmp 64) (.const (.int .i64 1)) j.2 (.int .i64 1) w fun df w=>aq (ed,df) w) (lp (α:=Value) (.int .i64 0) w fun ao bj d_ w=>X2 P .len [T.h] T.e [false] [j.1] w fun dx w=>Q3 P .lss T.e (.tmp 90) (.tmp 92) bj dx w fun eb w=>X1 eb (indexAddr P T.h j.1 bj w fun d7 w=>Q2 P T.c d7 w fun bw w=>Q1 P F.bu [a0,bw] w fun ct w=>J8 P .not ct w fun b4 w=>X1 b4 (K (.int .i64 65) w) (Q3 P .add T.e (.tmp 94) (.const (.int .i64 1)) bj (.int .i64 1) w fun dm w=>ao dm w)) (Q1 P F.al [a0] w fun cn w=>buildSlice P T.j 0 [] w fun cv w=>lp (α:=Value×Value) (cv,(.int .i64 0)) w fun ap f d_ w=>X2 P .len [T.i] T.e [false] [a0] w fun b3 w=>Q3 P .lss T.e (.tmp 106) (.tmp 108) f.2 b3 w fun b9 w=>X1 b9 (jn (α:=Value) w (fun ck w=>Q3 P .eql T.e (.tmp 112) (.tmp 113) f.2 a1 w fun g w=>Q0 g false w (fun w J=>J cn w) fun bp w=>Q0 g false w (fun w J=>J a1 w) fun cr w=>Q0 g false w (indexAddr P T.a8 bp cr) fun b0 w=>Q0 g false w (Q2 P T.a6 b0) fun bx w=>Q0 g false w (fun w J=>J f.2 w) fun br w=>Q0 g false w (indexAddr P T.a6 bx br) fun b2 w=>Q0 g false w (Q2 P T.v b2) fun ch w=>pick P g (.bool true) ch w fun b7 w=>X1 b7 (indexAddr P T.i a0 f.2 w fun cw w=>fieldAddr P T.b cw 7 w fun cg w=>Q2 P T.j cg w fun cc w=>X2 P .append [T.j,T.j] T.j [false,false] [f.1,cc] w fun b6 w=>ck b6 w) (ck f.1 w)) fun c2 d_ w=>Q3 P .add T.e (.tmp 110) (.const (.int .i64 1)) f.2 (.int .i64 1) w fun cp w=>ap (c2,cp) w) (lp (α:=Value) (.int .i64 0) w fun ai al d_ w=>X2 P .len [T.j] T.e [false] [f.1] w fun cl w=>Q3 P .lss T.e (.tmp 131) (.tmp 133) al cl w fun ci w=>X1 ci (lp (α:=Value) (.int .i64 0) w fun am a2 d_ w=>Q3 P .lss T.e (.tmp 137) (.tmp 138) a2 al w fun b8 w=>X1 b8 (dr w fun b c=>Q5 b (fun aa=> ∀w,c w→indexAddr P T.j f.1 al w (dk b aa w)) fun aa=>Q5 b (fun ac=> ∀q w,c w→aa q w→fieldAddr P T.d q 0 w (dk b ac w)) fun ac=>Q5 b (fun B=> ∀w,c w→indexAddr P T.j f.1 a2 w (dk b B w)) fun B=>Q5 b (fun Q=> ∀N w,c w→B N w→fieldAddr P T.d N 0 w (dk b Q w)) fun Q=>Q5 b (fun U=> ∀A w,c w→ac A w→Q2 P T.c A w (dk b U w)) fun U=>Q5 b (fun H=> ∀C w,c w→Q C w→Q2 P T.c C w (dk b H w)) fun H=>Q5 b (fun d=> ∀n ab w,c w→U n w→H ab w→Q3 P .eql T.c (.tmp 146) (.tmp 151) n ab w (dk b d w)) fun d=>Q5 b (fun Y=> ∀a w,c w→d a w→Q0 a true w (fun w J=>J f.1 w) (dk b Y w)) fun Y=>Q5 b (fun o=> ∀a w,c w→d a w→Q0 a true w (fun w J=>J al w) (dk b o w)) fun o=>Q5 b (fun z=> ∀a m ag w,c w→d a w→Y m w→o ag w→Q0 a true w (indexAddr P T.j m ag) (dk b z w)) fun z=>Q5 b (fun E=> ∀a w,c w→d a w→Q0 a true w (fun w J=>J f.1 w) (dk b E w)) fun E=>Q5 b (fun R=> ∀a w,c w→d a w→Q0 a true w (fun w J=>J a2 w) (dk b R w)) fun R=>Q5 b (fun l=> ∀a ad M w,c w→d a w→E ad w→R M w→Q0 a true w (indexAddr P T.j ad M) (dk b l w)) fun l=>Q5 b (fun af=> ∀a p w,c w→d a w→z p w→Q0 a true w (Q2 P T.d p) (dk b af w)) fun af=>Q5 b (fun ax=> ∀a ae w,c w→d a w→af ae w→Q0 a true w (Q1 P F.aY [ae]) (dk b ax w)) fun ax=>Q5 b (fun aj=> ∀a O w,c w→d a w→l O w→Q0 a true w (Q2 P T.d O) (dk b aj w)) fun aj=>∀q A N C n ab a m ag p ad M O ae bg bh w,c w→aa q w→ac A w→B N w→Q C w→U n w→H ab w→d a w→Y m w→o ag w→z p w→E ad w→R M w→l O w→af ae w→ax bg w→aj bh w→ Q0 a true w (Q1 P F.aY [bh]) fun co w=>Q0 a true w (Q3 P .neq T.c (.tmp 158) (.tmp 163) bg co) fun cb w=>pick P a cb (.bool false) w fun cs w=>X1 cs (K (.int .i64 66) w) (Q3 P .add T.e (.tmp 140) (.const (.int .i64 1)) a2 (.int .i64 1) w fun b5 w=>am b5 w)) (Q3 P .add T.e (.tmp 135) (.const (.int .i64 1)) al (.int .i64 1) w fun cd w=>ai cd w)) (lp (α:=Value) (.int .i64 0) w fun az bn d_ w=>X2 P .len [T.j] T.e [false] [f.1] w fun bv w=>Q3 P .lss T.e (.tmp 166) (.tmp 168) bn bv w fun r w=>Q0 r true w (fieldAddr P T.b t5 4) fun cu w=>Q0 r true w (Q2 P T.v cu) fun bo w=>Q0 r true w (J8 P .not bo) fun cj w=>pick P r cj (.bool false) w fun bu w=>X1 bu (dr w fun b c=>Q5 b (fun s=> ∀w,c w→fieldAddr P T.b t5 0 w (dk b s w)) fun s=>Q5 b (fun v=> ∀w,c w→indexAddr P T.j f.1 bn w (dk b v w)) fun v=>Q5 b (fun L=> ∀Z w,c w→v Z w→fieldAddr P T.d Z 0 w (dk b L w)) fun L=>Q5 b (fun D=> ∀y w,c w→s y w→Q2 P T.c y w (dk b D w)) fun D=>Q5 b (fun V=> ∀W w,c w→L W w→Q2 P T.c W w (dk b V w)) fun V=>Q5 b (fun i=> ∀X t w,c w→D X w→V t w→Q1 P F.bh [a0,X,t] w (dk b i w)) fun i=>Q5 b (fun av=> ∀e w,c w→i e w→ext P e 0 w (dk b av w)) fun av=>Q5 b (fun u=> ∀e w,c w→i e w→ext P e 1 w (dk b u w)) fun u=>Q5 b (fun an=> ∀e w,c w→i e w→ext P e 2 w (dk b an w)) fun an=>Q5 b (fun a8=> ∀w,c w→W0 P T.d w (dk b a8 w)) fun a8=>Ci b (fun ar=> ∀k h w,c w→a8 k w→u h w→Y1 P T.d k h w (dk b (ar [k,h]) w)) fun ar=>∀y Z W X t e ca h bi k d2 w,c w→s y w→v Z w→L W w→D X w→V t w→i e w→av ca w→u h w→an bi w→a8 k w→ar [k,h] d2 w→ J8 P .not bi w fun aw w=>Q0 aw false w (fieldAddr P T.d k 3) fun b1 w=>Q0 aw false w (Q2 P T.v b1) fun cq w=>pick P aw (.bool true) cq w fun cm w=>X1 cm (K (.int .i64 67) w) (Q3 P .add T.e (.tmp 175) (.const (.int .i64 1)) bn (.int .i64 1) w fun cf w=>az cf w)) (K (.int .i64 0) w)))))))
theorem Bt {a b:Value} {w:World} {K:Value→World→Prop} (h:Vp a b w K):Q1 P F.bb [a,b] w K:=Q9 Bq Tryz.func105 rfl (by decide) (by kernel_rfl) h
end Go.Proofs.YtjdiakhipmggjaaGreatDoor

set_option maxRecDepth 100000
namespace Go.Proofs.YtjdiakhipmggjaaGreatDoor
open Go.Emb
def Q0j:V5:=[none,none,none,none,none,some ([5,7],[2,3,4,5,7,8,21,22,23,24,25,26,27,28,29,30,31,32,33,34,35,36,37,38,39,40,41,42]),none,none,none,none,none,none,none,none,none,some ([9],[2,3,4,9,43,44,45,46,47,48,49,50,51,52,53,54,55,56,57,58,59,60]),none,none,none,none,none,none,none,some ([10],[2,3,4,10,11,61,62,63,64,65,66,67,68,69,70,71,72,73,74,75,76]),none,none,none,none,none,none,none,none,none,some ([13],[2,3,4,13,79,80,81,82,83,84,85,86,87,88,89,90,91,92,93,94,95,96]),none,none,none,none,none,none,none,none,some ([14,15],[14,15,98,99,100,101,102,103,104,105,106,107,108,109,110]),none,none,none,none,none,some ([16],[2,3,4,16,17,111,112,113,114,115,116,117,118,119,120,121,122,123,124,125,126,127,128,129,130,131]),none,none,none,none,none,none,none]
def Ev (n:Value) (w:World) (K:Value→World→Prop):Prop:= Q1 P F.bp [] w fun A w=>X2 P .len [T.i] T.e [false] [A] w fun b w=>lp (α:=Value×Value) (A,(.int .i64 0)) w fun m c N w=>X2 P .len [T.i] T.e [false] [n] w fun R w=>Q3 P .lss T.e (.tmp 21) (.tmp 23) c.2 R w fun af w=>X1 af (indexAddr P T.i n c.2 w fun ah w=>Q2 P T.b ah w fun az w=>Q1 P F.bq [az] w fun J w=>Q3 P .neq T.z (.tmp 32) (.const (.int .i64 0)) J (.int .i64 0) w fun av w=>X1 av (K (.tuple #[(.slice none 0 0),c.2,J]) w) (indexAddr P T.i n c.2 w fun W w=>Q2 P T.b W w fun al w=>buildSlice P T.i 1 [(0,al)] w fun ao w=>X2 P .append [T.i,T.i] T.i [false,false] [c.1,ao] w fun ac w=>Q3 P .add T.e (.tmp 25) (.const (.int .i64 1)) c.2 (.int .i64 1) w fun a4 w=>m (ac,a4) w)) (lp (α:=Value) (.int .i64 0) w fun h f N w=>X2 P .len [T.i] T.e [false] [n] w fun aj w=>Q3 P .lss T.e (.tmp 43) (.tmp 45) f aj w fun ae w=>X1 ae (indexAddr P T.i n f w fun ax w=>fieldAddr P T.b ax 0 w fun V w=>Q2 P T.c V w fun a3 w=>Q1 P F.b [c.1,a3] w fun U w=>Q3 P .add T.e (.tmp 56) (.tmp 57) b f w fun ab w=>Q3 P .neq T.e (.tmp 55) (.tmp 58) U ab w fun am w=>X1 am (K (.tuple #[(.slice none 0 0),f,(.int .i64 60)]) w) (Q3 P .add T.e (.tmp 47) (.const (.int .i64 1)) f (.int .i64 1) w fun Y w=>h Y w)) (lp (α:=Value) (.int .i64 0) w fun k o N w=>X2 P .len [T.i] T.e [false] [n] w fun aa w=>Q3 P .lss T.e (.tmp 61) (.tmp 63) o aa w fun an w=>X1 an (indexAddr P T.i n o w fun ag w=>Q2 P T.b ag w fun ar w=>Q1 P F.bg [c.1,ar] w fun M w=>Q3 P .neq T.z (.tmp 73) (.const (.int .i64 0)) M (.int .i64 0) w fun ap w=>X1 ap (K (.tuple #[(.slice none 0 0),o,M]) w) (Q3 P .add T.e (.tmp 65) (.const (.int .i64 1)) o (.int .i64 1) w fun aq w=>k aq w)) (Q1 P F.al [c.1] w fun a2 w=>lp (α:=Value) (.int .i64 0) w fun e j N w=>X2 P .len [T.i] T.e [false] [n] w fun aw w=>Q3 P .lss T.e (.tmp 79) (.tmp 81) j aw w fun Z w=>X1 Z (Q3 P .add T.e (.tmp 86) (.tmp 87) b j w fun ai w=>indexAddr P T.a8 a2 ai w fun a1 w=>Q2 P T.a6 a1 w fun ay w=>Q3 P .add T.e (.tmp 91) (.tmp 92) b j w fun ad w=>indexAddr P T.a6 ay ad w fun ak w=>Q2 P T.v ak w fun Q w=>X1 Q (K (.tuple #[(.slice none 0 0),j,(.int .i64 63)]) w) (Q3 P .add T.e (.tmp 83) (.const (.int .i64 1)) j (.int .i64 1) w fun O w=>e O w)) (buildSlice P T.a7 0 [] w fun X w=>lp (α:=Value×Value) (X,(.int .i64 0)) w fun d a N w=>X2 P .len [T.i] T.e [false] [n] w fun B w=>Q3 P .lss T.e (.tmp 98) (.tmp 100) a.2 B w fun D w=>X1 D (Q3 P .add T.e (.tmp 107) (.tmp 108) b a.2 w fun C w=>Q1 P F.b3 [c.1,a.1,b,C] w fun u w=>Q3 P .add T.e (.tmp 102) (.const (.int .i64 1)) a.2 (.int .i64 1) w fun E w=>d (u,E) w) (lp (α:=Value) (.int .i64 0) w fun g l N w=>X2 P .len [T.a7] T.e [false] [a.1] w fun t w=>Q3 P .lss T.e (.tmp 111) (.tmp 113) l t w fun L w=>X1 L (indexAddr P T.a7 a.1 l w fun v w=>Q2 P T.e v w fun r w=>Q1 P F.bb [c.1,r] w fun p w=>Q3 P .neq T.z (.tmp 123) (.const (.int .i64 0)) p (.int .i64 0) w fun H w=>X1 H (dr w fun Tr Br=>Q5 Tr (fun i=> ∀w,Br w→indexAddr P T.a7 a.1 l w (dk Tr i w)) fun i=>∀q w,Br w→i q w→ Q2 P T.e q w fun y w=>Q3 P .sub T.e (.tmp 128) (.tmp 129) y b w fun z w=>K (.tuple #[(.slice none 0 0),z,p]) w) (Q3 P .add T.e (.tmp 115) (.const (.int .i64 1)) l (.int .i64 1) w fun s w=>g s w)) (K (.tuple #[c.1,(.int .i64 0),(.int .i64 0)]) w))))))
theorem Q11 {a:Value} {w:World} {K:Value→World→Prop} (h:Ev a w K):Q1 P F.bP [a] w K:=Q9 Q0j Tryz.func56 rfl (by decide) (by kernel_rfl) h
def Ny (D:Value) (w:World) (K:Value→World→Prop):Prop:= W0 P T.a w fun e w=>Q1 P F.aA [] w fun z w=>Q1 P F.cN [z] w fun b w=>ext P b 0 w fun i w=>ext P b 1 w fun E w=>ext P b 2 w fun s w=>Q1 P F.aA [] w fun k w=>Q1 P F.bP [k] w fun d w=>ext P d 0 w fun n w=>ext P d 1 w fun C w=>ext P d 2 w fun o w=>Q3 P .rem T.aq (.tmp 25) (.const (.int .u16 301)) D (.int .u16 301) w fun B w=>conv P T.aq T.e B w fun h w=>Q3 P .neq T.z (.tmp 28) (.const (.int .i64 0)) s (.int .i64 0) w fun a w=>Q0 a false w (fun w J=>J o w) fun A w=>Q0 a false w (Q3 P .neq T.z (.tmp 31) (.const (.int .i64 0)) A (.int .i64 0)) fun y w=>pick P a (.bool true) y w fun c w=>Q0 c false w (fun w J=>J i w) fun v w=>Q0 c false w (Q3 P .eql T.s (.tmp 35) (.const (.pointer none)) v (.pointer none)) fun p w=>pick P c (.bool true) p w fun q w=>X1 q (H1 P T.a [] w fun l w=>Y1 P T.a e l w fun _u w=>Y7 P T.a e w fun f=>K (.tuple #[(.pointer none),f]) w) (Q1 P F.cO [i,h] w fun g w=>ext P g 0 w fun r w=>ext P g 1 w fun u w=>Q3 P .neq T.z (.tmp 45) (.const (.int .i64 0)) u (.int .i64 0) w fun m w=>X1 m (H1 P T.a [] w fun j w=>Y1 P T.a e j w fun _u w=>Y7 P T.a e w fun f=>K (.tuple #[(.pointer none),f]) w) (H1 P T.a [(0,n),(1,h)] w fun t w=>Y1 P T.a e t w fun _u w=>Y7 P T.a e w fun f=>K (.tuple #[r,f]) w))
theorem Ks {a:Value} {w:World} {K:Value→World→Prop} (h:Ny a w K):Q1 P F.ak [a] w K:=Q9 (List.replicate 12 none) Tryz.func24 rfl (by decide) (by kernel_rfl) h
def Q2l (d:Value) (w:World) (K:Value→World→Prop):Prop:= W0 P T.g w fun a w=>Q3 P .eql T.c (.tmp 3) (.const (.string ⟨#[105,110,116]⟩)) d (.string ⟨#[105,110,116]⟩) w fun g w=>X1 g (H1 P T.g [(0,(.int .i64 1))] w fun j w=>Y1 P T.g a j w fun _u w=>Y7 P T.g a w fun b=>K b w) (Q3 P .eql T.c (.tmp 3) (.const (.string ⟨#[98,111,111,108]⟩)) d (.string ⟨#[98,111,111,108]⟩) w fun h w=>X1 h (H1 P T.g [(0,(.int .i64 2))] w fun i w=>Y1 P T.g a i w fun _u w=>Y7 P T.g a w fun b=>K b w) (Q3 P .eql T.c (.tmp 3) (.const (.string ⟨#[116,101,120,116]⟩)) d (.string ⟨#[116,101,120,116]⟩) w fun c w=>X1 c (H1 P T.g [(0,(.int .i64 3))] w fun f w=>Y1 P T.g a f w fun _u w=>Y7 P T.g a w fun b=>K b w) (H1 P T.g [] w fun e w=>Y1 P T.g a e w fun _u w=>Y7 P T.g a w fun b=>K b w)))
theorem Q6L {a:Value} {w:World} {K:Value→World→Prop} (h:Q2l a w K):Q1 P F.cv [a] w K:=Q9 (List.replicate 10 none) Tryz.func29 rfl (by decide) (by kernel_rfl) h
def Ho (a y v:Value) (w:World) (K:Value→World→Prop):Prop:= nilCheck P a w fun z w=>fieldAddr P T.p z 2 w fun j w=>Q2 P T.e j w fun d w=>X2 P .len [T.l] T.e [false] [v] w fun c w=>Q3 P .add T.e (.const (.int .i64 1)) (.tmp 13) (.int .i64 1) c w fun s w=>Q3 P .add T.e (.tmp 11) (.tmp 14) d s w fun k w=>nilCheck P a w fun l w=>fieldAddr P T.p l 2 w fun q w=>Y1 P T.e q k w fun _u w=>nilCheck P a w fun b w=>fieldAddr P T.p b 3 w fun o w=>Q2 P T.f o w fun f w=>H1 P T.n [(0,y),(1,v)] w fun e w=>buildSlice P T.f 1 [(0,e)] w fun u w=>X2 P .append [T.f,T.f] T.f [false,false] [f,u] w fun i w=>nilCheck P a w fun h w=>fieldAddr P T.p h 3 w fun g w=>Y1 P T.f g i w fun _u w=>nilCheck P a w fun t w=>fieldAddr P T.p t 3 w fun p w=>Q2 P T.f p w fun m w=>X2 P .len [T.f] T.e [false] [m] w fun r w=>Q3 P .sub T.e (.tmp 34) (.const (.int .i64 1)) r (.int .i64 1) w fun n w=>K (.tuple #[n,(.int .i64 0)]) w
theorem Q1W {b c a:Value} {w:World} {K:Value→World→Prop} (h:Ho b c a w K):Q1 P F.b8 [b,c,a] w K:=Q9 (List.replicate 4 none) Tryz.func67 rfl (by decide) (by kernel_rfl) h
def Kc:V5:=[none,none,none,none,none,none,none,none,none,none,none,some ([7,31],[7,9,31,32,33,34,35,36,37,38,39,40,41]),none,none,none,none,none]
def Np (f y:Value) (w:World) (K:Value→World→Prop):Prop:= nilCheck P f w fun l w=>fieldAddr P T.p l 0 w fun t w=>Q2 P T.s t w fun j w=>Q1 P F.aE [j,y] w fun A w=>J8 P .not A w fun C w=>X1 C (K (.tuple #[(.int .i64 0),(.int .i64 91)]) w) (nilCheck P f w fun s w=>fieldAddr P T.p s 0 w fun n w=>Q2 P T.s n w fun h w=>Q1 P F.a4 [h,y] w fun d w=>X2 P .len [T.k] T.e [false] [d] w fun p w=>Q3 P .add T.e (.const (.int .i64 1)) (.tmp 24) (.int .i64 1) p w fun m w=>Q1 P F.q [f] w fun v w=>Q3 P .gtr T.e (.tmp 25) (.tmp 27) m v w fun u w=>X1 u (K (.tuple #[(.int .i64 0),(.int .i64 90)]) w) (X2 P .len [T.k] T.e [false] [d] w fun E w=>lp (α:=Value×Value) ((.slice none 0 0),(.int .i64 0)) w fun c b L w=>Q3 P .lss T.e (.tmp 31) (.tmp 30) b.2 E w fun H w=>X1 H (indexAddr P T.k d b.2 w fun D w=>Q2 P T.o D w fun J w=>W0 P T.o w fun a w=>Y1 P T.o a J w fun _u w=>fieldAddr P T.o a 1 w fun q w=>Q2 P T.c q w fun r w=>Q1 P F.cv [r] w fun k w=>buildSlice P T.l 1 [(0,k)] w fun i w=>X2 P .append [T.l,T.l] T.l [false,false] [b.1,i] w fun z w=>Q3 P .add T.e (.tmp 31) (.const (.int .i64 1)) b.2 (.int .i64 1) w fun B w=>c (z,B) w) (Q1 P F.b8 [f,y,b.1] w fun e w=>ext P e 0 w fun o w=>ext P e 1 w fun g w=>K (.tuple #[o,g]) w)))
theorem Pb {a b:Value} {w:World} {K:Value→World→Prop} (h:Np a b w K):Q1 P F.aK [a,b] w K:=Q9 Kc Tryz.func33 rfl (by decide) (by kernel_rfl) h
def Q48 (c:Value) (w:World) (K:Value→World→Prop):Prop:= Q1 P F.a1 [c] w fun f w=>J8 P .not f w fun a w=>Q0 a false w (fun w J=>J c w) fun g w=>Q0 a false w (Q1 P F.cw [g]) fun h w=>Q0 a false w (Q3 P .eql T.e (.tmp 9) (.const (.int .i64 3)) h (.int .i64 3)) fun d w=>pick P a (.bool true) d w fun b w=>X1 b (K (.tuple #[(.string ⟨#[]⟩),(.int .i64 30)]) w) (Q3 P .add T.c (.tmp 12) (.const (.string ⟨#[91,93]⟩)) c (.string ⟨#[91,93]⟩) w fun e w=>K (.tuple #[e,(.int .i64 0)]) w)
theorem Q96 {a:Value} {w:World} {K:Value→World→Prop} (h:Q48 a w K):Q1 P F.cS [a] w K:=Q9 (List.replicate 5 none) Tryz.func68 rfl (by decide) (by kernel_rfl) h
def Au:V5:=[none,none,none,none,none,none,none,none,none,none,none,none,some ([45],[11,45,46,47,48,49,50,51,52,53]),none,none,none,none,none]
def Oz (t i h:Value) (w:World) (K:Value→World→Prop):Prop:= Q1 P F.cS [i] w fun g w=>ext P g 0 w fun z w=>ext P g 1 w fun A w=>Q3 P .neq T.z (.tmp 18) (.const (.int .i64 0)) A (.int .i64 0) w fun a w=>Q0 a false w (fun w J=>J t w) fun C w=>Q0 a false w (nilCheck P C) fun p w=>Q0 a false w (fieldAddr P T.p p 0) fun j w=>Q0 a false w (Q2 P T.s j) fun q w=>Q0 a false w (fun w J=>J i w) fun m w=>Q0 a false w (Q1 P F.t [q,m]) fun M w=>Q0 a false w (J8 P .not M) fun s w=>pick P a (.bool true) s w fun e w=>Q0 e false w (fun w J=>J i w) fun E w=>Q0 e false w (Q3 P .eql T.c (.tmp 30) (.const (.string ⟨#[110,117,108,108]⟩)) E (.string ⟨#[110,117,108,108]⟩)) fun L w=>pick P e (.bool true) L w fun H w=>X1 H (K (.tuple #[(.int .i64 0),(.int .i64 91)]) w) (Q3 P .lss T.a1 (.tmp 34) (.const (.int .i64 0)) h (.int .i64 0) w fun B w=>X1 B (K (.tuple #[(.int .i64 0),(.int .i64 93)]) w) (Q1 P F.q [t] w fun l w=>Q3 P .geq T.a1 (.tmp 37) (.tmp 39) h l w fun u w=>X1 u (K (.tuple #[(.int .i64 0),(.int .i64 90)]) w) (Lg P T.l h h w fun d w=>X2 P .len [T.l] T.e [false] [d] w fun y w=>lp (α:=Value) (.int .i64 0) w fun b c N w=>Q3 P .lss T.e (.tmp 45) (.tmp 44) c y w fun o w=>X1 o (Q1 P F.cv [i] w fun r w=>indexAddr P T.l d c w fun D w=>Y1 P T.g D r w fun _u w=>Q3 P .add T.e (.tmp 45) (.const (.int .i64 1)) c (.int .i64 1) w fun k w=>b k w) (Q1 P F.b8 [t,z,d] w fun f w=>ext P f 0 w fun n w=>ext P f 1 w fun v w=>K (.tuple #[n,v]) w))))
theorem Q09 {b c a:Value} {w:World} {K:Value→World→Prop} (h:Oz b c a w K):Q1 P F.aR [b,c,a] w K:=Q9 Au Tryz.func34 rfl (by decide) (by kernel_rfl) h
def Oo (b:Value) (w:World) (K:Value→World→Prop):Prop:= nilCheck P b w fun a w=>fieldAddr P T.p a 0 w fun c w=>Q2 P T.s c w fun d w=>K d w
theorem Q07 {a:Value} {w:World} {K:Value→World→Prop} (h:Oo a w K):Q1 P F.bD [a] w K:=Q9 (List.replicate 2 none) Tryz.func35 rfl (by decide) (by kernel_rfl) h
def Nr (w:World) (K:Value→World→Prop):Prop:= Q1 P F.ak [(.int .u16 10)] w fun t8 w=>ext P t8 0 w fun e w=>ext P t8 1 w fun C w=>W0 P T.a w fun t2 w=>Y1 P T.a t2 C w fun _u w=>Q3 P .eql T.a5 (.tmp 11) (.const (.pointer none)) e (.pointer none) w fun y w=>X1 y (K (.bool false) w) (Q1 P F.aK [e,(.string ⟨#[90,101,114,111,70,97,117,108,116]⟩)] w fun l w=>ext P l 0 w fun M w=>ext P l 1 w fun U w=>Q1 P F.aR [e,(.string ⟨#[105,110,116]⟩),(.int .i64 3)] w fun k w=>ext P k 0 w fun O w=>ext P k 1 w fun u w=>Q3 P .eql T.e (.tmp 23) (.const (.int .i64 0)) M (.int .i64 0) w fun g w=>Q0 g true w (fun w J=>J U w) fun Z w=>Q0 g true w (Q3 P .eql T.z (.tmp 26) (.const (.int .i64 0)) Z (.int .i64 0)) fun A w=>pick P g A (.bool false) w fun i w=>Q0 i true w (fun w J=>J O w) fun R w=>Q0 i true w (Q3 P .eql T.e (.tmp 30) (.const (.int .i64 1)) R (.int .i64 1)) fun W w=>pick P i W (.bool false) w fun j w=>Q0 j true w (fun w J=>J u w) fun V w=>Q0 j true w (Q3 P .eql T.z (.tmp 34) (.const (.int .i64 0)) V (.int .i64 0)) fun N w=>pick P j N (.bool false) w fun b w=>Q0 b true w (fun w J=>J e w) fun q w=>Q0 b true w (Q1 P F.q [q]) fun o w=>Q0 b true w (Q3 P .eql T.e (.tmp 39) (.const (.int .i64 4)) o (.int .i64 4)) fun D w=>pick P b D (.bool false) w fun f w=>Q0 f true w (fun w J=>J e w) fun v w=>Q0 f true w (Q1 P F.aj [v]) fun L w=>Q0 f true w (Q3 P .eql T.e (.tmp 44) (.const (.int .i64 2)) L (.int .i64 2)) fun z w=>pick P f z (.bool false) w fun a w=>Q0 a true w (fun w J=>J e w) fun p w=>Q0 a true w (Q1 P F.aB [p,(.int .i64 0)]) fun Y w=>Q0 a true w (Q3 P .eql T.c (.tmp 49) (.const (.string ⟨#[90,101,114,111,70,97,117,108,116]⟩)) Y (.string ⟨#[90,101,114,111,70,97,117,108,116]⟩)) fun r w=>pick P a r (.bool false) w fun d w=>Q0 d true w (fun w J=>J e w) fun n w=>Q0 d true w (Q1 P F.bO [n,(.int .i64 1)]) fun X w=>Q0 d true w (Q3 P .eql T.e (.tmp 54) (.const (.int .i64 3)) X (.int .i64 3)) fun m w=>pick P d m (.bool false) w fun h w=>Q0 h true w (fun w J=>J e w) fun t w=>Q0 h true w (Q1 P F.bB [t]) fun E w=>pick P h E (.bool false) w fun c w=>Q0 c true w (fun w J=>J e w) fun Q w=>Q0 c true w (Q1 P F.bD [Q]) fun s w=>Q0 c true w (Q3 P .neq T.s (.tmp 63) (.const (.pointer none)) s (.pointer none)) fun H w=>pick P c H (.bool false) w fun B w=>K B w)
theorem Kr {w:World} {K:Value→World→Prop} (h:Nr w K):Q1 P F.aJ [] w K:=Q9 (List.replicate 8 none) Tryz.func14 rfl (by decide) (by kernel_rfl) h
def Dc (q r p:Value) (w:World) (K:Value→World→Prop):Prop:= Q1 P F.aH [q,r] w fun k w=>J8 P .not k w fun d w=>X1 d (K (.int .i64 92) w) (Q3 P .lss T.a1 (.tmp 13) (.const (.int .i64 0)) p (.int .i64 0) w fun a w=>Q0 a false w (fun w J=>J p w) fun l w=>Q0 a false w (fun w J=>J q w) fun n w=>Q0 a false w (nilCheck P n) fun i w=>Q0 a false w (fieldAddr P T.p i 3) fun f w=>Q0 a false w (Q2 P T.f f) fun c w=>Q0 a false w (fun w J=>J r w) fun m w=>Q0 a false w (indexAddr P T.f c m) fun g w=>Q0 a false w (fieldAddr P T.n g 1) fun b w=>Q0 a false w (Q2 P T.l b) fun h w=>Q0 a false w (X2 P .len [T.l] T.e [false] [h]) fun e w=>Q0 a false w (Q3 P .geq T.a1 (.tmp 16) (.tmp 25) l e) fun o w=>pick P a (.bool true) o w fun j w=>X1 j (K (.int .i64 93) w) (K (.int .i64 0) w))
theorem Tp {b c a:Value} {w:World} {K:Value→World→Prop} (h:Dc b c a w K):Q1 P F.aU [b,c,a] w K:=Q9 (List.replicate 7 none) Tryz.func50 rfl (by decide) (by kernel_rfl) h
def Hl (o p n:Value) (w:World) (K:Value→World→Prop):Prop:= W0 P T.g w fun b w=>Q1 P F.aU [o,p,n] w fun a w=>Q3 P .neq T.z (.tmp 13) (.const (.int .i64 0)) a (.int .i64 0) w fun l w=>X1 l (H1 P T.g [] w fun k w=>Y1 P T.g b k w fun _u w=>Y7 P T.g b w fun e=>K (.tuple #[e,a]) w) (nilCheck P o w fun i w=>fieldAddr P T.p i 3 w fun f w=>Q2 P T.f f w fun d w=>indexAddr P T.f d p w fun g w=>fieldAddr P T.n g 1 w fun c w=>Q2 P T.l c w fun h w=>indexAddr P T.l h n w fun m w=>Q2 P T.g m w fun j w=>Y1 P T.g b j w fun _u w=>Y7 P T.g b w fun e=>K (.tuple #[e,(.int .i64 0)]) w)
theorem Q1U {b c a:Value} {w:World} {K:Value→World→Prop} (h:Hl b c a w K):Q1 P F.c3 [b,c,a] w K:=Q9 (List.replicate 6 none) Tryz.func16 rfl (by decide) (by kernel_rfl) h
def Tz:V5:=[none,none,none,none,some ([3,12],[3,5,6,12,13,14,15,16,17,18,19,20,21,22,23,24,25,26,27,28,29,30,31]),none,none,none,none,none,none,none]
def Og (v:Value) (w:World) (K:Value→World→Prop):Prop:= nilCheck P v w fun z w=>fieldAddr P T.p z 3 w fun y w=>Q2 P T.f y w fun f w=>X2 P .len [T.f] T.e [false] [f] w fun h w=>lp (α:=Value×Value) ((.slice none 0 0),(.int .i64 0)) w fun b e A w=>Q3 P .lss T.e (.tmp 12) (.tmp 11) e.2 h w fun g w=>X1 g (indexAddr P T.f f e.2 w fun r w=>Q2 P T.n r w fun m w=>W0 P T.n w fun a w=>Y1 P T.n a m w fun _u w=>fieldAddr P T.n a 1 w fun n w=>Q2 P T.l n w fun q w=>X2 P .len [T.l] T.e [false] [q] w fun d w=>Lg P T.l d d w fun c w=>fieldAddr P T.n a 1 w fun o w=>Q2 P T.l o w fun j w=>X2 P .copy [T.l,T.l] T.e [false,false] [c,j] w fun u w=>fieldAddr P T.n a 0 w fun i w=>Q2 P T.c i w fun t w=>H1 P T.n [(0,t),(1,c)] w fun l w=>buildSlice P T.f 1 [(0,l)] w fun k w=>X2 P .append [T.f,T.f] T.f [false,false] [e.1,k] w fun p w=>Q3 P .add T.e (.tmp 12) (.const (.int .i64 1)) e.2 (.int .i64 1) w fun s w=>b (p,s) w) (K e.1 w)
theorem Q02 {a:Value} {w:World} {K:Value→World→Prop} (h:Og a w K):Q1 P F.ad [a] w K:=Q9 Tz Tryz.func19 rfl (by decide) (by kernel_rfl) h
def Hq (L Q N W:Value) (w:World) (K:Value→World→Prop):Prop:= box P T.g W w fun c w=>Q1 P F.aU [L,Q,N] w fun D w=>Q3 P .neq T.z (.tmp 14) (.const (.int .i64 0)) D (.int .i64 0) w fun R w=>X1 R (K D w) (dr w fun a b=>Q5 a (fun r=> ∀w,b w→nilCheck P L w (dk a r w)) fun r=>Q5 a (fun i=> ∀s w,b w→r s w→fieldAddr P T.p s 3 w (dk a i w)) fun i=>Q5 a (fun z=> ∀w,b w→Q2 P T.g c w (dk a z w)) fun z=>Q5 a (fun p=> ∀g w,b w→i g w→Q2 P T.f g w (dk a p w)) fun p=>Q5 a (fun m=> ∀d w,b w→p d w→indexAddr P T.f d Q w (dk a m w)) fun m=>Q5 a (fun n=> ∀f w,b w→m f w→Q2 P T.n f w (dk a n w)) fun n=>Q5 a (fun B=> ∀y w,b w→n y w→Q1 P F.aD [L,y,N] w (dk a B w)) fun B=>∀s g H d f y J w,b w→r s w→i g w→z H w→p d w→m f w→n y w→B J w→ Q1 P F.aC [L,H,J] w fun O w=>J8 P .not O w fun V w=>X1 V (K (.int .i64 91) w) (dr w fun a b=>Q5 a (fun k=> ∀w,b w→nilCheck P L w (dk a k w)) fun k=>Q5 a (fun o=> ∀u w,b w→k u w→fieldAddr P T.p u 3 w (dk a o w)) fun o=>Q5 a (fun l=> ∀q w,b w→o q w→Q2 P T.f q w (dk a l w)) fun l=>Q5 a (fun e=> ∀v w,b w→l v w→indexAddr P T.f v Q w (dk a e w)) fun e=>Q5 a (fun t=> ∀h w,b w→e h w→fieldAddr P T.n h 1 w (dk a t w)) fun t=>Q5 a (fun A=> ∀j w,b w→t j w→Q2 P T.l j w (dk a A w)) fun A=>Q5 a (fun C=> ∀w,b w→Q2 P T.g c w (dk a C w)) fun C=>∀u q v h j E M w,b w→k u w→o q w→l v w→e h w→t j w→A E w→C M w→ indexAddr P T.l E N w fun U w=>Y1 P T.g U M w fun _u w=>K (.int .i64 0) w))
theorem Q1T {c d a b:Value} {w:World} {K:Value→World→Prop} (h:Hq c d a b w K):Q1 P F.b6 [c,d,a,b] w K:=Q9 (List.replicate 10 none) Tryz.func22 rfl (by decide) (by kernel_rfl) h
def Eo (h:Value) (w:World) (K:Value→World→Prop):Prop:= box P T.m h w fun a w=>fieldAddr P T.m a 1 w fun j w=>Q2 P T.c j w fun g w=>X2 P .len [T.c] T.e [false] [g] w fun i w=>Q3 P .leq T.e (.tmp 5) (.const (.int .i64 100)) i (.int .i64 100) w fun b w=>Q0 b true w (fieldAddr P T.m a 4) fun k w=>Q0 b true w (fieldAddr P T.g k 2) fun l w=>Q0 b true w (Q2 P T.c l) fun d w=>Q0 b true w (X2 P .len [T.c] T.e [false] [d]) fun c w=>Q0 b true w (Q3 P .leq T.e (.tmp 11) (.const (.int .i64 5000)) c (.int .i64 5000)) fun f w=>pick P b f (.bool false) w fun e w=>K e w
theorem Q0Z {a:Value} {w:World} {K:Value→World→Prop} (h:Eo a w K):Q1 P F.ah [a] w K:=Q9 (List.replicate 2 none) Tryz.func25 rfl (by decide) (by kernel_rfl) h
def Yl:V5:=[none,none,none,some ([8],[4,5,8,9,10,11,12,13,14,15,16,17,18]),none,none,none,none,none,none,none]
def G4 (g h:Value) (w:World) (K:Value→World→Prop):Prop:= X2 P .len [T.l] T.e [false] [g] w fun j w=>lp (α:=Value) (.int .i64 0) w fun a b k w=>Q3 P .lss T.e (.tmp 8) (.tmp 7) b j w fun i w=>X1 i (indexAddr P T.l g b w fun e w=>Q2 P T.g e w fun f w=>Z3 P h [f] w fun c w=>X1 c (K b w) (Q3 P .add T.e (.tmp 8) (.const (.int .i64 1)) b (.int .i64 1) w fun d w=>a d w)) (K (.int .i64 (-1)) w)
theorem Yy {a b:Value} {w:World} {K:Value→World→Prop} (h:G4 a b w K):Q1 P F.a5 [a,b] w K:=Q9 Yl Tryz.func119 rfl (by decide) (by kernel_rfl) h
def B5 (a b:Value) (w:World) (K:Value→World→Prop):Prop:= Q1 P F.a5 [a,b] w fun d w=>Q3 P .geq T.e (.tmp 7) (.const (.int .i64 0)) d (.int .i64 0) w fun c w=>K c w
theorem Xf {a b:Value} {w:World} {K:Value→World→Prop} (h:B5 a b w K):Q1 P F.k [a,b] w K:=Q9 (List.replicate 2 none) Tryz.func75 rfl (by decide) (by kernel_rfl) h
def Dl (g i:Value) (w:World) (K:Value→World→Prop):Prop:= box P T.g g w fun a w=>fieldAddr P T.g a 0 w fun f w=>Q2 P T.e f w fun h w=>Q3 P .eql T.e (.tmp 5) (.const (.int .i64 4)) h (.int .i64 4) w fun b w=>Q0 b true w (fieldAddr P T.g a 3) fun j w=>Q0 b true w (Q2 P T.e j) fun k w=>Q0 b true w (Q2 P T.e i) fun d w=>Q0 b true w (Q3 P .geq T.e (.tmp 9) (.tmp 10) k d) fun c w=>pick P b c (.bool false) w fun e w=>K e w
theorem Aa {a b:Value} {w:World} {K:Value→World→Prop} (h:Dl a b w K):Q1 P F.bH [a,b] w K:=Q9 (List.replicate 2 none) Tryz.func76 rfl (by decide) (by kernel_rfl) h
def Q22:V5:=[none,none,none,none,some ([22],[5,22,23,24,25,26,27,28,29,30]),none,none,none,none,none,some ([],[6,31,32,33,34,35,36,37,38,39,40,41,42,43,44,45,46,47,48,49,50,51,52,53,54,55,56,57,58,59,60,61,62,63,64,65,66,67,68,69]),none,none,none,none]
def Hr (Q a1:Value) (w:World) (K:Value→World→Prop):Prop:= box P T.e a1 w fun t3 w=>Q2 P T.e t3 w fun t7 w=>X2 P .max [T.e,T.e] T.e [false,true] [t7,(.int .i64 0)] w fun t8 w=>Y1 P T.e t3 t8 w fun _u w=>dr w fun a b=>Q5 a (fun R=> ∀w,b w→nilCheck P Q w (dk a R w)) fun R=>Q5 a (fun C=> ∀n w,b w→R n w→fieldAddr P T.p n 3 w (dk a C w)) fun C=>Q5 a (fun d=> ∀w,b w→nilCheck P Q w (dk a d w)) fun d=>Q5 a (fun U=> ∀W w,b w→d W w→fieldAddr P T.p W 3 w (dk a U w)) fun U=>Q5 a (fun ae=> ∀g w,b w→C g w→Q2 P T.f g w (dk a ae w)) fun ae=>Q5 a (fun L=> ∀w,b w→Q2 P T.e t3 w (dk a L w)) fun L=>Q5 a (fun V=> ∀q w,b w→U q w→Q2 P T.f q w (dk a V w)) fun V=>Q5 a (fun e=> ∀X w,b w→V X w→X2 P .len [T.f] T.e [false] [X] w (dk a e w)) fun e=>Q5 a (fun ad=> ∀f J w,b w→L f w→e J w→X2 P .min [T.e,T.e] T.e [false,false] [f,J] w (dk a ad w)) fun ad=>∀n g W q an f X J ah w,b w→R n w→C g w→d W w→U q w→ae an w→L f w→V X w→e J w→ad ah w→ S1 P T.f an none (some ah) none w fun ag w=>X2 P .len [T.f] T.e [false] [ag] w fun bg w=>lp (α:=Value) (.int .i64 0) w fun A x4 d_ w=>Q3 P .lss T.e (.tmp 22) (.tmp 21) x4 bg w fun ap w=>X1 ap (indexAddr P T.f ag x4 w fun ba w=>Q2 P T.n ba w fun aw w=>W0 P T.n w fun t5 w=>Y1 P T.n t5 aw w fun _u w=>fieldAddr P T.n t5 1 w fun a9 w=>Q2 P T.l a9 w fun bc w=>H3 P (.func F.bH) [] [t3] w fun bb w=>Q1 P F.k [bc,bb] w fun a2 w=>X1 a2 (K (.tuple #[]) w) (Q3 P .add T.e (.tmp 22) (.const (.int .i64 1)) x4 (.int .i64 1) w fun bh w=>A bh w)) (lp (α:=Unit) () w fun c bk d_ w=>dr w fun a b=>Q5 a (fun D=> ∀w,b w→nilCheck P Q w (dk a D w)) fun D=>Q5 a (fun l=> ∀s w,b w→D s w→fieldAddr P T.p s 3 w (dk a l w)) fun l=>Q5 a (fun i=> ∀r w,b w→l r w→Q2 P T.f r w (dk a i w)) fun i=>Q5 a (fun ab=> ∀t w,b w→i t w→X2 P .len [T.f] T.e [false] [t] w (dk a ab w)) fun ab=>Q5 a (fun aa=> ∀w,b w→Q2 P T.e t3 w (dk a aa w)) fun aa=>∀s r t aj am w,b w→D s w→l r w→i t w→ab aj w→aa am w→ Q3 P .gtr T.e (.tmp 35) (.tmp 36) aj am w fun a3 w=>X1 a3 (nilCheck P Q w fun aq w=>fieldAddr P T.p aq 3 w fun be w=>Q2 P T.f be w fun bf w=>X2 P .len [T.f] T.e [false] [bf] w fun az w=>Q3 P .sub T.e (.tmp 42) (.const (.int .i64 1)) az (.int .i64 1) w fun ai w=>dr w fun a b=>Q5 a (fun h=> ∀w,b w→nilCheck P Q w (dk a h w)) fun h=>Q5 a (fun N=> ∀j w,b w→h j w→fieldAddr P T.p j 2 w (dk a N w)) fun N=>Q5 a (fun k=> ∀w,b w→nilCheck P Q w (dk a k w)) fun k=>Q5 a (fun z=> ∀Y w,b w→k Y w→fieldAddr P T.p Y 3 w (dk a z w)) fun z=>Q5 a (fun ac=> ∀B w,b w→N B w→Q2 P T.e B w (dk a ac w)) fun ac=>Q5 a (fun H=> ∀y w,b w→z y w→Q2 P T.f y w (dk a H w)) fun H=>Q5 a (fun m=> ∀O w,b w→H O w→indexAddr P T.f O ai w (dk a m w)) fun m=>Q5 a (fun M=> ∀v w,b w→m v w→fieldAddr P T.n v 1 w (dk a M w)) fun M=>Q5 a (fun o=> ∀Z w,b w→M Z w→Q2 P T.l Z w (dk a o w)) fun o=>Q5 a (fun p=> ∀u w,b w→o u w→X2 P .len [T.l] T.e [false] [u] w (dk a p w)) fun p=>Q5 a (fun af=> ∀E w,b w→p E w→Q3 P .add T.e (.const (.int .i64 1)) (.tmp 56) (.int .i64 1) E w (dk a af w)) fun af=>∀j B Y y al O v Z u E ak w,b w→h j w→N B w→k Y w→z y w→ac al w→H O w→m v w→M Z w→o u w→p E w→af ak w→ Q3 P .sub T.e (.tmp 47) (.tmp 57) al ak w fun ay w=>nilCheck P Q w fun a6 w=>fieldAddr P T.p a6 2 w fun a5 w=>Y1 P T.e a5 ay w fun _u w=>nilCheck P Q w fun ax w=>fieldAddr P T.p ax 3 w fun a7 w=>Q2 P T.f a7 w fun bd w=>S1 P T.f bd none (some ai) none w fun av w=>nilCheck P Q w fun a8 w=>fieldAddr P T.p a8 3 w fun ar w=>Y1 P T.f ar av w fun _u w=>c () w) (K (.tuple #[]) w))
theorem Q23 {a b:Value} {w:World} {K:Value→World→Prop} (h:Hr a b w K):Q1 P F.aG [a,b] w K:=Q9 Q22 Tryz.func40 rfl (by decide) (by kernel_rfl) h
def Tt:V5:=[none,none,some ([],[5,6,7]),none,some ([],[8,9,10]),none,some ([],[11,12,13]),none,none]
def Oh (d:Value) (w:World) (K:Value→World→Prop):Prop:= W0 P T.g w fun h w=>H1 P T.g [] w fun n w=>W0 P T.g w fun a w=>Y1 P T.g a n w fun _u w=>jn (α:=Unit) w (fun j w=>Q3 P .eql T.c (.tmp 5) (.const (.string ⟨#[105,110,116]⟩)) d (.string ⟨#[105,110,116]⟩) w fun m w=>X1 m (fieldAddr P T.g a 0 w fun p w=>Y1 P T.e p (.int .i64 1) w fun _u w=>j () w) (j () w)) fun s k w=>jn (α:=Unit) w (fun g w=>Q3 P .eql T.c (.tmp 8) (.const (.string ⟨#[98,111,111,108]⟩)) d (.string ⟨#[98,111,111,108]⟩) w fun o w=>X1 o (fieldAddr P T.g a 0 w fun e w=>Y1 P T.e e (.int .i64 2) w fun _u w=>g () w) (g () w)) fun q k w=>jn (α:=Unit) w (fun i w=>Q3 P .eql T.c (.tmp 11) (.const (.string ⟨#[116,101,120,116]⟩)) d (.string ⟨#[116,101,120,116]⟩) w fun c w=>X1 c (fieldAddr P T.g a 0 w fun b w=>Y1 P T.e b (.int .i64 3) w fun _u w=>i () w) (i () w)) fun r k w=>Q2 P T.g a w fun f w=>Y1 P T.g h f w fun _u w=>Y7 P T.g h w fun l=>K l w
theorem Q00 {a:Value} {w:World} {K:Value→World→Prop} (h:Oh a w K):Q1 P F.aQ [a] w K:=Q9 Tt Tryz.func30 rfl (by decide) (by kernel_rfl) h
def Ax:V5:=[none,none,none,none,some ([3,4],[3,4,7,8,9,10,11,12,13,14,15,16,17,18,19,20,21,22,23]),none,none,none,none]
def Ow (q:Value) (w:World) (K:Value→World→Prop):Prop:= box P T.a q w fun a w=>fieldAddr P T.a a 1 w fun o w=>Q2 P T.e o w fun p w=>lp (α:=Value×Value) (p,(.int .i64 0)) w fun b c t w=>fieldAddr P T.a a 2 w fun s w=>Q2 P T.f s w fun r w=>X2 P .len [T.f] T.e [false] [r] w fun k w=>Q3 P .lss T.e (.tmp 7) (.tmp 10) c.2 k w fun g w=>X1 g (fieldAddr P T.a a 2 w fun l w=>Q2 P T.f l w fun m w=>indexAddr P T.f m c.2 w fun j w=>fieldAddr P T.n j 1 w fun h w=>Q2 P T.l h w fun e w=>X2 P .len [T.l] T.e [false] [e] w fun n w=>Q3 P .add T.e (.const (.int .i64 1)) (.tmp 21) (.int .i64 1) n w fun i w=>Q3 P .sub T.e (.tmp 14) (.tmp 22) c.1 i w fun d w=>Q3 P .add T.e (.tmp 12) (.const (.int .i64 1)) c.2 (.int .i64 1) w fun f w=>b (d,f) w) (K c.1 w)
theorem As {a:Value} {w:World} {K:Value→World→Prop} (h:Ow a w K):Q1 P F.aS [a] w K:=Q9 Ax Tryz.func37 rfl (by decide) (by kernel_rfl) h
def Vx (i k:Value) (w:World) (K:Value→World→Prop):Prop:= Q1 P F.b [i,k] w fun j w=>Q3 P .geq T.e (.tmp 9) (.const (.int .i64 0)) j (.int .i64 0) w fun a w=>Q0 a true w (fun w J=>J i w) fun h w=>Q0 a true w (fun w J=>J j w) fun f w=>Q0 a true w (indexAddr P T.i h f) fun e w=>Q0 a true w (fieldAddr P T.b e 4) fun c w=>Q0 a true w (Q2 P T.v c) fun b w=>Q0 a true w (J8 P .not b) fun d w=>pick P a d (.bool false) w fun g w=>K g w
theorem Bs {a b:Value} {w:World} {K:Value→World→Prop} (h:Vx a b w K):Q1 P F.b9 [a,b] w K:=Q9 (List.replicate 3 none) Tryz.func72 rfl (by decide) (by kernel_rfl) h
def Gc:V5:=[none,none,none,none,none,none,none,none,none,none,none,some ([8],[8,28,29,30,31,32,33,34,35,36,37,38,39,40,41,42,43,44]),none,none,none,none,none]
def Ln (a0 a1:Value) (w:World) (K:Value→World→Prop):Prop:= box P T.a a0 w fun a w=>W0 P T.a w fun H w=>fieldAddr P T.a a 0 w fun t9 w=>Q2 P T.i t9 w fun ae w=>Q1 P F.b9 [ae,a1] w fun Z w=>J8 P .not Z w fun V w=>X1 V (Q2 P T.a a w fun am w=>Y1 P T.a H am w fun _u w=>Y7 P T.a H w fun J=>K (.tuple #[J,(.int .i64 91)]) w) (fieldAddr P T.a a 0 w fun ag w=>Q2 P T.i ag w fun ah w=>Q1 P F.p [ah,a1] w fun C w=>X2 P .len [T.k] T.e [false] [C] w fun R w=>Q3 P .add T.e (.const (.int .i64 1)) (.tmp 20) (.int .i64 1) R w fun aj w=>Q2 P T.a a w fun X w=>Q1 P F.aS [X] w fun Q w=>Q3 P .gtr T.e (.tmp 21) (.tmp 23) aj Q w fun Y w=>X1 Y (Q2 P T.a a w fun W w=>Y1 P T.a H W w fun _u w=>Y7 P T.a H w fun J=>K (.tuple #[J,(.int .i64 90)]) w) (H1 P T.n [(0,a1)] w fun ac w=>W0 P T.n w fun c w=>Y1 P T.n c ac w fun _u w=>lp (α:=Value) (.int .i64 0) w fun e E d_ w=>X2 P .len [T.k] T.e [false] [C] w fun al w=>Q3 P .lss T.e (.tmp 28) (.tmp 30) E al w fun an w=>X1 an (dr w fun b d=>Q5 b (fun l=> ∀w,d w→fieldAddr P T.n c 1 w (dk b l w)) fun l=>Q5 b (fun j=> ∀w,d w→indexAddr P T.k C E w (dk b j w)) fun j=>Q5 b (fun r=> ∀h w,d w→j h w→fieldAddr P T.o h 1 w (dk b r w)) fun r=>Q5 b (fun z=> ∀u w,d w→l u w→Q2 P T.l u w (dk b z w)) fun z=>Q5 b (fun o=> ∀g w,d w→r g w→Q2 P T.c g w (dk b o w)) fun o=>Q5 b (fun v=> ∀q w,d w→o q w→Q1 P F.aQ [q] w (dk b v w)) fun v=>Q5 b (fun D=> ∀s w,d w→v s w→buildSlice P T.l 1 [(0,s)] w (dk b D w)) fun D=>∀u h g O q s N w,d w→l u w→j h w→r g w→z O w→o q w→v s w→D N w→ X2 P .append [T.l,T.l] T.l [false,false] [O,N] w fun aa w=>fieldAddr P T.n c 1 w fun af w=>Y1 P T.l af aa w fun _u w=>Q3 P .add T.e (.tmp 32) (.const (.int .i64 1)) E (.int .i64 1) w fun ai w=>e ai w) (dr w fun b d=>Q5 b (fun m=> ∀w,d w→fieldAddr P T.a a 2 w (dk b m w)) fun m=>Q5 b (fun k=> ∀w,d w→buildSlice P T.f 0 [] w (dk b k w)) fun k=>Q5 b (fun t=> ∀i w,d w→m i w→Q2 P T.f i w (dk b t w)) fun t=>Q5 b (fun B=> ∀n f w,d w→k n w→t f w→X2 P .append [T.f,T.f] T.f [false,false] [n,f] w (dk b B w)) fun B=>Q5 b (fun p=> ∀w,d w→Q2 P T.n c w (dk b p w)) fun p=>Q5 b (fun A=> ∀y w,d w→p y w→buildSlice P T.f 1 [(0,y)] w (dk b A w)) fun A=>∀i n f L y M w,d w→m i w→k n w→t f w→B L w→p y w→A M w→ X2 P .append [T.f,T.f] T.f [false,false] [L,M] w fun ab w=>fieldAddr P T.a a 2 w fun ak w=>Y1 P T.f ak ab w fun _u w=>Q2 P T.a a w fun U w=>Y1 P T.a H U w fun _u w=>Y7 P T.a H w fun J=>K (.tuple #[J,(.int .i64 0)]) w)))
theorem Ga {a b:Value} {w:World} {K:Value→World→Prop} (h:Ln a b w K):Q1 P F.be [a,b] w K:=Q9 Gc Tryz.func57 rfl (by decide) (by kernel_rfl) h
def Il:V5:=[none,none,none,none,none,none,none,none,none,none,none,none,none,some ([9],[9,41,42,43,44,45,46,47,48,49,50,51,52]),none,none,none,none,none]
def Md (a0 L N:Value) (w:World) (K:Value→World→Prop):Prop:= box P T.a a0 w fun a w=>W0 P T.a w fun u w=>Q3 P .eql T.c (.tmp 10) (.const (.string ⟨#[110,117,108,108]⟩)) L (.string ⟨#[110,117,108,108]⟩) w fun d w=>Q0 d false w (fieldAddr P T.a a 0) fun U w=>Q0 d false w (Q2 P T.i U) fun aq w=>Q0 d false w (fun w J=>J L w) fun ah w=>Q0 d false w (Q1 P F.a2 [aq,ah]) fun ai w=>Q0 d false w (J8 P .not ai) fun ao w=>pick P d (.bool true) ao w fun l w=>Q0 l false w (fun w J=>J L w) fun Q w=>Q0 l false w (Q1 P F.a3 [Q]) fun ak w=>Q0 l false w (Q3 P .gtr T.e (.tmp 21) (.const (.int .i64 2)) ak (.int .i64 2)) fun V w=>pick P l (.bool true) V w fun O w=>X1 O (Q2 P T.a a w fun W w=>Y1 P T.a u W w fun _u w=>Y7 P T.a u w fun v=>K (.tuple #[v,(.int .i64 91)]) w) (Q3 P .lss T.a1 (.tmp 25) (.const (.int .i64 0)) N (.int .i64 0) w fun av w=>X1 av (Q2 P T.a a w fun ad w=>Y1 P T.a u ad w fun _u w=>Y7 P T.a u w fun v=>K (.tuple #[v,(.int .i64 93)]) w) (Q3 P .gtr T.a1 (.tmp 28) (.const (.int .i64 1048576)) N (.int .i64 1048576) w fun e w=>Q0 e false w (fun w J=>J N w) fun ar w=>Q0 e false w (Q3 P .add T.e (.const (.int .i64 1)) (.tmp 31) (.int .i64 1) ar) fun an w=>Q0 e false w (Q2 P T.a a) fun aj w=>Q0 e false w (Q1 P F.aS [aj]) fun ap w=>Q0 e false w (Q3 P .gtr T.e (.tmp 32) (.tmp 34) an ap) fun al w=>pick P e (.bool true) al w fun X w=>X1 X (Q2 P T.a a w fun Y w=>Y1 P T.a u Y w fun _u w=>Y7 P T.a u w fun v=>K (.tuple #[v,(.int .i64 90)]) w) (Q3 P .add T.c (.tmp 38) (.const (.string ⟨#[91,93]⟩)) L (.string ⟨#[91,93]⟩) w fun R w=>H1 P T.n [(0,R)] w fun af w=>W0 P T.n w fun c w=>Y1 P T.n c af w fun _u w=>lp (α:=Value) (.int .i64 0) w fun g M d_ w=>Q3 P .lss T.a1 (.tmp 41) (.tmp 42) M N w fun Z w=>X1 Z (dr w fun b f=>Q5 b (fun m=> ∀w,f w→fieldAddr P T.n c 1 w (dk b m w)) fun m=>Q5 b (fun B=> ∀k w,f w→m k w→Q2 P T.l k w (dk b B w)) fun B=>Q5 b (fun o=> ∀w,f w→Q1 P F.aQ [L] w (dk b o w)) fun o=>Q5 b (fun y=> ∀t w,f w→o t w→buildSlice P T.l 1 [(0,t)] w (dk b y w)) fun y=>∀k C t D w,f w→m k w→B C w→o t w→y D w→ X2 P .append [T.l,T.l] T.l [false,false] [C,D] w fun ac w=>fieldAddr P T.n c 1 w fun am w=>Y1 P T.l am ac w fun _u w=>Q3 P .add T.a1 (.tmp 44) (.const (.int .i64 1)) M (.int .i64 1) w fun aa w=>g aa w) (dr w fun b f=>Q5 b (fun n=> ∀w,f w→fieldAddr P T.a a 2 w (dk b n w)) fun n=>Q5 b (fun p=> ∀w,f w→buildSlice P T.f 0 [] w (dk b p w)) fun p=>Q5 b (fun q=> ∀s w,f w→n s w→Q2 P T.f s w (dk b q w)) fun q=>Q5 b (fun A=> ∀i h w,f w→p i w→q h w→X2 P .append [T.f,T.f] T.f [false,false] [i,h] w (dk b A w)) fun A=>Q5 b (fun j=> ∀w,f w→Q2 P T.n c w (dk b j w)) fun j=>Q5 b (fun z=> ∀r w,f w→j r w→buildSlice P T.f 1 [(0,r)] w (dk b z w)) fun z=>∀s i h H r E w,f w→n s w→p i w→q h w→A H w→j r w→z E w→ X2 P .append [T.f,T.f] T.f [false,false] [H,E] w fun ag w=>fieldAddr P T.a a 2 w fun ab w=>Y1 P T.f ab ag w fun _u w=>Q2 P T.a a w fun ae w=>Y1 P T.a u ae w fun _u w=>Y7 P T.a u w fun v=>K (.tuple #[v,(.int .i64 0)]) w))))
theorem Ky {b c a:Value} {w:World} {K:Value→World→Prop} (h:Md b c a w K):Q1 P F.bn [b,c,a] w K:=Q9 Il Tryz.func58 rfl (by decide) (by kernel_rfl) h
def Q1Y:V5:=[none,none,some ([],[4,14,15,16,17,18,19,20,21,22,23,24,25,26,27,28,29,30,31,32,33,34,35,36,37,38,39,40,41,42,43,44,45,46,47,48,49,50,51,52,53,54,55,56,57,58,59,60,61,62,63,64,65,66,67,68,69,70,71,72,73,74,75,76,77,78,79,80,81,82,83,84,85,86,87,88,89,90]),none,none,none,none,none,none,none,none,none,none,none,none,none,none,none,none,none]
def Hu (a0 a1:Value) (w:World) (K:Value→World→Prop):Prop:= box P T.a a0 w fun t2 w=>box P T.g a1 w fun c w=>fieldAddr P T.g c 3 w fun t6 w=>Q2 P T.e t6 w fun t7 w=>Q3 P .eql T.e (.tmp 7) (.const (.int .i64 0)) t7 (.int .i64 0) w fun l w=>Q0 l true w (fieldAddr P T.g c 2) fun M w=>Q0 l true w (Q2 P T.c M) fun y w=>Q0 l true w (Q3 P .eql T.c (.tmp 11) (.const (.string ⟨#[]⟩)) y (.string ⟨#[]⟩)) fun ap w=>pick P l ap (.bool false) w fun a w=>jn (α:=Unit) w (fun k w=>fieldAddr P T.g c 0 w fun a3 w=>Q2 P T.e a3 w fun d w=>Q3 P .eql T.e (.tmp 15) (.const (.int .i64 0)) d (.int .i64 0) w fun a2 w=>X1 a2 (Q0 a true w (fieldAddr P T.g c 1) fun o w=>Q0 a true w (Q2 P T.a1 o) fun ax w=>Q0 a true w (Q3 P .eql T.a1 (.tmp 21) (.const (.int .i64 0)) ax (.int .i64 0)) fun an w=>pick P a an (.bool false) w fun n w=>X1 n (K (.string ⟨#[110,117,108,108]⟩) w) (k () w)) (Q3 P .eql T.e (.tmp 15) (.const (.int .i64 1)) d (.int .i64 1) w fun z w=>X1 z (X1 a (K (.string ⟨#[105,110,116]⟩) w) (k () w)) (Q3 P .eql T.e (.tmp 15) (.const (.int .i64 2)) d (.int .i64 2) w fun aq w=>X1 aq (Q0 a true w (fieldAddr P T.g c 1) fun ad w=>Q0 a true w (Q2 P T.a1 ad) fun Y w=>Q0 a true w (Q3 P .eql T.a1 (.tmp 32) (.const (.int .i64 0)) Y (.int .i64 0)) fun R w=>Q0 a true w (fun w J=>J R w) fun h w=>Q0 h false w (fieldAddr P T.g c 1) fun U w=>Q0 h false w (Q2 P T.a1 U) fun ao w=>Q0 h false w (Q3 P .eql T.a1 (.tmp 36) (.const (.int .i64 1)) ao (.int .i64 1)) fun E w=>Q0 a true w (pick P h (.bool true) E) fun ak w=>pick P a ak (.bool false) w fun p w=>X1 p (K (.string ⟨#[98,111,111,108]⟩) w) (k () w)) (Q3 P .eql T.e (.tmp 15) (.const (.int .i64 3)) d (.int .i64 3) w fun aw w=>X1 aw (fieldAddr P T.g c 1 w fun C w=>Q2 P T.a1 C w fun H w=>Q3 P .eql T.a1 (.tmp 43) (.const (.int .i64 0)) H (.int .i64 0) w fun g w=>Q0 g true w (fieldAddr P T.g c 3) fun am w=>Q0 g true w (Q2 P T.e am) fun ag w=>Q0 g true w (Q3 P .eql T.e (.tmp 47) (.const (.int .i64 0)) ag (.int .i64 0)) fun r w=>pick P g r (.bool false) w fun e w=>Q0 e true w (fieldAddr P T.g c 2) fun av w=>Q0 e true w (Q2 P T.c av) fun ay w=>Q0 e true w (X2 P .len [T.c] T.e [false] [ay]) fun aj w=>Q0 e true w (Q3 P .leq T.e (.tmp 53) (.const (.int .i64 4096)) aj (.int .i64 4096)) fun a4 w=>pick P e a4 (.bool false) w fun i w=>Q0 i true w (fieldAddr P T.g c 2) fun V w=>Q0 i true w (Q2 P T.c V) fun B w=>Q0 i true w (Q1 P F.aL [B]) fun N w=>pick P i N (.bool false) w fun L w=>X1 L (K (.string ⟨#[116,101,120,116]⟩) w) (k () w)) (Q3 P .eql T.e (.tmp 15) (.const (.int .i64 4)) d (.int .i64 4) w fun az w=>X1 az (fieldAddr P T.g c 1 w fun A w=>Q2 P T.a1 A w fun O w=>Q3 P .eql T.a1 (.tmp 64) (.const (.int .i64 0)) O (.int .i64 0) w fun j w=>Q0 j true w (fieldAddr P T.g c 2) fun u w=>Q0 j true w (Q2 P T.c u) fun ab w=>Q0 j true w (Q3 P .eql T.c (.tmp 68) (.const (.string ⟨#[]⟩)) ab (.string ⟨#[]⟩)) fun t w=>pick P j t (.bool false) w fun f w=>Q0 f true w (fieldAddr P T.g c 3) fun ae w=>Q0 f true w (Q2 P T.e ae) fun D w=>Q0 f true w (Q3 P .geq T.e (.tmp 73) (.const (.int .i64 0)) D (.int .i64 0)) fun Q w=>pick P f Q (.bool false) w fun b w=>Q0 b true w (fieldAddr P T.g c 3) fun ai w=>Q0 b true w (Q2 P T.e ai) fun aa w=>Q0 b true w (fieldAddr P T.a t2 2) fun ac w=>Q0 b true w (Q2 P T.f ac) fun al w=>Q0 b true w (X2 P .len [T.f] T.e [false] [al]) fun W w=>Q0 b true w (Q3 P .lss T.e (.tmp 78) (.tmp 81) aa W) fun s w=>pick P b s (.bool false) w fun ah w=>X1 ah (fieldAddr P T.a t2 2 w fun m w=>Q2 P T.f m w fun af w=>fieldAddr P T.g c 3 w fun v w=>Q2 P T.e v w fun q w=>indexAddr P T.f af q w fun ar w=>fieldAddr P T.n ar 0 w fun Z w=>Q2 P T.c Z w fun X w=>K X w) (k () w)) (k () w)))))) fun z2 d_ w=>K (.string ⟨#[]⟩) w
theorem Q1S {a b:Value} {w:World} {K:Value→World→Prop} (h:Hu a b w K):Q1 P F.c4 [a,b] w K:=Q9 Q1Y Tryz.func32 rfl (by decide) (by kernel_rfl) h
def Ee (k i f:Value) (w:World) (K:Value→World→Prop):Prop:= Q1 P F.a2 [k,i] w fun t w=>J8 P .not t w fun b w=>Q0 b false w (fun w J=>J k w) fun aa w=>Q0 b false w (fun w J=>J f w) fun N w=>Q0 b false w (Q1 P F.a2 [aa,N]) fun R w=>Q0 b false w (J8 P .not R) fun Z w=>pick P b (.bool true) Z w fun c w=>Q0 c false w (fun w J=>J i w) fun p w=>Q0 c false w (fun w J=>J f w) fun U w=>Q0 c false w (Q3 P .eql T.c (.tmp 20) (.tmp 21) p U) fun z w=>pick P c (.bool true) z w fun o w=>X1 o (Q3 P .eql T.c (.tmp 24) (.tmp 25) i f w fun d w=>Q0 d true w (fun w J=>J k w) fun C w=>Q0 d true w (fun w J=>J i w) fun B w=>Q0 d true w (Q1 P F.a2 [C,B]) fun Y w=>pick P d Y (.bool false) w fun ac w=>K ac w) (Q1 P F.y [i] w fun j w=>Q0 j false w (fun w J=>J f w) fun V w=>Q0 j false w (Q1 P F.y [V]) fun A w=>pick P j (.bool true) A w fun g w=>Q0 g false w (fun w J=>J f w) fun q w=>Q0 g false w (Q3 P .eql T.c (.tmp 39) (.const (.string ⟨#[110,117,108,108]⟩)) q (.string ⟨#[110,117,108,108]⟩)) fun L w=>pick P g (.bool true) L w fun O w=>X1 O (K (.bool false) w) (Q3 P .eql T.c (.tmp 42) (.const (.string ⟨#[110,117,108,108]⟩)) i (.string ⟨#[110,117,108,108]⟩) w fun h w=>Q0 h false w (fun w J=>J f w) fun D w=>Q0 h false w (Q3 P .eql T.c (.tmp 45) (.const (.string ⟨#[79,98,106,101,99,116]⟩)) D (.string ⟨#[79,98,106,101,99,116]⟩)) fun y w=>pick P h (.bool true) y w fun n w=>X1 n (K (.bool true) w) (Q1 P F.b [k,i] w fun m w=>Q1 P F.b [k,f] w fun l w=>Q3 P .geq T.e (.tmp 54) (.const (.int .i64 0)) m (.int .i64 0) w fun e w=>Q0 e true w (fun w J=>J l w) fun W w=>Q0 e true w (Q3 P .geq T.e (.tmp 57) (.const (.int .i64 0)) W (.int .i64 0)) fun v w=>pick P e v (.bool false) w fun a w=>Q0 a true w (fun w J=>J k w) fun E w=>Q0 a true w (Q1 P F.al [E]) fun X w=>Q0 a true w (fun w J=>J m w) fun u w=>Q0 a true w (indexAddr P T.a8 X u) fun M w=>Q0 a true w (Q2 P T.a6 M) fun H w=>Q0 a true w (fun w J=>J l w) fun Q w=>Q0 a true w (indexAddr P T.a6 H Q) fun s w=>Q0 a true w (Q2 P T.v s) fun ab w=>pick P a ab (.bool false) w fun r w=>K r w)))
theorem Q1b {b c a:Value} {w:World} {K:Value→World→Prop} (h:Ee b c a w K):Q1 P F.bU [b,c,a] w K:=Q9 (List.replicate 12 none) Tryz.func63 rfl (by decide) (by kernel_rfl) h
def Oe (l m k:Value) (w:World) (K:Value→World→Prop):Prop:= box P T.a l w fun b w=>box P T.g m w fun c w=>Q2 P T.a b w fun n w=>Q2 P T.g c w fun o w=>Q1 P F.c4 [n,o] w fun d w=>Q3 P .neq T.c (.tmp 11) (.const (.string ⟨#[]⟩)) d (.string ⟨#[]⟩) w fun a w=>Q0 a true w (fieldAddr P T.a b 0) fun i w=>Q0 a true w (Q2 P T.i i) fun f w=>Q0 a true w (fun w J=>J d w) fun e w=>Q0 a true w (fun w J=>J k w) fun g w=>Q0 a true w (Q1 P F.bU [f,e,g]) fun j w=>pick P a j (.bool false) w fun h w=>K h w
theorem Ae {b c a:Value} {w:World} {K:Value→World→Prop} (h:Oe b c a w K):Q1 P F.bC [b,c,a] w K:=Q9 (List.replicate 3 none) Tryz.func28 rfl (by decide) (by kernel_rfl) h
def De (d:Value) (w:World) (K:Value→World→Prop):Prop:= X2 P .len [T.c] T.e [false] [d] w fun h w=>Q3 P .lss T.e (.tmp 6) (.const (.int .i64 3)) h (.int .i64 3) w fun c w=>Q0 c false w (fun w J=>J d w) fun s w=>Q0 c false w (fun w J=>J h w) fun o w=>Q0 c false w (Q3 P .sub T.e (.tmp 10) (.const (.int .i64 2)) o (.int .i64 2)) fun g w=>Q0 c false w (S1 P T.c s (some g) none none) fun l w=>Q0 c false w (Q3 P .neq T.c (.tmp 12) (.const (.string ⟨#[91,93]⟩)) l (.string ⟨#[91,93]⟩)) fun f w=>pick P c (.bool true) f w fun b w=>Q0 b false w (fun w J=>J d w) fun p w=>Q0 b false w (Q1 P F.a3 [p]) fun r w=>Q0 b false w (Q3 P .gtr T.e (.tmp 17) (.const (.int .i64 3)) r (.int .i64 3)) fun k w=>pick P b (.bool true) k w fun a w=>Q0 a false w (fun w J=>J d w) fun q w=>Q0 a false w (Q1 P F.e [q]) fun i w=>Q0 a false w (J8 P .not i) fun e w=>pick P a (.bool true) e w fun j w=>X1 j (K (.string ⟨#[]⟩) w) (Q3 P .sub T.e (.tmp 26) (.const (.int .i64 2)) h (.int .i64 2) w fun n w=>S1 P T.c d none (some n) none w fun m w=>K m w)
theorem Q05 {a:Value} {w:World} {K:Value→World→Prop} (h:De a w K):Q1 P F.bF [a] w K:=Q9 (List.replicate 6 none) Tryz.func71 rfl (by decide) (by kernel_rfl) h
end Go.Proofs.YtjdiakhipmggjaaGreatDoor

set_option maxRecDepth 100000
namespace Go.Proofs.YtjdiakhipmggjaaGreatDoor
open Go.Emb
def Od (n o m:Value) (w:World) (K:Value→World→Prop):Prop:= box P T.a n w fun b w=>box P T.n o w fun a w=>fieldAddr P T.n a 0 w fun q w=>Q2 P T.c q w fun p w=>Q1 P F.bF [p] w fun c w=>Q3 P .neq T.c (.tmp 11) (.const (.string ⟨#[]⟩)) c (.string ⟨#[]⟩) w fun g w=>X1 g (K c w) (fieldAddr P T.a b 0 w fun l w=>Q2 P T.i l w fun h w=>fieldAddr P T.n a 0 w fun i w=>Q2 P T.c i w fun k w=>Q1 P F.p [h,k] w fun f w=>indexAddr P T.k f m w fun d w=>fieldAddr P T.o d 1 w fun j w=>Q2 P T.c j w fun e w=>K e w)
theorem Tw {b c a:Value} {w:World} {K:Value→World→Prop} (h:Od b c a w K):Q1 P F.bG [b,c,a] w K:=Q9 (List.replicate 6 none) Tryz.func74 rfl (by decide) (by kernel_rfl) h
def Na (v o u:Value) (w:World) (K:Value→World→Prop):Prop:= box P T.a v w fun b w=>Q3 P .lss T.e (.tmp 7) (.const (.int .i64 0)) o (.int .i64 0) w fun c w=>Q0 c false w (fun w J=>J o w) fun p w=>Q0 c false w (fieldAddr P T.a b 2) fun g w=>Q0 c false w (Q2 P T.f g) fun l w=>Q0 c false w (X2 P .len [T.f] T.e [false] [l]) fun f w=>Q0 c false w (Q3 P .geq T.e (.tmp 10) (.tmp 13) p f) fun s w=>pick P c (.bool true) s w fun q w=>X1 q (K (.int .i64 92) w) (Q3 P .lss T.a1 (.tmp 16) (.const (.int .i64 0)) u (.int .i64 0) w fun a w=>Q0 a false w (fun w J=>J u w) fun i w=>Q0 a false w (fieldAddr P T.a b 2) fun e w=>Q0 a false w (Q2 P T.f e) fun r w=>Q0 a false w (fun w J=>J o w) fun j w=>Q0 a false w (indexAddr P T.f r j) fun d w=>Q0 a false w (fieldAddr P T.n d 1) fun k w=>Q0 a false w (Q2 P T.l k) fun h w=>Q0 a false w (X2 P .len [T.l] T.e [false] [h]) fun t w=>Q0 a false w (Q3 P .geq T.a1 (.tmp 19) (.tmp 26) i t) fun n w=>pick P a (.bool true) n w fun m w=>X1 m (K (.int .i64 93) w) (K (.int .i64 0) w))
theorem Pp {b c a:Value} {w:World} {K:Value→World→Prop} (h:Na b c a w K):Q1 P F.aN [b,c,a] w K:=Q9 (List.replicate 8 none) Tryz.func108 rfl (by decide) (by kernel_rfl) h
def Ep (a0 B M a3:Value) (w:World) (K:Value→World→Prop):Prop:= box P T.a a0 w fun a w=>box P T.g a3 w fun c w=>W0 P T.a w fun s w=>Q2 P T.a a w fun H w=>Q1 P F.aN [H,B,M] w fun y w=>Q3 P .neq T.z (.tmp 17) (.const (.int .i64 0)) y (.int .i64 0) w fun U w=>X1 U (Q2 P T.a a w fun O w=>Y1 P T.a s O w fun _u w=>Y7 P T.a s w fun t=>K (.tuple #[t,y]) w) (dr w fun b i=>Q5 b (fun f=> ∀w,i w→fieldAddr P T.a a 2 w (dk b f w)) fun f=>Q5 b (fun r=> ∀w,i w→Q2 P T.a a w (dk b r w)) fun r=>Q5 b (fun o=> ∀w,i w→Q2 P T.g c w (dk b o w)) fun o=>Q5 b (fun n=> ∀w,i w→Q2 P T.a a w (dk b n w)) fun n=>Q5 b (fun k=> ∀h w,i w→f h w→Q2 P T.f h w (dk b k w)) fun k=>Q5 b (fun e=> ∀g w,i w→k g w→indexAddr P T.f g B w (dk b e w)) fun e=>Q5 b (fun l=> ∀m w,i w→e m w→Q2 P T.n m w (dk b l w)) fun l=>Q5 b (fun q=> ∀d j w,i w→n d w→l j w→Q1 P F.bG [d,j,M] w (dk b q w)) fun q=>∀h z u d g m j A w,i w→f h w→r z w→o u w→n d w→k g w→e m w→l j w→q A w→ Q1 P F.bC [z,u,A] w fun ac w=>J8 P .not ac w fun aa w=>X1 aa (Q2 P T.a a w fun X w=>Y1 P T.a s X w fun _u w=>Y7 P T.a s w fun t=>K (.tuple #[t,(.int .i64 91)]) w) (buildSlice P T.f 0 [] w fun ab w=>fieldAddr P T.a a 2 w fun Y w=>Q2 P T.f Y w fun Q w=>X2 P .append [T.f,T.f] T.f [false,false] [ab,Q] w fun p w=>buildSlice P T.l 0 [] w fun L w=>indexAddr P T.f p B w fun W w=>fieldAddr P T.n W 1 w fun N w=>Q2 P T.l N w fun V w=>X2 P .append [T.l,T.l] T.l [false,false] [L,V] w fun v w=>Q2 P T.g c w fun C w=>indexAddr P T.l v M w fun J w=>Y1 P T.g J C w fun _u w=>indexAddr P T.f p B w fun Z w=>fieldAddr P T.n Z 1 w fun E w=>Y1 P T.l E v w fun _u w=>fieldAddr P T.a a 2 w fun D w=>Y1 P T.f D p w fun _u w=>Q2 P T.a a w fun R w=>Y1 P T.a s R w fun _u w=>Y7 P T.a s w fun t=>K (.tuple #[t,(.int .i64 0)]) w))
theorem Q0e {c d a b:Value} {w:World} {K:Value→World→Prop} (h:Ep c d a b w K):Q1 P F.bQ [c,d,a,b] w K:=Q9 (List.replicate 14 none) Tryz.func59 rfl (by decide) (by kernel_rfl) h
def Et (p o n:Value) (w:World) (K:Value→World→Prop):Prop:= box P T.a p w fun a w=>W0 P T.g w fun c w=>Q2 P T.a a w fun q w=>Q1 P F.aN [q,o,n] w fun b w=>Q3 P .neq T.z (.tmp 13) (.const (.int .i64 0)) b (.int .i64 0) w fun m w=>X1 m (H1 P T.g [] w fun j w=>Y1 P T.g c j w fun _u w=>Y7 P T.g c w fun e=>K (.tuple #[e,b]) w) (fieldAddr P T.a a 2 w fun l w=>Q2 P T.f l w fun i w=>indexAddr P T.f i o w fun d w=>fieldAddr P T.n d 1 w fun k w=>Q2 P T.l k w fun g w=>indexAddr P T.l g n w fun h w=>Q2 P T.g h w fun f w=>Y1 P T.g c f w fun _u w=>Y7 P T.g c w fun e=>K (.tuple #[e,(.int .i64 0)]) w)
theorem Q0R {b c a:Value} {w:World} {K:Value→World→Prop} (h:Et b c a w K):Q1 P F.bR [b,c,a] w K:=Q9 (List.replicate 6 none) Tryz.func60 rfl (by decide) (by kernel_rfl) h
def Q0w:V5:=[none,some ([1],[1,8,9]),none,none,none,some ([5],[5,6,7,10,11,12,13,14,15,16,17,18,19,20,21,22,23,24,25,26,27,28,29,30,31,32,33,34,35,36,37,38,39,40,41,42,43,44,45,46,47,48,49,50,51]),none,none,none,none,some ([6],[6,7,22,23,24,25,26,27,28,29,30,31,32,33,34,35,36,37,38,39,40,41,42,43,44,45,46,47,48,49,50,51]),none,none,none,none,none,none,some ([],[52,53,54,55,56,57,58,59,60,61,62,63]),none,none]
def Eb (a0 a1:Value) (w:World) (K:Value→World→Prop):Prop:= box P T.a a0 w fun e w=>W0 P T.a w fun i w=>jn (α:=Value) w (fun J1 w=>Q3 P .lss T.e (.tmp 8) (.const (.int .i64 0)) a1 (.int .i64 0) w fun t9 w=>X1 t9 (J1 (.int .i64 0) w) (J1 a1 w)) fun j d_ w=>lp (α:=Value) (.int .i64 0) w fun d g d_ w=>Q3 P .lss T.e (.tmp 10) (.tmp 11) g j w fun a w=>Q0 a true w (fun w J=>J g w) fun ag w=>Q0 a true w (fieldAddr P T.a e 2) fun V w=>Q0 a true w (Q2 P T.f V) fun X w=>Q0 a true w (X2 P .len [T.f] T.e [false] [X]) fun ad w=>Q0 a true w (Q3 P .lss T.e (.tmp 14) (.tmp 17) ag ad) fun E w=>pick P a E (.bool false) w fun v w=>X1 v (lp (α:=Value) (.int .i64 0) w fun b f d_ w=>fieldAddr P T.a e 2 w fun l w=>Q2 P T.f l w fun z w=>indexAddr P T.f z g w fun ak w=>fieldAddr P T.n ak 1 w fun O w=>Q2 P T.l O w fun H w=>X2 P .len [T.l] T.e [false] [H] w fun C w=>Q3 P .lss T.e (.tmp 22) (.tmp 29) f C w fun ac w=>X1 ac (fieldAddr P T.a e 2 w fun Y w=>Q2 P T.f Y w fun af w=>indexAddr P T.f af g w fun A w=>fieldAddr P T.n A 1 w fun B w=>Q2 P T.l B w fun q w=>indexAddr P T.l q f w fun Q w=>Q2 P T.g Q w fun W w=>W0 P T.g w fun t7 w=>Y1 P T.g t7 W w fun _u w=>fieldAddr P T.g t7 0 w fun u w=>Q2 P T.e u w fun D w=>Q3 P .eql T.e (.tmp 43) (.const (.int .i64 4)) D (.int .i64 4) w fun c w=>Q0 c true w (fieldAddr P T.g t7 3) fun y w=>Q0 c true w (Q2 P T.e y) fun k w=>Q0 c true w (fun w J=>J j w) fun p w=>Q0 c true w (Q3 P .geq T.e (.tmp 47) (.tmp 48) k p) fun ai w=>pick P c ai (.bool false) w fun r w=>X1 r (Q2 P T.a e w fun N w=>Y1 P T.a i N w fun _u w=>Y7 P T.a i w fun n=>K n w) (Q3 P .add T.e (.tmp 31) (.const (.int .i64 1)) f (.int .i64 1) w fun ae w=>b ae w)) (Q3 P .add T.e (.tmp 20) (.const (.int .i64 1)) g (.int .i64 1) w fun Z w=>d Z w)) (jn (α:=Unit) w (fun h w=>fieldAddr P T.a e 2 w fun o w=>Q2 P T.f o w fun aj w=>X2 P .len [T.f] T.e [false] [aj] w fun m w=>Q3 P .lss T.e (.tmp 52) (.tmp 55) j m w fun L w=>X1 L (buildSlice P T.f 0 [] w fun aa w=>fieldAddr P T.a e 2 w fun t w=>Q2 P T.f t w fun R w=>S1 P T.f R none (some j) none w fun M w=>X2 P .append [T.f,T.f] T.f [false,false] [aa,M] w fun ab w=>fieldAddr P T.a e 2 w fun s w=>Y1 P T.f s ab w fun _u w=>h () w) (h () w)) fun aq d_ w=>Q2 P T.a e w fun U w=>Y1 P T.a i U w fun _u w=>Y7 P T.a i w fun n=>K n w)
theorem Q0q {a b:Value} {w:World} {K:Value→World→Prop} (h:Eb a b w K):Q1 P F.bS [a,b] w K:=Q9 Q0w Tryz.func61 rfl (by decide) (by kernel_rfl) h
def Hv (a0 a1 a2:Value) (w:World) (K:Value→World→Prop):Prop:= box P T.a a1 w fun t4 w=>box P T.m a2 w fun t w=>W0 P T.a w fun t6 w=>fieldAddr P T.m t 0 w fun ef w=>Q2 P T.e ef w fun a4 w=>Q3 P .eql T.e (.tmp 23) (.const (.int .i64 0)) a4 (.int .i64 0) w fun el w=>X1 el (Q2 P T.a t4 w fun eh w=>fieldAddr P T.m t 1 w fun es w=>Q2 P T.c es w fun eo w=>Q1 P F.be [eh,eo] w fun dh w=>ext P dh 0 w fun er w=>ext P dh 1 w fun cu w=>W0 P T.a w fun t8 w=>Y1 P T.a t8 er w fun _u w=>fieldAddr P T.m t 1 w fun eb w=>Q2 P T.c eb w fun eg w=>Q1 P F.aK [a0,eg] w fun dq w=>ext P dq 0 w fun dy w=>ext P dq 1 w fun d8 w=>dr w fun a b=>Q5 a (fun n=> ∀w,b w→Q3 P .eql T.z (.tmp 41) (.tmp 42) cu d8 w (dk a n w)) fun n=>Q5 a (fun ba=> ∀c w,b w→n c w→Q0 c true w (fun w J=>J cu w) (dk a ba w)) fun ba=>Q5 a (fun ch=> ∀c bb w,b w→n c w→ba bb w→Q0 c true w (Q3 P .neq T.z (.tmp 45) (.const (.int .i64 0)) bb (.int .i64 0)) (dk a ch w)) fun ch=>Q5 a (fun ar=> ∀c bk w,b w→n c w→ch bk w→Q0 c true w (fun w J=>J bk w) (dk a ar w)) fun ar=>Q5 a (fun bv=> ∀m w,b w→ar m w→Q0 m true w (fun w J=>J dy w) (dk a bv w)) fun bv=>Q5 a (fun b2=> ∀m a7 w,b w→ar m w→bv a7 w→Q0 m true w (Q3 P .eql T.e (.tmp 48) (.const (.int .i64 0)) a7 (.int .i64 0)) (dk a b2 w)) fun b2=>Q5 a (fun cd=> ∀c m bp w,b w→n c w→ar m w→b2 bp w→Q0 c true w (pick P m bp (.bool false)) (dk a cd w)) fun cd=>Q5 a (fun v=> ∀c bj w,b w→n c w→cd bj w→Q0 c true w (fun w J=>J bj w) (dk a v w)) fun v=>Q5 a (fun bd=> ∀i w,b w→v i w→Q0 i false w (fun w J=>J cu w) (dk a bd w)) fun bd=>Q5 a (fun b3=> ∀i bo w,b w→v i w→bd bo w→Q0 i false w (Q3 P .eql T.z (.tmp 52) (.const (.int .i64 0)) bo (.int .i64 0)) (dk a b3 w)) fun b3=>Q5 a (fun s=> ∀i bi w,b w→v i w→b3 bi w→Q0 i false w (fun w J=>J bi w) (dk a s w)) fun s=>Q5 a (fun b5=> ∀g w,b w→s g w→Q0 g true w (fun w J=>J dy w) (dk a b5 w)) fun b5=>Q5 a (fun bf=> ∀g w,b w→s g w→Q0 g true w (fieldAddr P T.a t4 2) (dk a bf w)) fun bf=>Q5 a (fun bc=> ∀w,b w→Q2 P T.a t8 w (dk a bc w)) fun bc=>Q5 a (fun cf=> ∀g bl w,b w→s g w→bf bl w→Q0 g true w (Q2 P T.f bl) (dk a cf w)) fun cf=>Q5 a (fun bz=> ∀g bg w,b w→s g w→cf bg w→Q0 g true w (X2 P .len [T.f] T.e [false] [bg]) (dk a bz w)) fun bz=>Q5 a (fun bu=> ∀g ca a8 w,b w→s g w→b5 ca w→bz a8 w→Q0 g true w (Q3 P .eql T.e (.tmp 55) (.tmp 58) ca a8) (dk a bu w)) fun bu=>Q5 a (fun a9=> ∀i g b4 w,b w→v i w→s g w→bu b4 w→Q0 i false w (pick P g b4 (.bool false)) (dk a a9 w)) fun a9=>Q5 a (fun bq=> ∀c i b0 w,b w→n c w→v i w→a9 b0 w→Q0 c true w (pick P i (.bool true) b0) (dk a bq w)) fun bq=>Q5 a (fun cv=> ∀c b1 w,b w→n c w→bq b1 w→pick P c b1 (.bool false) w (dk a cv w)) fun cv=>Ci a (fun j=> ∀aw w,b w→bc aw w→Y1 P T.a t6 aw w (dk a (j [aw]) w)) fun j=>∀c bb bk m a7 bp bj i bo bi g ca bl aw bg a8 b4 b0 b1 dg ct w,b w→n c w→ba bb w→ch bk w→ar m w→bv a7 w→b2 bp w→cd bj w→v i w→bd bo w→b3 bi w→s g w→b5 ca w→bf bl w→bc aw w→cf bg w→bz a8 w→bu b4 w→a9 b0 w→bq b1 w→cv dg w→j [aw] ct w→ Y7 P T.a t6 w fun r0=>K (.tuple #[r0,dg]) w) (Q3 P .eql T.e (.tmp 23) (.const (.int .i64 1)) a4 (.int .i64 1) w fun ea w=>X1 ea (Q2 P T.a t4 w fun eu w=>fieldAddr P T.m t 1 w fun ek w=>Q2 P T.c ek w fun eq w=>fieldAddr P T.m t 2 w fun ej w=>Q2 P T.a1 ej w fun d9 w=>Q1 P F.bn [eu,eq,d9] w fun d5 w=>ext P d5 0 w fun ed w=>ext P d5 1 w fun cs w=>W0 P T.a w fun d3 w=>Y1 P T.a d3 ed w fun _u w=>fieldAddr P T.m t 1 w fun em w=>Q2 P T.c em w fun ee w=>fieldAddr P T.m t 2 w fun ep w=>Q2 P T.a1 ep w fun ec w=>Q1 P F.aR [a0,ee,ec] w fun d0 w=>ext P d0 0 w fun dt w=>ext P d0 1 w fun ei w=>dr w fun a b=>Q5 a (fun l=> ∀w,b w→Q3 P .eql T.z (.tmp 84) (.tmp 85) cs ei w (dk a l w)) fun l=>Q5 a (fun ck=> ∀d w,b w→l d w→Q0 d true w (fun w J=>J cs w) (dk a ck w)) fun ck=>Q5 a (fun be=> ∀d bm w,b w→l d w→ck bm w→Q0 d true w (Q3 P .neq T.z (.tmp 88) (.const (.int .i64 0)) bm (.int .i64 0)) (dk a be w)) fun be=>Q5 a (fun aq=> ∀d b7 w,b w→l d w→be b7 w→Q0 d true w (fun w J=>J b7 w) (dk a aq w)) fun aq=>Q5 a (fun cc=> ∀o w,b w→aq o w→Q0 o true w (fun w J=>J dt w) (dk a cc w)) fun cc=>Q5 a (fun cb=> ∀o b8 w,b w→aq o w→cc b8 w→Q0 o true w (Q3 P .eql T.e (.tmp 91) (.const (.int .i64 0)) b8 (.int .i64 0)) (dk a cb w)) fun cb=>Q5 a (fun bx=> ∀d o bw w,b w→l d w→aq o w→cb bw w→Q0 d true w (pick P o bw (.bool false)) (dk a bx w)) fun bx=>Q5 a (fun u=> ∀d ce w,b w→l d w→bx ce w→Q0 d true w (fun w J=>J ce w) (dk a u w)) fun u=>Q5 a (fun cl=> ∀h w,b w→u h w→Q0 h false w (fun w J=>J cs w) (dk a cl w)) fun cl=>Q5 a (fun bh=> ∀h br w,b w→u h w→cl br w→Q0 h false w (Q3 P .eql T.z (.tmp 95) (.const (.int .i64 0)) br (.int .i64 0)) (dk a bh w)) fun bh=>Q5 a (fun r=> ∀h b6 w,b w→u h w→bh b6 w→Q0 h false w (fun w J=>J b6 w) (dk a r w)) fun r=>Q5 a (fun ci=> ∀f w,b w→r f w→Q0 f true w (fun w J=>J dt w) (dk a ci w)) fun ci=>Q5 a (fun cj=> ∀f w,b w→r f w→Q0 f true w (fieldAddr P T.a t4 2) (dk a cj w)) fun cj=>Q5 a (fun cg=> ∀w,b w→Q2 P T.a d3 w (dk a cg w)) fun cg=>Q5 a (fun ab=> ∀f b9 w,b w→r f w→cj b9 w→Q0 f true w (Q2 P T.f b9) (dk a ab w)) fun ab=>Q5 a (fun z=> ∀f B w,b w→r f w→ab B w→Q0 f true w (X2 P .len [T.f] T.e [false] [B]) (dk a z w)) fun z=>Q5 a (fun af=> ∀f bs am w,b w→r f w→ci bs w→z am w→Q0 f true w (Q3 P .eql T.e (.tmp 98) (.tmp 101) bs am) (dk a af w)) fun af=>Q5 a (fun aj=> ∀h f H w,b w→u h w→r f w→af H w→Q0 h false w (pick P f H (.bool false)) (dk a aj w)) fun aj=>Q5 a (fun ae=> ∀d h an w,b w→l d w→u h w→aj an w→Q0 d true w (pick P h (.bool true) an) (dk a ae w)) fun ae=>Q5 a (fun a3=> ∀d ah w,b w→l d w→ae ah w→pick P d ah (.bool false) w (dk a a3 w)) fun a3=>Ci a (fun j=> ∀av w,b w→cg av w→Y1 P T.a t6 av w (dk a (j [av]) w)) fun j=>∀d bm b7 o b8 bw ce h br b6 f bs b9 av B am H an ah cr ct w,b w→l d w→ck bm w→be b7 w→aq o w→cc b8 w→cb bw w→bx ce w→u h w→cl br w→bh b6 w→r f w→ci bs w→cj b9 w→cg av w→ab B w→z am w→af H w→aj an w→ae ah w→a3 cr w→j [av] ct w→ Y7 P T.a t6 w fun r0=>K (.tuple #[r0,cr]) w) (Q3 P .eql T.e (.tmp 23) (.const (.int .i64 2)) a4 (.int .i64 2) w fun de w=>X1 de (Q2 P T.a t4 w fun dc w=>fieldAddr P T.m t 3 w fun c7 w=>Q2 P T.e c7 w fun dz w=>fieldAddr P T.m t 2 w fun c6 w=>Q2 P T.a1 c6 w fun c5 w=>fieldAddr P T.m t 4 w fun d6 w=>Q2 P T.g d6 w fun di w=>Q1 P F.bQ [dc,dz,c5,di] w fun cm w=>ext P cm 0 w fun d1 w=>ext P cm 1 w fun c4 w=>W0 P T.a w fun c3 w=>Y1 P T.a c3 d1 w fun _u w=>dr w fun a b=>Q5 a (fun R=> ∀w,b w→fieldAddr P T.m t 3 w (dk a R w)) fun R=>Q5 a (fun V=> ∀w,b w→fieldAddr P T.m t 2 w (dk a V w)) fun V=>Q5 a (fun L=> ∀w,b w→fieldAddr P T.m t 4 w (dk a L w)) fun L=>Q5 a (fun Y=> ∀w,b w→Q2 P T.a c3 w (dk a Y w)) fun Y=>Q5 a (fun aa=> ∀E w,b w→R E w→Q2 P T.e E w (dk a aa w)) fun aa=>Q5 a (fun C=> ∀N w,b w→V N w→Q2 P T.a1 N w (dk a C w)) fun C=>Q5 a (fun Z=> ∀ai w,b w→L ai w→Q2 P T.g ai w (dk a Z w)) fun Z=>Q5 a (fun ac=> ∀X D O w,b w→aa X w→C D w→Z O w→Q1 P F.b6 [a0,X,D,O] w (dk a ac w)) fun ac=>Q5 a (fun a5=> ∀ao w,b w→ac ao w→Q3 P .eql T.z (.tmp 127) (.tmp 128) ao c4 w (dk a a5 w)) fun a5=>Ci a (fun ay=> ∀p w,b w→Y p w→Y1 P T.a t6 p w (dk a (ay [p]) w)) fun ay=>∀E N ai p X D O ao cp et w,b w→R E w→V N w→L ai w→Y p w→aa X w→C D w→Z O w→ac ao w→a5 cp w→ay [p] et w→ Y7 P T.a t6 w fun r0=>K (.tuple #[r0,cp]) w) (Q3 P .eql T.e (.tmp 23) (.const (.int .i64 3)) a4 (.int .i64 3) w fun d7 w=>X1 d7 (Q2 P T.a t4 w fun dv w=>fieldAddr P T.m t 3 w fun dp w=>Q2 P T.e dp w fun du w=>fieldAddr P T.m t 2 w fun dm w=>Q2 P T.a1 dm w fun db w=>Q1 P F.bR [dv,du,db] w fun cq w=>ext P cq 0 w fun da w=>ext P cq 1 w fun c8 w=>W0 P T.g w fun d2 w=>Y1 P T.g d2 da w fun _u w=>fieldAddr P T.m t 3 w fun dw w=>Q2 P T.e dw w fun cz w=>fieldAddr P T.m t 2 w fun c9 w=>Q2 P T.a1 c9 w fun cx w=>Q1 P F.c3 [a0,cz,cx] w fun co w=>ext P co 0 w fun c1 w=>ext P co 1 w fun dn w=>W0 P T.g w fun dj w=>Y1 P T.g dj c1 w fun _u w=>dr w fun a b=>Q5 a (fun W=> ∀w,b w→Q2 P T.a t4 w (dk a W w)) fun W=>Q5 a (fun Q=> ∀w,b w→Q2 P T.g d2 w (dk a Q w)) fun Q=>Q5 a (fun U=> ∀w,b w→Q2 P T.g dj w (dk a U w)) fun U=>Q5 a (fun k=> ∀ag ad w,b w→Q ag w→U ad w→Q3 P .eql T.g (.tmp 151) (.tmp 152) ag ad w (dk a k w)) fun k=>Q5 a (fun y=> ∀e w,b w→k e w→Q0 e true w (fun w J=>J c8 w) (dk a y w)) fun y=>Q5 a (fun M=> ∀e w,b w→k e w→Q0 e true w (fun w J=>J dn w) (dk a M w)) fun M=>Q5 a (fun al=> ∀e ap A w,b w→k e w→y ap w→M A w→Q0 e true w (Q3 P .eql T.z (.tmp 155) (.tmp 156) ap A) (dk a al w)) fun al=>Q5 a (fun a6=> ∀e ak w,b w→k e w→al ak w→pick P e ak (.bool false) w (dk a a6 w)) fun a6=>Ci a (fun cw=> ∀q w,b w→W q w→Y1 P T.a t6 q w (dk a (cw [q]) w)) fun cw=>∀q ag ad e ap A ak cn u9 w,b w→W q w→Q ag w→U ad w→k e w→y ap w→M A w→al ak w→a6 cn w→cw [q] u9 w→ Y7 P T.a t6 w fun r0=>K (.tuple #[r0,cn]) w) (Q3 P .eql T.e (.tmp 23) (.const (.int .i64 4)) a4 (.int .i64 4) w fun dl w=>X1 dl (fieldAddr P T.m t 3 w fun c0 w=>Q2 P T.e c0 w fun dx w=>Q1 P F.aG [a0,dx] w fun ew w=>Q2 P T.a t4 w fun d4 w=>fieldAddr P T.m t 3 w fun df w=>Q2 P T.e df w fun ds w=>Q1 P F.bS [d4,ds] w fun cy w=>Y1 P T.a t6 cy w fun _u w=>Y7 P T.a t6 w fun r0=>K (.tuple #[r0,(.bool true)]) w) (Q2 P T.a t4 w fun c2 w=>Y1 P T.a t6 c2 w fun _u w=>Y7 P T.a t6 w fun r0=>K (.tuple #[r0,(.bool true)]) w)))))
theorem Q1V {b c a:Value} {w:World} {K:Value→World→Prop} (h:Hv b c a w K):Q1 P F.z [b,c,a] w K:=Q9 (List.replicate 22 none) Tryz.func26 rfl (by decide) (by kernel_rfl) h
def Q0b:V5:=[none,none,none,none,none,none,some ([5],[4,5,6,12,13,14,15,16,17,18,19,20,21,22,23,24,25,26,27,28,29,30,31,32,33,34,35,36,37,38,39,40,41,42,43,44,45,46,47,48,49,50,51,52,53,54,55,56,57,58,59,60,61,62,63,64,65,66,67,68,69,70]),none,none,none,none,none,none,none,some ([6],[4,6,44,45,46,47,48,49,50,51,52,53,54,55,56,57,58,59,60,61,62,63,64,65,66,67,68,69,70]),none,none,none,none,none,none]
def Dh (a0 a1:Value) (w:World) (K:Value→World→Prop):Prop:= X2 P .len [T.f] T.e [false] [a0] w fun t8 w=>X2 P .len [T.f] T.e [false] [a1] w fun a8 w=>Q3 P .neq T.e (.tmp 8) (.tmp 10) t8 a8 w fun a4 w=>X1 a4 (K (.bool false) w) (lp (α:=Value) (.int .i64 0) w fun i L d_ w=>X2 P .len [T.f] T.e [false] [a0] w fun bf w=>Q3 P .lss T.e (.tmp 12) (.tmp 14) L bf w fun bd w=>X1 bd (dr w fun b c=>Q5 b (fun Q=> ∀w,c w→indexAddr P T.f a0 L w (dk b Q w)) fun Q=>Q5 b (fun C=> ∀f w,c w→Q f w→fieldAddr P T.n f 0 w (dk b C w)) fun C=>Q5 b (fun q=> ∀w,c w→indexAddr P T.f a1 L w (dk b q w)) fun q=>Q5 b (fun r=> ∀j w,c w→q j w→fieldAddr P T.n j 0 w (dk b r w)) fun r=>Q5 b (fun Y=> ∀aj w,c w→C aj w→Q2 P T.c aj w (dk b Y w)) fun Y=>Q5 b (fun R=> ∀O w,c w→r O w→Q2 P T.c O w (dk b R w)) fun R=>Q5 b (fun d=> ∀V ac w,c w→Y V w→R ac w→Q3 P .neq T.c (.tmp 22) (.tmp 27) V ac w (dk b d w)) fun d=>Q5 b (fun u=> ∀a w,c w→d a w→Q0 a false w (fun w J=>J a0 w) (dk b u w)) fun u=>Q5 b (fun ag=> ∀a w,c w→d a w→Q0 a false w (fun w J=>J L w) (dk b ag w)) fun ag=>Q5 b (fun Z=> ∀a am M w,c w→d a w→u am w→ag M w→Q0 a false w (indexAddr P T.f am M) (dk b Z w)) fun Z=>Q5 b (fun v=> ∀a E w,c w→d a w→Z E w→Q0 a false w (fieldAddr P T.n E 1) (dk b v w)) fun v=>Q5 b (fun g=> ∀a w,c w→d a w→Q0 a false w (fun w J=>J a1 w) (dk b g w)) fun g=>Q5 b (fun D=> ∀a w,c w→d a w→Q0 a false w (fun w J=>J L w) (dk b D w)) fun D=>Q5 b (fun m=> ∀a W n w,c w→d a w→g W w→D n w→Q0 a false w (indexAddr P T.f W n) (dk b m w)) fun m=>Q5 b (fun ah=> ∀a U w,c w→d a w→m U w→Q0 a false w (fieldAddr P T.n U 1) (dk b ah w)) fun ah=>Q5 b (fun o=> ∀a A w,c w→d a w→v A w→Q0 a false w (Q2 P T.l A) (dk b o w)) fun o=>Q5 b (fun ao=> ∀a H w,c w→d a w→o H w→Q0 a false w (X2 P .len [T.l] T.e [false] [H]) (dk b ao w)) fun ao=>Q5 b (fun t=> ∀a h w,c w→d a w→ah h w→Q0 a false w (Q2 P T.l h) (dk b t w)) fun t=>Q5 b (fun aq=> ∀a af w,c w→d a w→t af w→Q0 a false w (X2 P .len [T.l] T.e [false] [af]) (dk b aq w)) fun aq=>∀f aj j O V ac a am M E A W n U h H ay af az w,c w→Q f w→C aj w→q j w→r O w→Y V w→R ac w→d a w→u am w→ag M w→Z E w→v A w→g W w→D n w→m U w→ah h w→o H w→ao ay w→t af w→aq az w→ Q0 a false w (Q3 P .neq T.e (.tmp 35) (.tmp 41) ay az) fun a5 w=>pick P a (.bool true) a5 w fun a7 w=>X1 a7 (K (.bool false) w) (lp (α:=Value) (.int .i64 0) w fun e al d_ w=>indexAddr P T.f a0 L w fun a9 w=>fieldAddr P T.n a9 1 w fun a3 w=>Q2 P T.l a3 w fun bg w=>X2 P .len [T.l] T.e [false] [bg] w fun bb w=>Q3 P .lss T.e (.tmp 44) (.tmp 50) al bb w fun bc w=>X1 bc (dr w fun b c=>Q5 b (fun z=> ∀w,c w→indexAddr P T.f a0 L w (dk b z w)) fun z=>Q5 b (fun X=> ∀aa w,c w→z aa w→fieldAddr P T.n aa 1 w (dk b X w)) fun X=>Q5 b (fun ab=> ∀w,c w→indexAddr P T.f a1 L w (dk b ab w)) fun ab=>Q5 b (fun an=> ∀y w,c w→ab y w→fieldAddr P T.n y 1 w (dk b an w)) fun an=>Q5 b (fun p=> ∀B w,c w→X B w→Q2 P T.l B w (dk b p w)) fun p=>Q5 b (fun l=> ∀k w,c w→p k w→indexAddr P T.l k al w (dk b l w)) fun l=>Q5 b (fun ar=> ∀s w,c w→l s w→Q2 P T.g s w (dk b ar w)) fun ar=>Q5 b (fun ak=> ∀ad w,c w→an ad w→Q2 P T.l ad w (dk b ak w)) fun ak=>Q5 b (fun ae=> ∀ai w,c w→ak ai w→indexAddr P T.l ai al w (dk b ae w)) fun ae=>Q5 b (fun ap=> ∀N w,c w→ae N w→Q2 P T.g N w (dk b ap w)) fun ap=>∀aa B y ad k s ax ai N aw w,c w→z aa w→X B w→ab y w→an ad w→p k w→l s w→ar ax w→ak ai w→ae N w→ap aw w→ Q3 P .neq T.g (.tmp 61) (.tmp 69) ax aw w fun a6 w=>X1 a6 (K (.bool false) w) (Q3 P .add T.e (.tmp 52) (.const (.int .i64 1)) al (.int .i64 1) w fun ba w=>e ba w)) (Q3 P .add T.e (.tmp 16) (.const (.int .i64 1)) L (.int .i64 1) w fun be w=>i be w))) (K (.bool true) w))
theorem Ab {a b:Value} {w:World} {K:Value→World→Prop} (h:Dh a b w K):Q1 P F.aT [a,b] w K:=Q9 Q0b Tryz.func38 rfl (by decide) (by kernel_rfl) h
end Go.Proofs.YtjdiakhipmggjaaGreatDoor

set_option maxRecDepth 100000
namespace Go.Proofs.YtjdiakhipmggjaaGreatDoor
open Go.Emb
def Cr:V5:=[none,none,none,none,none,none,none,some ([9],[9,25,26,27,28,29,30,31,32,33,34,35,36,37,38,39,40,41,42,43,44,45,46,47,48,49]),none,none,some ([],[35,36,37,38,39,40,41,42,43,44,45,46,47,48,49]),none,none,none,none,some ([13],[13,56,57,58,59,60,61,62,63,64,65,66,67,68,69,70,71,72,73,74,75,76,77,78,79,80,81,82,83,84,85,86,87,88,89,90,91,92,93,94,95,96,97,98,99,100,101,102]),none,none,some ([],[66,67,68,69,70,71,72,73,74,75,76,77,78,79,80,81,82,83,84,85,86,87,88,89,90,91,92,93,94,95,96,97,98,99,100,101,102]),none,none,none]
def Vg (a0 a1 s:Value) (w:World) (K:Value→World→Prop):Prop:= Q1 P F.ak [a0] w fun z w=>ext P z 0 w fun a w=>ext P z 1 w fun bh w=>W0 P T.a w fun V w=>Y1 P T.a V bh w fun _u w=>Q1 P F.aJ [] w fun aj w=>J8 P .not aj w fun n w=>Q0 n false w (fun w J=>J a w) fun bf w=>Q0 n false w (Q3 P .eql T.a5 (.tmp 22) (.const (.pointer none)) bf (.pointer none)) fun Y w=>pick P n (.bool true) Y w fun bg w=>X1 bg (K (.bool false) w) (lp (α:=Value) (.int .i64 0) w fun l Q d_ w=>X2 P .len [T.q] T.e [false] [a1] w fun bj w=>Q3 P .lss T.e (.tmp 25) (.tmp 27) Q bj w fun q w=>Q0 q true w (fun w J=>J Q w) fun bn w=>Q0 q true w (Q3 P .lss T.e (.tmp 30) (.const (.int .i64 30)) bn (.int .i64 30)) fun a4 w=>pick P q a4 (.bool false) w fun aw w=>X1 aw (jn (α:=Unit) w (fun M w=>indexAddr P T.q a1 Q w fun al w=>Q2 P T.m al w fun bb w=>Q1 P F.ah [bb] w fun Z w=>X1 Z (sq w fun w=>indexAddr P T.q a1 Q w fun am w=>Q2 P T.a V w fun ag w=>Q2 P T.m am w fun be w=>Q1 P F.z [a,ag,be] w fun D w=>ext P D 0 w fun ab w=>ext P D 1 w fun bv w=>Y1 P T.a V ab w fun _u w=>M () w) (M () w)) fun bs d_ w=>Q3 P .add T.e (.tmp 33) (.const (.int .i64 1)) Q (.int .i64 1) w fun ax w=>l ax w) (Q1 P F.aj [a] w fun r w=>Q1 P F.q [a] w fun a9 w=>Q1 P F.ad [a] w fun a7 w=>lp (α:=Value) (.int .i64 0) w fun k e d_ w=>X2 P .len [T.q] T.e [false] [s] w fun af w=>Q3 P .lss T.e (.tmp 56) (.tmp 58) e af w fun o w=>Q0 o true w (fun w J=>J e w) fun an w=>Q0 o true w (Q3 P .lss T.e (.tmp 61) (.const (.int .i64 30)) an (.int .i64 30)) fun bm w=>pick P o bm (.bool false) w fun ae w=>X1 ae (jn (α:=Unit) w (fun u w=>indexAddr P T.q s e w fun a3 w=>Q2 P T.m a3 w fun ad w=>Q1 P F.ah [ad] w fun g w=>Q0 g true w (fun w J=>J s w) fun a5 w=>Q0 g true w (fun w J=>J e w) fun ah w=>Q0 g true w (indexAddr P T.q a5 ah) fun aq w=>Q0 g true w (fieldAddr P T.m aq 0) fun bl w=>Q0 g true w (Q2 P T.e bl) fun ai w=>Q0 g true w (Q3 P .neq T.e (.tmp 76) (.const (.int .i64 4)) ai (.int .i64 4)) fun a8 w=>pick P g a8 (.bool false) w fun b w=>Q0 b true w (fun w J=>J s w) fun bc w=>Q0 b true w (fun w J=>J e w) fun ar w=>Q0 b true w (indexAddr P T.q bc ar) fun ac w=>Q0 b true w (fieldAddr P T.m ac 0) fun ba w=>Q0 b true w (Q2 P T.e ba) fun W w=>Q0 b true w (Q3 P .neq T.e (.tmp 84) (.const (.int .i64 2)) W (.int .i64 2)) fun a6 w=>Q0 b true w (fun w J=>J a6 w) fun d w=>Q0 d false w (fun w J=>J s w) fun aa w=>Q0 d false w (fun w J=>J e w) fun bi w=>Q0 d false w (indexAddr P T.q aa bi) fun ay w=>Q0 d false w (fieldAddr P T.m ay 3) fun av w=>Q0 d false w (Q2 P T.e av) fun az w=>Q0 d false w (fun w J=>J r w) fun ak w=>Q0 d false w (Q3 P .geq T.e (.tmp 91) (.tmp 92) az ak) fun bd w=>Q0 b true w (pick P d (.bool true) bd) fun ap w=>pick P b ap (.bool false) w fun X w=>X1 X (dr w fun t U=>Q5 t (fun i=> ∀w,U w→indexAddr P T.q s e w (dk t i w)) fun i=>Q5 t (fun p=> ∀w,U w→Q2 P T.a V w (dk t p w)) fun p=>Q5 t (fun j=> ∀h w,U w→i h w→Q2 P T.m h w (dk t j w)) fun j=>∀h H m w,U w→i h w→p H w→j m w→ Q1 P F.z [a,H,m] w fun bp w=>u () w) (u () w)) fun br d_ w=>Q3 P .add T.e (.tmp 64) (.const (.int .i64 1)) e (.int .i64 1) w fun bk w=>k bk w) (Q1 P F.aG [a,r] w fun bq w=>Q1 P F.aj [a] w fun O w=>Q3 P .eql T.e (.tmp 107) (.tmp 108) O r w fun f w=>Q0 f true w (fun w J=>J a w) fun L w=>Q0 f true w (Q1 P F.q [L]) fun E w=>Q0 f true w (fun w J=>J a9 w) fun B w=>Q0 f true w (Q3 P .eql T.e (.tmp 112) (.tmp 113) E B) fun R w=>pick P f R (.bool false) w fun c w=>Q0 c true w (fun w J=>J a w) fun N w=>Q0 c true w (Q1 P F.ad [N]) fun A w=>Q0 c true w (fun w J=>J a7 w) fun y w=>Q0 c true w (Q1 P F.aT [A,y]) fun v w=>pick P c v (.bool false) w fun C w=>K C w)))
theorem Cs {b c a:Value} {w:World} {K:Value→World→Prop} (h:Vg b c a w K):Q1 P F.cd [b,c,a] w K:=Q9 Cr Tryz.func9 rfl (by decide) (by kernel_rfl) h
end Go.Proofs.YtjdiakhipmggjaaGreatDoor


namespace Go.Emb
open Go.RowKit (Below)
variable {P : Program} {w w' : World} {K : Value → World → Prop}
theorem X9 {s:Sem Value} {v:Value} (h:s.run P w= .ok v w'):op P (sv s) w K=K v w':=by
 rw[T7];unfold P8 sv;simp[h]
theorem Lc {s:Sem Unit} (h:s.run P w= .ok () w'):op P (su s) w K=K undef w':=by
 rw[T7];unfold P8 su;simp[h]
abbrev S (l:List UInt8):Value:= .string ⟨l.toArray⟩
abbrev I (n:Int):Value:= .int .i64 n
theorem Ek {b:Bool} {x y:Value}:pick P (.bool b) x y w K=K (if b then x else y) w:=by
 unfold pick;rw[T7];unfold P8;cases b<;>simp[asBool]
theorem M4 {x y:Value}:pick P (.bool true) x y w K=K x w:=by rw[Ek];rfl
theorem W9 {x y:Value}:pick P (.bool false) x y w K=K y w:=by rw[Ek];rfl
theorem X0O {a b:Bool} {u:Value}:pick P (.bool a) (if a=true then .bool b else u) (.bool false) w K=K (.bool (a&&b)) w:=by
 rw[Ek];cases a<;>rfl
theorem X2b {a b:Bool} {u:Value}:pick P (.bool a) (.bool true) (if a=false then .bool b else u) w K=K (.bool (a||b)) w:=by
 rw[Ek];cases a<;>rfl
theorem W3 {c:World→(Value→World→Prop)→Prop}:Q0 (.bool true) true w c K=c w K:=by rw[En];simp[Mg]
theorem W7 {c:World→(Value→World→Prop)→Prop}:Q0 (.bool false) false w c K=c w K:=by rw[En];simp[Mg]
theorem S6 {c:World→(Value→World→Prop)→Prop}:Q0 (.bool true) false w c K=K undef w:=by rw[En];simp[Mg]
theorem E2 {c:World→(Value→World→Prop)→Prop}:Q0 (.bool false) true w c K=K undef w:=by rw[En];simp[Mg]
theorem O7 {b:Bool} {c:World→(Value→World→Prop)→Prop}:Q0 undef b w c K=K undef w:=by rw[En];rfl
theorem X0L {a b:Bool} {v:Value}:Q0 (.bool a) b w (fun w J=>J v w) K=K (if a=b then v else undef) w:=by
 rw[En];unfold Mg;by_cases h:a=b<;>simp[h]
theorem Q63 {b:Bool} {t e:Prop}:X1 (.bool b) t e=if b=true then t else e:=by rw[Q64];cases b<;>rfl
theorem H8 {t e:Prop}:X1 (.bool true) t e=t:=by rw[Q63];simp
theorem M5 {t e:Prop}:X1 (.bool false) t e=e:=by rw[Q63];simp
section ints
variable {k : IntKind} {t : TypeId} {ox oy : Operand} {a b : Int}
theorem Fk:Q3 P .add t ox oy (.int k a) (.int k b) w K=K (.int k (k.wrap (a+b))) w:=X9 (by simp[eqGuard,Go.binOp,Op.intArith])
theorem Q40:Q3 P .sub t ox oy (.int k a) (.int k b) w K=K (.int k (k.wrap (a-b))) w:=X9 (by simp[eqGuard,Go.binOp,Op.intArith])
theorem Q7M:Q3 P .mul t ox oy (.int k a) (.int k b) w K=K (.int k (k.wrap (a*b))) w:=X9 (by simp[eqGuard,Go.binOp,Op.intArith])
theorem Q43:Q3 P .lss t ox oy (.int k a) (.int k b) w K=K (.bool (decide (a<b))) w:=X9 (by simp[eqGuard,Go.binOp,Op.intCmp])
theorem Q42:Q3 P .leq t ox oy (.int k a) (.int k b) w K=K (.bool (decide (a≤b))) w:=X9 (by simp[eqGuard,Go.binOp,Op.intCmp])
theorem Rm:Q3 P .gtr t ox oy (.int k a) (.int k b) w K=K (.bool (decide (b<a))) w:=X9 (by simp[eqGuard,Go.binOp,Op.intCmp])
theorem Q1m:Q3 P .geq t ox oy (.int k a) (.int k b) w K=K (.bool (decide (b≤a))) w:=X9 (by simp[eqGuard,Go.binOp,Op.intCmp])
theorem Q1G:Q3 P .eql t ox oy (.int k a) (.int k b) w K=K (.bool (decide (a=b))) w:=X9 (by
 simp[eqGuard,Go.binOp,Op.intCmp];rfl)
theorem Q3R:Q3 P .neq t ox oy (.int k a) (.int k b) w K=K (.bool (!decide (a=b))) w:=X9 (by
 simp[eqGuard,Go.binOp,Op.intCmp];rfl)
end ints
theorem Q3I {b:Bool}:J8 P .not (.bool b) w K=K (.bool (!b)) w:=X9 (by simp[Op.unary])
section bools
variable {t : TypeId} {ox oy : Operand} {a b : Bool}
theorem Q2v (d:Nat) (h:P.underlying t=some .bool):(Op.equalIn (d+1) t (.bool a) (.bool b)).run P w= .ok (a==b) w:=by
 simp[Op.equalIn,run_underlying h]
theorem Gq (h:P.underlying t=some .bool):(Op.equal t (.bool a) (.bool b)).run P w= .ok (a==b) w:=Q2v 9999 h
theorem Q5e (h:P.underlying t=some .bool):Q3 P .eql t ox oy (.bool a) (.bool b) w K=K (.bool (a==b)) w:=X9 (by
 simp[eqGuard,Go.binOp,Gq h])
theorem Q6i (h:P.underlying t=some .bool):Q3 P .neq t ox oy (.bool a) (.bool b) w K=K (.bool (!(a==b))) w:=X9 (by
 simp[eqGuard,Go.binOp,Gq h])
end bools
theorem Uj {vs:List Value} {i:Nat} {v:Value} (h:vs[i]? =some v):ext P (.tuple vs.toArray) i w K=K v w:=X9 (by
 simp[Instr.extract,h])
theorem X2W {a b:Value}:ext P (.tuple #[a,b]) 0 w K=K a w:=Uj (vs:=[a,b]) rfl
theorem X2H {a b:Value}:ext P (.tuple #[a,b]) 1 w K=K b w:=Uj (vs:=[a,b]) rfl
theorem X1c {a b c:Value}:ext P (.tuple #[a,b,c]) 0 w K=K a w:=Uj (vs:=[a,b,c]) rfl
theorem X15 {a b c:Value}:ext P (.tuple #[a,b,c]) 1 w K=K b w:=Uj (vs:=[a,b,c]) rfl
theorem X16 {a b c:Value}:ext P (.tuple #[a,b,c]) 2 w K=K c w:=Uj (vs:=[a,b,c]) rfl
theorem G1 {n:Int} (e: -9223372036854775808≤n) (d:n≤9223372036854775807):IntKind.i64.wrap n=n:=by
 have c:n % 18446744073709551616=n∨n % 18446744073709551616=n+18446744073709551616:=by omega
 show (if (true&&decide (n % 18446744073709551616≥9223372036854775808))=true then n % 18446744073709551616-18446744073709551616 else n % 18446744073709551616)=n
 simp only[Bool.true_and,decide_eq_true_eq]
 split<;>omega
theorem w32 {n:Int} (d: -2147483648≤n) (c:n≤2147483647):IntKind.i32.wrap n=n:=by
 show (if (true&&decide (n % 4294967296≥2147483648))=true then n % 4294967296-4294967296 else n % 4294967296)=n
 simp only[Bool.true_and,decide_eq_true_eq]
 split<;>omega
section strs
variable {t : TypeId} {ox oy : Operand} {a b : List UInt8}
theorem Q3G (a b:List UInt8):(a==b)=decide (a=b):=by rw[Bool.eq_iff_iff];simp
theorem Fh:Q3 P .eql t ox oy (S a) (S b) w K=K (.bool (decide (a=b))) w:=X9 (by
 simp[eqGuard,Go.binOp,Op.stringOp,Q3G])
theorem Bv:Q3 P .neq t ox oy (S a) (S b) w K=K (.bool (!decide (a=b))) w:=X9 (by
 simp[eqGuard,Go.binOp,Op.stringOp,Q3G])
theorem I7 (l:List UInt8):(ByteArray.mk l.toArray).size=l.length:=by simp[ByteArray.size]
theorem Q9b (a b:List UInt8):ByteArray.mk a.toArray++ByteArray.mk b.toArray=ByteArray.mk (a++b).toArray:=by
 apply ByteArray.ext;simp
theorem X3I:IntKind.i64.max=9223372036854775807:=by decide
theorem Q2f (h:a.length+b.length≤9223372036854775807):Q3 P .add t ox oy (S a) (S b) w K=K (S (a++b)) w:=X9 (by
 have c: ¬(((a.length+b.length:Nat):Int)>IntKind.i64.max):=by rw[X3I];omega
 simp only[eqGuard,Go.binOp,Op.stringOp,I7,Q9b]
 simp only[if_neg c]
 simp)
theorem R9 {cs:List Bool} {r:TypeId} (c:P.underlying t=some .string):X2 P .len [t] r cs [S a] w K=K (I a.length) w:=by
 have h:(Builtin.len_ #[t] r #[S a]).run P w= .ok (I a.length) w:=by
  simp[Builtin.len_,run_underlying c,I7,goInt]
 exact X9 h
theorem Xw {i:Int} (d:P.underlying t=some .string) (c:0≤i) (h:i.toNat<a.length):C4 P t (S a) (I i) w K=K (.int .u8 (a[i.toNat]'h).toNat) w:=X9 (by
 simp only[Instr.index,asIntOf,Sem.run_bind,Sem.run_pure,Result.andThen_ok,run_underlying d,c,if_true]
 have:(ByteArray.mk a.toArray)[i.toNat]? =some (a[i.toNat]'h):=by
  rw[getElem?_pos _ _ (by rw[I7];exact h)]
  rfl
 rw[this];simp)
theorem Q3u (l:List UInt8) (i j:Nat):(ByteArray.mk l.toArray).extract i j=ByteArray.mk ((l.take j).drop i).toArray:=by
 apply ByteArray.ext
 apply Array.ext'
 simp[List.drop_take]
theorem Ux {i:Int} (d:P.underlying t=some .string) (c:0≤i) (h:i≤a.length):S1 P t (S a) (some (I i)) none none w K=K (S (a.drop i.toNat)) w:=X9 (by
 simp[Instr.sliceAt,Instr.slice,Instr.sliceBounds,Instr.sliceBound,asIntOf,run_underlying d,c,h,I7,Q3u])
theorem T3 {i:Int} (d:P.underlying t=some .string) (c:0≤i) (h:i≤a.length):S1 P t (S a) none (some (I i)) none w K=K (S (a.take i.toNat)) w:=X9 (by
 simp[Instr.sliceAt,Instr.slice,Instr.sliceBounds,Instr.sliceBound,asIntOf,run_underlying d,c,h,I7,Q3u])
end strs
theorem Td {s d:TypeId} {k j:IntKind} {n:Int} {ds:TypeDesc} (e:P.underlying s=some ds) (c:P.underlying d=some (.int k)):conv P s d (.int j n) w K=K (.int k (k.wrap n)) w:=X9 (by
 simp[Go.convert,run_underlying e,run_underlying c,Conv.intToInt])
def Q16 (w:World) (r:Nat) (o:Obj):World:={w with heap:=w.heap.setIfInBounds r o}
theorem Q4G {B r:Nat} {a w:World} {o:Obj} (h:Below B a w) (c:B≤r):Below B a (Q16 w r o):=
 h.trans ⟨rfl,rfl,rfl,by simp[Q16],fun k d=>by simp only[Q16];rw[Array.getElem?_setIfInBounds_ne (by omega)]⟩
theorem Q7H {w:World} {r:Nat} {o:Obj} (h:r<w.heap.size):(Q16 w r o).heap[r]? =some o:=by
 simp only[Q16];rw[Array.getElem?_setIfInBounds_self_of_lt h]
theorem X2i {t:TypeId} {a:List UInt8} (c:P.underlying t=some .string):rng P t (S a) w K=K (.pointer (some ⟨w.heap.size,0,none⟩)) (w.alloc (.stringIter ⟨a.toArray⟩ 0)):=X9 (by
 simp[Instr.range,run_underlying c])
theorem X1X {t:TypeId} {r pos:Nat} {s:ByteArray} (h:w.heap[r]? =some (.stringIter s pos)) (d:pos<s.size):
 W4 P (.pointer (some ⟨r,0,none⟩)) true t w K=K (.tuple #[.bool true,I pos, .int .i32 (Utf8.decode s pos).1]) (Q16 w r (.stringIter s (pos+(Utf8.decode s pos).2))):=X9 (by
 have e: ∀(k:Obj→Sem Value),(getObj r>>=k).run P w=(k (.stringIter s pos)).run P w:=by
  intro k;rw[Sem.run_bind];simp[getObj,Sem.run,h]
 have c: ∀o,(setObj r o).run P w= .ok () (Q16 w r o):=by intro o;simp[setObj,Sem.run,h,Q16]
 unfold Instr.next
 simp only[e,d,if_true]
 simp[c,goInt])
theorem Q6O {t:TypeId} {r pos:Nat} {s:ByteArray} (h:w.heap[r]? =some (.stringIter s pos)) (c: ¬pos<s.size):
 W4 P (.pointer (some ⟨r,0,none⟩)) true t w K=K (.tuple #[.bool false]) w:=X9 (by
 have d: ∀(k:Obj→Sem Value),(getObj r>>=k).run P w=(k (.stringIter s pos)).run P w:=by
  intro k;rw[Sem.run_bind];simp[getObj,Sem.run,h]
 unfold Instr.next
 simp only[d,c,if_false]
 simp)
theorem X1d {a:Value}:ext P (.tuple #[a]) 0 w K=K a w:=Uj (vs:=[a]) rfl
theorem Q7W {s:ByteArray} {i:Nat} (h:(s.get! i).toNat<128):Utf8.decode s i=((s.get! i).toNat,1):=by
 unfold Utf8.decode
 simp only[Nat.add_zero]
 rw[if_pos h]
theorem Q6J {s:ByteArray} {i:Nat} (h: ¬(s.get! i).toNat<128):128≤(Utf8.decode s i).1:=by
 unfold Utf8.decode
 simp only[Nat.add_zero]
 rw[if_neg h]
 repeat' split
 all_goals (simp only[Utf8.runeError] at*;try omega)
 all_goals (simp only[Bool.and_eq_true,decide_eq_true_eq,ge_iff_le] at*;omega)
theorem Q5A {s:ByteArray} {i:Nat}:1≤(Utf8.decode s i).2:=by
 unfold Utf8.decode
 simp only
 repeat' split
 all_goals simp
def Ph (p:Int→Bool) (s:ByteArray):Nat→Nat→Bool
 | 0,_=>true
 | n+1,i=>if i<s.size then p (Utf8.decode s i).1&&Ph p s n (i+(Utf8.decode s i).2) else true
theorem Q3K {a:List UInt8} {i:Nat} (h:i<a.length):(ByteArray.mk a.toArray).get! i=a[i]:=by
 show (ByteArray.mk a.toArray).data[i]! =a[i]
 simp[h]
theorem Q84 (p:Int→Bool) (f: ∀c:Int,128≤c→p c=false) (a:List UInt8): ∀(n i:Nat),a.length-i≤n→Ph p ⟨a.toArray⟩ n i=(a.drop i).all (fun b=>p b.toNat):=by
 intro n
 induction n with
 | zero=>intro i h;rw[List.drop_eq_nil_of_le (by omega)];rfl
 | succ n g=>
  intro i h
  simp only[Ph,I7]
  split
  ·rename_i d
   rw[List.drop_eq_getElem_cons d,List.all_cons]
   by_cases e:a[i].toNat<128
   ·rw[Q7W (by rw[Q3K d];exact e),Q3K d]
    simp only
    rw[g (i+1) (by omega)]
   ·have j:=Q6J (s:=⟨a.toArray⟩) (i:=i) (by rw[Q3K d];exact e)
    rw[f _ (by omega),f _ (by omega)];rfl
  ·rename_i d;rw[List.drop_eq_nil_of_le (by omega)];rfl
theorem U6 {α:Type} {A:(α→World→Prop)→World→Prop} {B:α→(Nat→Value)→World→Prop} (h:A (fun x w=> ∀d,B x d w) w):jn w A B:=Zy _ h (fun _ d _ c=>c d)
theorem X4 {e:World→World→Prop} {A c:(Value→World→Prop)→Prop} (V:Value) (h:A (fun v _=>v=V)) (d:c (fun v _=>v=V)):Q5 e A c:=
 H4 _ (fun _ _ _ h _=>h) h d
theorem Dp {w w0:World} {A:(World→World→Prop)→(World→Prop)→Prop} (e:Below w0.heap.size w0 w)
 (h:A (fun w w'=>Below w.heap.size w w') (fun w'=>Below w0.heap.size w0 w')):dr w A:=
 Kf _ _ e.drew (fun _ _ c d=>c.trans (d.mono c.size)) h
theorem Q3k {w w':World} {v V:Value} (c:Below w.heap.size w w') (h:v=V):dk (fun w w'=>Below w.heap.size w w') (fun v _=>v=V) w v w':=⟨c,h⟩
theorem X6 {w:World} {v V:Value} (h:v=V):dk (fun w w'=>Below w.heap.size w w') (fun v _=>v=V) w v w:=⟨Below.refl _ _,h⟩
theorem Q6D {n:Nat} {fn:Func} {e:Array Value→Sem Value} {xs:List Value} {v:Value} (l:P.funcs[n]? =some fn) (j:(fn.name== "runtime.NumGoroutine")=false) (m:fn.body.isNone=true)
 (o:(Extern.findNext fn).isNone=true) (g:Extern.find fn=some e) (i:(e xs.toArray).run P w= .ok v w) (h:K v w):Q1 P n xs w K:=by
 have f:Extern.findNext fn=none:=by simpa using o
 have d: ¬fn.name= "runtime.NumGoroutine":=by simpa using j
 have c:fn.body=none:=by simpa using m
 unfold Q1
 rw[T7]
 unfold P8 callFunc
 simp[l,d,c,f,g,i,h]
theorem Q3f {α:Type} (p:α→Bool) (c:Nat→Bool): ∀(l:List α),(∀i (h:i<l.length),c i=p l[i])→(List.range l.length).find? c=l.findIdx? p
 | [],_=>rfl
 | x::l,h=>by
  rw[List.length_cons,List.range_succ_eq_map,List.find?_cons,List.findIdx?_cons]
  have d:c 0=p x:=h 0 (by simp)
  rw[d]
  cases p x
  ·simp only[Bool.false_eq_true,if_false]
   rw[List.find?_map]
   have:=Q3f p (c ∘ Nat.succ) l (fun i e=>h (i+1) (by simpa using e))
   rw[this]
  ·rfl
def Mr:=And.intro @M4 <| And.intro @W9 <| And.intro @O7 <| And.intro @Fk <| And.intro @Q40 <| And.intro @Q7M <| And.intro @Q43 <| And.intro @Q42 <| And.intro @Rm <| And.intro @Q1m <| And.intro @Q1G <| And.intro @Q3R <| And.intro @Q3I <| And.intro @Fh <| And.intro @Bv <| And.intro @X2W <| And.intro @X2H <| And.intro @X1c <| And.intro @X15 <| And.intro @X16 <| And.intro @X1d <| And.intro @X0O <| And.intro @X2b <| And.intro @W3 <| And.intro @W7 <| And.intro @S6 <| And.intro @E2 <| And.intro @X0L <| And.intro @H8 <| @M5
def Mp:=And.intro @M4 <| And.intro @W9 <| And.intro @O7 <| And.intro @Fk <| And.intro @Q40 <| And.intro @Q7M <| And.intro @Q43 <| And.intro @Q42 <| And.intro @Rm <| And.intro @Q1m <| And.intro @Q1G <| And.intro @Q3R <| And.intro @Q3I <| And.intro @Fh <| And.intro @Bv <| And.intro @X2W <| And.intro @X2H <| And.intro @X1c <| And.intro @X15 <| And.intro @X16 <| And.intro @X1d <| And.intro @W3 <| And.intro @W7 <| And.intro @S6 <| And.intro @E2 <| And.intro @H8 <| @M5
def Mb:=And.intro @Bool.true_eq_false <| And.intro @Bool.false_eq_true <| And.intro @Bool.not_true <| And.intro @Bool.not_false <| And.intro @Bool.and_true <| And.intro @Bool.true_and <| And.intro @Bool.and_false <| And.intro @Bool.false_and <| And.intro @Bool.or_true <| And.intro @Bool.true_or <| And.intro @Bool.or_false <| @Bool.false_or
end Go.Emb

namespace Go.Kd
abbrev X0:=List UInt8
def Xm (c:Int):Bool:=decide (65≤c)&&decide (c≤90)
def Qb (c:Int):Bool:=decide (97≤c)&&decide (c≤122)
def F9 (c:Int):Bool:=decide (48≤c)&&decide (c≤57)
def C1 (c:Int):Bool:=Xm c||Qb c||F9 c
def name (s:X0):Bool:=match s with
 | []=>false
 | c::_=>decide (s.length≤32)&& !F9 c.toNat&&s.all (fun b=>C1 b.toNat)
def M6 (s:X0):Bool:=match s with
 | []=>false
 | c::_=>name s&&Xm c.toNat
def D9 (s:X0):Bool:=match s with
 | []=>false
 | c::_=>name s&&Qb c.toNat
def plain (s:X0):Bool:=decide (s=[105,110,116])||decide (s=[98,111,111,108])||decide (s=[116,101,120,116])
def arr (s:X0):Bool:=decide (2≤s.length)&&decide (s.drop (s.length-2)=[91,93])
def cutA (s:X0):X0:=s.take (s.length-2)
def Yk:Nat→X0→X0×Nat
 | 0,s=>(s,0)
 | n+1,s=>if arr s then ((Yk n (cutA s)).1,(Yk n (cutA s)).2+1) else (s,0)
def base (s:X0):X0×Nat:=Yk s.length s
def right (s:X0):Bool:=decide ((base s).2≤3)&&(plain (base s).1||M6 (base s).1)
def elem (s:X0):X0:=if arr s&&right s then cutA s else []
def Yc (s:X0):Nat:=if right s then (base s).2 else 0
def Xc (s:X0):X0×X0×Bool:=match s with
 | []=>([],[],false)
 | c::r=>if c=46 then ([],r,true) else ((c::(Xc r).1),(Xc r).2.1,(Xc r).2.2)
def Zq (s:X0):Bool:=(Xc s).2.2&&M6 (Xc s).1&&D9 (Xc s).2.1
def Q1M (c:UInt8) (s:X0):Int:=match s.findIdx? (fun b=>decide (b=c)) with
 | some i=>i
 | none=> -1
def Q3x (s:X0) (o:Option Nat):X0×X0×Bool:=match o with
 | some i=>(s.take i,s.drop (i+1),true)
 | none=>(s,[],false)
theorem Pq (s:X0):Xc s=Q3x s (s.findIdx? (fun b=>decide (b=46))):=by
 induction s with
 | nil=>rfl
 | cons c r a=>
  rw[List.findIdx?_cons]
  simp only[Xc]
  by_cases h:c=46
  ·simp[h,Q3x]
  ·simp only[h,if_false,decide_false,Bool.false_eq_true]
   rw[a]
   cases r.findIdx? (fun b=>decide (b=46)) with
   | none=>simp[Q3x]
   | some i=>simp[Q3x]
end Go.Kd

namespace Go.Proofs.YtjdiakhipmggjaaGreatDoor
open Go.Emb Go.RowKit Go.Kd
variable {w : World} {K : Value → World → Prop}
theorem X8:P.underlying T.c=some .string:=by kernel_rfl
theorem Q1L:P.underlying T.e=some (.int .i64):=by kernel_rfl
theorem Q2U:P.underlying T.v=some .bool:=by kernel_rfl
theorem Q3W:P.underlying T.a3=some (.int .u8):=by kernel_rfl
theorem Q7m:P.underlying T.an=some (.int .i32):=by kernel_rfl
theorem Q7a (c:Int) (h:K (.bool (Xm c)) w):Q1 P F.ck [.int .i32 c] w K:=Q6d (by
 unfold Q0v
 (try simp only[↓Mr,Mr,Mb,reduceIte])
 cases a:decide (65≤c)<;>simp only[a,↓Mr,Mr,Mb,reduceIte]<;>simpa [Xm,a] using h)
theorem Q7d (c:Int) (h:K (.bool (Qb c)) w):Q1 P F.cl [.int .i32 c] w K:=Q5Y (by
 unfold Q15
 (try simp only[↓Mr,Mr,Mb,reduceIte])
 cases a:decide (97≤c)<;>simp only[a,↓Mr,Mr,Mb,reduceIte]<;>simpa [Qb,a] using h)
theorem X2y (c:Int) (h:K (.bool (C1 c)) w):Q1 P F.cb [.int .i32 c] w K:=Q4Q (by
 unfold Tg
 refine Q7a c ?_
 cases a:Xm c
 ·(try simp only[↓Mr,Mr,Mb,reduceIte])
  refine Q7d c ?_
  cases b:Qb c
  ·(try simp only[↓Mr,Mr,Mb,reduceIte])
   cases d:decide (48≤c)
   ·(try simp only[↓Mr,Mr,Mb,reduceIte])
    simpa [C1,F9,a,b,d] using h
   ·(try simp only[↓Mr,Mr,Mb,reduceIte])
    simpa [C1,F9,a,b,d] using h
  ·(try simp only[↓Mr,Mr,Mb,reduceIte])
   simpa [C1,a,b] using h
 ·(try simp only[↓Mr,Mr,Mb,reduceIte])
  simpa [C1,a] using h)
theorem X3t (a:List UInt8) (f:Value) (p:Int→Bool) (l: ∀(c:Int) (w:World) (K:Value→World→Prop),K (.bool (p c)) w→Z3 P f [.int .i32 c] w K)
 (h: ∀w',Below w.heap.size w w'→K (.bool (Ph p ⟨a.toArray⟩ a.length 0)) w'):Q1 P F.cD [S a,f] w K:=Q8J (by
 unfold Q2W
 rw[X2i X8]
 refine Wl (fun _ w'=> ∃pos n:Nat,a.length-pos≤n∧Ph p ⟨a.toArray⟩ a.length 0=Ph p ⟨a.toArray⟩ n pos∧Below w.heap.size w w'∧w'.heap[w.heap.size]? =some (.stringIter ⟨a.toArray⟩ pos))
  (fun _ w'=>match w'.heap[w.heap.size]? with | some (.stringIter _ pos)=>a.length-pos | _=>0) ⟨0,a.length,by omega,rfl,(Below.refl _ _).alloc (Nat.le_refl _) _,heap_alloc_new w _⟩ ?_
 rintro _ _ w1 ⟨pos,n,r,b,j,g⟩
 by_cases e:pos<a.length
 ·rw[X1X g (by rw[I7];exact e)]
  (try simp only[↓Mr,Mr,Mb,reduceIte])
  refine l _ _ _ ?_
  obtain ⟨n,rfl⟩: ∃m,n=m+1:=⟨n-1,by omega⟩
  simp only[Ph,I7,e,if_true] at b
  have q:=Q5A (s:=⟨a.toArray⟩) (i:=pos)
  have d:w.heap.size<w1.heap.size:=(Array.getElem?_eq_some_iff.1 g).1
  cases k:p (Utf8.decode ⟨a.toArray⟩ pos).1
  ·(try simp only[↓Mr,Mr,Mb,reduceIte])
   rw[k] at b
   have:=h _ (Q4G (o:= .stringIter ⟨a.toArray⟩ (pos+(Utf8.decode ⟨a.toArray⟩ pos).2)) j (Nat.le_refl _))
   rw[b] at this
   exact this
  ·(try simp only[↓Mr,Mr,Mb,reduceIte])
   rw[k] at b
   refine ⟨⟨_,n,?_,b,Q4G j (Nat.le_refl _),Q7H d⟩,?_⟩
   ·omega
   ·simp only[Q7H d,g];omega
 ·rw[Q6O g (by rw[I7];exact e)]
  (try simp only[↓Mr,Mr,Mb,reduceIte])
  have:Ph p ⟨a.toArray⟩ n pos=true:=by
   cases n with
   | zero=>rfl
   | succ n=>simp only[Ph,I7,e,if_false]
  rw[←this,←b]
  exact h _ j)
theorem Q8E (c:Int) (h:128≤c):C1 c=false:=by
 simp[C1,Xm,Qb,F9];omega
theorem Q6o (a:List UInt8) (n:a.length≤140737488355328) (h: ∀w',Below w.heap.size w w'→K (.bool (name a)) w'):Q1 P F.c6 [S a] w K:=Q71 (by
 unfold Q2e
 have e: ∀c r,a=c::r→(decide (a.length≤32)&& !F9 c.toNat)=true→Q1 P F.cD [S a,(.func (.func F.cb) #[] #[])] w K:=by
  intro c r m b
  refine X3t a _ C1 (fun c w K h=>Z7 (first:=[]) (caps:=[]) (X2y c h)) fun w' l=>?_
  rw[Q84 _ Q8E a _ _ (by omega)]
  have:=h w' l
  rw[m] at this b⊢
  simp only[name] at this
  rw[b,Bool.true_and] at this
  simpa using this
 cases a with
 | nil=>
  simp only[↓Mr,Mr,Mb,reduceIte,decide_true]
  exact h w (Below.refl _ _)
 | cons c r=>
  have f:decide (c::r=[])=false:=by simp
  simp only[↓Mr,Mr,Mb,reduceIte,f,R9 X8]
  by_cases j:(c::r).length≤32
  ·have d:r.length≤31:=by simpa using j
   have b:decide ((32:Int)<((c::r).length:Int))=false:=by simp only[decide_eq_false_iff_not];omega
   simp only[↓Mr,Mr,Mb,reduceIte,b]
   rw[Xw X8 (by omega) (by simp)]
   (try simp only[↓Mr,Mr,Mb,reduceIte])
   have k:(c::r)[(0:Int).toNat]'(by simp)=c:=rfl
   simp only[k]
   cases g:decide ((48:Int)≤(c.toNat:Int))
   ·(try simp only[↓Mr,Mr,Mb,reduceIte])
    exact e c r rfl (by simp[F9,d,g])
   ·(try simp only[↓Mr,Mr,Mb,reduceIte])
    rw[Xw X8 (by omega) (by simp)]
    simp only[↓Mr,Mr,Mb,reduceIte,k]
    cases i:decide ((c.toNat:Int)≤57)
    ·(try simp only[↓Mr,Mr,Mb,reduceIte])
     exact e c r rfl (by simp only[F9,g,i];simp[d])
    ·(try simp only[↓Mr,Mr,Mb,reduceIte])
     have:name (c::r)=false:=by simp only[name,F9,g,i];simp
     rw[←this];exact h w (Below.refl _ _)
  ·have b:decide ((32:Int)<((c::r).length:Int))=true:=by simp only[decide_eq_true_eq];omega
   simp only[↓Mr,Mr,Mb,reduceIte,b]
   have:name (c::r)=false:=by simp only[name];rw[decide_eq_false j];rfl
   rw[←this];exact h w (Below.refl _ _))
theorem Rj (a:List UInt8) (e:a.length≤140737488355328) (h: ∀w',Below w.heap.size w w'→K (.bool (M6 a)) w'):Q1 P F.am [S a] w K:=Q67 (by
 unfold Q0M
 refine Q6o a e fun w1 b=>?_
 cases a with
 | nil=>
  simp only[name,↓Mr,Mr,Mb,reduceIte]
  exact h w1 b
 | cons c r=>
  cases d:name (c::r)
  ·(try simp only[↓Mr,Mr,Mb,reduceIte])
   have:=h w1 b
   simp only[M6,d] at this
   simpa using this
  ·(try simp only[↓Mr,Mr,Mb,reduceIte])
   rw[Xw X8 (by omega) (by simp)]
   have f:(c::r)[(0:Int).toNat]'(by simp)=c:=rfl
   simp only[f]
   rw[Td Q3W Q7m,w32 (by omega) (by have:=c.toNat_lt;omega)]
   refine Q7a _ ?_
   (try simp only[↓Mr,Mr,Mb,reduceIte])
   have:=h w1 b
   simp only[M6,d] at this
   simpa using this)
theorem Rk (a:List UInt8) (h:K (.bool (plain a)) w):Q1 P F.aP [S a] w K:=Q5M (by
 unfold Q13
 (try simp only[↓Mr,Mr,Mb,reduceIte])
 cases b:decide (a=[105,110,116])<;>(try simp only[↓Mr,Mr,Mb,reduceIte])
 ·cases c:decide (a=[98,111,111,108])<;>(try simp only[↓Mr,Mr,Mb,reduceIte])<;>simpa [plain,b,c] using h
 ·simpa [plain,b] using h)
def Jw (a b:List UInt8):Bool:=decide (b.length≤a.length)&&decide (a.drop (a.length-b.length)=b)
theorem Dq (a b:List UInt8) (e:a.length≤140737488355328) (f:b.length≤140737488355328) (h:K (.bool (Jw a b)) w):Q1 P F.ac [S a,S b] w K:=Cl (by
 unfold Vf
 rw[R9 X8,R9 X8]
 (try simp only[↓Mr,Mr,Mb,reduceIte])
 by_cases d:b.length≤a.length
 ·have c:decide ((b.length:Int)≤a.length)=true:=by simp only[decide_eq_true_eq];omega
  simp only[↓Mr,Mr,Mb,reduceIte,c,R9 X8]
  rw[G1 (by omega) (by omega),Ux X8 (by omega) (by omega)]
  (try simp only[↓Mr,Mr,Mb,reduceIte])
  rw[show ((a.length:Int)-b.length).toNat=a.length-b.length from by omega]
  simpa [Jw,d] using h
 ·have c:decide ((b.length:Int)≤a.length)=false:=by simp only[decide_eq_false_iff_not];omega
  simp only[↓Mr,Mr,Mb,reduceIte,c]
  simpa [Jw,d] using h)
theorem Q6P (a b:List UInt8) (c:a.length≤140737488355328) (d:b.length≤140737488355328) (h:K (.bool (Jw a b)) w):Q1 P F.bM [S a,S b] w K:=Ay (by
 unfold Oq
 exact Dq a b c d h)
def Dw (a b:List UInt8):List UInt8:=if Jw a b then a.take (a.length-b.length) else a
theorem Q47 {a b:List UInt8} (h:Jw a b=true):b.length≤a.length:=by
 simp only[Jw,Bool.and_eq_true,decide_eq_true_eq] at h;exact h.1
theorem Q6h (a b:List UInt8) (d:a.length≤140737488355328) (e:b.length≤140737488355328) (h:K (S (Dw a b)) w):Q1 P F.bv [S a,S b] w K:=Iz (by
 unfold Nz
 refine Rq ?_
 unfold Jx
 refine Dq a b d e ?_
 cases c:Jw a b
 ·(try simp only[↓Mr,Mr,Mb,reduceIte])
  simpa [Dw,c] using h
 ·have f:=Q47 c
  simp only[↓Mr,Mr,Mb,reduceIte,R9 X8]
  rw[G1 (by omega) (by omega),T3 X8 (by omega) (by omega)]
  rw[show ((a.length:Int)-b.length).toNat=a.length-b.length from by omega]
  simpa [Dw,c] using h)
theorem Q72 (a b:List UInt8) (d:a.length≤140737488355328) (e:b.length≤140737488355328) (h:K (.tuple #[S (Dw a b), .bool (Jw a b)]) w):Q1 P F.bK [S a,S b] w K:=Q04 (by
 unfold Of
 refine Ck ?_
 unfold Uz
 refine Dq a b d e ?_
 cases c:Jw a b
 ·(try simp only[↓Mr,Mr,Mb,reduceIte])
  simpa [Dw,c] using h
 ·have f:=Q47 c
  simp only[↓Mr,Mr,Mb,reduceIte,R9 X8]
  rw[G1 (by omega) (by omega),T3 X8 (by omega) (by omega)]
  rw[show ((a.length:Int)-b.length).toNat=a.length-b.length from by omega]
  (try simp only[↓Mr,Mr,Mb,reduceIte])
  simpa [Dw,c] using h)
theorem Q31 (a:List UInt8):Jw a [91,93]=arr a:=rfl
theorem Q2d (a:List UInt8):Dw a [91,93]=if arr a then Kd.cutA a else a:=rfl
theorem K7 {a:List UInt8} (h:arr a=true):(Kd.cutA a).length+2=a.length:=by
 simp only[arr,Bool.and_eq_true,decide_eq_true_eq] at h
 simp only[Kd.cutA,List.length_take];omega
theorem Q2T: ∀(n m:Nat) (a:List UInt8),a.length≤n→a.length≤m→Yk n a=Yk m a
 | 0,0,a,_,_=>rfl
 | 0,m+1,a,h,_=>by
  have:a=[]:=List.eq_nil_of_length_eq_zero (by omega)
  subst this;rfl
 | n+1,0,a,_,h=>by
  have:a=[]:=List.eq_nil_of_length_eq_zero (by omega)
  subst this;rfl
 | n+1,m+1,a,c,b=>by
  simp only[Yk]
  split
  ·rename_i h
   have:=K7 h
   rw[Q2T n m (Kd.cutA a) (by omega) (by omega)]
  ·rfl
theorem Xo (a:List UInt8):base a=if arr a then ((base (Kd.cutA a)).1,(base (Kd.cutA a)).2+1) else (a,0):=by
 unfold base
 cases b:a.length with
 | zero=>
  have:a=[]:=List.eq_nil_of_length_eq_zero b
  subst this;rfl
 | succ n=>
  simp only[Yk]
  split
  ·rename_i h
   have:=K7 h
   rw[Q2T n (Kd.cutA a).length (Kd.cutA a) (by omega) (Nat.le_refl _)]
  ·rfl
theorem Q1x (a:List UInt8):(base a).1.length+2*(base a).2=a.length:=by
 have key: ∀n (a:List UInt8),(Yk n a).1.length+2*(Yk n a).2=a.length:=by
  intro n
  induction n with
  | zero=>intro a;simp[Yk]
  | succ n b=>
   intro a
   simp only[Yk]
   split
   ·rename_i h
    have:=K7 h
    have:=b (Kd.cutA a)
    simp only;omega
   ·simp
 exact key _ a
theorem X06 (a:List UInt8) (g:a.length≤140737488355328) (h:K (.tuple #[S (base a).1,I (base a).2]) w):Q1 P F.cx [S a] w K:=Q6w (by
 unfold Q2j
 refine Wl (fun x w'=>w'=w∧ ∃(b:List UInt8) (n:Nat),x=(S b,I n)∧b.length+2*n=a.length∧base a=((base b).1,(base b).2+n)) (fun x _=>match x.1 with | .string s=>s.size | _=>0)
  ⟨rfl,a,0,rfl,by omega,rfl⟩ ?_
 rintro _ _ _ ⟨rfl,b,n,rfl,f,c⟩
 refine Q6P b _ (by omega) (by simp) ?_
 rw[Q31]
 cases d:arr b
 ·(try simp only[↓Mr,Mr,Mb,reduceIte])
  rw[Xo b,d] at c
  simp only[Bool.false_eq_true,if_false,Nat.zero_add] at c
  rw[c] at h;exact h
 ·(try simp only[↓Mr,Mr,Mb,reduceIte])
  refine Q6h b _ (by omega) (by simp) ?_
  rw[Q2d,d]
  simp only[↓Mr,Mr,Mb,reduceIte,if_true]
  have e:=K7 d
  rw[G1 (by omega) (by omega)]
  refine ⟨⟨by first | rfl | trivial,Kd.cutA b,n+1,by simp,by omega,?_⟩,?_⟩
  ·rw[c,Xo b,d];simp;omega
  ·simp only[I7];omega)
theorem Zr (a:List UInt8) (f:a.length≤140737488355328) (h: ∀w',Below w.heap.size w w'→K (.bool (right a)) w'):Q1 P F.a1 [S a] w K:=Q5Z (by
 unfold Q1f
 have e:=Q1x a
 refine X06 a f ?_
 (try simp only[↓Mr,Mr,Mb,reduceIte])
 by_cases c:(base a).2≤3
 ·have b:decide (((base a).2:Int)≤3)=true:=by simp only[decide_eq_true_eq];omega
  simp only[↓Mr,Mr,Mb,reduceIte,b]
  refine Rk _ ?_
  cases d:plain (base a).1
  ·(try simp only[↓Mr,Mr,Mb,reduceIte])
   refine Rj _ (by omega) fun w1 g=>?_
   (try simp only[↓Mr,Mr,Mb,reduceIte])
   have:=h w1 g
   simp only[right,c,d] at this
   simpa using this
  ·(try simp only[↓Mr,Mr,Mb,reduceIte])
   have:=h w (Below.refl _ _)
   simp only[right,c,d] at this
   simpa using this
 ·have b:decide (((base a).2:Int)≤3)=false:=by simp only[decide_eq_false_iff_not];omega
  simp only[↓Mr,Mr,Mb,reduceIte,b]
  have:=h w (Below.refl _ _)
  simp only[right,c] at this
  simpa using this)
theorem Q5f (a:List UInt8) (d:a.length≤140737488355328) (h: ∀w',Below w.heap.size w w'→K (S (elem a)) w'):Q1 P F.c5 [S a] w K:=Q6S (by
 unfold Q2h
 refine Q72 a _ d (by simp) ?_
 rw[Q31,Q2d]
 (try simp only[↓Mr,Mr,Mb,reduceIte])
 cases b:arr a
 ·(try simp only[↓Mr,Mr,Mb,reduceIte])
  have:=h w (Below.refl _ _)
  simp only[elem,b] at this
  exact this
 ·(try simp only[↓Mr,Mr,Mb,reduceIte])
  refine Zr a d fun w1 e=>?_
  have:=h w1 e
  cases c:right a
  ·(try simp only[↓Mr,Mr,Mb,reduceIte])
   simp only[elem,b,c] at this
   exact this
  ·simp only[↓Mr,Mr,Mb,reduceIte,if_true]
   simp only[elem,b,c] at this
   exact this)
theorem Q8U (a:List UInt8) (b:a.length≤140737488355328) (h: ∀w',Below w.heap.size w w'→K (I (Yc a)) w'):Q1 P F.cw [S a] w K:=Q73 (by
 unfold Q2q
 refine X06 a b ?_
 (try simp only[↓Mr,Mr,Mb,reduceIte])
 refine Zr a b fun w1 d=>?_
 have:=h w1 d
 cases c:right a<;>(try simp only[↓Mr,Mr,Mb,reduceIte])<;>simpa [Yc,c] using this)
theorem X4e (a:List UInt8) (i:a.length≤140737488355320) (h: ∀w',Below w.heap.size w w'→K (if right a&&decide (Yc a≠3) then .tuple #[S (a++[91,93]),I 0] else .tuple #[S [],I 30]) w'):Q1 P F.cS [S a] w K:=Q96 (by
 unfold Q48
 refine Zr a (by omega) fun w1 c=>?_
 cases b:right a
 ·(try simp only[↓Mr,Mr,Mb,reduceIte])
  have:=h w1 c
  simp only[b] at this
  simpa using this
 ·(try simp only[↓Mr,Mr,Mb,reduceIte])
  refine Q8U a (by omega) fun g d=>?_
  have:=h g (c.trans (d.mono c.size))
  by_cases f:Yc a=3
  ·have e:decide ((Yc a:Int)=3)=true:=by simp only[decide_eq_true_eq];omega
   simp only[↓Mr,Mr,Mb,reduceIte,e]
   simp only[b,f] at this
   simpa using this
  ·have e:decide ((Yc a:Int)=3)=false:=by simp only[decide_eq_false_iff_not];omega
   simp only[↓Mr,Mr,Mb,reduceIte,e]
   rw[Q2f (by simp;omega)]
   simp only[b] at this
   simpa [f] using this)
end Go.Proofs.YtjdiakhipmggjaaGreatDoor

namespace Go.Proofs.YtjdiakhipmggjaaGreatDoor
open Go.Emb Go.RowKit Go.Kd
variable {w : World} {K : Value → World → Prop}
theorem Q1R (a:List UInt8) (c:UInt8) (h:K (I (Q1M c a)) w):Q1 P F.c2 [S a, .int .u8 c.toNat] w K:=by
 refine Q6D (e:=Extern.BytealgIndexByte.indexByte) Tryz.func231 (by decide) rfl (by kernel_rfl) (by kernel_rfl) ?_ h
 have d:((List.range (ByteArray.mk a.toArray).size).find? fun i=>(ByteArray.mk a.toArray)[i]! ==c)=a.findIdx? (fun b=>decide (b=c)):=by
  rw[I7]
  refine Q3f _ _ a fun i f=>?_
  have:(ByteArray.mk a.toArray)[i]! =a[i]:=by
   rw[getElem!_pos _ _ (by rw[I7];exact f)];rfl
  rw[this,Bool.eq_iff_iff];simp
 have g:((c.toNat:Int).toNat.toUInt8)=c:=by simp
 have:=run_indexByte_string (P:=P) ⟨a.toArray⟩ c.toNat w
 rw[g] at this
 refine this.trans ?_
 unfold firstIdx Q1M
 rw[d]
 cases a.findIdx? (fun b=>decide (b=c))<;>rfl
theorem X0w (a:List UInt8) (c:UInt8) (h:K (I (Q1M c a)) w):Q1 P F.bN [S a,S [c]] w K:=Ai (by
 unfold Dg
 simp only[R9 X8]
 have j:decide ((([c]:List UInt8).length:Int)=0)=false:=rfl
 have g:decide ((([c]:List UInt8).length:Int)=1)=true:=rfl
 simp only[Q1G,j,g]
 simp only[↓Mr,Mr,Mb,reduceIte]
 have d:C4 P T.c (S [c]) (I 0) w fun e w=>Q1 P F.ay [S a,e] w fun b w=>K b w:=by
  rw[Xw X8 (by omega) (by simp)]
  refine Cu ?_
  unfold Vc
  exact Q1R a c h
 cases i:decide ([c]=a)
 ·(try simp only[↓Mr,Mr,Mb,reduceIte])
  exact d
 ·(try simp only[↓Mr,Mr,Mb,reduceIte])
  have f:[c]=a:=by simpa using i
  have:Q1M c a=0:=by rw[←f];simp[Q1M,List.findIdx?_cons]
  rw[this] at h;exact h)
theorem X0j {c:UInt8} {a:List UInt8} {i:Nat} (h:a.findIdx? (fun b=>decide (b=c))=some i):i<a.length:=by
 have:=List.findIdx?_eq_some_iff_getElem.1 h
 exact this.1
theorem X42 (a:List UInt8) (f:a.length≤140737488355328) (h: ∀w',Below w.heap.size w w'→K (.tuple #[S (Xc a).1,S (Xc a).2.1, .bool (Xc a).2.2]) w'):Q1 P F.cB [S a,S [46]] w K:=Q4T (by
 unfold Tf
 refine Q20 ?_
 unfold Hp
 refine X0w a 46 ?_
 rw[Pq] at h
 unfold Q1M
 cases c:a.findIdx? (fun b=>decide (b=46)) with
 | none=>
  simp only[↓Mr,Mr,Mb,reduceIte,show decide ((0:Int)≤ -1)=false from rfl]
  have:=h w (Below.refl _ _)
  rw[c] at this;exact this
 | some i=>
  have g:=X0j c
  have e:decide ((0:Int)≤(i:Int))=true:=by simp
  simp only[Q1m,e]
  simp only[↓Mr,Mr,Mb,reduceIte]
  refine Dp (Below.refl _ w) ?_
  refine X4 (S (a.take i)) (fun w1 _=>?_) ?_
  ·rw[T3 X8 (by omega) (by omega)];exact X6 (by simp)
  refine X4 (I 1) (fun w1 _=>?_) ?_
  ·rw[R9 X8];exact X6 rfl
  refine X4 (I (i+1)) ?_ ?_
  ·rintro _ w1 _ rfl
   rw[Fk,G1 (by omega) (by omega)];exact X6 rfl
  refine X4 (S (a.drop (i+1))) ?_ ?_
  ·rintro _ w1 _ rfl
   rw[Ux X8 (by omega) (by omega)];exact X6 (by simp)
  rintro _ _ _ _ w1 d rfl rfl rfl rfl
  (try simp only[↓Mr,Mr,Mb,reduceIte])
  have:=h w1 d
  rw[c] at this;exact this)
theorem X2j (a:List UInt8) (u:a.length≤140737488355328) (h: ∀w',Below w.heap.size w w'→K (if Zq a then .tuple #[S (Xc a).1,S (Xc a).2.1,I 0] else .tuple #[S [],S [],I 30]) w'):Q1 P F.cI [S a] w K:=Q66 (by
 unfold Q1k
 refine X42 a u fun w1 e=>?_
 have s:(Xc a).1.length≤a.length∧(Xc a).2.1.length≤a.length:=by
  rw[Pq]
  cases a.findIdx? (fun b=>decide (b=46))<;>simp[Q3x]
  omega
 generalize y:(Xc a).1=p at h s
 generalize t:(Xc a).2.1=q at h s
 have n:Zq a=((Xc a).2.2&&M6 p&&D9 q):=by rw[Zq,y,t]
 cases j:(Xc a).2.2
 ·simp only[↓Mr,Mr,Mb,reduceIte]
  have:=h w1 e
  rw[n,j] at this;simpa using this
 ·simp only[↓Mr,Mr,Mb,reduceIte]
  refine Rj p (by omega) fun v i=>?_
  have d:=e.trans (i.mono e.size)
  cases o:M6 p
  ·(try simp only[↓Mr,Mr,Mb,reduceIte])
   have:=h v d
   rw[n,j,o] at this;simpa using this
  ·(try simp only[↓Mr,Mr,Mb,reduceIte])
   refine Q6o q (by omega) fun z g=>?_
   have f:=d.trans (g.mono d.size)
   have:=h z f
   rw[n,j,o] at this
   cases k:name q
   ·(try simp only[↓Mr,Mr,Mb,reduceIte])
    have l:D9 q=false:=by cases q with | nil=>rfl | cons c r=>simp[D9,k]
    rw[l] at this;simpa using this
   ·(try simp only[↓Mr,Mr,Mb,reduceIte])
    cases q with
    | nil=>simp[name] at k
    | cons c r=>
     rw[Xw X8 (by omega) (by simp)]
     have m:(c::r)[(0:Int).toNat]'(by simp)=c:=rfl
     (try simp only[↓Mr,Mr,Mb,reduceIte])
     rw[m,Td Q3W Q7m,w32 (by omega) (by have:=c.toNat_lt;omega)]
     refine Q7d _ ?_
     have l:D9 (c::r)=Qb c.toNat:=by simp[D9,k]
     rw[l] at this
     cases A:Qb c.toNat<;>(try simp only[↓Mr,Mr,Mb,reduceIte])<;>rw[A] at this<;>simpa using this)
theorem Hb (a:List UInt8) (h:K (.bool (plain a)) w):Q1 P F.y [S a] w K:=Kn (by
 unfold Mk
 refine U6 ?_
 (try simp only[↓Mr,Mr,Mb,reduceIte])
 cases b:decide (a=[105,110,116])
 ·cases c:decide (a=[98,111,111,108])
  ·cases d:decide (a=[116,101,120,116])<;>(try simp only[↓Mr,Mr,Mb,reduceIte])<;>intro _<;>(try simp only[↓Mr,Mr,Mb,reduceIte])<;>simpa [plain,b,c,d] using h
  ·(try simp only[↓Mr,Mr,Mb,reduceIte])
   intro _
   (try simp only[↓Mr,Mr,Mb,reduceIte])
   simpa [plain,b,c] using h
 ·(try simp only[↓Mr,Mr,Mb,reduceIte])
  intro _
  (try simp only[↓Mr,Mr,Mb,reduceIte])
  simpa [plain,b] using h)
def X14 (a:List UInt8) (w:World) (x:Value) (w':World):Prop:=
 w=w'∧ ∃i:Nat,x=I i∧i≤a.length∧(0<i→(a.head?.map fun c=>F9 c.toNat)=some false)∧(a.take i).all (fun b=>C1 b.toNat)=true
def Q4Z (a:List UInt8) (x:Value):Nat:=match x with | .int _ i=>a.length-i.toNat | _=>0
theorem Q5T (a:List UInt8) (N:a.length≤140737488355328) (h:K (.bool (name a)) w):Q1 P F.b0 [S a] w K:=Q08 (by
 unfold Om
 refine Wl (X14 a w) (fun x _=>Q4Z a x) ⟨rfl,0,rfl,by omega,by omega,by simp⟩ ?_
 rintro _ _ _ ⟨rfl,i,rfl,O,L,j⟩
 rw[R9 X8]
 (try simp only[↓Mr,Mr,Mb,reduceIte])
 by_cases l:i<a.length
 ·have D:decide ((i:Int)<a.length)=true:=by simp only[decide_eq_true_eq];omega
  simp only[D,↓Mr,Mr,Mb,reduceIte]
  have d: ∀B:Value→World→Prop,C4 P T.c (S a) (I i) w B=B (.int .u8 (a[i]'l).toNat) w:=fun B=>by
   rw[Xw X8 (by omega) (by simpa using l)];simp
  generalize q:a[i]=c at d
  have e:C1 c.toNat=false∨(i=0∧F9 c.toNat=true)→name a=false:=by
   intro v
   cases a with
   | nil=>rfl
   | cons c0 r=>
    simp only[name]
    rcases v with v | ⟨rfl,v⟩
    ·have:(c0::r).all (fun b=>C1 b.toNat)=false:=by
      rw[List.all_eq_false]
      exact ⟨c,by rw[←q];exact List.getElem_mem _,by simp[v]⟩
     rw[this];simp
    ·simp only[List.getElem_cons_zero] at q
     rw[q,v];simp
  have f:C1 c.toNat=true→(i=0→F9 c.toNat=false)→X14 a w (I (IntKind.i64.wrap ((i:Int)+1))) w∧Q4Z a (I (IntKind.i64.wrap ((i:Int)+1)))<Q4Z a (I i):=by
   intro E z
   rw[G1 (by omega) (by omega)]
   refine ⟨⟨rfl,i+1,by simp,by omega,fun _=>?_,?_⟩,by simp only[Q4Z];omega⟩
   ·by_cases p:0<i
    ·exact L p
    ·obtain rfl:i=0:=by omega
     cases a with
     | nil=>simp at l
     | cons c0 r=>simp only[List.getElem_cons_zero] at q;subst q;simp[z rfl]
   ·rw[List.take_add_one,List.getElem?_eq_getElem l,q]
    simp[j,E]
  have J:=c.toNat_lt
  have y:decide ((i:Int)=0)=decide (i=0):=by rw[Bool.eq_iff_iff];simp
  by_cases o:97≤(c.toNat:Int)
  ·by_cases H:(c.toNat:Int)≤122
   ·simp only[d,decide_eq_true o,decide_eq_true H,↓Mr,Mr,Mb,reduceIte]
    exact f (by simp[C1,Qb,o,H]) (fun _=>by simp[F9];omega)
   ·have n:(65:Int)≤c.toNat:=by omega
    have s: ¬(c.toNat:Int)≤90:=by omega
    have g: ¬(c.toNat:Int)<48:=by omega
    have k:(57:Int)<c.toNat:=by omega
    simp only[d,decide_eq_true o,decide_eq_false H,decide_eq_true n,decide_eq_false s,decide_eq_false g,decide_eq_true k,y,↓Mr,Mr,Mb,reduceIte]
    have m:=e (.inl (by simp[C1,Xm,Qb,F9];omega))
    rw[m] at h
    cases decide (i=0)<;>(try simp only[d,decide_eq_false g,decide_eq_true k,↓Mr,Mr,Mb,reduceIte])<;>exact h
  ·by_cases n:(65:Int)≤c.toNat
   ·by_cases s:(c.toNat:Int)≤90
    ·simp only[d,decide_eq_false o,decide_eq_true n,decide_eq_true s,↓Mr,Mr,Mb,reduceIte]
     exact f (by simp[C1,Xm,n,s]) (fun _=>by simp[F9];omega)
    ·have g: ¬(c.toNat:Int)<48:=by omega
     have k:(57:Int)<c.toNat:=by omega
     simp only[d,decide_eq_false o,decide_eq_true n,decide_eq_false s,decide_eq_false g,decide_eq_true k,y,↓Mr,Mr,Mb,reduceIte]
     have m:=e (.inl (by simp[C1,Xm,Qb,F9];omega))
     rw[m] at h
     cases decide (i=0)<;>(try simp only[d,decide_eq_false g,decide_eq_true k,↓Mr,Mr,Mb,reduceIte])<;>exact h
   ·by_cases g:(c.toNat:Int)<48
    ·simp only[d,decide_eq_false o,decide_eq_false n,decide_eq_true g,y,↓Mr,Mr,Mb,reduceIte]
     have m:=e (.inl (by simp[C1,Xm,Qb,F9];omega))
     rw[m] at h
     cases decide (i=0)<;>(try simp only[d,decide_eq_true g,↓Mr,Mr,Mb,reduceIte])<;>exact h
    ·by_cases k:(57:Int)<c.toNat
     ·simp only[d,decide_eq_false o,decide_eq_false n,decide_eq_false g,decide_eq_true k,y,↓Mr,Mr,Mb,reduceIte]
      have m:=e (.inl (by simp[C1,Xm,Qb,F9];omega))
      rw[m] at h
      cases decide (i=0)<;>(try simp only[d,decide_eq_false g,decide_eq_true k,↓Mr,Mr,Mb,reduceIte])<;>exact h
     ·have u:F9 c.toNat=true:=by simp[F9];omega
      simp only[d,decide_eq_false o,decide_eq_false n,decide_eq_false g,decide_eq_false k,y,↓Mr,Mr,Mb,reduceIte]
      by_cases p:i=0
      ·have m:=e (.inr ⟨p,u⟩)
       rw[m] at h
       simp only[decide_eq_true p,d,decide_eq_false g,decide_eq_false k,↓Mr,Mr,Mb,reduceIte]
       exact h
      ·simp only[decide_eq_false p,d,decide_eq_false g,decide_eq_false k,↓Mr,Mr,Mb,reduceIte]
       exact f (by simp[C1,u]) (fun h=>absurd h p)
 ·have D:decide ((i:Int)<a.length)=false:=by simp only[decide_eq_false_iff_not];omega
  obtain rfl:i=a.length:=by omega
  simp only[D,↓Mr,Mr,Mb,reduceIte]
  rw[R9 X8]
  cases a with
  | nil=>
   have A:decide ((1:Int)≤(([]:List UInt8).length:Int))=false:=rfl
   simp only[A,↓Mr,Mr,Mb,reduceIte];exact h
  | cons c r=>
   have A:decide ((1:Int)≤((c::r).length:Int))=true:=by simp only[decide_eq_true_eq,List.length_cons];omega
   have t:=L (by simp)
   simp only[List.head?_cons,Option.map_some,Option.some.injEq] at t
   simp only[List.take_length] at j
   have C:name (c::r)=decide ((c::r).length≤32):=by simp only[name,t,j];simp
   have M:decide (((c::r).length:Int)≤32)=decide ((c::r).length≤32):=by rw[Bool.eq_iff_iff];simp only[decide_eq_true_eq];omega
   simp only[A,R9 X8,M,↓Mr,Mr,Mb,reduceIte]
   rw[←C];exact h)
theorem Pu {c:UInt8} {r:List UInt8} (h:name (c::r)=true):C1 c.toNat=true∧F9 c.toNat=false:=by
 simp only[name,Bool.and_eq_true,List.all_cons,Bool.not_eq_true'] at h
 exact ⟨h.2.1,h.1.2⟩
theorem Ye (a:List UInt8) (f:a.length≤140737488355328) (h:K (.bool (M6 a)) w):Q1 P F.d [S a] w K:=Px (by
 unfold Ob
 refine Q5T a f ?_
 cases a with
 | nil=>simp only[name,↓Mr,Mr,Mb,reduceIte];exact h
 | cons c r=>
  cases d:name (c::r)
  ·(try simp only[↓Mr,Mr,Mb,reduceIte])
   simpa [M6,d] using h
  ·(try simp only[↓Mr,Mr,Mb,reduceIte])
   rw[Xw X8 (by omega) (by simp)]
   have b:(c::r)[(0:Int).toNat]'(by simp)=c:=rfl
   (try simp only[↓Mr,Mr,Mb,reduceIte])
   rw[b]
   obtain ⟨g,e⟩:=Pu d
   have:decide ((c.toNat:Int)≤90)=Xm c.toNat:=by
    simp only[C1,Xm,Qb,F9,Bool.or_eq_true,Bool.and_eq_true,Bool.and_eq_false_iff,decide_eq_true_eq,decide_eq_false_iff_not] at g e⊢
    rw[Bool.eq_iff_iff];simp only[Bool.and_eq_true,decide_eq_true_eq];omega
   rw[this]
   simpa [M6,d] using h)
theorem Km (a:List UInt8) (f:a.length≤140737488355328) (h:K (.bool (D9 a)) w):Q1 P F.v [S a] w K:=Ib (by
 unfold Lh
 refine Q5T a f ?_
 cases a with
 | nil=>simp only[name,↓Mr,Mr,Mb,reduceIte];exact h
 | cons c r=>
  cases d:name (c::r)
  ·(try simp only[↓Mr,Mr,Mb,reduceIte])
   simpa [D9,d] using h
  ·(try simp only[↓Mr,Mr,Mb,reduceIte])
   rw[Xw X8 (by omega) (by simp)]
   have b:(c::r)[(0:Int).toNat]'(by simp)=c:=rfl
   (try simp only[↓Mr,Mr,Mb,reduceIte])
   rw[b]
   obtain ⟨g,e⟩:=Pu d
   have:decide ((97:Int)≤c.toNat)=Qb c.toNat:=by
    simp only[C1,Xm,Qb,F9,Bool.or_eq_true,Bool.and_eq_true,Bool.and_eq_false_iff,decide_eq_true_eq,decide_eq_false_iff_not] at g e⊢
    rw[Bool.eq_iff_iff];simp only[Bool.and_eq_true,decide_eq_true_eq];omega
   rw[this]
   simpa [D9,d] using h)
def X3B (a:List UInt8) (w:World) (x:Value×Value) (w':World):Prop:=
 w=w'∧ ∃(b:List UInt8) (n:Nat),x=(S b,I n)∧b.length+2*n=a.length∧(base a).2=(base b).2+n
def X1p (x:Value×Value):Nat:=match x.1 with | .string s=>s.size | _=>0
theorem Rt (a:List UInt8) (k:a.length≤140737488355328) (h:K (I (base a).2) w):Q1 P F.a3 [S a] w K:=Ac (by
 unfold Ov
 refine Wl (X3B a w) (fun x _=>X1p x) ⟨rfl,a,0,rfl,by omega,rfl⟩ ?_
 rintro _ _ _ ⟨rfl,b,n,rfl,j,c⟩
 rw[R9 X8]
 (try simp only[↓Mr,Mr,Mb,reduceIte])
 by_cases f:2≤b.length
 ·have e:decide ((2:Int)≤b.length)=true:=by simp only[decide_eq_true_eq];omega
  simp only[e,R9 X8,↓Mr,Mr,Mb,reduceIte]
  rw[G1 (by omega) (by omega),Ux X8 (by omega) (by omega)]
  rw[show ((b.length:Int)-2).toNat=b.length-2 from by omega]
  have i:decide (b.drop (b.length-2)=[91,93])=arr b:=by simp[arr,f]
  simp only[i,↓Mr,Mr,Mb,reduceIte]
  cases d:arr b
  ·(try simp only[↓Mr,Mr,Mb,reduceIte])
   rw[Xo b,d] at c
   simp only[Bool.false_eq_true,if_false,Nat.zero_add] at c
   rw[c] at h;exact h
  ·(try simp only[R9 X8,↓Mr,Mr,Mb,reduceIte])
   rw[T3 X8 (by omega) (by omega)]
   rw[show ((b.length:Int)-2).toNat=b.length-2 from by omega]
   have g:=K7 d
   refine ⟨⟨rfl,Kd.cutA b,n+1,?_,by omega,?_⟩,?_⟩
   ·simp only[Kd.cutA,Prod.mk.injEq,true_and]
    first | rfl | (rw[G1 (by omega) (by omega)];rfl)
   ·rw[c,Xo b,d];simp;omega
   ·simp only[X1p,I7,List.length_take];omega
 ·have e:decide ((2:Int)≤b.length)=false:=by simp only[decide_eq_false_iff_not];omega
  simp only[e,↓Mr,Mr,Mb,reduceIte]
  have d:arr b=false:=by simp[arr,f]
  rw[Xo b,d] at c
  simp only[Bool.false_eq_true,if_false,Nat.zero_add] at c
  rw[c] at h;exact h)
theorem Q4F (a:List UInt8):a.take (a.length-2*(base a).2)=(base a).1:=by
 have key: ∀n (a:List UInt8),a.take (a.length-2*(Yk n a).2)=(Yk n a).1:=by
  intro n
  induction n with
  | zero=>intro a;simp[Yk]
  | succ n b=>
   intro a
   simp only[Yk]
   split
   ·rename_i h
    have c:=K7 h
    simp only
    rw[←b (Kd.cutA a)]
    rw[Kd.cutA,List.take_take,List.length_take]
    congr 1
    omega
   ·simp
 exact key _ a
theorem Jn (a:List UInt8) (f:a.length≤140737488355328) (h:K (.bool (right a)) w):Q1 P F.e [S a] w K:=Kb (by
 unfold Nv
 have e:=Q1x a
 refine Rt a f ?_
 rw[R9 X8]
 (try simp only[↓Mr,Mr,Mb,reduceIte])
 rw[G1 (n:=2*((base a).2:Int)) (by omega) (by omega),G1 (by omega) (by omega),T3 X8 (by omega) (by omega)]
 rw[show ((a.length:Int)-2*((base a).2:Int)).toNat=a.length-2*(base a).2 from by omega,Q4F]
 (try simp only[↓Mr,Mr,Mb,reduceIte])
 by_cases c:(base a).2≤3
 ·have b:decide (((base a).2:Int)≤3)=true:=by simp only[decide_eq_true_eq];omega
  simp only[b,↓Mr,Mr,Mb,reduceIte]
  refine Hb _ ?_
  cases d:plain (base a).1
  ·(try simp only[↓Mr,Mr,Mb,reduceIte])
   refine Ye _ (by omega) ?_
   (try simp only[↓Mr,Mr,Mb,reduceIte])
   simpa [right,c,d] using h
  ·(try simp only[↓Mr,Mr,Mb,reduceIte])
   simpa [right,c,d] using h
 ·have b:decide (((base a).2:Int)≤3)=false:=by simp only[decide_eq_false_iff_not];omega
  simp only[b,↓Mr,Mr,Mb,reduceIte]
  simpa [right,c] using h)
theorem X22 {a:List UInt8} (h:arr a=true):2≤a.length:=by simp only[arr,Bool.and_eq_true,decide_eq_true_eq] at h;exact h.1
theorem Q4j {a:List UInt8} (h:arr a=true) (c:right a=true):3≤a.length:=by
 have d:=X22 h
 refine Nat.lt_of_le_of_ne d fun e=>?_
 have f:=K7 h
 have b:Kd.cutA a=[]:=List.eq_nil_of_length_eq_zero (by omega)
 simp only[right,Xo a,h,if_true,b] at c
 revert c;decide
theorem X0d (a:List UInt8) (e:a.length≤140737488355328) (h:K (S (elem a)) w):Q1 P F.bF [S a] w K:=Q05 (by
 unfold De
 rw[R9 X8]
 (try simp only[↓Mr,Mr,Mb,reduceIte])
 by_cases j:a.length<3
 ·have b:decide ((a.length:Int)<3)=true:=by simp only[decide_eq_true_eq];omega
  simp only[b,↓Mr,Mr,Mb,reduceIte]
  have f:elem a=[]:=by
   simp only[elem]
   split
   ·rename_i hh
    simp only[Bool.and_eq_true] at hh
    have:=Q4j hh.1 hh.2
    omega
   ·rfl
  rw[f] at h;exact h
 ·have b:decide ((a.length:Int)<3)=false:=by simp only[decide_eq_false_iff_not];omega
  simp only[b,↓Mr,Mr,Mb,reduceIte]
  rw[G1 (by omega) (by omega),Ux X8 (by omega) (by omega)]
  rw[show ((a.length:Int)-2).toNat=a.length-2 from by omega]
  have g:decide (a.drop (a.length-2)=[91,93])=arr a:=by simp[arr];omega
  (try simp only[↓Mr,Mr,Mb,reduceIte])
  (try simp only[g,↓Mr,Mr,Mb,reduceIte])
  cases d:arr a
  ·(try simp only[↓Mr,Mr,Mb,reduceIte])
   simpa [elem,d] using h
  ·(try simp only[↓Mr,Mr,Mb,reduceIte])
   refine Rt a e ?_
   (try simp only[↓Mr,Mr,Mb,reduceIte])
   by_cases i:(base a).2≤3
   ·have b:decide ((3:Int)<((base a).2:Int))=false:=by simp only[decide_eq_false_iff_not];omega
    simp only[b,↓Mr,Mr,Mb,reduceIte]
    refine Jn a e ?_
    cases c:right a
    ·(try simp only[↓Mr,Mr,Mb,reduceIte])
     simpa [elem,d,c] using h
    ·(try simp only[↓Mr,Mr,Mb,reduceIte])
     try rw[G1 (by omega) (by omega)]
     rw[T3 X8 (by omega) (by omega)]
     rw[show ((a.length:Int)-2).toNat=a.length-2 from by omega]
     simpa [elem,d,c,Kd.cutA] using h
   ·have b:decide ((3:Int)<((base a).2:Int))=true:=by simp only[decide_eq_true_eq];omega
    simp only[b,↓Mr,Mr,Mb,reduceIte]
    have c:right a=false:=by simp[right,i]
    simpa [elem,d,c] using h)
def X2A (a:List UInt8) (w:World) (x:Value) (w':World):Prop:=
 w=w'∧ ∃n:Nat,x=I n∧n≤a.length∧(∀i,(h:i<n)→(b:i<a.length)→a[i]≠46)
def Q9X (a:List UInt8) (x:Value):Nat:=match x with | .int _ n=>(a.length-n).toNat | _=>0
theorem Q4a (a:List UInt8) (L:a.length≤140737488355328) (h: ∀w',Below w.heap.size w w'→K (if (Xc a).2.2 then .tuple #[S (Xc a).1,S (Xc a).2.1, .bool (Zq a)] else .tuple #[S [],S [], .bool false]) w'):Q1 P F.bz [S a] w K:=Kv (by
 unfold Mu
 refine Wl (X2A a w) (fun x _=>Q9X a x) ⟨rfl,0,rfl,by omega,by omega⟩ ?_
 rintro _ _ _ ⟨rfl,n,rfl,M,p⟩
 rw[R9 X8]
 (try simp only[↓Mr,Mr,Mb,reduceIte])
 by_cases E:n<a.length
 ·have u:decide ((n:Int)<a.length)=true:=by simp only[decide_eq_true_eq];omega
  simp only[u,↓Mr,Mr,Mb,reduceIte]
  rw[Xw X8 (by omega) (by omega)]
  (try simp only[↓Mr,Mr,Mb,reduceIte])
  simp only[Int.toNat_natCast]
  have D:decide (((a[n]).toNat:Int)=46)=decide (a[n]=46):=by
   rw[Bool.eq_iff_iff];simp only[decide_eq_true_eq]
   constructor
   ·intro e;exact UInt8.toNat_inj.1 (by have:(46:UInt8).toNat=46:=rfl;omega)
   ·intro e;rw[e];rfl
  rw[D]
  by_cases m:a[n]=46
  ·simp only[m,decide_true,↓Mr,Mr,Mb,reduceIte]
   have l:Xc a=(a.take n,a.drop (n+1),true):=by
    have:a.findIdx? (fun b=>decide (b=46))=some n:=by
     rw[List.findIdx?_eq_some_iff_getElem]
     exact ⟨E,by simpa using m,fun j J=>by simpa using p j J (by omega)⟩
    rw[Pq,this];rfl
   have r:Zq a=(M6 (a.take n)&&D9 (a.drop (n+1))):=by simp[Zq,l]
   rw[l,r] at h
   have v:((n:Int)+1).toNat=n+1:=by omega
   have q:(a.take n).length≤140737488355328:=by simp only[List.length_take];omega
   have s:(a.drop (n+1)).length≤140737488355328:=by simp only[List.length_drop];omega
   have z: ∀{w:World} {K:Value→World→Prop},K (S (a.take n)) w→S1 P T.c (S a) none (some (I n)) none w K:=by
    intro w K h
    rw[T3 X8 (by omega) (by omega),show ((n:Int)).toNat=n from by omega];exact h
   have A: ∀{w:World} {K:Value→World→Prop},K (S (a.drop (n+1))) w→S1 P T.c (S a) (some (I (n+1))) none none w K:=by
    intro w K h
    rw[Ux X8 (by omega) (by omega),v];exact h
   refine Dp (Below.refl _ _) ?_
   refine X4 (S (a.take n)) (fun w c=>z (X6 rfl)) ?_
   refine X4 (I (n+1)) (fun w c=>X6 (by rw[G1 (by omega) (by omega)])) ?_
   refine X4 (S (a.drop (n+1))) (fun t w c e=>by rw[e];exact A (X6 rfl)) ?_
   refine X4 (S (a.take n)) (fun w c=>z (X6 rfl)) ?_
   refine X4 (.bool (M6 (a.take n))) (fun t w c e=>by rw[e];exact Ye _ q (X6 rfl)) ?_
   cases g:M6 (a.take n)
   ·refine X4 undef (fun t w c e=>by rw[e,E2];exact X6 rfl) ?_
    refine X4 undef (fun t w c e=>by rw[e,E2];exact X6 rfl) ?_
    refine X4 undef (fun t f w c e d=>by rw[e,E2];exact X6 rfl) ?_
    refine X4 undef (fun t f y w c e d k=>by rw[e,E2];exact X6 rfl) ?_
    refine X4 undef (fun t f w c e d=>by rw[e,E2];exact X6 rfl) ?_
    refine X4 (.bool false) (fun t f w c e d=>by rw[e,W9];exact X6 rfl) ?_
    rintro _ _ _ _ _ _ _ _ _ _ _ w1 c rfl rfl rfl rfl rfl rfl rfl rfl rfl rfl rfl
    rw[g] at h
    exact h w1 (by simpa using c)
   ·refine X4 (S a) (fun t w c e=>by rw[e,W3];exact X6 rfl) ?_
    refine X4 (I n) (fun t w c e=>by rw[e,W3];exact X6 rfl) ?_
    refine X4 (I (n+1)) (fun t f w c e d=>by rw[e,d,W3];simp only[↓Mr,Mr,Mb,reduceIte];exact X6 (by rw[G1 (by omega) (by omega)])) ?_
    refine X4 (S (a.drop (n+1))) (fun t f y w c e d k=>by rw[e,d,k,W3];exact A (X6 rfl)) ?_
    refine X4 (.bool (D9 (a.drop (n+1)))) (fun t f w c e d=>by rw[e,d,W3];exact Km _ s (X6 rfl)) ?_
    refine X4 (.bool (D9 (a.drop (n+1)))) (fun t f w c e d=>by rw[e,d,M4];exact X6 rfl) ?_
    rintro _ _ _ _ _ _ _ _ _ _ _ w1 c rfl rfl rfl rfl rfl rfl rfl rfl rfl rfl rfl
    rw[g] at h
    exact h w1 (by simpa using c)
  ·simp only[m,decide_false,↓Mr,Mr,Mb,reduceIte]
   rw[G1 (by omega) (by omega)]
   refine ⟨⟨rfl,n+1,rfl,by omega,fun i B C=>?_⟩,?_⟩
   ·by_cases o:i=n
    ·subst o;exact m
    ·exact p i (by omega) C
   ·simp only[Q9X];omega
 ·have u:decide ((n:Int)<a.length)=false:=by simp only[decide_eq_false_iff_not];omega
  simp only[u,↓Mr,Mr,Mb,reduceIte]
  have l:(Xc a).2.2=false∧(Xc a).1=a∧(Xc a).2.1=[]:=by
   have:a.findIdx? (fun b=>decide (b=46))=none:=by
    rw[List.findIdx?_eq_none_iff]
    intro x H
    obtain ⟨i,B,rfl⟩:=List.getElem_of_mem H
    simpa using p i (by omega) B
   rw[Pq,this];exact ⟨rfl,rfl,rfl⟩
  rw[l.1] at h
  exact h w (Below.refl _ _))
end Go.Proofs.YtjdiakhipmggjaaGreatDoor

namespace Go.Emb
open Go.RowKit
class TZ (P : Program) (t : TypeId) (sz b : outParam Nat) (z : outParam Value) : Prop where
  h : (P.info? t).map (fun i => (i.size, i.bytes, i.zero)) = some (sz, b, some z)
def Q9B:Option TypeDesc→Bool
 | some (.struct _)=>true
 | some (.array _ _)=>true
 | none=>true
 | _=>false
class TG (P : Program) (t : TypeId) (g : outParam Bool) : Prop where
  h : (Q9B (P.underlying t), (P.underlying t).isSome) = (g, true)
class TS (P : Program) (t : TypeId) (e : outParam TypeId) : Prop where
  h : P.underlying t = some (.slice e)
class TA (P : Program) (t : TypeId) (n : outParam Nat) (e : outParam TypeId) : Prop where
  h : P.underlying t = some (.array n e)
class TM (P : Program) (t : TypeId) (k e : outParam TypeId) : Prop where
  h : P.underlying t = some (.map k e)
def Q3F (d:Option TypeDesc) (k:Nat):Option (Nat×TypeId):=match d with
 | some (.struct a)=>(a[k]?).map fun f=>(f.offset,f.type)
 | _=>none
class TF (P : Program) (t : TypeId) (k : Nat) (off : outParam Nat) (ft : outParam TypeId) : Prop where
  h : Q3F (P.underlying t) k = some (off, ft)
variable {P : Program} {w w0 w1 w' w'' : World} {K : Value → World → Prop}
theorem TZ.info {t:TypeId} {sz b:Nat} {z:Value} (h:TZ P t sz b z): ∃i,P.info? t=some i∧i.size=sz∧i.bytes=b∧i.zero=some z:=by
 obtain ⟨i,a,e⟩:=Option.map_eq_some_iff.1 h.h
 simp only[Prod.mk.injEq] at e
 exact ⟨i,a,e.1,e.2.1,e.2.2⟩
theorem L3 {t:TypeId} {sz b:Nat} {z:Value} (h:TZ P t sz b z) (w:World):(sizeOf t).run P w= .ok sz w:=by
 obtain ⟨i,a,rfl,_⟩:=h.info
 simp[sizeOf,typeInfo,a]
theorem Zn {t:TypeId} {sz b:Nat} {z:Value} (h:TZ P t sz b z) (w:World):(zeroValue t).run P w= .ok z w:=by
 obtain ⟨i,c,_,_,a⟩:=h.info
 simp[zeroValue,typeInfo,c,a]
theorem Xn {t:TypeId} {g:Bool} (h:TG P t g) (w:World):(isAgg t).run P w= .ok g w:=by
 have hh:=h.h
 simp only[Prod.mk.injEq] at hh
 obtain ⟨c,b⟩:=hh
 cases a:P.underlying t with
 | none=>rw[a] at b;cases b
 | some d=>
  rw[a] at c
  have:=run_underlying (P:=P) (w:=w) a
  simp only[isAgg,Sem.run_bind,this,Result.andThen_ok]
  cases d<;>simp_all [Q9B]
theorem Q3L (a:Addr) (i j:Nat):(a.add i).add j=a.add (i+j):=by
 unfold Addr.add
 by_cases c:i=0
 ·simp[c]
 ·by_cases b:j=0
  ·simp[b]
  ·simp[c,b,Nat.add_assoc]
theorem add_zero (a:Addr):a.add 0=a:=by simp[Addr.add]
theorem S9 (a:Addr) (i:Nat):(a.add i).block=a.block:=by unfold Addr.add;split<;>rfl
theorem Qe (a:Addr) (i:Nat):(a.add i).off=a.off+i:=by unfold Addr.add;split<;>simp_all
theorem K1 {a:Addr} (h:a.spot=none) (i:Nat):(a.add i).spot=none:=by unfold Addr.add;split<;>simp_all
abbrev Q6:=Nat→Option Obj
def X3 (w:World) (σ:Q6):Prop:= ∀b o,σ b=some o→w.heap[b]? =some o
structure Stp (w : World) (σ : Q6) (w' : World) (σ' : Q6) : Prop where
  bel : Below w.heap.size w w'
  sat : X3 w' σ'
  le : ∀ b o, σ b = some o → σ' b = some o
  old : ∀ b, b < w.heap.size → σ' b = σ b
theorem X3.lt {σ:Q6} (h:X3 w σ) {b:Nat} {o:Obj} (a:σ b=some o):b<w.heap.size:=(Array.getElem?_eq_some_iff.1 (h b o a)).1
theorem X3.below {σ:Q6} (h:X3 w σ) (a:Below w.heap.size w w'):X3 w' σ:=fun b o e=>(a.block b (h.lt e)).trans (h b o e)
theorem Stp.refl {σ:Q6} (h:X3 w σ):Stp w σ w σ:=⟨Below.refl _ _,h,fun _ _ e=>e,fun _ _=>rfl⟩
theorem Stp.trans {σ0 σ1 a:Q6} (h:Stp w σ0 w' σ1) (k:Stp w' σ1 w'' a):Stp w σ0 w'' a:=
 ⟨h.bel.trans (k.bel.mono h.bel.size),k.sat,fun b o e=>k.le b o (h.le b o e),fun b c=>(k.old b (Nat.lt_of_lt_of_le c h.bel.size)).trans (h.old b c)⟩
theorem Stp.of_below {σ:Q6} (h:X3 w σ) (a:Below w.heap.size w w'):Stp w σ w' σ:=⟨a,h.below a,fun _ _ e=>e,fun _ _=>rfl⟩
def Q6.put (σ:Q6) (b:Nat) (o:Obj):Q6:=fun k=>if k=b then some o else σ k
theorem X3.none {σ:Q6} (h:X3 w σ) {b:Nat} (a:w.heap.size≤b):σ b=none:=by
 cases e:σ b with
 | none=>rfl
 | some o=>have:=h.lt e;omega
theorem Stp.alloc {σ:Q6} (h:X3 w σ) (o:Obj):Stp w σ (w.alloc o) (σ.put w.heap.size o):=by
 refine ⟨(Below.refl _ _).alloc (Nat.le_refl _) o,?_,?_,?_⟩
 ·intro b p e
  by_cases a:b=w.heap.size
  ·subst a
   simp only[Q6.put,if_true] at e
   cases e
   exact heap_alloc_new w o
  ·simp only[Q6.put,if_neg a] at e
   rw[Below.heap_alloc w o b (h.lt e)];exact h b p e
 ·intro b p e
  have:=h.lt e
  simp only[Q6.put];rw[if_neg (by omega)];exact e
 ·intro b a
  simp only[Q6.put];rw[if_neg (by omega)]
theorem Stp.own {σ:Q6} (h:X3 w σ) (o:Obj):Stp w σ (w.alloc o) σ:=Stp.of_below h ((Below.refl _ _).alloc (Nat.le_refl _) o)
def Z5 (σ:Q6) (a:Addr) (cs:List Value):Prop:=a.spot=none∧ ∃arr e b,σ a.block=some (.cells arr e b)∧ ∀i v,cs[i]? =some v→arr[a.off+i]? =some v
theorem Z5.up {σ σ':Q6} {a:Addr} {cs:List Value} (h:Z5 σ a cs) (c:Stp w σ w' σ'):Z5 σ' a cs:=by
 obtain ⟨d,arr,e,b,f,g⟩:=h
 exact ⟨d,arr,e,b,c.le _ _ f,g⟩
theorem Z5.cell {σ:Q6} {a:Addr} {cs:List Value} (h:Z5 σ a cs) (g:X3 w σ) {i:Nat} {v:Value} (b:cs[i]? =some v):w.cell? (a.add i)=some v:=by
 obtain ⟨c,arr,e,j,d,f⟩:=h
 have:=g _ _ d
 unfold World.cell?
 rw[S9,this,Qe,K1 c]
 exact f i v b
def Y2 (σ:Q6) (w:World) (b:Nat) (cs:List Value):Prop:=σ b=none∧ ∃e,w.heap[b]? =some (.cells cs.toArray e (0,0))
theorem Y2.lt {σ:Q6} {b:Nat} {cs:List Value} (h:Y2 σ w b cs):b<w.heap.size:=by
 obtain ⟨_,e,h⟩:=h
 exact (Array.getElem?_eq_some_iff.1 h).1
theorem Y2.up {σ σ':Q6} {b:Nat} {cs:List Value} (h:Y2 σ w b cs) (a:Stp w σ w' σ'):Y2 σ' w' b cs:=by
 have c:=h.lt
 obtain ⟨f,e,d⟩:=h
 exact ⟨(a.old b c).trans f,e,(a.bel.block b c).trans d⟩
theorem Y2.cell {σ:Q6} {b:Nat} {cs:List Value} (h:Y2 σ w b cs) {i:Nat} {v:Value} (a:cs[i]? =some v):w.cell? ((⟨b,0,none⟩:Addr).add i)=some v:=by
 obtain ⟨_,e,c⟩:=h
 unfold World.cell?
 rw[S9,Qe,K1 rfl]
 simp only[c]
 simpa using a
theorem Y2.keep {σ σ0:Q6} {b:Nat} {cs:List Value} (h:Y2 σ w b cs) (d:Stp w0 σ0 w σ) (m:w0.heap.size≤b): ∃σ',Stp w0 σ0 w σ'∧Z5 σ' ⟨b,0,none⟩ cs∧(∀k o,σ k=some o→σ' k=some o)∧(∀k,k≠b→σ' k=σ k):=by
 obtain ⟨g,e,j⟩:=h
 refine ⟨σ.put b (.cells cs.toArray e (0,0)),⟨d.bel,?_,?_,?_⟩,⟨rfl,cs.toArray,e,(0,0),by simp[Q6.put],?_⟩,?_,?_⟩
 ·intro k o c
  by_cases a:k=b
  ·subst a;simp only[Q6.put,if_true] at c;cases c;exact j
  ·simp only[Q6.put,if_neg a] at c;exact d.sat k o c
 ·intro k o c
  by_cases a:k=b
  ·subst a;have:=d.le _ _ c;rw[g] at this;cases this
  ·simp only[Q6.put,if_neg a];exact d.le _ _ c
 ·intro k f
  simp only[Q6.put];rw[if_neg (by omega)];exact d.old k f
 ·intro i v l;simpa using l
 ·intro k o c
  by_cases a:k=b
  ·subst a;rw[g] at c;cases c
  ·simp only[Q6.put,if_neg a];exact c
 ·intro k a;simp only[Q6.put,if_neg a]
theorem Q7J (t:TypeId) (v:Value) (w:World):(Instr.box t v).run P w= .ok (.pointer (some ⟨w.heap.size,0,none⟩)) (w.alloc (.cells v.cells t)):=by
 simp[Instr.box,newVar,newRow]
theorem Q2O {σ:Q6} (a:X3 w σ) (cs:Array Value) (t:TypeId):Y2 σ (w.alloc (.cells cs t)) w.heap.size cs.toList:=
 ⟨a.none (Nat.le_refl _),t,by simpa using heap_alloc_new w (.cells cs t)⟩
theorem Q8M {σ:Q6} (cs:Array Value) (t:TypeId):Z5 (σ.put w.heap.size (.cells cs t)) ⟨w.heap.size,0,none⟩ cs.toList:=
 ⟨rfl,cs,t,(0,0),by simp[Q6.put],fun i v h=>by simpa using h⟩
theorem E7 {σ:Q6} {t:TypeId} {v:Value} (b:X3 w σ) (h: ∀a w' σ',Stp w σ w' σ'→Z5 σ' a v.cells.toList→K (.pointer (some a)) w'):box P t v w K:=by
 unfold box;rw[X9 (Q7J t v w)]
 exact h _ _ _ (Stp.alloc b _) (Q8M _ t)
theorem Q5w {σ:Q6} {t:TypeId} {v:Value} (a:X3 w σ) (h: ∀b w',w.heap.size≤b→Stp w σ w' σ→Y2 σ w' b v.cells.toList→K (.pointer (some ⟨b,0,none⟩)) w'):box P t v w K:=by
 unfold box;rw[X9 (Q7J t v w)]
 exact h _ _ (Nat.le_refl _) (Stp.own a _) (Q2O a _ t)
theorem Iy {σ:Q6} {t:TypeId} {sz a:Nat} {z:Value} [tz:TZ P t sz a z] (c:X3 w σ) (h: ∀b w',w.heap.size≤b→Stp w σ w' σ→Y2 σ w' b z.cells.toList→K (.pointer (some ⟨b,0,none⟩)) w'):W0 P t w K:=by
 unfold W0
 have:(Instr.alloc t true (.tuple #[])).run P w= .ok (.pointer (some ⟨w.heap.size,0,none⟩)) (w.alloc (.cells z.cells t)):=by
  simp[Instr.alloc,Zn tz,newVar,newRow]
 rw[X9 this]
 exact h _ _ (Nat.le_refl _) (Stp.own c _) (Q2O c _ t)
theorem Qf {t:TypeId} [tg:TG P t false] {a:Addr} {v:Value} (b:w.cell? a=some v) (h:K v w):Q2 P t (.pointer (some a)) w K:=by
 unfold Q2
 rw[X9 (v:=v) (w':=w) (by simp[Instr.loadAt,Instr.sureAddr,loadVar,Xn tg,b])]
 exact h
theorem Pv {t:TypeId} {sz b:Nat} {z:Value} [tg:TG P t true] [tz:TZ P t sz b z] {a:Addr} {cs:List Value} (d:cs.length=sz) (c: ∀j v,cs[j]? =some v→w.cell? (a.add j)=some v) (h:K (.agg cs.toArray) w):Q2 P t (.pointer (some a)) w K:=by
 unfold Q2
 have:=run_loadCells_list (P:=P) w a cs c
 rw[d] at this
 rw[X9 (v:= .agg cs.toArray) (w':=w) (by simp[Instr.loadAt,Instr.sureAddr,loadVar,Xn tg,L3 tz,this])]
 exact h
theorem ld {σ:Q6} {t:TypeId} [TG P t false] {a:Addr} {cs:List Value} {i:Nat} {v:Value} (d:X3 w σ) (c:Z5 σ a cs) (b:cs[i]? =some v) (h:K v w):Q2 P t (.pointer (some (a.add i))) w K:=
 Qf (c.cell d b) h
theorem X7 {σ:Q6} {t:TypeId} [TG P t false] {a:Addr} {cs:List Value} {v:Value} (d:X3 w σ) (c:Z5 σ a cs) (b:cs[0]? =some v) (h:K v w):Q2 P t (.pointer (some a)) w K:=by
 have:=ld (P:=P) (t:=t) d c b h
 rwa [add_zero] at this
theorem Y4 {σ:Q6} {t:TypeId} {sz b:Nat} {z:Value} [TG P t true] [TZ P t sz b z] {a:Addr} {cs:List Value} (g:X3 w σ) (f:Z5 σ a cs) (d:cs.length=sz) (h:K (.agg cs.toArray) w):Q2 P t (.pointer (some a)) w K:=
 Pv d (fun _ _ c=>f.cell g c) h
theorem Yg {σ:Q6} {t:TypeId} [TG P t false] {b:Nat} {cs:List Value} {i:Nat} {v:Value} (c:Y2 σ w b cs) (a:cs[i]? =some v) (h:K v w):Q2 P t (.pointer (some ((⟨b,0,none⟩:Addr).add i))) w K:=
 Qf (c.cell a) h
theorem Q8w {σ:Q6} {t:TypeId} [TG P t false] {b:Nat} {cs:List Value} {v:Value} (c:Y2 σ w b cs) (a:cs[0]? =some v) (h:K v w):Q2 P t (.pointer (some ⟨b,0,none⟩)) w K:=by
 have:=Yg (P:=P) (t:=t) c a h
 rwa [add_zero] at this
theorem Cb {σ:Q6} {t:TypeId} {sz a:Nat} {z:Value} [TG P t true] [TZ P t sz a z] {b:Nat} {cs:List Value} (d:Y2 σ w b cs) (f:cs.length=sz) (h:K (.agg cs.toArray) w):Q2 P t (.pointer (some ⟨b,0,none⟩)) w K:=
 Pv f (fun _ _ c=>d.cell c) h
theorem V1 {t:TypeId} {sz a:Nat} {z:Value} [tg:TG P t true] [tz:TZ P t sz a z] {σ:Q6} {b:Nat} {cs:List Value} {K:Value→Prop} (d:Y2 σ w b cs) (f:cs.length=sz) (h:K (.agg cs.toArray)):Y7 P t (.pointer (some ⟨b,0,none⟩)) w K:=by
 rw[Q37]
 refine ⟨_,?_,h⟩
 have:=run_loadCells_list (P:=P) w ⟨b,0,none⟩ cs (fun _ _ c=>d.cell c)
 rw[f] at this
 simp[asAddr,loadVar,Xn tg,L3 tz,this]
structure Upd (w : World) (b : Nat) (w' : World) : Prop where
  os : w'.os = w.os
  tape : w'.tape = w.tape
  output : w'.output = w.output
  size : w'.heap.size = w.heap.size
  block : ∀ k, k ≠ b → w'.heap[k]? = w.heap[k]?
theorem Upd.stp {σ0 σ:Q6} {b:Nat} (c:Upd w b w') (a:Stp w0 σ0 w σ) (h:w0.heap.size≤b) (g:σ b=none):Stp w0 σ0 w' σ:=by
 refine ⟨⟨c.os.trans a.bel.os,c.tape.trans a.bel.tape,c.output.trans a.bel.output,by rw[c.size];exact a.bel.size,fun k f=>(c.block k (by omega)).trans (a.bel.block k f)⟩,?_,a.le,a.old⟩
 intro k o d
 rw[c.block k (by intro e;subst e;rw[g] at d;cases d)]
 exact a.sat k o d
theorem Y2.upd {σ:Q6} {b k:Nat} {cs:List Value} (h:Y2 σ w k cs) (d:Upd w b w') (a:k≠b):Y2 σ w' k cs:=by
 obtain ⟨f,e,c⟩:=h
 exact ⟨f,e,(d.block k a).trans c⟩
theorem Uv {b:Nat} {cs:Array Value} {a:Array Value} {e:TypeId} (h:w.heap[b]? =some (.cells a e (0,0))):Upd w b (w.setRow b cs)∧(w.setRow b cs).heap[b]? =some (.cells cs e (0,0)):=by
 have d:=(Array.getElem?_eq_some_iff.1 h).1
 refine ⟨⟨rfl,rfl,rfl,by simp[World.setRow],fun k c=>?_⟩,?_⟩
 ·simp only[World.setRow,Array.getElem?_modify]
  rw[if_neg (by omega)]
 ·simp only[World.setRow,Array.getElem?_modify,if_true,h]
  rfl
theorem Nt {t:TypeId} {sz c:Nat} {z:Value} [tz:TZ P t sz c z] {σ:Q6} {b:Nat} {cs ds:List Value} (m:Y2 σ w b cs) (j:cs.length=sz) (f:ds.length=sz) (l:ds.toArray.all (·.oneCell')=true)
 (h: ∀w',Upd w b w'→Y2 σ w' b ds→K undef w'):Y1 P t (.pointer (some ⟨b,0,none⟩)) (.agg ds.toArray) w K:=by
 obtain ⟨k,e,d⟩:=m
 unfold Y1
 obtain ⟨i,n,a,_⟩:=tz.info
 have:=run_storeVar_row (P:=P) w b e t cs.toArray ds.toArray d (by simp[n,a,f]) (by simp[j,f]) l
 rw[Lc (w':=w.setRow b ds.toArray) (by simpa [Instr.storeAt,Instr.sureAddr] using this)]
 obtain ⟨g,hh⟩:=Uv (cs:=ds.toArray) d
 exact h _ g ⟨k,e,hh⟩
theorem Q7K {cs:List Value} {i:Nat} {v:Value} (a:i<cs.length):(cs.take i++[v]++cs.drop (i+1))=cs.set i v:=by
 rw[List.set_eq_take_append_cons_drop,if_pos a];simp
theorem Jv {t:TypeId} {c:Nat} {z:Value} [tz:TZ P t 1 c z] {σ:Q6} {b i:Nat} {cs:List Value} {v:Value} (m:Y2 σ w b cs) (n:i<cs.length) (j:v.cells= #[v]) (l:v.oneCell'=true)
 (h: ∀w',Upd w b w'→Y2 σ w' b (cs.set i v)→K undef w'):Y1 P t (.pointer (some ((⟨b,0,none⟩:Addr).add i))) v w K:=by
 obtain ⟨k,e,d⟩:=m
 unfold Y1
 have a:(⟨b,0,none⟩:Addr).add i=⟨b,i,none⟩:=by unfold Addr.add;split<;>simp_all
 have:=run_storeCells_at P b i e [v] 0 cs.toArray w d (by simp;omega) (by simpa using l)
 simp only[Nat.add_zero] at this
 obtain ⟨f,hh⟩:=Uv (cs:=(cs.set i v).toArray) d
 have g:(List.take i cs.toArray.toList++[v]++List.drop (i+[v].length) cs.toArray.toList).toArray=(cs.set i v).toArray:=by
  rw[←Q7K n];simp
 rw[g] at this
 rw[Lc (w':=w.setRow b (cs.set i v).toArray) (by simp[Instr.storeAt,Instr.sureAddr,a,storeVar,L3 tz,j,this])]
 exact h _ f ⟨k,e,hh⟩
theorem st0 {t:TypeId} {a:Nat} {z:Value} [tz:TZ P t 1 a z] {σ:Q6} {b:Nat} {cs:List Value} {v:Value} (c:Y2 σ w b cs) (d:0<cs.length) (f:v.cells= #[v]) (g:v.oneCell'=true)
 (h: ∀w',Upd w b w'→Y2 σ w' b (cs.set 0 v)→K undef w'):Y1 P t (.pointer (some ⟨b,0,none⟩)) v w K:=by
 have:=Jv (P:=P) (t:=t) c d f g h
 rwa [add_zero] at this
class NZ (n : Nat) : Prop where
  h : (n == 0) = false
instance (n:Nat):NZ (n+1):=⟨rfl⟩
theorem fa {t:TypeId} {k b:Nat} {g:TypeId} {sz c:Nat} {z:Value} [tf:TF P t k b g] [tz:TZ P g sz c z] [nz:NZ sz] {a:Addr}:fieldAddr P t (.pointer (some a)) k w K=K (.pointer (some (a.add b))) w:=by
 unfold fieldAddr
 have hh:=tf.h
 unfold Q3F at hh
 split at hh
 ·rename_i o m
  obtain ⟨f,i,d⟩:=Option.map_eq_some_iff.1 hh
  simp only[Prod.mk.injEq] at d
  obtain ⟨n,l⟩:=d
  subst l n
  have j: ¬sz=0:=by simpa using nz.h
  exact X9 (by simp[Instr.fieldAt,run_underlying m,i,Instr.sureAddr,fieldPlace,L3 tz,j])
 ·cases hh
theorem Ss {t e:TypeId} {sz b:Nat} {z:Value} [ts:TS P t e] [tz:TZ P e sz b z] {a:Addr} {n c:Nat} {k:IntKind} {i:Int} (d:0≤i) (f:i<n):indexAddr P t (.slice (some a) n c) (.int k i) w K=K (.pointer (some (a.add (i.toNat*sz)))) w:=by
 unfold indexAddr
 exact X9 (by simp[Instr.indexAt,run_underlying ts.h,asIntOf,L3 tz,d,f])
theorem Q9A {t e:TypeId} {n sz b:Nat} {z:Value} [ta:TA P t n e] [tz:TZ P e sz b z] {a:Addr} {k:IntKind} {i:Int} (c:0≤i) (d:i<n):indexAddr P t (.pointer (some a)) (.int k i) w K=K (.pointer (some (a.add (i.toNat*sz)))) w:=by
 unfold indexAddr
 exact X9 (by simp[Instr.indexAt,run_underlying ta.h,asIntOf,Instr.sureAddr,L3 tz,c,d])
theorem L8 {a:Addr}:nilCheck P (.pointer (some a)) w K=K (.pointer (some a)) w:=by
 unfold nilCheck
 rw[T7];unfold P8
 simp[execOp]
class Rep {α : Type} (R : Q6 → α → List Value → Prop) : Prop where
  up : ∀ {σ σ' : Q6} {x : α} {cs : List Value}, (∀ b o, σ b = some o → σ' b = some o) → R σ x cs → R σ' x cs
  one : ∀ {σ : Q6} {x : α} {cs : List Value}, R σ x cs → ∀ u ∈ cs, u.oneCell' = true
def Sl {α:Type} (sz:Nat) (R:Q6→α→List Value→Prop) (σ:Q6) (v:Value) (xs:List α):Prop:=
 ∃a c,v= .slice a xs.length c∧xs.length≤c∧c≤maxLen∧(a=none→c=0)∧
  ∀b,a=some b→(0<xs.length→b.spot=none)∧ ∀i x,xs[i]? =some x→ ∃cs,Z5 σ (b.add (i*sz)) cs∧cs.length=sz∧R σ x cs
theorem Z5.le {σ σ':Q6} {a:Addr} {cs:List Value} (h:Z5 σ a cs) (d: ∀b o,σ b=some o→σ' b=some o):Z5 σ' a cs:=by
 obtain ⟨f,arr,e,c,g,i⟩:=h
 exact ⟨f,arr,e,c,d _ _ g,i⟩
section
variable {α : Type} {R : Q6 → α → List Value → Prop} {sz : Nat} {σ σ' : Q6} {v : Value} {xs : List α}
theorem Sl.le [hr:Rep R] (h:Sl sz R σ v xs) (g: ∀b o,σ b=some o→σ' b=some o):Sl sz R σ' v xs:=by
 obtain ⟨a,c,q,n,k,l,f⟩:=h
 refine ⟨a,c,q,n,k,l,fun b d=>⟨(f b d).1,fun i x p=>?_⟩⟩
 obtain ⟨cs,j,m,r⟩:=(f b d).2 i x p
 exact ⟨cs,j.le g,m,hr.up g r⟩
theorem Sl.up [Rep R] (h:Sl sz R σ v xs) (a:Stp w σ w' σ'):Sl sz R σ' v xs:=h.le a.le
theorem Sl.max (h:Sl sz R σ v xs):xs.length≤9223372036854775807:=by
 obtain ⟨a,b,f,g,c,d⟩:=h
 simp only[maxLen] at c;omega
theorem Sl.nil:Sl sz R σ (.slice none 0 0) ([]:List α):=⟨none,0,rfl,by simp,by simp,fun _=>rfl,fun b a=>by cases a⟩
theorem Q1p {c e t:TypeId} {cs:List Bool} [ts:TS P c e] {a:Option Addr} {n b:Nat}:X2 P .len [c] t cs [.slice a n b] w K=K (I n) w:=by
 have h:(Builtin.len_ #[c] t #[.slice a n b]).run P w= .ok (I n) w:=by
  simp[Builtin.len_,run_underlying ts.h,goInt]
 exact X9 h
theorem X3o {b e t:TypeId} {cs:List Bool} [ts:TS P b e] (h:Sl sz R σ v xs):X2 P .len [b] t cs [v] w K=K (I xs.length) w:=by
 obtain ⟨a,c,rfl,_⟩:=h
 exact Q1p
theorem X3P {t e:TypeId} {c:Nat} {z:Value} [TS P t e] [TZ P e sz c z] (h:Sl sz R σ v xs) {k:IntKind} {i:Int} (d:0≤i) (o:i.toNat<xs.length)
 (n: ∀a cs,Z5 σ a cs→cs.length=sz→R σ xs[i.toNat] cs→K (.pointer (some a)) w):indexAddr P t v (.int k i) w K:=by
 obtain ⟨a,g,rfl,r,q,j,m⟩:=h
 cases a with
 | none=>have:=j rfl;omega
 | some b=>
  rw[Ss d (by omega)]
  obtain ⟨cs,f,l,p⟩:=(m b rfl).2 i.toNat xs[i.toNat] (by simp[o])
  exact n _ cs f l p
end
theorem Stp.turn {σ0 σ:Q6} {row:Option Nat} (b:w.grownBy w' row) (a:Stp w0 σ0 w σ) (d: ∀k,row=some k→w0.heap.size≤k∧σ k=none):Stp w0 σ0 w' σ:=by
 refine ⟨⟨b.os.trans a.bel.os,b.tape.trans a.bel.tape,b.output.trans a.bel.output,Nat.le_trans a.bel.size b.size,fun k f=>?_⟩,?_,a.le,a.old⟩
 ·refine (b.block k (Nat.lt_of_lt_of_le f a.bel.size) ?_).trans (a.bel.block k f)
  intro e;have:=(d k e.symm).1;omega
 ·intro k o c
  refine (b.block k (a.sat.lt c) ?_).trans (a.sat k o c)
  intro e;rw[(d k e.symm).2] at c;cases c
theorem Y2.turn {σ:Q6} {row:Option Nat} {k:Nat} {cs:List Value} (h:Y2 σ w k cs) (f:w.grownBy w' row) (a:some k≠row):Y2 σ w' k cs:=by
 have b:=h.lt
 obtain ⟨d,e,c⟩:=h
 exact ⟨d,e,(f.block k b a).trans c⟩
def V6 {α:Type} (B:Nat) (e:TypeId) (sz:Nat) (R:Q6→α→List Value→Prop) (σ:Q6) (w:World) (v:Value) (xs:List α):Prop:=
 ∃cells,w.ownsRow B e sz v xs.length cells∧(∀k,v.ownBlock=some k→σ k=none)∧ ∀i x,xs[i]? =some x→R σ x ((cells.drop (i*sz)).take sz)
section
variable {α : Type} {R : Q6 → α → List Value → Prop} {B sz : Nat} {e : TypeId} {σ σ' : Q6} {v u : Value} {xs ys : List α}
theorem V6.nil:V6 B e sz R σ w (.slice none 0 0) ([]:List α):=⟨[],World.ownsRow_nil w B e sz,by intro k a;simp[Value.ownBlock] at a,by intro i x h;simp at h⟩
theorem V6.mem (h:V6 B e sz R σ w v xs): ∀k,v.ownBlock=some k→B≤k∧k<w.heap.size∧σ k=none:=by
 obtain ⟨cells,f,d,_⟩:=h
 intro k c
 obtain ⟨a,b⟩:=f.lt k c
 exact ⟨a,b,d k c⟩
theorem V6.up [hr:Rep R] (h:V6 B e sz R σ w v xs) (a:Stp w σ w' σ'):V6 B e sz R σ' w' v xs:=by
 obtain ⟨cells,c,f,j⟩:=h
 refine ⟨cells,c.kept ⟨a.bel.os,a.bel.tape,a.bel.output,a.bel.size,fun k d _=>a.bel.block k d⟩ (by cases b:v.ownBlock<;>simp) (row:=none),?_,fun i x g=>hr.up a.le (j i x g)⟩
 intro k b
 rw[a.old k (c.lt k b).2];exact f k b
theorem Sl.cells (h:Sl sz R σ v xs) (E:X3 w σ) [hr:Rep R]: ∃(a:Option Addr) (d:Nat) (c:List Value),v= .slice a xs.length d∧(a=none→d=0)∧c.length=xs.length*sz∧(∀b,a=some b→ ∀j u,c[j]? =some u→w.cell? (b.add j)=some u)∧(∀u∈c,u.oneCell'=true)∧
 ∀i x,xs[i]? =some x→R σ x ((c.drop (i*sz)).take sz):=by
 obtain ⟨a,d,rfl,O,N,l,t⟩:=h
 cases a with
 | none=>
  have M:=l rfl
  have f:xs=[]:=List.eq_nil_of_length_eq_zero (by omega)
  subst f
  exact ⟨none,d,[],rfl,l,by simp,fun b C=>(by cases C),by simp,by simp⟩
 | some b=>
  obtain ⟨H,p⟩:=t b rfl
  clear t
  have key: ∀(ys:List α) (k:Nat),(∀i x,ys[i]? =some x→ ∃cs,Z5 σ (b.add ((k+i)*sz)) cs∧cs.length=sz∧R σ x cs)→
   ∃c:List Value,c.length=ys.length*sz∧(∀j u,c[j]? =some u→w.cell? (b.add (k*sz+j))=some u)∧(∀u∈c,u.oneCell'=true)∧ ∀i x,ys[i]? =some x→R σ x ((c.drop (i*sz)).take sz):=by
   intro ys
   induction ys with
   | nil=>intro k _;exact ⟨[],by simp,by simp,by simp,by simp⟩
   | cons y r D=>
    intro k A
    obtain ⟨cs,J,s,z⟩:=A 0 y rfl
    obtain ⟨c,q,o,m,n⟩:=D (k+1) (fun i x f=>by
     have:=A (i+1) x (by simpa using f)
     rwa [show k+1+i=k+(i+1) by omega])
    refine ⟨cs++c,by simp[q,s,Nat.add_mul,Nat.add_comm],?_,?_,?_⟩
    ·intro j u hu
     by_cases Q:j<sz
     ·rw[List.getElem?_append_left (by omega)] at hu
      have:=J.cell E hu
      rwa [Q3L,Nat.add_zero] at this
     ·rw[List.getElem?_append_right (by omega)] at hu
      have:=o _ _ hu
      rwa [s,show (k+1)*sz+(j-sz)=k*sz+j by rw[Nat.add_mul];omega] at this
    ·intro u hu
     rcases List.mem_append.1 hu with hu | hu
     ·exact hr.one z u hu
     ·exact m u hu
    ·intro i x f
     cases i with
     | zero=>
      simp at f;subst f
      simp only[Nat.zero_mul,List.drop_zero]
      rw[List.take_append_of_le_length (by omega),List.take_of_length_le (by omega)];exact z
     | succ i=>
      have:=n i x (by simpa using f)
      rw[show (i+1)*sz=cs.length+i*sz by rw[Nat.add_mul];omega,List.drop_append]
      simpa [List.drop_eq_nil_of_le] using this
  obtain ⟨c,q,o,m,n⟩:=key xs 0 (fun i x f=>by rw[Nat.zero_add];exact p i x f)
  refine ⟨some b,d,c,rfl,l,q,?_,m,n⟩
  intro L g j u hu
  cases g
  have:=o j u hu
  rwa [Nat.zero_mul,Nat.zero_add] at this
end
section
variable {α : Type} {R : Q6 → α → List Value → Prop} {sz : Nat} {e : TypeId} {σ σ0 : Q6} {v u : Value} {xs ys : List α}
theorem Wv (cells a:List Value) (n i:Nat) (c:cells.length=n*sz) (b:i<n):((cells++a).drop (i*sz)).take sz=(cells.drop (i*sz)).take sz:=by
 have h:i*sz+sz≤n*sz:=by rw[←Nat.succ_mul];exact Nat.mul_le_mul_right _ b
 rw[List.drop_append_of_le_length (by omega),List.take_append_of_le_length (by simp only[List.length_drop];omega)]
theorem app {t A:TypeId} {r:Nat} {z:Value} {cs:List Bool} [ts:TS P t e] [tz:TZ P e sz r z] [hr:Rep R] (D:Stp w0 σ0 w σ) (ha:V6 w0.heap.size e sz R σ w v xs) (O:Sl sz R σ u ys) (L:(z.cells.size==sz&&decide (0<sz))=true)
 (hb:(xs.length+ys.length)*r≤140737488355328) (hm:xs.length+ys.length≤9223372036854775807)
 (h: ∀d w',w.grownBy w' v.ownBlock→Stp w0 σ0 w' σ→V6 w0.heap.size e sz R σ w' d (xs++ys)→(d.ownBlock=v.ownBlock∨ ∀k,d.ownBlock=some k→w.heap.size≤k)→K d w'):X2 P .append [t,t] A cs [v,u] w K:=by
 obtain ⟨cells,s,Q,h3⟩:=ha
 obtain ⟨a,l,c,rfl,X,U,n3,n4,n5⟩:=O.cells D.sat
 obtain ⟨i,N,H,E,q⟩:=tz.info
 have o: ∀d w',(Builtin.append_ #[t,t] A #[v, .slice a ys.length l]).run P w= .ok d w'→w'.ownsRow w0.heap.size e sz d (xs.length+ys.length) (cells++c)→w.grownBy w' v.ownBlock→(d.ownBlock=v.ownBlock∨d.ownBlock=some w.heap.size)→X2 P .append [t,t] A cs [v, .slice a ys.length l] w K:=by
  intro d w' y f m hat
  have p:(builtin .append #[t,t] A cs.toArray #[v, .slice a ys.length l]).run P w= .ok (.value d) w':=by
   simp[builtin,y]
  unfold X2
  rw[T7];unfold P8
  rw[p]
  refine h d w' m (Stp.turn m D fun k n=>⟨(s.lt k n).1,Q k n⟩) ⟨cells++c,by rw[List.length_append];exact f,?_,?_⟩ ?_
  ·intro k n
   rcases hat with hat | hat
   ·exact Q k (hat▸n)
   ·rw[hat] at n;cases n;exact D.sat.none (Nat.le_refl _)
  ·intro j x C
   by_cases W:j<xs.length
   ·rw[List.getElem?_append_left W] at C
    rw[Wv cells c xs.length j s.1 W]
    exact h3 j x C
   ·rw[List.getElem?_append_right (by omega)] at C
    have:=n5 _ _ C
    rw[show j*sz=cells.length+(j-xs.length)*sz by rw[s.1,←Nat.add_mul];congr 1;omega,List.drop_append]
    simpa [List.drop_eq_nil_of_le] using this
  ·rcases hat with hat | hat
   ·exact .inl hat
   ·right;intro k n;rw[hat] at n;cases n;exact Nat.le_refl _
 simp only[Bool.and_eq_true,beq_iff_eq,decide_eq_true_eq] at L
 cases a with
 | some b=>
  obtain ⟨d,w',g1,g2,g3,_,g5⟩:=run_append_own_at (P:=P) w w0.heap.size t A e i z sz r ts.h N q H E L.1 L.2 v xs.length cells s b ys.length l c U (n3 b rfl) n4 (by simp only[maxLen];omega) hb D.bel.size
  exact o d w' g1 g2 g3 g5
 | none=>
  have hy:ys=[]:=List.eq_nil_of_length_eq_zero (by obtain ⟨a',V,e',q1,_,q3,_⟩:=O;injection e' with _ e2 e3;have:=X rfl;subst e3;omega)
  have M:=X rfl
  subst hy M
  have hn:c=[]:=List.eq_nil_of_length_eq_zero (by simpa using U)
  subst hn
  have f:=s
  rcases s.2 with ⟨rfl,h0⟩ | ⟨g,l,Z,rfl,Y,hg,J,_⟩
  ·refine o (.slice none 0 0) w ?_ (by simpa using f) (World.grownBy.refl w _) (.inl rfl)
   simp[Builtin.append_,run_underlying ts.h,sizeOf,typeInfo,N,Builtin.lenOf,Builtin.firstCells]
  ·refine o _ w ?_ (by simpa using f) (World.grownBy.refl w _) (.inl rfl)
   simp[Builtin.append_,run_underlying ts.h,sizeOf,typeInfo,N,Builtin.lenOf,Builtin.firstCells,J,storeCells]
end
section
variable {α : Type} {R : Q6 → α → List Value → Prop} {sz : Nat} {e : TypeId} {σ σ0 : Q6} {v u : Value} {xs ys : List α}
theorem Q6.put_le {w:World} (d:X3 w σ) {b:Nat} (h:σ b=none) (o:Obj): ∀k p,σ k=some p→(σ.put b o) k=some p:=by
 intro k p c
 by_cases a:k=b
 ·subst a;rw[h] at c;cases c
 ·simp only[Q6.put,if_neg a];exact c
theorem Stp.put {b:Nat} {o:Obj} (c:Stp w0 σ0 w σ) (g:σ b=none) (h:w0.heap.size≤b) (f:w.heap[b]? =some o):Stp w0 σ0 w (σ.put b o):=by
 refine ⟨c.bel,?_,fun k p a=>Q6.put_le c.sat g o k p (c.le k p a),?_⟩
 ·intro k p a
  by_cases d:k=b
  ·subst d;simp only[Q6.put,if_true] at a;cases a;exact f
  ·simp only[Q6.put,if_neg d] at a;exact c.sat k p a
 ·intro k a
  simp only[Q6.put];rw[if_neg (by omega)];exact c.old k a
theorem V6.keep [hr:Rep R] (h:V6 w0.heap.size e sz R σ w v xs) (p:Stp w0 σ0 w σ): ∃σ',Stp w0 σ0 w σ'∧Sl sz R σ' v xs∧(∀k o,σ k=some o→σ' k=some o)∧(∀k,some k≠v.ownBlock→σ' k=σ k):=by
 obtain ⟨cells,t,D,C⟩:=h
 rcases t.2 with ⟨rfl,z⟩ | ⟨g,l,c,rfl,A,H,m,f,y,q⟩
 ·have:xs=[]:=List.eq_nil_of_length_eq_zero z
  subst this
  exact ⟨σ,p,Sl.nil,fun _ _ h=>h,fun _ _=>rfl⟩
 ·have s:=D g rfl
  have a:=Q6.put_le p.sat s (.cells c e (0,0))
  refine ⟨σ.put g (.cells c e (0,0)),p.put s A H,⟨_,l,rfl,m,f,by simp,?_⟩,a,?_⟩
  ·intro b n
   cases n
   refine ⟨fun _=>rfl,fun i x r=>⟨(cells.drop (i*sz)).take sz,⟨K1 rfl _,c,e,(0,0),by rw[S9];simp[Q6.put],?_⟩,?_,hr.up a (C i x r)⟩⟩
   ·intro j u d
    rw[Qe]
    rw[List.getElem?_take] at d
    split at d
    ·rw[List.getElem?_drop,←q,List.getElem?_take] at d
     split at d
     ·simpa using d
     ·cases d
    ·cases d
   ·have J:i<xs.length:=(List.getElem?_eq_some_iff.1 r).1
    have h:i*sz+sz≤xs.length*sz:=by rw[←Nat.succ_mul];exact Nat.mul_le_mul_right _ J
    rw[List.length_take,List.length_drop,t.1];omega
  ·intro k E
   have:k≠g:=by intro e;subst e;exact E rfl
   simp only[Q6.put,if_neg this]
theorem Sl.piece {a:Option Addr} {n d:Nat} (h:Sl sz R σ (.slice a n d) xs) (l m:Nat) (M:l+m≤xs.length):Sl sz R σ (.slice (if d=l then a else a.map (·.add (l*sz))) m (d-l)) ((xs.drop l).take m):=by
 obtain ⟨O,o,C,N,L,s,k⟩:=h
 injection C with H t z
 subst H t z
 have c:((xs.drop l).take m).length=m:=by simp;omega
 refine ⟨_,d-l,by rw[c],by rw[c];omega,by omega,?_,?_⟩
 ·intro p
  split at p
  ·omega
  ·cases a with
   | none=>have:=s rfl;omega
   | some b=>simp at p
 ·intro b f
  split at f
  ·rename_i A
   obtain ⟨j,q⟩:=k b f
   have D:m=0:=by omega
   subst D
   exact ⟨fun h=>by simp at h,by simp⟩
  ·cases a with
   | none=>simp at f
   | some r=>
    simp only[Option.map_some,Option.some.injEq] at f
    obtain ⟨j,q⟩:=k r rfl
    subst f
    refine ⟨fun h=>K1 (j (by rw[c] at h;omega)) _,fun i x g=>?_⟩
    rw[List.getElem?_take] at g
    split at g
    ·rw[List.getElem?_drop] at g
     obtain ⟨cs,J,y,E⟩:=q _ _ g
     refine ⟨cs,?_,y,E⟩
     rw[Q3L,←Nat.add_mul];exact J
    ·cases g
theorem Ec {t:TypeId} {i:Nat} {z:Value} [ts:TS P t e] [tz:TZ P e sz i z] (h:Sl sz R σ v xs) (c d:Option Value) (l m:Nat) (f:c=none∧l=0∨c=some (I l)) (g:d=none∧m=xs.length∨d=some (I m)) (j:l≤m) (A:m≤xs.length)
 (o: ∀k,Sl sz R σ k ((xs.drop l).take (m-l))→K k w):S1 P t v c d none w K:=by
 have n:=h
 obtain ⟨a,b,rfl,s,q,r,y⟩:=h
 have hh: ∀w:World,(Instr.sliceBounds true xs.length b c d none).run P w= .ok (l,m,b) w:=by
  intro w
  have D:(m:Int)≤b:=by omega
  have C:(l:Int)≤m:=by omega
  have p:m≤b:=by omega
  rcases f with ⟨rfl,rfl⟩ | rfl<;>rcases g with ⟨rfl,rfl⟩ | rfl<;>
   simp[Instr.sliceBounds,Instr.sliceBound,asIntOf,p,j]<;>intros<;>omega
 unfold S1
 have:(Instr.sliceAt t (.slice a xs.length b) c d none).run P w= .ok (.slice (if b=l then a else a.map (·.add (l*sz))) (m-l) (b-l)) w:=by
  simp[Instr.sliceAt,run_underlying ts.h,Instr.slice,hh,L3 tz]
 rw[X9 this]
 exact o _ (n.piece l (m-l) (by omega))
def en:Nat→List Value→List (Nat×Value)
 | _,[]=>[]
 | i,v::r=>(i,v)::en (i+1) r
theorem Q9Z (off:Nat): ∀(vs:List Value) (k:Nat) (cs:Array Value),off+k+vs.length≤cs.size→
 ((vs.zipIdx k).foldl (fun cs (p:Value×Nat)=>cs.setIfInBounds (off+p.2) p.1) cs).toList=cs.toList.take (off+k)++vs++cs.toList.drop (off+k+vs.length):=by
 intro vs
 induction vs with
 | nil=>intro k cs _;simp
 | cons v r ih=>
  intro k cs h
  simp only[List.length_cons] at h
  rw[List.zipIdx_cons,List.foldl_cons,ih (k+1) _ (by simp;omega)]
  simp only[Array.toList_setIfInBounds,List.length_cons]
  apply List.ext_getElem?
  intro i
  simp only[List.getElem?_append,List.length_take,List.length_set,Array.length_toList,List.getElem?_take,List.getElem?_drop,List.length_append,List.getElem?_set,List.length_cons]
  rcases Nat.lt_trichotomy i (off+k) with hi | hi | hi
  ·simp[show i<off+(k+1) by omega,hi,show i<min (off+(k+1)) cs.size by omega,show i<min (off+(k+1)) cs.size+r.length by omega,show i<min (off+k) cs.size by omega,show i<min (off+k) cs.size+(r.length+1) by omega,show off+k≠i by omega]
  ·subst hi
   simp[show off+k<off+(k+1) by omega,show off+k<min (off+(k+1)) cs.size by omega,show off+k<min (off+(k+1)) cs.size+r.length by omega,show¬off+k<min (off+k) cs.size by omega,show off+k<min (off+k) cs.size+(r.length+1) by omega,show off+k<cs.size by omega,show off+k-min (off+k) cs.size=0 by omega]
  ·by_cases h2:i<off+(k+1)+r.length
   ·simp[show¬i<min (off+(k+1)) cs.size by omega,show i<min (off+(k+1)) cs.size+r.length by omega,show¬i<min (off+k) cs.size by omega,show i<min (off+k) cs.size+(r.length+1) by omega,show i-min (off+k) cs.size=(i-min (off+(k+1)) cs.size)+1 by omega]
   ·simp only[show¬i<min (off+(k+1)) cs.size+r.length by omega,show¬i<min (off+k) cs.size+(r.length+1) by omega,if_false]
    rw[show off+(k+1)+r.length+(i-(min (off+(k+1)) cs.size+r.length))=i by omega,show off+k+(r.length+1)+(i-(min (off+k) cs.size+(r.length+1)))=i by omega,if_neg (by omega)]
theorem Q7B (sz:Nat): ∀(vs:List Value) (i:Nat) (cs:Array Value),(i+vs.length)*sz≤cs.size→(∀v∈vs,v.cells.size=sz)→
 ∃cs',Instr.fill (fun i=>some (i*sz,sz)) cs (en i vs)=some cs'∧cs'.toList=cs.toList.take (i*sz)++vs.flatMap (·.cells.toList)++cs.toList.drop ((i+vs.length)*sz):=by
 intro vs
 induction vs with
 | nil=>intro i cs _ _;exact ⟨cs,rfl,by simp⟩
 | cons v r ih=>
  intro i cs h hv
  have hv0:=hv v (by simp)
  simp only[List.length_cons] at h
  have h1:i*sz+sz≤cs.size:=by
   have:(i+1)*sz≤(i+(r.length+1))*sz:=Nat.mul_le_mul_right _ (by omega)
   rw[Nat.succ_mul] at this;omega
  have hset:=Q9Z (i*sz) v.cells.toList 0 cs (by simp;omega)
  simp only[Nat.add_zero] at hset
  have e1:v.cells.zipIdx.foldl (fun cs (p:Value×Nat)=>cs.setIfInBounds (i*sz+p.2) p.1) cs=(v.cells.toList.zipIdx 0).foldl (fun cs (p:Value×Nat)=>cs.setIfInBounds (i*sz+p.2) p.1) cs:=by
   rw[←Array.foldl_toList,Array.toList_zipIdx]
  have hsz':((v.cells.toList.zipIdx 0).foldl (fun cs (p:Value×Nat)=>cs.setIfInBounds (i*sz+p.2) p.1) cs).size=cs.size:=by
   rw[←Array.length_toList,hset]
   simp;omega
  obtain ⟨cs',q1,q2⟩:=ih (i+1) _ (by rw[hsz'];rw[show i+1+r.length=i+(r.length+1) by omega];exact h) (fun u hu=>hv u (by simp[hu]))
  refine ⟨cs',?_,?_⟩
  ·simp only[en,Instr.fill]
   rw[if_neg (by simp[hv0];omega)]
   rw[e1];exact q1
  ·rw[q2,hset]
   simp only[List.flatMap_cons,List.length_cons,Array.length_toList,hv0]
   have e2:(i+1)*sz=i*sz+sz:=by rw[Nat.succ_mul]
   have e3:(i+(r.length+1))*sz=i*sz+sz+r.length*sz:=by rw[Nat.add_mul,Nat.succ_mul];omega
   have e4:(i+1+r.length)*sz=i*sz+sz+r.length*sz:=by rw[Nat.add_mul,Nat.succ_mul]
   rw[e2,e3,e4]
   have t1:(cs.toList.take (i*sz)).length=i*sz:=by simp;omega
   have t2:(cs.toList.take (i*sz)++v.cells.toList).length=i*sz+sz:=by rw[List.length_append,t1];simp[hv0]
   have k1: ∀C:List Value,(cs.toList.take (i*sz)++v.cells.toList++C).take (i*sz+sz)=cs.toList.take (i*sz)++v.cells.toList:=by
    intro C
    rw[List.take_append_of_le_length (by omega),List.take_of_length_le (by omega)]
   have k2: ∀(C:List Value) (n:Nat),(cs.toList.take (i*sz)++v.cells.toList++C).drop (i*sz+sz+n)=C.drop n:=by
    intro C n
    rw[List.drop_append,t2,List.drop_eq_nil_of_le (by omega),List.nil_append]
    congr 1;omega
   rw[k1,k2,List.drop_drop]
   simp only[List.append_assoc]
theorem Hs {t:TypeId} {by_:Nat} {z:Value} [ts:TS P t e] [tz:TZ P e sz by_ z] (vs:List Value) (hv: ∀v∈vs,v.cells.size=sz) (hsm:vs.length*sz≤16777216) (w:World):
 ∃cells:Array Value,(Instr.buildSlice t vs.length (en 0 vs).toArray).run P w= .ok (.slice (some ⟨w.heap.size,0,none⟩) vs.length vs.length) (w.alloc (.cells cells e))∧cells.toList=vs.flatMap (·.cells.toList):=by
 have h2: ¬vs.length*sz>2 ^ 24:=by omega
 by_cases h:vs.length*sz=0
 ·obtain ⟨cells,hf,hl⟩:=Q7B sz vs 0 ((Array.range (vs.length*sz)).map ((#[]:Array Value)[· % (#[]:Array Value).size]!)) (by simp) hv
  refine ⟨cells,?_,by rw[hl];simp⟩
  simp only[Instr.buildSlice,Sem.run_bind,run_underlying ts.h,Result.andThen_ok,L3 tz,if_neg h2,if_pos h,Sem.run_pure,hf]
  simp[newRow]
 ·obtain ⟨cells,hf,hl⟩:=Q7B sz vs 0 ((Array.range (vs.length*sz)).map (z.cells[· % z.cells.size]!)) (by simp) hv
  refine ⟨cells,?_,by rw[hl];simp⟩
  simp only[Instr.buildSlice,Sem.run_bind,run_underlying ts.h,Result.andThen_ok,L3 tz,if_neg h2,if_neg h,Sem.run_pure,Zn tz,hf]
  simp[newRow]
theorem Q8i {vs:List Value} (d: ∀v∈vs,v.cells.size=sz) (i:Nat) (v:Value) (h:vs[i]? =some v):((vs.flatMap (·.cells.toList)).drop (i*sz)).take sz=v.cells.toList:=by
 induction vs generalizing i with
 | nil=>simp at h
 | cons a r f=>
  have b:=d a (by simp)
  cases i with
  | zero=>
   simp at h;subst h
   rw[List.flatMap_cons,Nat.zero_mul,List.drop_zero,List.take_append_of_le_length (by simp[b]),List.take_of_length_le (by simp[b])]
  | succ i=>
   rw[List.flatMap_cons,Nat.succ_mul,List.drop_append,List.drop_eq_nil_of_le (by simp[b]),List.nil_append]
   rw[show i*sz+sz-a.cells.toList.length=i*sz by simp[b]]
   exact f (fun v c=>d v (by simp[c])) i (by simpa using h)
theorem Q2w {vs:List Value} (b: ∀v∈vs,v.cells.size=sz):(vs.flatMap (·.cells.toList)).length=vs.length*sz:=by
 induction vs with
 | nil=>simp
 | cons a r c=>
  rw[List.flatMap_cons,List.length_append,c (fun v h=>b v (by simp[h]))]
  simp[b a (by simp),Nat.succ_mul,Nat.add_comm]
def Q12 (R:Q6→α→List Value→Prop) (σ:Q6):List Value→List α→Prop
 | [],[]=>True
 | v::vs,x::xs=>R σ x v.cells.toList∧Q12 R σ vs xs
 | _,_=>False
theorem Q12.len {vs:List Value} (h:Q12 R σ vs xs):vs.length=xs.length:=by
 induction vs generalizing xs with
 | nil=>cases xs with
  | nil=>rfl
  | cons=>exact h.elim
 | cons v r a=>cases xs with
  | nil=>exact h.elim
  | cons x y=>simp[a h.2]
theorem Q12.get {vs:List Value} (h:Q12 R σ vs xs) {i:Nat} {x:α} (a:xs[i]? =some x): ∃v,vs[i]? =some v∧R σ x v.cells.toList:=by
 induction vs generalizing xs i with
 | nil=>cases xs with
  | nil=>simp at a
  | cons=>exact h.elim
 | cons v r d=>cases xs with
  | nil=>exact h.elim
  | cons y ys=>
   cases i with
   | zero=>simp at a;subst a;exact ⟨v,rfl,h.1⟩
   | succ i=>obtain ⟨u,c,b⟩:=d h.2 (i:=i) (by simpa using a);exact ⟨u,by simpa using c,b⟩
theorem Zh {t:TypeId} {m:Nat} {z:Value} {n:Nat} {a:List (Nat×Value)} [ts:TS P t e] [tz:TZ P e sz m z] (l:Stp w0 σ0 w σ) (vs:List Value) (xs:List α) (y:n=vs.length) (q:a=en 0 vs) (c: ∀v∈vs,v.cells.size=sz) (b:(decide (0<sz)&&decide (vs.length*sz≤16777216))=true) (o:Q12 R σ vs xs)
 (h: ∀v w',Stp w σ w' σ→V6 w0.heap.size e sz R σ w' v xs→(∀k,v.ownBlock=some k→w.heap.size≤k)→K v w'):buildSlice P t n a w K:=by
 subst y q
 simp only[Bool.and_eq_true,decide_eq_true_eq] at b
 obtain ⟨g,b⟩:=b
 obtain ⟨cells,s,f⟩:=Hs (P:=P) (t:=t) vs c b w
 unfold buildSlice
 rw[X9 s]
 have d:=o.len
 refine h _ _ (Stp.own l.sat _) ⟨cells.toList,⟨by rw[f,Q2w c,d], .inr ⟨_,_,cells,by rw[d],l.bel.size,heap_alloc_new w _,by omega,?_,?_,?_⟩⟩,?_,?_⟩ ?_
 ·simp only[maxLen]
  have:vs.length*1≤vs.length*sz:=Nat.mul_le_mul_left _ g
  omega
 ·rw[←Array.length_toList,f,Q2w c,d]
 ·rw[List.take_of_length_le (by rw[f,Q2w c,d];exact Nat.le_refl _)]
 ·intro k j;cases j;exact l.sat.none (Nat.le_refl _)
 ·intro i x r
  obtain ⟨v,p,A⟩:=o.get r
  rw[f,Q8i c i v p];exact A
 ·intro k j;cases j;exact Nat.le_refl _
theorem T5 [Rep R] {t:TypeId} {b:Nat} {z:Value} {n:Nat} {a:List (Nat×Value)} [ts:TS P t e] [tz:TZ P e sz b z] (k:X3 w σ) (vs:List Value) (xs:List α) (l:n=vs.length) (g:a=en 0 vs) (i: ∀v∈vs,v.cells.size=sz) (c:(decide (0<sz)&&decide (vs.length*sz≤16777216))=true) (m:Q12 R σ vs xs)
 (h: ∀v w' σ',Stp w σ w' σ'→Sl sz R σ' v xs→K v w'):buildSlice P t n a w K:=by
 refine Zh (Stp.refl k) vs xs l g i c m fun v w' j d _=>?_
 obtain ⟨σ',o,f,_⟩:=d.keep j
 exact h v w' σ' o f
theorem X1O {t:TypeId} {k a:Nat} {c:TypeId} [tf:TF P t k a c] [tg:TG P c false] {cs:Array Value} {v:Value} (d:cs[a]? =some v):F5 P t (.agg cs) k w K=K v w:=by
 unfold F5
 have hh:=tf.h
 unfold Q3F at hh
 split at hh
 ·rename_i m j
  obtain ⟨f,g,b⟩:=Option.map_eq_some_iff.1 hh
  simp only[Prod.mk.injEq] at b
  obtain ⟨l,i⟩:=b
  subst i l
  exact X9 (by simp[Instr.field,run_underlying j,g,asAgg,part,Xn tg,d])
 ·cases hh
theorem Qh {f:Fn} {first caps:List Value}:H3 P f first caps w K=K (.func f first.toArray caps.toArray) w:=X9 (by simp[Instr.makeFunc])
theorem V8 {t:TypeId} {a:List (Nat×Value)} {cells:Array Value} (h:P.built t a=some cells) (b:K (.agg cells) w):H1 P t a w K:=by
 unfold H1
 rw[X9 (run_build w t a.toArray cells h)];exact b
end
def H5 (o:Option Obj) (m:List (List UInt8×Value)):Prop:=
 ∃b a,o=some (.map b a)∧b.toList.map (fun e=>(e.key,e.val))=m.map (fun p=>(S p.1,p.2))∧(b.toList.map (·.born)).Pairwise (· < ·)∧ ∀e∈b.toList,e.born<a
def B0 (m:List (List UInt8×Value)) (k:List UInt8):Option Value:=match m with
 | []=>none
 | p::r=>if p.1=k then some p.2 else B0 r k
def Wp (m:List (List UInt8×Value)) (k:List UInt8) (v:Value):List (List UInt8×Value):=match m with
 | []=>[(k,v)]
 | p::r=>if p.1=k then (k,v)::r else p::Wp r k v
theorem Hf (a b:List UInt8):((⟨a.toArray⟩:ByteArray)==⟨b.toArray⟩)=decide (a=b):=by
 rw[←Q3G]
 show (a.toArray==b.toArray)=_
 simp
theorem Cx (k:List UInt8): ∀(c:List MapEntry) (m:List (List UInt8×Value)) (i:Nat),c.map (fun e=>(e.key,e.val))=m.map (fun p=>(S p.1,p.2))→
 ∃r,Instr.findNow .string (S k) c i=some r∧r.map (·.2)=B0 m k∧(∀j v,r=some (j,v)→i≤j∧(∃e,c[j-i]? =some e∧e.key=S k)∧ ∀u,(c.modify (j-i) fun e=>{e with key:=S k,val:=u}).map (fun e=>(e.key,e.val))=(Wp m k u).map (fun p=>(S p.1,p.2)))∧
  (r=none→ ∀u,Wp m k u=m++[(k,u)]):=by
 intro c
 induction c with
 | nil=>
  intro m i h
  cases m with
  | nil=>exact ⟨none,rfl,rfl,(by simp),fun _ u=>rfl⟩
  | cons=>simp at h
 | cons e r y=>
  intro m i h
  cases m with
  | nil=>simp at h
  | cons p q=>
   simp only[List.map_cons,List.cons.injEq,Prod.mk.injEq] at h
   obtain ⟨⟨f,l⟩,g⟩:=h
   simp only[Instr.findNow,f,Instr.sameNow,Hf]
   by_cases a:p.1=k
   ·have d:decide (k=p.1)=true:=by simp[a]
    simp only[d]
    refine ⟨_,rfl,by simp[B0,a,l],?_,by simp⟩
    intro j v b
    cases b
    refine ⟨Nat.le_refl _,⟨e,by simp,by rw[f,a]⟩,fun u=>?_⟩
    simp[Wp,a,g]
   ·have d:decide (k=p.1)=false:=by simp;exact fun e=>a e.symm
    simp only[d]
    obtain ⟨s,n,A,t,C⟩:=y q (i+1) g
    refine ⟨s,n,by simp[B0,a,A],?_,?_⟩
    ·intro j v b
     obtain ⟨E,D,o⟩:=t j v b
     refine ⟨by omega,by rw[show j-i=(j-(i+1))+1 by omega];simpa using D,fun u=>?_⟩
     have:=o u
     rw[show j-i=(j-(i+1))+1 by omega]
     simp[Wp,a,f,l,this]
    ·intro z u
     simp[Wp,a,C z u]
theorem K2 {t:TypeId} (a:P.underlying t=some .string) (b:Bool) (k:List UInt8) (w:World):(Instr.checkKey b 10000 t (S k)).run P w= .ok () w:=by
 unfold Instr.checkKey
 simp[run_underlying a]
theorem Q2u {t j i:TypeId} {sz d:Nat} {z:Value} [tm:TM P t j i] [tz:TZ P i sz d z] (b:P.underlying j=some .string) {r:Nat} {m:List (List UInt8×Value)} (s:H5 (w.heap[r]?) m) (k:List UInt8):
 lookup P t (.map (some r)) (S k) true w K=K (match B0 m k with | some v=> .tuple #[v, .bool true] | none=> .tuple #[z, .bool false]) w:=by
 obtain ⟨g,a,q,n,y,A⟩:=s
 obtain ⟨l,f,c,C,D⟩:=Cx k g.toList m 0 n
 unfold lookup
 refine X9 ?_
 simp only[Instr.lookup,Sem.run_bind,run_underlying tm.h,Result.andThen_ok,Instr.findKey,run_underlying b,f,K2 b]
 have o:(getObj r).run P w= .ok (.map g a) w:=by simp[getObj,Sem.run,q]
 simp only[o,Result.andThen_ok,Sem.run_bind,Sem.run_pure,K2 b,run_underlying b,f]
 cases l with
 | none=>simp at c;rw[←c];simp[Zn tz]
 | some p=>simp at c;rw[←c];simp
theorem Q4t {t i g:TypeId} {sz c:Nat} {z:Value} [tm:TM P t i g] [tz:TZ P g sz c z] (f:P.underlying i=some .string) {r:Nat} {m:List (List UInt8×Value)} (s:H5 (w.heap[r]?) m) (k:List UInt8):
 lookup P t (.map (some r)) (S k) false w K=K ((B0 m k).getD z) w:=by
 obtain ⟨d,a,q,n,y,A⟩:=s
 obtain ⟨l,j,b,C,D⟩:=Cx k d.toList m 0 n
 unfold lookup
 refine X9 ?_
 have o:(getObj r).run P w= .ok (.map d a) w:=by simp[getObj,Sem.run,q]
 simp only[Instr.lookup,Sem.run_bind,run_underlying tm.h,Result.andThen_ok,Instr.findKey,run_underlying f,j,K2 f,o,Sem.run_pure]
 cases l with
 | none=>simp at b;rw[←b];simp[Zn tz]
 | some p=>simp at b;rw[←b];simp
def B1 (σ:Q6) (w:World) (r:Nat) (m:List (List UInt8×Value)):Prop:=σ r=none∧H5 (w.heap[r]?) m
def Xk (σ:Q6) (r:Nat) (m:List (List UInt8×Value)):Prop:=H5 (σ r) m
theorem Xk.is {σ:Q6} {r:Nat} {m:List (List UInt8×Value)} (h:Xk σ r m) (f:X3 w σ):H5 (w.heap[r]?) m:=by
 obtain ⟨b,a,d,c⟩:=h
 exact ⟨b,a,f _ _ d,c⟩
theorem Xk.le {σ σ':Q6} {r:Nat} {m:List (List UInt8×Value)} (h:Xk σ r m) (c: ∀b o,σ b=some o→σ' b=some o):Xk σ' r m:=by
 obtain ⟨d,a,g,f⟩:=h
 exact ⟨d,a,c _ _ g,f⟩
theorem Xk.up {σ σ':Q6} {r:Nat} {m:List (List UInt8×Value)} (h:Xk σ r m) (a:Stp w σ w' σ'):Xk σ' r m:=h.le a.le
theorem B1.lt {σ:Q6} {r:Nat} {m:List (List UInt8×Value)} (h:B1 σ w r m):r<w.heap.size:=by
 obtain ⟨_,c,a,b,_⟩:=h
 exact (Array.getElem?_eq_some_iff.1 b).1
theorem B1.up {σ σ':Q6} {r:Nat} {m:List (List UInt8×Value)} (h:B1 σ w r m) (a:Stp w σ w' σ'):B1 σ' w' r m:=by
 have b:=h.lt
 exact ⟨(a.old r b).trans h.1,(a.bel.block r b).symm▸h.2⟩
theorem Q2Z {t:TypeId} {σ:Q6} (a:X3 w σ) (h: ∀r w',w.heap.size≤r→Stp w σ w' σ→B1 σ w' r []→K (.map (some r)) w'):Ko P t none w K:=by
 unfold Ko
 rw[X9 (v:= .map (some w.heap.size)) (w':=w.alloc (.map #[] 0)) (by simp[Instr.makeMap])]
 exact h _ _ (Nat.le_refl _) (Stp.own a _) ⟨a.none (Nat.le_refl _), #[],0,heap_alloc_new w _,rfl,by simp,by simp⟩
theorem B1.keep {σ σ0:Q6} {r:Nat} {m:List (List UInt8×Value)} (h:B1 σ w r m) (c:Stp w0 σ0 w σ) (i:w0.heap.size≤r): ∃σ',Stp w0 σ0 w σ'∧Xk σ' r m∧(∀k o,σ k=some o→σ' k=some o)∧(∀k,k≠r→σ' k=σ k):=by
 obtain ⟨b,d,a,j,g⟩:=h
 exact ⟨σ.put r (.map d a),c.put b i j,⟨d,a,by simp[Q6.put],g⟩,Q6.put_le c.sat b _,fun k f=>by simp only[Q6.put,if_neg f]⟩
theorem Ii {t V et:TypeId} [tm:TM P t V et] (C:P.underlying V=some .string) {σ:Q6} {r:Nat} {m:List (List UInt8×Value)} (hm:B1 σ w r m) (k:List UInt8) (v:Value)
 (h: ∀w',Upd w r w'→B1 σ w' r (Wp m k v)→K undef w'):mapUpdate P t (.map (some r)) (S k) v w K:=by
 obtain ⟨J,l,d,H,Q,N,D⟩:=hm
 obtain ⟨Z,L,q2,q3,q4⟩:=Cx k l.toList m 0 Q
 have U:(getObj r).run P w= .ok (.map l d) w:=by simp[getObj,Sem.run,H]
 have hl:=(Array.getElem?_eq_some_iff.1 H).1
 have n: ∀o,o=Obj.map l d∨True→(∀c e f,o≠ .cells c e f)→(setObj r o).run P w= .ok () {w with heap:=w.heap.setIfInBounds r o}:=by
  intro o _ _
  simp[setObj,Sem.run,H]
 have z: ∀o,Upd w r {w with heap:=w.heap.setIfInBounds r o}:=fun o=>⟨rfl,rfl,rfl,by simp,fun k C=>by simp only[Array.getElem?_setIfInBounds];rw[if_neg (by omega)]⟩
 have A: ∀o,({w with heap:=w.heap.setIfInBounds r o}:World).heap[r]? =some o:=fun o=>by simp[Array.getElem?_setIfInBounds,hl]
 unfold mapUpdate
 cases Z with
 | none=>
  rw[Lc (w':={w with heap:=w.heap.setIfInBounds r (.map (l.push {key:=S k,val:=v,born:=d}) (d+1))}) (by
   simp only[Instr.mapUpdate,Sem.run_bind,run_underlying tm.h,Result.andThen_ok,Instr.findKey,run_underlying C,L,K2 C,U,Sem.run_pure]
   exact n _ (.inr trivial) (by intros;simp))]
  refine h _ (z _) ⟨J,_,_,A _,?_,?_,?_⟩
  ·rw[q4 rfl];simp[Q]
  ·simp only[Array.toList_push,List.map_append,List.map_cons,List.map_nil]
   rw[List.pairwise_append]
   refine ⟨N,by simp,?_⟩
   intro a X b M
   simp at M;subst M
   obtain ⟨e,s,rfl⟩:=List.mem_map.1 X
   exact D e s
  ·intro e s
   simp at s
   rcases s with s | rfl
   ·have:=D e (by simpa using s);omega
   ·simp
 | some p=>
  obtain ⟨j,u⟩:=p
  obtain ⟨z1,z2,O⟩:=q3 j u rfl
  obtain ⟨e,W,Y⟩:=z2
  simp only[Nat.sub_zero] at W O
  have g:((l.modify j fun e=>{e with key:=S k,val:=v}).toList.map (·.born))=l.toList.map (·.born):=by
   apply List.ext_getElem?
   intro i
   simp only[Array.toList_modify,List.getElem?_map,List.getElem?_modify]
   by_cases E:j=i<;>cases l.toList[i]? <;>simp[E]
  have q:(Instr.keyThatStays (S k) (S k)).run P w= .ok (S k) w:=by
   simp[Instr.keyThatStays,Instr.sameBits,Hf]
  rw[Lc (w':={w with heap:=w.heap.setIfInBounds r (.map (l.modify j fun e=>{e with key:=S k,val:=v}) d)}) (by
   simp only[Instr.mapUpdate,Sem.run_bind,run_underlying tm.h,Result.andThen_ok,Instr.findKey,run_underlying C,L,K2 C,U,Sem.run_pure]
   rw[show ((l[j]?).map (·.key)).getD (S k)=S k by rw[←Array.getElem?_toList,W];simp[Y]]
   simp only[q,Result.andThen_ok]
   exact n _ (.inr trivial) (by intros;simp))]
  refine h _ (z _) ⟨J,_,_,A _,?_,?_,?_⟩
  ·simp only[Array.toList_modify];exact O v
  ·rw[g];exact N
  ·intro x hx
   have:x.born∈l.toList.map (·.born):=by rw[←g];exact List.mem_map.2 ⟨x,hx,rfl⟩
   obtain ⟨y,hy,e⟩:=List.mem_map.1 this
   rw[←e];exact D y hy
end Go.Emb

namespace Go.Emb
open Go.RowKit
variable {P : Program} {w w0 w1 w' w'' : World} {K : Value → World → Prop}
theorem Z8 {c b:Bool} {a:World→(Value→World→Prop)→Prop} (e:c=b→a w K) (d:c=(!b)→K undef w):Q0 (.bool c) b w a K:=by
 cases c<;>cases b
 ·rw[W7];exact e rfl
 ·rw[E2];exact d rfl
 ·rw[S6];exact d rfl
 ·rw[W3];exact e rfl
theorem Q7 {c:Bool} {t e:Prop} (b:c=true→t) (a:c=false→e):X1 (.bool c) t e:=by
 cases c
 ·rw[M5];exact a rfl
 ·rw[H8];exact b rfl
theorem Q8 {α:Type} {R:Q6→α→List Value→Prop} {sz:Nat} {σ:Q6} {v:Value} {xs:List α} {a e t:TypeId} {cs:List Bool} [ts:TS P a e] (h:Sl sz R σ v xs) (b:K (I xs.length) w):X2 P .len [a] t cs [v] w K:=by
 rw[X3o h];exact b
structure Kpt (D : Nat → Prop) (w w' : World) : Prop where
  os : w'.os = w.os
  tape : w'.tape = w.tape
  output : w'.output = w.output
  size : w.heap.size ≤ w'.heap.size
  block : ∀ k, k < w.heap.size → ¬ D k → w'.heap[k]? = w.heap[k]?
theorem Kpt.refl {D:Nat→Prop}:Kpt D w w:=⟨rfl,rfl,rfl,Nat.le_refl _,fun _ _ _=>rfl⟩
theorem Kpt.trans {D:Nat→Prop} (h:Kpt D w w') (k:Kpt D w' w''):Kpt D w w'':=
 ⟨k.os.trans h.os,k.tape.trans h.tape,k.output.trans h.output,Nat.le_trans h.size k.size,fun i b a=>(k.block i (Nat.lt_of_lt_of_le b h.size) a).trans (h.block i b a)⟩
theorem Kpt.of_below {D:Nat→Prop} (h:Below w.heap.size w w'):Kpt D w w':=⟨h.os,h.tape,h.output,h.size,fun k a _=>h.block k a⟩
theorem Kpt.of_grown {D:Nat→Prop} {row:Option Nat} (h:w.grownBy w' row) (a: ∀k,row=some k→D k):Kpt D w w':=⟨h.os,h.tape,h.output,h.size,fun k b c=>h.block k b (fun e=>c (a k e.symm))⟩
theorem Kpt.of_upd {D:Nat→Prop} {b:Nat} (h:Upd w b w') (c:D b):Kpt D w w':=⟨h.os,h.tape,h.output,by rw[h.size];exact Nat.le_refl _,fun k d a=>h.block k (fun e=>a (e▸c))⟩
theorem Kpt.mono {D D':Nat→Prop} (h:Kpt D w w') (b: ∀k,k<w.heap.size→D k→D' k):Kpt D' w w':=⟨h.os,h.tape,h.output,h.size,fun k a c=>h.block k a (fun e=>c (b k a e))⟩
theorem Kpt.below {D:Nat→Prop} (h:Kpt D w w') (b: ∀k,¬D k):Below w.heap.size w w':=⟨h.os,h.tape,h.output,h.size,fun k a=>h.block k a (b k)⟩
theorem Stp.kp {σ0 σ:Q6} {D:Nat→Prop} (a:Stp w0 σ0 w σ) (b:Kpt D w w') (f: ∀k,D k→w0.heap.size≤k∧σ k=none):Stp w0 σ0 w' σ:=by
 refine ⟨⟨b.os.trans a.bel.os,b.tape.trans a.bel.tape,b.output.trans a.bel.output,Nat.le_trans a.bel.size b.size,fun k c=>?_⟩,?_,a.le,a.old⟩
 ·refine (b.block k (Nat.lt_of_lt_of_le c a.bel.size) ?_).trans (a.bel.block k c)
  intro e;have:=(f k e).1;omega
 ·intro k o d
  refine (b.block k (a.sat.lt d) ?_).trans (a.sat k o d)
  intro e;rw[(f k e).2] at d;cases d
theorem Y2.kp {σ:Q6} {D:Nat→Prop} {k:Nat} {cs:List Value} (h:Y2 σ w k cs) (b:Kpt D w w') (a: ¬D k):Y2 σ w' k cs:=by
 have c:=h.lt
 obtain ⟨f,e,d⟩:=h
 exact ⟨f,e,(b.block k c a).trans d⟩
theorem B1.kp {σ:Q6} {D:Nat→Prop} {r:Nat} {m:List (List UInt8×Value)} (h:B1 σ w r m) (b:Kpt D w w') (a: ¬D r):B1 σ w' r m:=
 ⟨h.1,(b.block r h.lt a).symm▸h.2⟩
theorem V6.kp {α:Type} {R:Q6→α→List Value→Prop} {B sz:Nat} {e:TypeId} {σ:Q6} {v:Value} {xs:List α} {D:Nat→Prop} (h:V6 B e sz R σ w v xs) (n:Kpt D w w') (b: ∀k,v.ownBlock=some k→ ¬D k):V6 B e sz R σ w' v xs:=by
 obtain ⟨cells,i,m,l⟩:=h
 refine ⟨cells,⟨i.1,?_⟩,m,l⟩
 rcases i.2 with o | ⟨g,d,c,rfl,j,f,a⟩
 ·exact .inl o
 ·refine .inr ⟨g,d,c,rfl,j,?_,a⟩
  rw[n.block g (Array.getElem?_eq_some_iff.1 f).1 (b g rfl)];exact f
theorem bt {w w1 a:World} (b:Below w.heap.size w w1) (c:Below w1.heap.size w1 a):Below w.heap.size w a:=b.trans (c.mono b.size)
abbrev U1:Nat:=140737488351232
def U8 (_:Q6) (s:List UInt8) (cs:List Value):Prop:=cs=[S s]∧s.length≤U1
instance:Rep U8:=⟨fun _ h=>h,fun h u hu=>by rw[h.1] at hu;simp at hu;subst hu;rfl⟩
def Wr (_:Q6) (n:Int) (cs:List Value):Prop:=cs=[I n]∧ -9223372036854775808≤n∧n≤9223372036854775807
instance:Rep Wr:=⟨fun _ h=>h,fun h u hu=>by rw[h.1] at hu;simp at hu;subst hu;rfl⟩
def Q3a (_:Q6) (b:Bool) (cs:List Value):Prop:=cs=[.bool b]
instance:Rep Q3a:=⟨fun _ h=>h,fun h u hu=>by rw[h] at hu;simp at hu;subst hu;rfl⟩
def UpI (N:Nat) (a:Nat→World→Prop) (x:Value) (w:World):Prop:= ∃n:Nat,x=I n∧n≤N∧a n w
def UpM (N:Nat) (x:Value):Nat:=match x with | .int _ n=>N-n.toNat | _=>0
theorem U2 {A:(Value→World→Prop)→Value→(Nat→Value)→World→Prop} (N:Nat) (a:Nat→World→Prop) (c:a 0 w)
 (b: ∀n w d,n≤N→a n w→A (fun y w'=>UpI N a y w'∧UpM N y<UpM N (I n)) (I n) d w):lp (α:=Value) (.int .i64 0) w A:=by
 refine Wl (UpI N a) (fun x _=>UpM N x) ⟨0,rfl,Nat.zero_le _,c⟩ ?_
 rintro _ d w' ⟨n,rfl,f,e⟩
 exact b n w' d f e
theorem Y5 {N n:Nat} {a:Nat→World→Prop} (d:N≤9223372036854775807) (c:n<N) (b:a (n+1) w):UpI N a (.int .i64 (IntKind.i64.wrap (n+1))) w∧UpM N (.int .i64 (IntKind.i64.wrap (n+1)))<UpM N (I n):=by
 rw[G1 (by omega) (by omega)]
 exact ⟨⟨n+1,rfl,c,b⟩,by simp only[UpM];omega⟩
def Bp {α:Type} (N:Nat) (a:Nat→α→World→Prop) (x:α×Value) (w:World):Prop:= ∃n:Nat,x.2=I n∧n≤N∧a n x.1 w
def Mn {α:Type} (N:Nat) (x:α×Value):Nat:=UpM N x.2
theorem E5 {α:Type} {A:(α×Value→World→Prop)→α×Value→(Nat→Value)→World→Prop} {a:α} (N:Nat) (b:Nat→α→World→Prop) (g:b 0 a w)
 (c: ∀n a w d,n≤N→b n a w→A (fun y w'=>Bp N b y w'∧Mn N y<Mn N (a,I n)) (a,I n) d w):lp (α:=α×Value) (a, .int .i64 0) w A:=by
 refine Wl (Bp N b) (fun x _=>Mn N x) ⟨0,rfl,Nat.zero_le _,g⟩ ?_
 rintro ⟨a,x⟩ d w' ⟨n,e,h,f⟩
 simp only at e f
 subst e
 exact c n a w' d h f
theorem J3 {α:Type} {a c:α} {N n:Nat} {b:Nat→α→World→Prop} (f:N≤9223372036854775807) (e:n<N) (d:b (n+1) c w):Bp N b (c, .int .i64 (IntKind.i64.wrap (n+1))) w∧Mn N (c, .int .i64 (IntKind.i64.wrap (n+1)))<Mn N (a,I n):=by
 rw[G1 (by omega) (by omega)]
 exact ⟨⟨n+1,rfl,e,d⟩,by simp only[Mn,UpM];omega⟩
theorem M7 {α:Type} {R:Q6→α→List Value→Prop} {sz:Nat} {σ:Q6} {v:Value} {xs:List α} {t e:TypeId} {b:Nat} {z:Value} [TS P t e] [TZ P e sz b z] (h:Sl sz R σ v xs) {n:Nat} (i:n<xs.length)
 (f: ∀a cs,Z5 σ a cs→cs.length=sz→R σ xs[n] cs→K (.pointer (some a)) w):indexAddr P t v (I n) w K:=
 X3P h (by omega) (by simpa using i) (fun a cs g d c=>f a cs g d (by simpa using c))
theorem Y8 {t:TypeId} {sz e:Nat} {z:Value} {A:Value→Value→World→Prop} [tz:TZ P t sz e z] {σ:Q6} {cs:List Value} (s:X3 w σ) (q:z.cells.size=sz) (m:cs.length=sz) (r: ∀u∈cs,u.oneCell'=true)
 (h: ∀a w' c,Stp w σ w' c→Z5 c a cs→A (.pointer (some a)) undef w'):W0 P t w (fun p w=>Y1 P t p (.agg cs.toArray) w (fun u w=>A p u w)):=by
 refine Iy s fun b w1 f n g=>?_
 refine Nt g (by simpa using q) m (by rw[List.all_toArray];exact List.all_eq_true.2 r) fun k j d=>?_
 have o:Stp w σ k σ:=j.stp n f g.1
 obtain ⟨c,i,l,_⟩:=d.keep o f
 exact h _ _ _ i l
theorem U7 {t:TypeId} {f:Nat} {z:Value} {A:Value→Value→World→Prop} [tz:TZ P t 1 f z] {σ:Q6} {v:Value} (y:X3 w σ) (r:z.cells.size=1) (l:v.cells= #[v]) (s:v.oneCell'=true)
 (h: ∀a w' d,Stp w σ w' d→Z5 d a [v]→A (.pointer (some a)) undef w'):W0 P t w (fun p w=>Y1 P t p v w (fun u w=>A p u w)):=by
 refine Iy y fun b w1 g o i=>?_
 have n:z.cells.toList.length=1:=by simpa using r
 refine st0 i (by omega) l s fun k j c=>?_
 have q:Stp w σ k σ:=j.stp o g i.1
 have e:z.cells.toList.set 0 v=[v]:=by
  match hzl:z.cells.toList,n with
  | [x],_=>rfl
 rw[e] at c
 obtain ⟨d,B,m,_⟩:=c.keep q g
 exact h _ _ _ B m
theorem L2 {α:Type} {xs:List α} {p:α→Bool} {n:Nat} (h:n<xs.length):(xs.take (n+1)).any p=((xs.take n).any p||p xs[n]):=by
 rw[List.take_add_one,List.getElem?_eq_getElem h,List.any_append];simp
theorem C2 {α:Type} {xs:List α} {p:α→Bool} {n:Nat} (h:n<xs.length) (a:p xs[n]=true):xs.any p=true:=List.any_eq_true.2 ⟨_,List.getElem_mem h,a⟩
theorem E3 {α:Type} {xs:List α} {p:α→Bool} {n:Nat} (h: ¬n<xs.length):(xs.take n).any p=xs.any p:=by rw[List.take_of_length_le (by omega)]
end Go.Emb

namespace Go.Hm
open Go.Kd
structure Fld where
  name : X0
  kind : X0
  tr : Bool
deriving DecidableEq
structure Ins where
  op : X0
  n : Int
  s : X0
deriving DecidableEq
structure Cat where
  frm : Int
  to : Int
  at_ : Int
  cls : X0
deriving DecidableEq
structure Met where
  name : X0
  params : List X0
  result : X0
  abs : Bool
  locals : Int
  code : List Ins
  catches : List Cat
deriving DecidableEq
structure Cla where
  name : X0
  super : X0
  like : List X0
  iface : Bool
  abs : Bool
  fin : Bool
  fields : List Fld
  methods : List Hm.Met
deriving DecidableEq
def Fld.zero:Fld:=⟨[],[],false⟩
def Met.zero:Hm.Met:=⟨[],[],[],false,0,[],[]⟩
def Cla.zero:Cla:=⟨[],[],[],false,false,false,[],[]⟩
end Go.Hm

namespace Go.Emb
open Go.RowKit Go.Hm
abbrev Yw (n:Int):Prop:= -9223372036854775808≤n∧n≤9223372036854775807
def S2 (_:Q6) (f:Fld) (cs:List Value):Prop:=cs=[S f.name,S f.kind, .bool f.tr]∧f.name.length≤U1∧f.kind.length≤U1
def Qo (_:Q6) (i:Ins) (cs:List Value):Prop:=cs=[S i.op,I i.n,S i.s]∧i.op.length≤U1∧Yw i.n∧i.s.length≤U1
def Jz (_:Q6) (c:Cat) (cs:List Value):Prop:=cs=[I c.frm,I c.to,I c.at_,S c.cls]∧Yw c.frm∧Yw c.to∧Yw c.at_∧c.cls.length≤U1
def E8 (σ:Q6) (m:Hm.Met) (cs:List Value):Prop:= ∃pv b a,cs=[S m.name,pv,S m.result, .bool m.abs,I m.locals,b,a]∧Sl 1 U8 σ pv m.params∧Sl 3 Qo σ b m.code∧Sl 4 Jz σ a m.catches∧m.name.length≤U1∧m.result.length≤U1∧Yw m.locals
def V0 (σ:Q6) (c:Cla) (cs:List Value):Prop:= ∃a b mv,cs=[S c.name,S c.super,a, .bool c.iface, .bool c.abs, .bool c.fin,b,mv]∧Sl 1 U8 σ a c.like∧Sl 3 S2 σ b c.fields∧Sl 7 E8 σ mv c.methods∧c.name.length≤U1∧c.super.length≤U1
theorem A7 {α:Type} {sz:Nat} {R:Q6→α→List Value→Prop} {σ:Q6} {v:Value} {xs:List α} (h:Sl sz R σ v xs):v.oneCell'=true:=by
 obtain ⟨a,b,rfl,_⟩:=h;rfl
instance:Rep S2:=⟨fun _ h=>h,fun h u hu=>by rw[h.1] at hu;simp at hu;rcases hu with rfl | rfl | rfl<;>rfl⟩
instance:Rep Qo:=⟨fun _ h=>h,fun h u hu=>by rw[h.1] at hu;simp at hu;rcases hu with rfl | rfl | rfl<;>rfl⟩
instance:Rep Jz:=⟨fun _ h=>h,fun h u hu=>by rw[h.1] at hu;simp at hu;rcases hu with rfl | rfl | rfl | rfl<;>rfl⟩
instance:Rep E8:=⟨fun hk ⟨pv,cv,hv,h1,h2,h3,h4,h5⟩=>⟨pv,cv,hv,h1,h2.le hk,h3.le hk,h4.le hk,h5⟩,fun ⟨pv,cv,hv,h1,h2,h3,h4,h5⟩ u hu=>by
 rw[h1] at hu;simp at hu;rcases hu with rfl | rfl | rfl | rfl | rfl | rfl | rfl
 ·rfl
 ·exact A7 h2
 ·rfl
 ·rfl
 ·rfl
 ·exact A7 h3
 ·exact A7 h4⟩
instance:Rep V0:=⟨fun hk ⟨pv,cv,hv,h1,h2,h3,h4,h5⟩=>⟨pv,cv,hv,h1,h2.le hk,h3.le hk,h4.le hk,h5⟩,fun ⟨pv,cv,hv,h1,h2,h3,h4,h5⟩ u hu=>by
 rw[h1] at hu;simp at hu;rcases hu with rfl | rfl | rfl | rfl | rfl | rfl | rfl | rfl
 ·rfl
 ·rfl
 ·exact A7 h2
 ·rfl
 ·rfl
 ·rfl
 ·exact A7 h3
 ·exact A7 h4⟩
end Go.Emb
