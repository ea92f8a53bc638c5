/- Parts of a proof about the given program: its functions as texts of their own, what each computes, plain laws of that. The conditions of each stand in its statement. -/
import Derived.Test.YtjdiakhipmggjaaGreatDoorB1
import Derived.Below
import Derived.Maps.AppendAt
set_option linter.unnecessarySimpa false
set_option linter.defProp false
set_option linter.unusedSectionVars false
set_option linter.unusedVariables false
set_option linter.unusedSimpArgs false
set_option maxRecDepth 100000
namespace Go.Proofs.YtjdiakhipmggjaaGreatDoor
open Go.Emb
def Ai:V5:=[none,none,none,none,none,none,some ([38],[4,5,6,38,39,40,41,42,43,44,45,46,47,48,49,50,51]),none,none,none,none,none,none,none]
def Og (a0 a1:Value) (w:World) (K:Value→World→Prop):Prop:= box P T.n a1 w fun e w=>dr w fun b d=>Q4 b (fun φ7=> ∀w,d w→fieldAddr P T.n e 0 w (dk b φ7 w)) fun φ7=>Q4 b (fun φ8=> ∀t7 w,d w→φ7 t7 w→Q2 P T.c t7 w (dk b φ8 w)) fun φ8=>Q4 b (fun φ9=> ∀t8 w,d w→φ8 t8 w→Q1 P F.c5 [t8] w (dk b φ9 w)) fun φ9=>Q4 b (fun g=> ∀t9 w,d w→φ9 t9 w→Q3 P .eql T.c (.tmp 9) (.const (.string ⟨#[]⟩)) t9 (.string ⟨#[]⟩) w (dk b g w)) fun g=>Q4 b (fun C=> ∀c w,d w→g c w→Q0 c true w (fun w J=>J a0 w) (dk b C w)) fun C=>Q4 b (fun t=> ∀c ah w,d w→g c w→C ah w→Q0 c true w (nilCheck P ah) (dk b t w)) fun t=>Q4 b (fun y=> ∀c D w,d w→g c w→t D w→Q0 c true w (fieldAddr P T.p D 0) (dk b y w)) fun y=>Q4 b (fun af=> ∀c w,d w→g c w→Q0 c true w (fieldAddr P T.n e 0) (dk b af w)) fun af=>Q4 b (fun aa=> ∀c p w,d w→g c w→y p w→Q0 c true w (Q2 P T.r p) (dk b aa w)) fun aa=>Q4 b (fun Y=> ∀c m w,d w→g c w→af m w→Q0 c true w (Q2 P T.c m) (dk b Y w)) fun Y=>Q4 b (fun z=> ∀c ai W w,d w→g c w→aa ai w→Y W w→Q0 c true w (Q1 P F.aE [ai,W]) (dk b z w)) fun z=>Q4 b (fun s=> ∀c ae w,d w→g c w→z ae w→Q0 c true w (J8 P .not ae) (dk b s w)) fun s=>Q4 b (fun f=> ∀c u w,d w→g c w→s u w→Q0 c true w (fun w J=>J u w) (dk b f w)) fun f=>Q4 b (fun N=> ∀a w,d w→f a w→Q0 a false w (fieldAddr P T.n e 1) (dk b N w)) fun N=>Q4 b (fun O=> ∀a w,d w→f a w→Q0 a false w (fun w J=>J a0 w) (dk b O w)) fun O=>Q4 b (fun Z=> ∀a U w,d w→f a w→O U w→Q0 a false w (nilCheck P U) (dk b Z w)) fun Z=>Q4 b (fun X=> ∀a r w,d w→f a w→Z r w→Q0 a false w (fieldAddr P T.p r 0) (dk b X w)) fun X=>Q4 b (fun i=> ∀a w,d w→f a w→Q0 a false w (fieldAddr P T.n e 0) (dk b i w)) fun i=>Q4 b (fun j=> ∀a q w,d w→f a w→N q w→Q0 a false w (Q2 P T.m q) (dk b j w)) fun j=>Q4 b (fun an=> ∀a Q w,d w→f a w→j Q w→Q0 a false w (X2 P .len [T.m] T.d [false] [Q]) (dk b an w)) fun an=>Q4 b (fun B=> ∀a L w,d w→f a w→X L w→Q0 a false w (Q2 P T.r L) (dk b B w)) fun B=>Q4 b (fun ag=> ∀a R w,d w→f a w→i R w→Q0 a false w (Q2 P T.c R) (dk b ag w)) fun ag=>Q4 b (fun ac=> ∀a v ab w,d w→f a w→B v w→ag ab w→Q0 a false w (Q1 P F.a3 [v,ab]) (dk b ac w)) fun ac=>Q4 b (fun ao=> ∀a V w,d w→f a w→ac V w→Q0 a false w (X2 P .len [T.k] T.d [false] [V]) (dk b ao w)) fun ao=>∀t7 t8 t9 c ah D p m ai W ae u a q U r L R Q ay v ab V av w,d w→φ7 t7 w→φ8 t8 w→φ9 t9 w→g c w→C ah w→t D w→y p w→af m w→aa ai w→Y W w→z ae w→s u w→f a w→N q w→O U w→Z r w→X L w→i R w→j Q w→an ay w→B v w→ag ab w→ac V w→ao av w→ Q0 a false w (Q3 P .neq T.d (.tmp 23) (.tmp 31) ay av) fun bc w=>Q0 c true w (pick P a (.bool true) bc) fun bf w=>pick P c bf (.bool false) w fun be w=>X1 be (K (.bool false) w) (fieldAddr P T.n e 1 w fun a9 w=>Q2 P T.m a9 w fun az w=>X2 P .len [T.m] T.d [false] [az] w fun bk w=>lp (α:=Value) (.int .i64 0) w fun k x6 d_ w=>Q3 P .lss T.d (.tmp 38) (.tmp 37) x6 bk w fun ba w=>X1 ba (indexAddr P T.m az x6 w fun bh w=>Q2 P T.g bh w fun bj w=>W0 P T.g w fun h w=>Y0 P T.g h bj w fun _u w=>dr w fun b d=>Q4 b (fun aj=> ∀w,d w→Q2 P T.g h w (dk b aj w)) fun aj=>Q4 b (fun H=> ∀w,d w→Q2 P T.n e w (dk b H w)) fun H=>Q4 b (fun am=> ∀M w,d w→H M w→Q1 P F.aD [a0,M,x6] w (dk b am w)) fun am=>∀ap M aq w,d w→aj ap w→H M w→am aq w→ Q1 P F.aC [a0,ap,aq] w fun bi w=>J8 P .not bi w fun bg w=>X1 bg (K (.bool false) w) (Q3 P .add T.d (.tmp 38) (.const (.int .i64 1)) x6 (.int .i64 1) w fun bb w=>k bb w)) (dr w fun b d=>Q4 b (fun n=> ∀w,d w→nilCheck P a0 w (dk b n w)) fun n=>Q4 b (fun ad=> ∀E w,d w→n E w→fieldAddr P T.p E 0 w (dk b ad w)) fun ad=>Q4 b (fun l=> ∀w,d w→fieldAddr P T.n e 0 w (dk b l w)) fun l=>Q4 b (fun ak=> ∀o w,d w→ad o w→Q2 P T.r o w (dk b ak w)) fun ak=>Q4 b (fun al=> ∀A w,d w→l A w→Q2 P T.c A w (dk b al w)) fun al=>∀E o A ax ar w,d w→n E w→ad o w→l A w→ak ax w→al ar w→ Q1 P F.s [ax,ar] w fun bd w=>K bd w))
theorem Tq {b a:Value} {w:World} {K:Value→World→Prop} (h:Og b a w K):Q1 P F.bD [b,a] w K:=Q9 Ai Tryz.func55 rfl (by decide) (by kernel_rfl) h
def Lc (g d:Value) (w:World) (K:Value→World→Prop):Prop:= box P T.n g w fun a w=>Q2 P T.a5 d w fun c w=>Q2 P T.n a w fun f w=>Q1 P F.bD [c,f] w fun b w=>J8 P .not b w fun e w=>K e w
theorem Gc {b a:Value} {w:World} {K:Value→World→Prop} (h:Lc b a w K):Q1 P F.cs [b,a] w K:=Q9 (List.replicate 2 none) Tryz.func54 rfl (by decide) (by kernel_rfl) h
def Ox (h:Value) (w:World) (K:Value→World→Prop):Prop:= box P T.a5 h w fun a w=>Q2 P T.a5 a w fun g w=>nilCheck P g w fun c w=>fieldAddr P T.p c 3 w fun e w=>Q2 P T.f e w fun b w=>H1 P (.func F.cs) [] [a] w fun d w=>Q1 P F.n [b,d] w fun f w=>J8 P .not f w fun i w=>K i w
theorem Av {a:Value} {w:World} {K:Value→World→Prop} (h:Ox a w K):Q1 P F.bz [a] w K:=Q9 (List.replicate 2 none) Tryz.func23 rfl (by decide) (by kernel_rfl) h
def Q32 (g a:Value) (w:World) (K:Value→World→Prop):Prop:= Q3 P .lss T.d (.tmp 6) (.const (.int .i64 0)) a (.int .i64 0) w fun b w=>Q0 b false w (fun w J=>J a w) fun h w=>Q0 b false w (Q3 P .gtr T.d (.tmp 9) (.const (.int .i64 1048576)) h (.int .i64 1048576)) fun c w=>pick P b (.bool true) c w fun d w=>X1 d (K (.tuple #[(.pointer none),(.int .i64 90)]) w) (H3 P T.p [(0,g),(1,a)] w fun e w=>box P T.p e w fun f w=>K (.tuple #[f,(.int .i64 0)]) w)
theorem Q7W {b a:Value} {w:World} {K:Value→World→Prop} (h:Q32 b a w K):Q1 P F.cO [b,a] w K:=Q9 (List.replicate 5 none) Tryz.func15 rfl (by decide) (by kernel_rfl) h
def Ip:V5:=[none,none,none,none,none,some ([1,3],[1,3,10,11,12,13,14,15,16,17,18,19,20,21,22,23]),none,none,none,none]
def Nt (w:World) (K:Value→World→Prop):Prop:= H3 P T.b [(0,(.string ⟨#[79,98,106,101,99,116]⟩))] w fun p w=>H3 P T.o [(0,(.string ⟨#[119,104,97,116]⟩)),(1,(.string ⟨#[116,101,120,116]⟩))] w fun m w=>buildSlice P T.k 1 [(0,m)] w fun o w=>H3 P T.b [(0,(.string ⟨#[70,97,117,108,116]⟩)),(1,(.string ⟨#[79,98,106,101,99,116]⟩)),(6,o)] w fun n w=>buildSlice P T.i 2 [(0,p),(1,n)] w fun l w=>buildSlice P T.h 6 [(0,(.string ⟨#[78,117,108,108,70,97,117,108,116]⟩)),(1,(.string ⟨#[73,110,100,101,120,70,97,117,108,116]⟩)),(2,(.string ⟨#[67,97,115,116,70,97,117,108,116]⟩)),(3,(.string ⟨#[90,101,114,111,70,97,117,108,116]⟩)),(4,(.string ⟨#[82,111,111,109,70,97,117,108,116]⟩)),(5,(.string ⟨#[67,97,108,108,70,97,117,108,116]⟩))] w fun k w=>lp (α:=Value×Value) (l,(.int .i64 0)) w fun a b q w=>X2 P .len [T.h] T.d [false] [k] w fun i w=>Q3 P .lss T.d (.tmp 10) (.tmp 12) b.2 i w fun h w=>X1 h (indexAddr P T.h k b.2 w fun e w=>Q2 P T.c e w fun f w=>H3 P T.b [(0,f),(1,(.string ⟨#[70,97,117,108,116]⟩)),(5,(.bool true))] w fun d w=>buildSlice P T.i 1 [(0,d)] w fun j w=>X2 P .append [T.i,T.i] T.i [false,false] [b.1,j] w fun g w=>Q3 P .add T.d (.tmp 14) (.const (.int .i64 1)) b.2 (.int .i64 1) w fun c w=>a (g,c) w) (K b.1 w)
theorem Kn {w:World} {K:Value→World→Prop} (h:Nt w K):Q1 P F.bn [] w K:=Q9 Ip Tryz.func99 rfl (by decide) (by kernel_rfl) h
def Q07:V5:=[none,none,none,some ([3],[2,3,4,5,6,7,8,9,10,11,12,13,14,15,16,17,18,19,20,21,22,23,24,25,26,27,28,29,30,31,32,33,34,35,36,37]),none,none,none,none,none,none,none]
def Ow (Z:Value) (w:World) (K:Value→World→Prop):Prop:= box P T.b Z w fun b w=>lp (α:=Value) (.int .i64 0) w fun g t d_ w=>fieldAddr P T.b b 7 w fun t6 w=>Q2 P T.j t6 w fun t7 w=>X2 P .len [T.j] T.d [false] [t7] w fun Y w=>Q3 P .lss T.d (.tmp 5) (.tmp 8) t Y w fun t9 w=>X1 t9 (fieldAddr P T.b b 7 w fun M w=>Q2 P T.j M w fun H w=>indexAddr P T.j H t w fun n w=>Q2 P T.e n w fun l w=>W0 P T.e w fun a w=>Y0 P T.e a l w fun _u w=>fieldAddr P T.e a 1 w fun s w=>Q2 P T.h s w fun B w=>X2 P .len [T.h] T.d [false] [B] w fun A w=>Q3 P .gtr T.d (.tmp 19) (.const (.int .i64 32)) A (.int .i64 32) w fun d w=>Q0 d false w (fieldAddr P T.e a 6) fun U w=>Q0 d false w (Q2 P T.s U) fun C w=>Q0 d false w (X2 P .len [T.s] T.d [false] [C]) fun q w=>Q0 d false w (Q3 P .gtr T.d (.tmp 24) (.const (.int .i64 32)) q (.int .i64 32)) fun v w=>pick P d (.bool true) v w fun f w=>Q0 f false w (fieldAddr P T.e a 5) fun o w=>Q0 f false w (Q2 P T.q o) fun y w=>Q0 f false w (X2 P .len [T.q] T.d [false] [y]) fun r w=>Q0 f false w (Q3 P .gtr T.d (.tmp 30) (.const (.int .i64 200)) r (.int .i64 200)) fun u w=>pick P f (.bool true) u w fun h w=>Q0 h false w (fieldAddr P T.e a 4) fun z w=>Q0 h false w (Q2 P T.d z) fun j w=>Q0 h false w (Q3 P .gtr T.d (.tmp 35) (.const (.int .i64 64)) j (.int .i64 64)) fun R w=>pick P h (.bool true) R w fun D w=>X1 D (K (.bool true) w) (Q3 P .add T.d (.tmp 10) (.const (.int .i64 1)) t (.int .i64 1) w fun N w=>g N w)) (fieldAddr P T.b b 2 w fun E w=>Q2 P T.h E w fun k w=>X2 P .len [T.h] T.d [false] [k] w fun X w=>Q3 P .gtr T.d (.tmp 40) (.const (.int .i64 32)) X (.int .i64 32) w fun c w=>Q0 c false w (fieldAddr P T.b b 6) fun O w=>Q0 c false w (Q2 P T.k O) fun i w=>Q0 c false w (X2 P .len [T.k] T.d [false] [i]) fun V w=>Q0 c false w (Q3 P .gtr T.d (.tmp 45) (.const (.int .i64 32)) V (.int .i64 32)) fun W w=>pick P c (.bool true) W w fun e w=>Q0 e false w (fieldAddr P T.b b 7) fun m w=>Q0 e false w (Q2 P T.j m) fun Q w=>Q0 e false w (X2 P .len [T.j] T.d [false] [Q]) fun p w=>Q0 e false w (Q3 P .gtr T.d (.tmp 51) (.const (.int .i64 32)) p (.int .i64 32)) fun J w=>pick P e (.bool true) J w fun L w=>K L w)
theorem Q0c {a:Value} {w:World} {K:Value→World→Prop} (h:Ow a w K):Q1 P F.bK [a] w K:=Q9 Q07 Tryz.func147 rfl (by decide) (by kernel_rfl) h
def Ao:V5:=[none,none,none,some ([0,3],[0,3,4,5,6,7,8,9,10,11,12,13,14,15,16,17,18,19,20,21]),none,none,none,none]
def Dl (o:Value) (w:World) (K:Value→World→Prop):Prop:= lp (α:=Value×Value) (o,(.int .i64 0)) w fun a b q w=>X2 P .len [T.c] T.d [false] [b.1] w fun n w=>Q3 P .geq T.d (.tmp 5) (.const (.int .i64 2)) n (.int .i64 2) w fun c w=>Q0 c true w (fun w J=>J b.1 w) fun m w=>Q0 c true w (fun w J=>J b.1 w) fun p w=>Q0 c true w (X2 P .len [T.c] T.d [false] [p]) fun e w=>Q0 c true w (Q3 P .sub T.d (.tmp 10) (.const (.int .i64 2)) e (.int .i64 2)) fun l w=>Q0 c true w (S1 P T.c m (some l) none none) fun k w=>Q0 c true w (Q3 P .eql T.c (.tmp 12) (.const (.string ⟨#[91,93]⟩)) k (.string ⟨#[91,93]⟩)) fun j w=>pick P c j (.bool false) w fun f w=>X1 f (Q3 P .add T.d (.tmp 15) (.const (.int .i64 1)) b.2 (.int .i64 1) w fun d w=>X2 P .len [T.c] T.d [false] [b.1] w fun h w=>Q3 P .sub T.d (.tmp 19) (.const (.int .i64 2)) h (.int .i64 2) w fun i w=>S1 P T.c b.1 none (some i) none w fun g w=>a (g,d) w) (K b.2 w)
theorem Ab {a:Value} {w:World} {K:Value→World→Prop} (h:Dl a w K):Q1 P F.a2 [a] w K:=Q9 Ao Tryz.func107 rfl (by decide) (by kernel_rfl) h
def Kj:V5:=[none,none,none,some ([4],[4,5,6,7]),none,none,none,none]
def Ny (a:Value) (w:World) (K:Value→World→Prop):Prop:= jn (α:=Value) w (fun b w=>Q3 P .eql T.c (.tmp 3) (.const (.string ⟨#[105,110,116]⟩)) a (.string ⟨#[105,110,116]⟩) w fun d w=>X1 d (b d w) (Q3 P .eql T.c (.tmp 3) (.const (.string ⟨#[98,111,111,108]⟩)) a (.string ⟨#[98,111,111,108]⟩) w fun c w=>X1 c (b c w) (Q3 P .eql T.c (.tmp 3) (.const (.string ⟨#[116,101,120,116]⟩)) a (.string ⟨#[116,101,120,116]⟩) w fun e w=>b e w))) fun f g w=>X1 f (K (.bool true) w) (K (.bool false) w)
theorem Ka {a:Value} {w:World} {K:Value→World→Prop} (h:Ny a w K):Q1 P F.y [a] w K:=Q9 Kj Tryz.func111 rfl (by decide) (by kernel_rfl) h
def Q03:V5:=[none,none,none,some ([3],[2,3,4,5,6,7,8,9,10,11,12,13,14,15,16,17,18,19,20,21,22,23,24,25,26,27,28,29,30,31,32,33,34,35,36,37,38,39,40,41,42,43,44,45,46,47,48,49,50]),none,none,none,none,none,none,none]
def Dg (i:Value) (w:World) (K:Value→World→Prop):Prop:= lp (α:=Value) (.int .i64 0) w fun g h d_ w=>X2 P .len [T.c] T.d [false] [i] w fun t7 w=>Q3 P .lss T.d (.tmp 5) (.tmp 7) h t7 w fun t8 w=>X1 t8 (C5 P T.c i h w fun R w=>Q3 P .geq T.a3 (.tmp 13) (.const (.int .u8 97)) R (.int .u8 97) w fun d w=>Q0 d true w (fun w J=>J i w) fun m w=>Q0 d true w (fun w J=>J h w) fun s w=>Q0 d true w (C5 P T.c m s) fun L w=>Q0 d true w (Q3 P .leq T.a3 (.tmp 18) (.const (.int .u8 122)) L (.int .u8 122)) fun D w=>pick P d D (.bool false) w fun b w=>Q0 b false w (fun w J=>J i w) fun Y w=>Q0 b false w (fun w J=>J h w) fun M w=>Q0 b false w (C5 P T.c Y M) fun q w=>Q0 b false w (Q3 P .geq T.a3 (.tmp 24) (.const (.int .u8 65)) q (.int .u8 65)) fun v w=>Q0 b false w (fun w J=>J v w) fun f w=>Q0 f true w (fun w J=>J i w) fun E w=>Q0 f true w (fun w J=>J h w) fun p w=>Q0 f true w (C5 P T.c E p) fun B w=>Q0 f true w (Q3 P .leq T.a3 (.tmp 29) (.const (.int .u8 90)) B (.int .u8 90)) fun r w=>Q0 b false w (pick P f r (.bool false)) fun u w=>pick P b (.bool true) u w fun y w=>J8 P .not y w fun a w=>Q0 a true w (fun w J=>J h w) fun X w=>Q0 a true w (Q3 P .eql T.d (.tmp 36) (.const (.int .i64 0)) X (.int .i64 0)) fun N w=>Q0 a true w (fun w J=>J N w) fun e w=>Q0 e false w (fun w J=>J i w) fun l w=>Q0 e false w (fun w J=>J h w) fun ab w=>Q0 e false w (C5 P T.c l ab) fun k w=>Q0 e false w (Q3 P .lss T.a3 (.tmp 41) (.const (.int .u8 48)) k (.int .u8 48)) fun A w=>Q0 a true w (pick P e (.bool true) A) fun V w=>Q0 a true w (fun w J=>J V w) fun c w=>Q0 c false w (fun w J=>J i w) fun Z w=>Q0 c false w (fun w J=>J h w) fun aa w=>Q0 c false w (C5 P T.c Z aa) fun Q w=>Q0 c false w (Q3 P .gtr T.a3 (.tmp 47) (.const (.int .u8 57)) Q (.int .u8 57)) fun O w=>Q0 a true w (pick P c (.bool true) O) fun n w=>pick P a n (.bool false) w fun W w=>X1 W (K (.bool false) w) (Q3 P .add T.d (.tmp 9) (.const (.int .i64 1)) h (.int .i64 1) w fun t w=>g t w)) (X2 P .len [T.c] T.d [false] [i] w fun U w=>Q3 P .geq T.d (.tmp 52) (.const (.int .i64 1)) U (.int .i64 1) w fun j w=>Q0 j true w (fun w J=>J i w) fun C w=>Q0 j true w (X2 P .len [T.c] T.d [false] [C]) fun H w=>Q0 j true w (Q3 P .leq T.d (.tmp 56) (.const (.int .i64 32)) H (.int .i64 32)) fun o w=>pick P j o (.bool false) w fun z w=>K z w)
theorem Ae {a:Value} {w:World} {K:Value→World→Prop} (h:Dg a w K):Q1 P F.aY [a] w K:=Q9 Q03 Tryz.func190 rfl (by decide) (by kernel_rfl) h
def Mh (b:Value) (w:World) (K:Value→World→Prop):Prop:= Q1 P F.aY [b] w fun a w=>Q0 a true w (fun w J=>J b w) fun c w=>Q0 a true w (C5 P T.c c (.int .i64 0)) fun d w=>Q0 a true w (Q3 P .leq T.a3 (.tmp 7) (.const (.int .u8 90)) d (.int .u8 90)) fun e w=>pick P a e (.bool false) w fun f w=>K f w
theorem Ij {a:Value} {w:World} {K:Value→World→Prop} (h:Mh a w K):Q1 P F.d [a] w K:=Q9 (List.replicate 2 none) Tryz.func160 rfl (by decide) (by kernel_rfl) h
def Md (j:Value) (w:World) (K:Value→World→Prop):Prop:= Q1 P F.a2 [j] w fun m w=>X2 P .len [T.c] T.d [false] [j] w fun n w=>Q3 P .mul T.d (.const (.int .i64 2)) (.tmp 10) (.int .i64 2) m w fun g w=>Q3 P .sub T.d (.tmp 9) (.tmp 11) n g w fun f w=>S1 P T.c j none (some f) none w fun c w=>Q3 P .leq T.d (.tmp 14) (.const (.int .i64 3)) m (.int .i64 3) w fun a w=>Q0 a true w (fun w J=>J c w) fun d w=>Q0 a true w (Q1 P F.y [d]) fun e w=>Q0 a true w (fun w J=>J e w) fun b w=>Q0 b false w (fun w J=>J c w) fun h w=>Q0 b false w (Q1 P F.d [h]) fun i w=>Q0 a true w (pick P b (.bool true) i) fun k w=>pick P a k (.bool false) w fun l w=>K l w
theorem Iq {a:Value} {w:World} {K:Value→World→Prop} (h:Md a w K):Q1 P F.e [a] w K:=Q9 (List.replicate 4 none) Tryz.func118 rfl (by decide) (by kernel_rfl) h
def Lt (b:Value) (w:World) (K:Value→World→Prop):Prop:= Q1 P F.aY [b] w fun a w=>Q0 a true w (fun w J=>J b w) fun c w=>Q0 a true w (C5 P T.c c (.int .i64 0)) fun d w=>Q0 a true w (Q3 P .geq T.a3 (.tmp 7) (.const (.int .u8 97)) d (.int .u8 97)) fun e w=>pick P a e (.bool false) w fun f w=>K f w
theorem Fx {a:Value} {w:World} {K:Value→World→Prop} (h:Lt a w K):Q1 P F.u [a] w K:=Q9 (List.replicate 2 none) Tryz.func181 rfl (by decide) (by kernel_rfl) h
def Oe (l c:Value) (w:World) (K:Value→World→Prop):Prop:= X2 P .len [T.c] T.d [false] [l] w fun n w=>Q3 P .lss T.d (.tmp 5) (.tmp 7) c n w fun b w=>Q0 b true w (fun w J=>J l w) fun f w=>Q0 b true w (fun w J=>J c w) fun i w=>Q0 b true w (C5 P T.c f i) fun h w=>Q0 b true w (Q3 P .geq T.a3 (.tmp 12) (.const (.int .u8 128)) h (.int .u8 128)) fun g w=>pick P b g (.bool false) w fun a w=>Q0 a true w (fun w J=>J l w) fun j w=>Q0 a true w (fun w J=>J c w) fun d w=>Q0 a true w (C5 P T.c j d) fun m w=>Q0 a true w (Q3 P .lss T.a3 (.tmp 18) (.const (.int .u8 192)) m (.int .u8 192)) fun e w=>pick P a e (.bool false) w fun k w=>K k w
theorem Pf {b a:Value} {w:World} {K:Value→World→Prop} (h:Oe b a w K):Q1 P F.r [b,a] w K:=Q9 (List.replicate 2 none) Tryz.func154 rfl (by decide) (by kernel_rfl) h
def Af:V5:=[none,none,some ([],[2,4,5,9,10,11,12,13,14,15,16,17,18,19,20,21,22,23,24,25,26,27,28,29,30,31,32,33,34,35,36,37,38,39,40,41,42,43,44,45,46,47,48,49,50,51,52,53,54,55,56,57,58,59,60,61,62,63,64,65,66,67,68,69,70,71,72,73,74,75,76,77,78,79,80,81,82,83,84,85,86,87,88,89,90,91,92,93,94,95,96,97,98,99,100,101,102,103,104,105,106]),none,none,none,none,none,none,none,none,none,none,none,none,none]
def Ou (c:Value) (w:World) (K:Value→World→Prop):Prop:= C5 P T.c c (.int .i64 0) w fun t7 w=>conv P T.a3 T.d t7 w fun N w=>jn (α:=Unit) w (fun J2 w=>Q3 P .lss T.d (.tmp 10) (.const (.int .i64 128)) N (.int .i64 128) w fun bl w=>X1 bl (K (.int .i64 1) w) (Q3 P .geq T.d (.tmp 13) (.const (.int .i64 194)) N (.int .i64 194) w fun ai w=>Q0 ai true w (fun w J=>J N w) fun ba w=>Q0 ai true w (Q3 P .lss T.d (.tmp 16) (.const (.int .i64 224)) ba (.int .i64 224)) fun bp w=>pick P ai bp (.bool false) w fun ax w=>Q0 ax true w (fun w J=>J c w) fun bu w=>Q0 ax true w (Q1 P F.r [bu,(.int .i64 1)]) fun be w=>pick P ax be (.bool false) w fun b1 w=>X1 b1 (K (.int .i64 2) w) (Q3 P .geq T.d (.tmp 24) (.const (.int .i64 224)) N (.int .i64 224) w fun aj w=>Q0 aj true w (fun w J=>J N w) fun bj w=>Q0 aj true w (Q3 P .lss T.d (.tmp 27) (.const (.int .i64 240)) bj (.int .i64 240)) fun bo w=>pick P aj bo (.bool false) w fun av w=>Q0 av true w (fun w J=>J c w) fun bq w=>Q0 av true w (Q1 P F.r [bq,(.int .i64 1)]) fun bg w=>pick P av bg (.bool false) w fun ak w=>Q0 ak true w (fun w J=>J c w) fun a8 w=>Q0 ak true w (Q1 P F.r [a8,(.int .i64 2)]) fun b0 w=>pick P ak b0 (.bool false) w fun bx w=>X1 bx (dr w fun a b=>Q4 a (fun j=> ∀w,b w→Q3 P .rem T.d (.tmp 38) (.const (.int .i64 16)) N (.int .i64 16) w (dk a j w)) fun j=>Q4 a (fun u=> ∀k w,b w→j k w→Q3 P .mul T.d (.tmp 39) (.const (.int .i64 4096)) k (.int .i64 4096) w (dk a u w)) fun u=>Q4 a (fun D=> ∀w,b w→C5 P T.c c (.int .i64 1) w (dk a D w)) fun D=>Q4 a (fun U=> ∀Y w,b w→D Y w→Q3 P .rem T.a3 (.tmp 42) (.const (.int .u8 64)) Y (.int .u8 64) w (dk a U w)) fun U=>Q4 a (fun H=> ∀w,b w→C5 P T.c c (.int .i64 2) w (dk a H w)) fun H=>Q4 a (fun o=> ∀y w,b w→H y w→Q3 P .rem T.a3 (.tmp 48) (.const (.int .u8 64)) y (.int .u8 64) w (dk a o w)) fun o=>Q4 a (fun s=> ∀ac w,b w→U ac w→conv P T.a3 T.d ac w (dk a s w)) fun s=>Q4 a (fun m=> ∀f w,b w→s f w→Q3 P .mul T.d (.tmp 44) (.const (.int .i64 64)) f (.int .i64 64) w (dk a m w)) fun m=>Q4 a (fun am=> ∀L E w,b w→u L w→m E w→Q3 P .add T.d (.tmp 40) (.tmp 45) L E w (dk a am w)) fun am=>Q4 a (fun ar=> ∀O w,b w→o O w→conv P T.a3 T.d O w (dk a ar w)) fun ar=>∀k L Y ac y O f E a4 a3 w,b w→j k w→u L w→D Y w→U ac w→H y w→o O w→s f w→m E w→am a4 w→ar a3 w→ Q3 P .add T.d (.tmp 46) (.tmp 50) a4 a3 w fun ah w=>Q3 P .geq T.d (.tmp 52) (.const (.int .i64 2048)) ah (.int .i64 2048) w fun d w=>Q0 d true w (fun w J=>J ah w) fun bs w=>Q0 d true w (Q3 P .lss T.d (.tmp 55) (.const (.int .i64 55296)) bs (.int .i64 55296)) fun bk w=>Q0 d true w (fun w J=>J bk w) fun aq w=>Q0 aq false w (fun w J=>J ah w) fun bh w=>Q0 aq false w (Q3 P .gtr T.d (.tmp 58) (.const (.int .i64 57343)) bh (.int .i64 57343)) fun a9 w=>Q0 d true w (pick P aq (.bool true) a9) fun bf w=>pick P d bf (.bool false) w fun bw w=>X1 bw (K (.int .i64 3) w) (J2 () w)) (Q3 P .geq T.d (.tmp 63) (.const (.int .i64 240)) N (.int .i64 240) w fun ao w=>Q0 ao true w (fun w J=>J N w) fun bb w=>Q0 ao true w (Q3 P .lss T.d (.tmp 66) (.const (.int .i64 245)) bb (.int .i64 245)) fun br w=>pick P ao br (.bool false) w fun an w=>Q0 an true w (fun w J=>J c w) fun bc w=>Q0 an true w (Q1 P F.r [bc,(.int .i64 1)]) fun bz w=>pick P an bz (.bool false) w fun ay w=>Q0 ay true w (fun w J=>J c w) fun bd w=>Q0 ay true w (Q1 P F.r [bd,(.int .i64 2)]) fun bi w=>pick P ay bi (.bool false) w fun al w=>Q0 al true w (fun w J=>J c w) fun bm w=>Q0 al true w (Q1 P F.r [bm,(.int .i64 3)]) fun bv w=>pick P al bv (.bool false) w fun bn w=>X1 bn (dr w fun a b=>Q4 a (fun aa=> ∀w,b w→Q3 P .rem T.d (.tmp 81) (.const (.int .i64 8)) N (.int .i64 8) w (dk a aa w)) fun aa=>Q4 a (fun ae=> ∀M w,b w→aa M w→Q3 P .mul T.d (.tmp 82) (.const (.int .i64 262144)) M (.int .i64 262144) w (dk a ae w)) fun ae=>Q4 a (fun Z=> ∀w,b w→C5 P T.c c (.int .i64 1) w (dk a Z w)) fun Z=>Q4 a (fun l=> ∀R w,b w→Z R w→Q3 P .rem T.a3 (.tmp 85) (.const (.int .u8 64)) R (.int .u8 64) w (dk a l w)) fun l=>Q4 a (fun Q=> ∀w,b w→C5 P T.c c (.int .i64 2) w (dk a Q w)) fun Q=>Q4 a (fun g=> ∀X w,b w→Q X w→Q3 P .rem T.a3 (.tmp 91) (.const (.int .u8 64)) X (.int .u8 64) w (dk a g w)) fun g=>Q4 a (fun af=> ∀w,b w→C5 P T.c c (.int .i64 3) w (dk a af w)) fun af=>Q4 a (fun B=> ∀i w,b w→af i w→Q3 P .rem T.a3 (.tmp 97) (.const (.int .u8 64)) i (.int .u8 64) w (dk a B w)) fun B=>Q4 a (fun r=> ∀ab w,b w→l ab w→conv P T.a3 T.d ab w (dk a r w)) fun r=>Q4 a (fun A=> ∀V w,b w→r V w→Q3 P .mul T.d (.tmp 87) (.const (.int .i64 4096)) V (.int .i64 4096) w (dk a A w)) fun A=>Q4 a (fun v=> ∀z p w,b w→ae z w→A p w→Q3 P .add T.d (.tmp 83) (.tmp 88) z p w (dk a v w)) fun v=>Q4 a (fun ad=> ∀t w,b w→g t w→conv P T.a3 T.d t w (dk a ad w)) fun ad=>Q4 a (fun C=> ∀W w,b w→ad W w→Q3 P .mul T.d (.tmp 93) (.const (.int .i64 64)) W (.int .i64 64) w (dk a C w)) fun C=>Q4 a (fun aw=> ∀h q w,b w→v h w→C q w→Q3 P .add T.d (.tmp 89) (.tmp 94) h q w (dk a aw w)) fun aw=>Q4 a (fun ap=> ∀n w,b w→B n w→conv P T.a3 T.d n w (dk a ap w)) fun ap=>∀M z R ab X t i n V p h W q a5 az w,b w→aa M w→ae z w→Z R w→l ab w→Q X w→g t w→af i w→B n w→r V w→A p w→v h w→ad W w→C q w→aw a5 w→ap az w→ Q3 P .add T.d (.tmp 95) (.tmp 99) a5 az w fun ag w=>Q3 P .geq T.d (.tmp 101) (.const (.int .i64 65536)) ag (.int .i64 65536) w fun e w=>Q0 e true w (fun w J=>J ag w) fun a6 w=>Q0 e true w (Q3 P .leq T.d (.tmp 104) (.const (.int .i64 1114111)) a6 (.int .i64 1114111)) fun a1 w=>pick P e a1 (.bool false) w fun a2 w=>X1 a2 (K (.int .i64 4) w) (J2 () w)) (J2 () w))))) fun z2 d_ w=>K (.int .i64 0) w
theorem Ax {a:Value} {w:World} {K:Value→World→Prop} (h:Ou a w K):Q1 P F.bH [a] w K:=Q9 Af Tryz.func113 rfl (by decide) (by kernel_rfl) h
def Td:V5:=[none,none,some ([0],[0,2,3,4,5,6,7,8,9,10,11,12]),none,none,none,none,none,none,none]
def Np (f:Value) (w:World) (K:Value→World→Prop):Prop:= lp (α:=Value) f w fun a b h w=>Q3 P .neq T.c (.tmp 4) (.const (.string ⟨#[]⟩)) b (.string ⟨#[]⟩) w fun e w=>X1 e (Q1 P F.bH [b] w fun d w=>Q3 P .eql T.d (.tmp 8) (.const (.int .i64 0)) d (.int .i64 0) w fun g w=>X1 g (K (.bool false) w) (S1 P T.c b (some d) none none w fun c w=>a c w)) (K (.bool true) w)
theorem Kw {a:Value} {w:World} {K:Value→World→Prop} (h:Np a w K):Q1 P F.aK [a] w K:=Q9 Td Tryz.func65 rfl (by decide) (by kernel_rfl) h
def Ec (w:World) (K:Value→World→Prop):Prop:= buildSlice P T.h 42 [(0,(.string ⟨#[105,110,116]⟩)),(1,(.string ⟨#[116,114,117,101]⟩)),(2,(.string ⟨#[102,97,108,115,101]⟩)),(3,(.string ⟨#[119,111,114,100]⟩)),(4,(.string ⟨#[110,117,108,108]⟩)),(5,(.string ⟨#[108,111,97,100]⟩)),(6,(.string ⟨#[115,116,111,114,101]⟩)),(7,(.string ⟨#[112,111,112]⟩)),(8,(.string ⟨#[100,117,112]⟩)),(9,(.string ⟨#[115,119,97,112]⟩)),(10,(.string ⟨#[97,100,100]⟩)),(11,(.string ⟨#[115,117,98]⟩)),(12,(.string ⟨#[109,117,108]⟩)),(13,(.string ⟨#[100,105,118]⟩)),(14,(.string ⟨#[114,101,109]⟩)),(15,(.string ⟨#[110,101,103]⟩)),(16,(.string ⟨#[108,101,115,115]⟩)),(17,(.string ⟨#[115,97,109,101]⟩)),(18,(.string ⟨#[110,111,116]⟩)),(19,(.string ⟨#[98,111,116,104]⟩)),(20,(.string ⟨#[106,111,105,110]⟩)),(21,(.string ⟨#[115,105,122,101]⟩)),(22,(.string ⟨#[106,117,109,112]⟩)),(23,(.string ⟨#[98,114,97,110,99,104]⟩)),(24,(.string ⟨#[110,101,119]⟩)),(25,(.string ⟨#[103,101,116]⟩)),(26,(.string ⟨#[112,117,116]⟩)),(27,(.string ⟨#[99,97,108,108]⟩)),(28,(.string ⟨#[97,114,114,97,121]⟩)),(29,(.string ⟨#[97,116]⟩)),(30,(.string ⟨#[115,101,116]⟩)),(31,(.string ⟨#[105,115]⟩)),(32,(.string ⟨#[99,97,115,116]⟩)),(33,(.string ⟨#[114,101,116,117,114,110]⟩)),(34,(.string ⟨#[116,104,114,111,119]⟩)),(35,(.string ⟨#[111,117,116]⟩)),(36,(.string ⟨#[101,113,117,97,108]⟩)),(37,(.string ⟨#[97,110,100]⟩)),(38,(.string ⟨#[111,114]⟩)),(39,(.string ⟨#[120,111,114]⟩)),(40,(.string ⟨#[115,104,108]⟩)),(41,(.string ⟨#[115,104,114]⟩))] w fun a w=>K a w
theorem Q0t {w:World} {K:Value→World→Prop} (h:Ec w K):Q1 P F.bW [] w K:=Q9 (List.replicate 2 none) Tryz.func233 rfl (by decide) (by kernel_rfl) h
def Fo:V5:=[none,none,none,none,some ([4],[2,4,6,7,8,9,10,11,12,13,14,15,16,17,18]),none,none,none,none,none,none]
def Ll (i:Value) (w:World) (K:Value→World→Prop):Prop:= Q1 P F.bW [] w fun g w=>lp (α:=Value) (.int .i64 0) w fun a b k w=>X2 P .len [T.h] T.d [false] [g] w fun h w=>Q3 P .lss T.d (.tmp 6) (.tmp 8) b h w fun j w=>X1 j (indexAddr P T.h g b w fun d w=>Q2 P T.c d w fun f w=>Q3 P .eql T.c (.tmp 15) (.tmp 16) f i w fun c w=>X1 c (K b w) (Q3 P .add T.d (.tmp 10) (.const (.int .i64 1)) b (.int .i64 1) w fun e w=>a e w)) (K (.int .i64 (-1)) w)
theorem Gk {a:Value} {w:World} {K:Value→World→Prop} (h:Ll a w K):Q1 P F.bg [a] w K:=Q9 Fo Tryz.func230 rfl (by decide) (by kernel_rfl) h
def Ih:V5:=[none,none,none,some ([4],[4,5,6,7,8,9]),none,none,none,none,none,some ([10],[10,11,12,13,14,15,16,17,18]),none,none,none,none,none,none,none,none,none,none,none,none]
def Nu (a:Value) (w:World) (K:Value→World→Prop):Prop:= jn (α:=Value) w (fun f w=>Q3 P .eql T.c (.tmp 3) (.const (.string ⟨#[105,110,116]⟩)) a (.string ⟨#[105,110,116]⟩) w fun o w=>X1 o (f o w) (Q3 P .eql T.c (.tmp 3) (.const (.string ⟨#[108,111,97,100]⟩)) a (.string ⟨#[108,111,97,100]⟩) w fun q w=>X1 q (f q w) (Q3 P .eql T.c (.tmp 3) (.const (.string ⟨#[115,116,111,114,101]⟩)) a (.string ⟨#[115,116,111,114,101]⟩) w fun p w=>X1 p (f p w) (Q3 P .eql T.c (.tmp 3) (.const (.string ⟨#[106,117,109,112]⟩)) a (.string ⟨#[106,117,109,112]⟩) w fun n w=>X1 n (f n w) (Q3 P .eql T.c (.tmp 3) (.const (.string ⟨#[98,114,97,110,99,104]⟩)) a (.string ⟨#[98,114,97,110,99,104]⟩) w fun u w=>f u w))))) fun r t w=>X1 r (K (.int .i64 1) w) (jn (α:=Value) w (fun b w=>Q3 P .eql T.c (.tmp 3) (.const (.string ⟨#[119,111,114,100]⟩)) a (.string ⟨#[119,111,114,100]⟩) w fun i w=>X1 i (b i w) (Q3 P .eql T.c (.tmp 3) (.const (.string ⟨#[110,101,119]⟩)) a (.string ⟨#[110,101,119]⟩) w fun h w=>X1 h (b h w) (Q3 P .eql T.c (.tmp 3) (.const (.string ⟨#[103,101,116]⟩)) a (.string ⟨#[103,101,116]⟩) w fun g w=>X1 g (b g w) (Q3 P .eql T.c (.tmp 3) (.const (.string ⟨#[112,117,116]⟩)) a (.string ⟨#[112,117,116]⟩) w fun e w=>X1 e (b e w) (Q3 P .eql T.c (.tmp 3) (.const (.string ⟨#[99,97,108,108]⟩)) a (.string ⟨#[99,97,108,108]⟩) w fun j w=>X1 j (b j w) (Q3 P .eql T.c (.tmp 3) (.const (.string ⟨#[97,114,114,97,121]⟩)) a (.string ⟨#[97,114,114,97,121]⟩) w fun c w=>X1 c (b c w) (Q3 P .eql T.c (.tmp 3) (.const (.string ⟨#[105,115]⟩)) a (.string ⟨#[105,115]⟩) w fun d w=>X1 d (b d w) (Q3 P .eql T.c (.tmp 3) (.const (.string ⟨#[99,97,115,116]⟩)) a (.string ⟨#[99,97,115,116]⟩) w fun m w=>b m w)))))))) fun s t w=>X1 s (K (.int .i64 2) w) (Q1 P F.bg [a] w fun l w=>Q3 P .lss T.d (.tmp 20) (.const (.int .i64 0)) l (.int .i64 0) w fun k w=>X1 k (K (.int .i64 (-1)) w) (K (.int .i64 0) w)))
theorem Kz {a:Value} {w:World} {K:Value→World→Prop} (h:Nu a w K):Q1 P F.bv [a] w K:=Q9 Ih Tryz.func225 rfl (by decide) (by kernel_rfl) h
def Pr:V5:=[none,none,none,some ([5],[2,3,4,5,6,7,8,9,10,11,12,13,14,15,16,17,18,19,20,21,22,23,24,25,26,27,28,29,30,31,32,33]),none,none,none,none,none,none]
def Mn (z:Value) (w:World) (K:Value→World→Prop):Prop:= lp (α:=Value) (.int .i64 0) w fun h u N w=>X2 P .len [T.c] T.d [false] [z] w fun L w=>Q3 P .lss T.d (.tmp 6) (.tmp 8) u L w fun M w=>X1 M (C5 P T.c z u w fun E w=>Q3 P .eql T.a3 (.tmp 14) (.const (.int .u8 46)) E (.int .u8 46) w fun D w=>X1 D (dr w fun b d=>Q4 b (fun y=> ∀w,d w→S1 P T.c z none (some u) none w (dk b y w)) fun y=>Q4 b (fun f=> ∀w,d w→Q3 P .add T.d (.tmp 20) (.const (.int .i64 1)) u (.int .i64 1) w (dk b f w)) fun f=>Q4 b (fun t=> ∀l w,d w→f l w→S1 P T.c z (some l) none none w (dk b t w)) fun t=>Q4 b (fun m=> ∀w,d w→S1 P T.c z none (some u) none w (dk b m w)) fun m=>Q4 b (fun c=> ∀n w,d w→m n w→Q1 P F.d [n] w (dk b c w)) fun c=>Q4 b (fun e=> ∀a w,d w→c a w→Q0 a true w (fun w J=>J z w) (dk b e w)) fun e=>Q4 b (fun s=> ∀a w,d w→c a w→Q0 a true w (fun w J=>J u w) (dk b s w)) fun s=>Q4 b (fun p=> ∀a q w,d w→c a w→s q w→Q0 a true w (Q3 P .add T.d (.tmp 29) (.const (.int .i64 1)) q (.int .i64 1)) (dk b p w)) fun p=>Q4 b (fun r=> ∀a i j w,d w→c a w→e i w→p j w→Q0 a true w (S1 P T.c i (some j) none none) (dk b r w)) fun r=>Q4 b (fun g=> ∀a k w,d w→c a w→r k w→Q0 a true w (Q1 P F.u [k]) (dk b g w)) fun g=>Q4 b (fun v=> ∀a o w,d w→c a w→g o w→pick P a o (.bool false) w (dk b v w)) fun v=>∀B l C n a i q j k o A w,d w→y B w→f l w→t C w→m n w→c a w→e i w→s q w→p j w→r k w→g o w→v A w→ K (.tuple #[B,C,A]) w) (Q3 P .add T.d (.tmp 10) (.const (.int .i64 1)) u (.int .i64 1) w fun H w=>h H w)) (K (.tuple #[(.string ⟨#[]⟩),(.string ⟨#[]⟩),(.bool false)]) w)
theorem Kt {a:Value} {w:World} {K:Value→World→Prop} (h:Mn a w K):Q1 P F.bw [a] w K:=Q9 Pr Tryz.func226 rfl (by decide) (by kernel_rfl) h
def Tc:V5:=[none,none,none,none,none,none,some ([4],[4,5,6,7,8,30,31,32,33,34,35,36,37,38,39,40,41,42,43,44,45,46,47,48,49,50,51,52,53,54,55,56,57,58,59,60,61,62,63,64,65,66,67,68,69,70,71,72,73,74,75,76,77,78,79,80,81,82,83,84,85,86,87,88,89,90,91,92,93,94,95,96,97,98,99,100,101,102,103,104,105,106,107,108,109,110]),none,none,none,none,none,some ([4,5],[4,5,59,60,61,62,63,64,65,66,67,68,69,70,71,72,73]),none,none,none,none,some ([82],[82,83,84]),none,none,none,none,none,none,none]
def Ms (a0:Value) (w:World) (K:Value→World→Prop):Prop:= box P T.v a0 w fun d w=>fieldAddr P T.v d 0 w fun t9 w=>Q2 P T.c t9 w fun ax w=>Q1 P F.bv [ax] w fun k w=>Q3 P .lss T.d (.tmp 12) (.const (.int .i64 0)) k (.int .i64 0) w fun ae w=>X1 ae (K (.int .i64 40) w) (Q3 P .eql T.d (.tmp 14) (.const (.int .i64 1)) k (.int .i64 1) w fun i w=>Q0 i false w (fieldAddr P T.v d 1) fun aw w=>Q0 i false w (Q2 P T.a0 aw) fun a6 w=>Q0 i false w (Q3 P .eql T.a0 (.tmp 18) (.const (.int .i64 0)) a6 (.int .i64 0)) fun ab w=>pick P i (.bool true) ab w fun h w=>Q0 h true w (fun w J=>J k w) fun be w=>Q0 h true w (Q3 P .eql T.d (.tmp 22) (.const (.int .i64 2)) be (.int .i64 2)) fun a8 w=>Q0 h true w (fun w J=>J a8 w) fun l w=>Q0 l false w (fieldAddr P T.v d 2) fun W w=>Q0 l false w (Q2 P T.c W) fun ag w=>Q0 l false w (Q3 P .eql T.c (.tmp 26) (.const (.string ⟨#[]⟩)) ag (.string ⟨#[]⟩)) fun ac w=>Q0 h true w (pick P l (.bool true) ac) fun aq w=>pick P h aq (.bool false) w fun a w=>jn (α:=Value) w (fun n w=>Q3 P .eql T.d (.tmp 30) (.const (.int .i64 2)) k (.int .i64 2) w fun ay w=>X1 ay (fieldAddr P T.v d 0 w fun X w=>Q2 P T.c X w fun f w=>Q3 P .eql T.c (.tmp 33) (.const (.string ⟨#[119,111,114,100]⟩)) f (.string ⟨#[119,111,114,100]⟩) w fun ak w=>X1 ak (Q0 a true w (fieldAddr P T.v d 2) fun ao w=>Q0 a true w (Q2 P T.c ao) fun ah w=>Q0 a true w (X2 P .len [T.c] T.d [false] [ah]) fun N w=>Q0 a true w (Q3 P .leq T.d (.tmp 51) (.const (.int .i64 64)) N (.int .i64 64)) fun bb w=>pick P a bb (.bool false) w fun j w=>Q0 j true w (fieldAddr P T.v d 2) fun a2 w=>Q0 j true w (Q2 P T.c a2) fun ad w=>Q0 j true w (Q1 P F.aK [ad]) fun ap w=>pick P j ap (.bool false) w fun Y w=>lp (α:=Value×Value) (Y,(.int .i64 0)) w fun g b d_ w=>fieldAddr P T.v d 2 w fun V w=>Q2 P T.c V w fun a7 w=>X2 P .len [T.c] T.d [false] [a7] w fun O w=>Q3 P .lss T.d (.tmp 59) (.tmp 62) b.2 O w fun av w=>X1 av (Q0 b.1 true w (fieldAddr P T.v d 2) fun ai w=>Q0 b.1 true w (Q2 P T.c ai) fun a5 w=>Q0 b.1 true w (fun w J=>J b.2 w) fun R w=>Q0 b.1 true w (C5 P T.c a5 R) fun ba w=>Q0 b.1 true w (Q3 P .neq T.a3 (.tmp 71) (.const (.int .u8 10)) ba (.int .u8 10)) fun a9 w=>pick P b.1 a9 (.bool false) w fun af w=>Q3 P .add T.d (.tmp 64) (.const (.int .i64 1)) b.2 (.int .i64 1) w fun a3 w=>g (af,a3) w) (n b.1 w)) (Q3 P .eql T.c (.tmp 33) (.const (.string ⟨#[110,101,119]⟩)) f (.string ⟨#[110,101,119]⟩) w fun aa w=>X1 aa (Q0 a true w (fieldAddr P T.v d 2) fun am w=>Q0 a true w (Q2 P T.c am) fun a4 w=>Q0 a true w (Q1 P F.d [a4]) fun an w=>pick P a an (.bool false) w fun D w=>n D w) (jn (α:=Value) w (fun y w=>Q3 P .eql T.c (.tmp 33) (.const (.string ⟨#[105,115]⟩)) f (.string ⟨#[105,115]⟩) w fun u w=>X1 u (y u w) (Q3 P .eql T.c (.tmp 33) (.const (.string ⟨#[99,97,115,116]⟩)) f (.string ⟨#[99,97,115,116]⟩) w fun L w=>y L w)) fun aj d_ w=>X1 aj (Q0 a true w (fieldAddr P T.v d 2) fun az w=>Q0 a true w (Q2 P T.c az) fun Q w=>Q0 a true w (Q1 P F.e [Q]) fun C w=>pick P a C (.bool false) w fun e w=>Q0 e true w (fieldAddr P T.v d 2) fun Z w=>Q0 e true w (Q2 P T.c Z) fun a1 w=>Q0 e true w (Q1 P F.y [a1]) fun U w=>Q0 e true w (J8 P .not U) fun ar w=>pick P e ar (.bool false) w fun H w=>n H w) (Q3 P .eql T.c (.tmp 33) (.const (.string ⟨#[97,114,114,97,121]⟩)) f (.string ⟨#[97,114,114,97,121]⟩) w fun M w=>X1 M (Q0 a true w (fieldAddr P T.v d 2) fun r w=>Q0 a true w (Q2 P T.c r) fun z w=>Q0 a true w (Q1 P F.e [z]) fun A w=>pick P a A (.bool false) w fun c w=>Q0 c true w (fieldAddr P T.v d 2) fun s w=>Q0 c true w (Q2 P T.c s) fun o w=>Q0 c true w (Q1 P F.a2 [o]) fun p w=>Q0 c true w (Q3 P .lss T.d (.tmp 108) (.const (.int .i64 3)) p (.int .i64 3)) fun v w=>pick P c v (.bool false) w fun t w=>n t w) (fieldAddr P T.v d 2 w fun E w=>Q2 P T.c E w fun bd w=>Q1 P F.bw [bd] w fun m w=>ext P m 0 w fun bk w=>ext P m 1 w fun bg w=>ext P m 2 w fun al w=>Q0 a true w (fun w J=>J al w) fun bc w=>pick P a bc (.bool false) w fun B w=>n B w))))) (n a w)) fun z6 d_ w=>J8 P .not z6 w fun q w=>X1 q (K (.int .i64 41) w) (K (.int .i64 0) w))
theorem Po {a:Value} {w:World} {K:Value→World→Prop} (h:Ms a w K):Q1 P F.bu [a] w K:=Q9 Tc Tryz.func215 rfl (by decide) (by kernel_rfl) h
def Q13:V5:=[none,none,none,some ([3],[2,3,4,5,6,7,8,9,10,11,12,13,14,15,16,17,18]),none,none,none,none,none,none,none]
def El (h:Value) (w:World) (K:Value→World→Prop):Prop:= lp (α:=Value) (.int .i64 0) w fun a e k w=>X2 P .len [T.q] T.d [false] [h] w fun i w=>Q3 P .lss T.d (.tmp 5) (.tmp 7) e i w fun j w=>X1 j (indexAddr P T.q h e w fun f w=>Q2 P T.v f w fun g w=>Q1 P F.bu [g] w fun b w=>Q3 P .neq T.w (.tmp 16) (.const (.int .i64 0)) b (.int .i64 0) w fun c w=>X1 c (K b w) (Q3 P .add T.d (.tmp 9) (.const (.int .i64 1)) e (.int .i64 1) w fun d w=>a d w)) (K (.int .i64 0) w)
theorem Q18 {a:Value} {w:World} {K:Value→World→Prop} (h:El a w K):Q1 P F.b3 [a] w K:=Q9 Q13 Tryz.func203 rfl (by decide) (by kernel_rfl) h
def Gw:V5:=[none,none,none,none,some ([3,4],[3,4,21,22,23,24,25,26,27,28,29,30,31,32,33,34,35,36]),none,none,none,none,none,none,none,none,none,some ([3,6],[3,6,7,60,61,62,63,64,65,66,67,68,69,70,71,72,73,74,75,76,77,78,79,80,81,82,83,84,85,86,87,88,89,90,91,92,93,94,95,96,97,98,99,100,101,102,103,104,105,106]),none,none,none,none,none]
def Lk (a0:Value) (w:World) (K:Value→World→Prop):Prop:= box P T.e a0 w fun e w=>fieldAddr P T.e e 0 w fun t8 w=>Q2 P T.c t8 w fun t9 w=>Q1 P F.u [t9] w fun h w=>Q0 h true w (fieldAddr P T.e e 2) fun bw w=>Q0 h true w (Q2 P T.c bw) fun az w=>Q0 h true w (Q3 P .eql T.c (.tmp 13) (.const (.string ⟨#[]⟩)) az (.string ⟨#[]⟩)) fun ag w=>Q0 h true w (fun w J=>J ag w) fun o w=>Q0 o false w (fieldAddr P T.e e 2) fun Y w=>Q0 o false w (Q2 P T.c Y) fun bd w=>Q0 o false w (Q1 P F.e [bd]) fun bm w=>Q0 h true w (pick P o (.bool true) bm) fun ap w=>pick P h ap (.bool false) w fun bk w=>lp (α:=Value×Value) (bk,(.int .i64 0)) w fun p d d_ w=>fieldAddr P T.e e 1 w fun b0 w=>Q2 P T.h b0 w fun bo w=>X2 P .len [T.h] T.d [false] [bo] w fun ba w=>Q3 P .lss T.d (.tmp 21) (.tmp 24) d.2 ba w fun ai w=>X1 ai (Q0 d.1 true w (fieldAddr P T.e e 1) fun bc w=>Q0 d.1 true w (Q2 P T.h bc) fun be w=>Q0 d.1 true w (fun w J=>J d.2 w) fun aj w=>Q0 d.1 true w (indexAddr P T.h be aj) fun ao w=>Q0 d.1 true w (Q2 P T.c ao) fun an w=>Q0 d.1 true w (Q1 P F.e [an]) fun X w=>pick P d.1 X (.bool false) w fun bz w=>Q3 P .add T.d (.tmp 26) (.const (.int .i64 1)) d.2 (.int .i64 1) w fun ar w=>p (bz,ar) w) (fieldAddr P T.e e 3 w fun bp w=>Q2 P T.u bp w fun br w=>X1 br (Q0 d.1 true w (fieldAddr P T.e e 4) fun a5 w=>Q0 d.1 true w (Q2 P T.d a5) fun bg w=>Q0 d.1 true w (Q3 P .eql T.d (.tmp 42) (.const (.int .i64 0)) bg (.int .i64 0)) fun bx w=>pick P d.1 bx (.bool false) w fun i w=>Q0 i true w (fieldAddr P T.e e 5) fun a3 w=>Q0 i true w (Q2 P T.q a3) fun bs w=>Q0 i true w (X2 P .len [T.q] T.d [false] [bs]) fun aw w=>Q0 i true w (Q3 P .eql T.d (.tmp 48) (.const (.int .i64 0)) aw (.int .i64 0)) fun a8 w=>pick P i a8 (.bool false) w fun k w=>Q0 k true w (fieldAddr P T.e e 6) fun bv w=>Q0 k true w (Q2 P T.s bv) fun a1 w=>Q0 k true w (X2 P .len [T.s] T.d [false] [a1]) fun af w=>Q0 k true w (Q3 P .eql T.d (.tmp 54) (.const (.int .i64 0)) af (.int .i64 0)) fun bj w=>pick P k bj (.bool false) w fun av w=>K av w) (fieldAddr P T.e e 5 w fun a9 w=>Q2 P T.q a9 w fun ak w=>X2 P .len [T.q] T.d [false] [ak] w fun r w=>lp (α:=Value×Value) (d.1,(.int .i64 0)) w fun l b d_ w=>fieldAddr P T.e e 6 w fun bn w=>Q2 P T.s bn w fun aa w=>X2 P .len [T.s] T.d [false] [aa] w fun bb w=>Q3 P .lss T.d (.tmp 60) (.tmp 63) b.2 bb w fun a6 w=>X1 a6 (fieldAddr P T.e e 6 w fun bi w=>Q2 P T.s bi w fun a2 w=>indexAddr P T.s a2 b.2 w fun ad w=>Q2 P T.t ad w fun bu w=>W0 P T.t w fun q w=>Y0 P T.t q bu w fun _u w=>Q0 b.1 true w (fieldAddr P T.t q 0) fun ae w=>Q0 b.1 true w (Q2 P T.d ae) fun am w=>Q0 b.1 true w (Q3 P .geq T.d (.tmp 75) (.const (.int .i64 0)) am (.int .i64 0)) fun ax w=>pick P b.1 ax (.bool false) w fun g w=>Q0 g true w (fieldAddr P T.t q 0) fun bl w=>Q0 g true w (Q2 P T.d bl) fun a7 w=>Q0 g true w (fieldAddr P T.t q 1) fun W w=>Q0 g true w (Q2 P T.d W) fun a4 w=>Q0 g true w (Q3 P .lss T.d (.tmp 80) (.tmp 82) a7 a4) fun ay w=>pick P g ay (.bool false) w fun j w=>Q0 j true w (fieldAddr P T.t q 1) fun bq w=>Q0 j true w (Q2 P T.d bq) fun bf w=>Q0 j true w (fun w J=>J r w) fun ab w=>Q0 j true w (Q3 P .leq T.d (.tmp 87) (.tmp 88) bf ab) fun U w=>pick P j U (.bool false) w fun n w=>Q0 n true w (fieldAddr P T.t q 2) fun al w=>Q0 n true w (Q2 P T.d al) fun bh w=>Q0 n true w (Q3 P .geq T.d (.tmp 93) (.const (.int .i64 0)) bh (.int .i64 0)) fun ah w=>pick P n ah (.bool false) w fun m w=>Q0 m true w (fieldAddr P T.t q 2) fun V w=>Q0 m true w (Q2 P T.d V) fun Z w=>Q0 m true w (fun w J=>J r w) fun aq w=>Q0 m true w (Q3 P .lss T.d (.tmp 98) (.tmp 99) Z aq) fun Q w=>pick P m Q (.bool false) w fun f w=>Q0 f true w (fieldAddr P T.t q 3) fun O w=>Q0 f true w (Q2 P T.c O) fun R w=>Q0 f true w (Q1 P F.d [R]) fun y w=>pick P f y (.bool false) w fun z w=>Q3 P .add T.d (.tmp 65) (.const (.int .i64 1)) b.2 (.int .i64 1) w fun ac w=>l (z,ac) w) (Q0 b.1 true w (fun w J=>J r w) fun C w=>Q0 b.1 true w (Q3 P .gtr T.d (.tmp 109) (.const (.int .i64 0)) C (.int .i64 0)) fun A w=>pick P b.1 A (.bool false) w fun a w=>Q0 a true w (fieldAddr P T.e e 4) fun B w=>Q0 a true w (Q2 P T.d B) fun H w=>Q0 a true w (fieldAddr P T.e e 1) fun M w=>Q0 a true w (Q2 P T.h M) fun D w=>Q0 a true w (X2 P .len [T.h] T.d [false] [D]) fun u w=>Q0 a true w (Q3 P .gtr T.d (.tmp 114) (.tmp 117) H u) fun E w=>pick P a E (.bool false) w fun c w=>Q0 c true w (fieldAddr P T.e e 5) fun t w=>Q0 c true w (Q2 P T.q t) fun L w=>Q0 c true w (Q1 P F.b3 [L]) fun v w=>Q0 c true w (Q3 P .eql T.w (.tmp 123) (.const (.int .i64 0)) v (.int .i64 0)) fun s w=>pick P c s (.bool false) w fun N w=>K N w)))
theorem Ib {a:Value} {w:World} {K:Value→World→Prop} (h:Lk a w K):Q1 P F.a5 [a] w K:=Q9 Gw Tryz.func182 rfl (by decide) (by kernel_rfl) h
end Go.Proofs.YtjdiakhipmggjaaGreatDoor

set_option maxRecDepth 100000
namespace Go.Proofs.YtjdiakhipmggjaaGreatDoor
open Go.Emb
def Il:V5:=[none,none,none,none,some ([3,4],[3,4,5,26,27,28,29,30,31,32,33,34,35,36,37,38,39,40,41,42,43,44,45,46,47,48,49,50,51,52,53,54,55,56,57,58,59,60,61,62,63,64,65,66,67,68,69,70]),none,none,none,none,none,some ([3,5],[3,5,52,53,54,55,56,57,58,59,60,61,62,63,64,65,66,67,68,69,70]),none,none,none,none,none,some ([3,6],[3,6,7,71,72,73,74,75,76,77,78,79,80,81,82,83,84,85,86,87,88,89,90,91,92,93,94,95,96,97,98,99,100,101,102,103,104,105,106,107,108,109,110,111,112,113,114,115,116,117,118,119,120,121,122]),none,none,none,none,none,some ([3,7],[3,7,102,103,104,105,106,107,108,109,110,111,112,113,114,115,116,117,118,119,120,121,122]),none,none,none,none,none,some ([3,8],[3,8,9,10,123,124,125,126,127,128,129,130,131,132,133,134,135,136,137,138,139,140,141,142,143,144,145,146,147,148,149,150,151,152,153,154,155,156,157,158,159,160,161,162,163,164,165,166,167,168,169,170,171,172,173,174]),none,none,none,none,none,none,some ([3,10],[3,10,158,159,160,161,162,163,164,165,166,167,168,169,170,171,172,173,174]),none,none,none,none]
def Mw (a0:Value) (w:World) (K:Value→World→Prop):Prop:= box P T.b a0 w fun i w=>fieldAddr P T.b i 0 w fun e1 w=>Q2 P T.c e1 w fun e8 w=>Q1 P F.d [e8] w fun bx w=>Q0 bx true w (fieldAddr P T.b i 1) fun e9 w=>Q0 bx true w (Q2 P T.c e9) fun es w=>Q0 bx true w (Q1 P F.d [es]) fun ei w=>pick P bx ei (.bool false) w fun ah w=>Q0 ah true w (fieldAddr P T.b i 0) fun e7 w=>Q0 ah true w (Q2 P T.c e7) fun d7 w=>Q0 ah true w (fieldAddr P T.b i 1) fun e3 w=>Q0 ah true w (Q2 P T.c e3) fun eo w=>Q0 ah true w (Q3 P .neq T.c (.tmp 21) (.tmp 23) d7 eo) fun eg w=>pick P ah eg (.bool false) w fun ex w=>lp (α:=Value×Value) (ex,(.int .i64 0)) w fun a3 B d_ w=>fieldAddr P T.b i 2 w fun ez w=>Q2 P T.h ez w fun e4 w=>X2 P .len [T.h] T.d [false] [e4] w fun ek w=>Q3 P .lss T.d (.tmp 26) (.tmp 29) B.2 ek w fun eh w=>X1 eh (dr w fun a b=>Q4 a (fun a2=> ∀w,b w→Q0 B.1 true w (fieldAddr P T.b i 2) (dk a a2 w)) fun a2=>Q4 a (fun bu=> ∀w,b w→Q0 B.1 true w (fun w J=>J B.2 w) (dk a bu w)) fun bu=>Q4 a (fun bc=> ∀ax w,b w→a2 ax w→Q0 B.1 true w (Q2 P T.h ax) (dk a bc w)) fun bc=>Q4 a (fun be=> ∀b4 bi w,b w→bc b4 w→bu bi w→Q0 B.1 true w (indexAddr P T.h b4 bi) (dk a be w)) fun be=>Q4 a (fun bn=> ∀b2 w,b w→be b2 w→Q0 B.1 true w (Q2 P T.c b2) (dk a bn w)) fun bn=>Q4 a (fun bw=> ∀bp w,b w→bn bp w→Q0 B.1 true w (Q1 P F.d [bp]) (dk a bw w)) fun bw=>Q4 a (fun j=> ∀ba w,b w→bw ba w→pick P B.1 ba (.bool false) w (dk a j w)) fun j=>Q4 a (fun bd=> ∀c w,b w→j c w→Q0 c true w (fieldAddr P T.b i 2) (dk a bd w)) fun bd=>Q4 a (fun bq=> ∀c w,b w→j c w→Q0 c true w (fun w J=>J B.2 w) (dk a bq w)) fun bq=>Q4 a (fun a9=> ∀c w,b w→j c w→Q0 c true w (fieldAddr P T.b i 0) (dk a a9 w)) fun a9=>Q4 a (fun az=> ∀c b3 w,b w→j c w→bd b3 w→Q0 c true w (Q2 P T.h b3) (dk a az w)) fun az=>Q4 a (fun a5=> ∀c bl a8 w,b w→j c w→az bl w→bq a8 w→Q0 c true w (indexAddr P T.h bl a8) (dk a a5 w)) fun a5=>Q4 a (fun b9=> ∀c bb w,b w→j c w→a5 bb w→Q0 c true w (Q2 P T.c bb) (dk a b9 w)) fun b9=>Q4 a (fun ca=> ∀c a4 w,b w→j c w→a9 a4 w→Q0 c true w (Q2 P T.c a4) (dk a ca w)) fun ca=>∀ax bi b4 b2 bp ba c b3 a8 a4 bl bb dv cp w,b w→a2 ax w→bu bi w→bc b4 w→be b2 w→bn bp w→bw ba w→j c w→bd b3 w→bq a8 w→a9 a4 w→az bl w→a5 bb w→b9 dv w→ca cp w→ Q0 c true w (Q3 P .neq T.c (.tmp 47) (.tmp 49) dv cp) fun ed w=>pick P c ed (.bool false) w fun et w=>lp (α:=Value×Value) (et,(.int .i64 0)) w fun an e d_ w=>Q3 P .lss T.d (.tmp 52) (.tmp 53) e.2 B.2 w fun eu w=>X1 eu (dr w fun a b=>Q4 a (fun a7=> ∀w,b w→Q0 e.1 true w (fieldAddr P T.b i 2) (dk a a7 w)) fun a7=>Q4 a (fun bz=> ∀w,b w→Q0 e.1 true w (fun w J=>J e.2 w) (dk a bz w)) fun bz=>Q4 a (fun a6=> ∀w,b w→Q0 e.1 true w (fieldAddr P T.b i 2) (dk a a6 w)) fun a6=>Q4 a (fun bk=> ∀w,b w→Q0 e.1 true w (fun w J=>J B.2 w) (dk a bk w)) fun bk=>Q4 a (fun a1=> ∀bo w,b w→a7 bo w→Q0 e.1 true w (Q2 P T.h bo) (dk a a1 w)) fun a1=>Q4 a (fun bj=> ∀bs bh w,b w→a1 bs w→bz bh w→Q0 e.1 true w (indexAddr P T.h bs bh) (dk a bj w)) fun bj=>Q4 a (fun cc=> ∀br w,b w→bj br w→Q0 e.1 true w (Q2 P T.c br) (dk a cc w)) fun cc=>Q4 a (fun bg=> ∀b0 w,b w→a6 b0 w→Q0 e.1 true w (Q2 P T.h b0) (dk a bg w)) fun bg=>Q4 a (fun bv=> ∀bf ay w,b w→bg bf w→bk ay w→Q0 e.1 true w (indexAddr P T.h bf ay) (dk a bv w)) fun bv=>Q4 a (fun cb=> ∀b1 w,b w→bv b1 w→Q0 e.1 true w (Q2 P T.c b1) (dk a cb w)) fun cb=>∀bo bh b0 ay bs br cr bf b1 dg w,b w→a7 bo w→bz bh w→a6 b0 w→bk ay w→a1 bs w→bj br w→cc cr w→bg bf w→bv b1 w→cb dg w→ Q0 e.1 true w (Q3 P .neq T.c (.tmp 63) (.tmp 68) cr dg) fun em w=>pick P e.1 em (.bool false) w fun d5 w=>Q3 P .add T.d (.tmp 55) (.const (.int .i64 1)) e.2 (.int .i64 1) w fun eb w=>an (d5,eb) w) (Q3 P .add T.d (.tmp 31) (.const (.int .i64 1)) B.2 (.int .i64 1) w fun d8 w=>a3 (e.1,d8) w)) (lp (α:=Value×Value) (B.1,(.int .i64 0)) w fun ao f d_ w=>fieldAddr P T.b i 6 w fun eq w=>Q2 P T.k eq w fun ec w=>X2 P .len [T.k] T.d [false] [ec] w fun d6 w=>Q3 P .lss T.d (.tmp 71) (.tmp 74) f.2 d6 w fun ea w=>X1 ea (Q0 f.1 true w (fieldAddr P T.b i 6) fun ef w=>Q0 f.1 true w (Q2 P T.k ef) fun d3 w=>Q0 f.1 true w (fun w J=>J f.2 w) fun ee w=>Q0 f.1 true w (indexAddr P T.k d3 ee) fun e0 w=>Q0 f.1 true w (fieldAddr P T.o e0 0) fun er w=>Q0 f.1 true w (Q2 P T.c er) fun e6 w=>Q0 f.1 true w (Q1 P F.u [e6]) fun ep w=>pick P f.1 ep (.bool false) w fun o w=>Q0 o true w (fieldAddr P T.b i 6) fun d2 w=>Q0 o true w (Q2 P T.k d2) fun d1 w=>Q0 o true w (fun w J=>J f.2 w) fun el w=>Q0 o true w (indexAddr P T.k d1 el) fun d9 w=>Q0 o true w (fieldAddr P T.o d9 1) fun ej w=>Q0 o true w (Q2 P T.c ej) fun ew w=>Q0 o true w (Q1 P F.e [ew]) fun e5 w=>pick P o e5 (.bool false) w fun bm w=>Q0 bm true w (fieldAddr P T.b i 3) fun d4 w=>Q0 bm true w (Q2 P T.u d4) fun ey w=>Q0 bm true w (J8 P .not ey) fun cz w=>pick P bm cz (.bool false) w fun cj w=>lp (α:=Value×Value) (cj,(.int .i64 0)) w fun aw d d_ w=>Q3 P .lss T.d (.tmp 102) (.tmp 103) d.2 f.2 w fun c0 w=>X1 c0 (dr w fun a b=>Q4 a (fun ad=> ∀w,b w→Q0 d.1 true w (fieldAddr P T.b i 6) (dk a ad w)) fun ad=>Q4 a (fun L=> ∀w,b w→Q0 d.1 true w (fun w J=>J d.2 w) (dk a L w)) fun L=>Q4 a (fun U=> ∀w,b w→Q0 d.1 true w (fieldAddr P T.b i 6) (dk a U w)) fun U=>Q4 a (fun H=> ∀w,b w→Q0 d.1 true w (fun w J=>J f.2 w) (dk a H w)) fun H=>Q4 a (fun z=> ∀Y w,b w→ad Y w→Q0 d.1 true w (Q2 P T.k Y) (dk a z w)) fun z=>Q4 a (fun ac=> ∀u ae w,b w→z u w→L ae w→Q0 d.1 true w (indexAddr P T.k u ae) (dk a ac w)) fun ac=>Q4 a (fun q=> ∀r w,b w→ac r w→Q0 d.1 true w (fieldAddr P T.o r 0) (dk a q w)) fun q=>Q4 a (fun al=> ∀y w,b w→q y w→Q0 d.1 true w (Q2 P T.c y) (dk a al w)) fun al=>Q4 a (fun E=> ∀C w,b w→U C w→Q0 d.1 true w (Q2 P T.k C) (dk a E w)) fun E=>Q4 a (fun N=> ∀Z O w,b w→E Z w→H O w→Q0 d.1 true w (indexAddr P T.k Z O) (dk a N w)) fun N=>Q4 a (fun A=> ∀aa w,b w→N aa w→Q0 d.1 true w (fieldAddr P T.o aa 0) (dk a A w)) fun A=>Q4 a (fun ai=> ∀ab w,b w→A ab w→Q0 d.1 true w (Q2 P T.c ab) (dk a ai w)) fun ai=>∀Y ae C O u r y b7 Z aa ab b6 w,b w→ad Y w→L ae w→U C w→H O w→z u w→ac r w→q y w→al b7 w→E Z w→N aa w→A ab w→ai b6 w→ Q0 d.1 true w (Q3 P .neq T.c (.tmp 114) (.tmp 120) b7 b6) fun c5 w=>pick P d.1 c5 (.bool false) w fun dp w=>Q3 P .add T.d (.tmp 105) (.const (.int .i64 1)) d.2 (.int .i64 1) w fun dc w=>aw (dp,dc) w) (Q3 P .add T.d (.tmp 76) (.const (.int .i64 1)) f.2 (.int .i64 1) w fun e2 w=>ao (d.1,e2) w)) (lp (α:=Value×Value) (f.1,(.int .i64 0)) w fun aj h d_ w=>fieldAddr P T.b i 7 w fun c3 w=>Q2 P T.j c3 w fun cw w=>X2 P .len [T.j] T.d [false] [cw] w fun cl w=>Q3 P .lss T.d (.tmp 123) (.tmp 126) h.2 cl w fun cg w=>X1 cg (fieldAddr P T.b i 7 w fun d0 w=>Q2 P T.j d0 w fun cf w=>indexAddr P T.j cf h.2 w fun cu w=>Q2 P T.e cu w fun cd w=>W0 P T.e w fun t9 w=>Y0 P T.e t9 cd w fun _u w=>Q0 h.1 true w (Q2 P T.e t9) fun ct w=>Q0 h.1 true w (Q1 P F.a5 [ct]) fun co w=>pick P h.1 co (.bool false) w fun m w=>Q0 m true w (fieldAddr P T.e t9 3) fun dw w=>Q0 m true w (Q2 P T.u dw) fun de w=>Q0 m true w (J8 P .not de) fun cx w=>Q0 m true w (fun w J=>J cx w) fun am w=>Q0 am false w (fieldAddr P T.b i 4) fun di w=>Q0 am false w (Q2 P T.u di) fun dy w=>Q0 m true w (pick P am (.bool true) dy) fun db w=>pick P m db (.bool false) w fun l w=>Q0 l true w (fieldAddr P T.b i 3) fun da w=>Q0 l true w (Q2 P T.u da) fun cy w=>Q0 l true w (J8 P .not cy) fun ds w=>Q0 l true w (fun w J=>J ds w) fun ak w=>Q0 ak false w (fieldAddr P T.e t9 3) fun cn w=>Q0 ak false w (Q2 P T.u cn) fun cs w=>Q0 l true w (pick P ak (.bool true) cs) fun dn w=>pick P l dn (.bool false) w fun ci w=>lp (α:=Value×Value) (ci,(.int .i64 0)) w fun ap g d_ w=>Q3 P .lss T.d (.tmp 158) (.tmp 159) g.2 h.2 w fun dz w=>X1 dz (dr w fun a b=>Q4 a (fun af=> ∀w,b w→Q0 g.1 true w (fieldAddr P T.b i 7) (dk a af w)) fun af=>Q4 a (fun p=> ∀w,b w→Q0 g.1 true w (fun w J=>J g.2 w) (dk a p w)) fun p=>Q4 a (fun ag=> ∀w,b w→Q0 g.1 true w (fieldAddr P T.e t9 0) (dk a ag w)) fun ag=>Q4 a (fun v=> ∀X w,b w→af X w→Q0 g.1 true w (Q2 P T.j X) (dk a v w)) fun v=>Q4 a (fun D=> ∀M V w,b w→v M w→p V w→Q0 g.1 true w (indexAddr P T.j M V) (dk a D w)) fun D=>Q4 a (fun R=> ∀W w,b w→D W w→Q0 g.1 true w (fieldAddr P T.e W 0) (dk a R w)) fun R=>Q4 a (fun av=> ∀t w,b w→R t w→Q0 g.1 true w (Q2 P T.c t) (dk a av w)) fun av=>Q4 a (fun aq=> ∀s w,b w→ag s w→Q0 g.1 true w (Q2 P T.c s) (dk a aq w)) fun aq=>∀X V s M W t b8 b5 w,b w→af X w→p V w→ag s w→v M w→D W w→R t w→av b8 w→aq b5 w→ Q0 g.1 true w (Q3 P .neq T.c (.tmp 170) (.tmp 172) b8 b5) fun dl w=>pick P g.1 dl (.bool false) w fun c2 w=>Q3 P .add T.d (.tmp 161) (.const (.int .i64 1)) g.2 (.int .i64 1) w fun ch w=>ap (c2,ch) w) (Q3 P .add T.d (.tmp 128) (.const (.int .i64 1)) h.2 (.int .i64 1) w fun cm w=>aj (g.1,cm) w)) (Q0 h.1 true w (fieldAddr P T.b i 3) fun c6 w=>Q0 h.1 true w (Q2 P T.u c6) fun dj w=>Q0 h.1 true w (J8 P .not dj) fun df w=>Q0 h.1 true w (fun w J=>J df w) fun n w=>Q0 n false w (fieldAddr P T.b i 4) fun cq w=>Q0 n false w (Q2 P T.u cq) fun c4 w=>Q0 n false w (fun w J=>J c4 w) fun Q w=>Q0 Q true w (fieldAddr P T.b i 1) fun c9 w=>Q0 Q true w (Q2 P T.c c9) fun dm w=>Q0 Q true w (Q3 P .eql T.c (.tmp 185) (.const (.string ⟨#[79,98,106,101,99,116]⟩)) dm (.string ⟨#[79,98,106,101,99,116]⟩)) fun c1 w=>Q0 n false w (pick P Q c1 (.bool false)) fun dx w=>Q0 h.1 true w (pick P n (.bool true) dx) fun c8 w=>pick P h.1 c8 (.bool false) w fun k w=>Q0 k true w (fieldAddr P T.b i 4) fun cv w=>Q0 k true w (Q2 P T.u cv) fun du w=>Q0 k true w (fun w J=>J du w) fun ar w=>Q0 ar true w (fieldAddr P T.b i 5) fun dt w=>Q0 ar true w (Q2 P T.u dt) fun c7 w=>Q0 k true w (pick P ar c7 (.bool false)) fun dh w=>Q0 k true w (J8 P .not dh) fun dd w=>pick P k dd (.bool false) w fun ck w=>K ck w)))
theorem Pe {a:Value} {w:World} {K:Value→World→Prop} (h:Mw a w K):Q1 P F.bq [a] w K:=Q9 Il Tryz.func148 rfl (by decide) (by kernel_rfl) h
def Na (g:Value) (w:World) (K:Value→World→Prop):Prop:= box P T.b g w fun a w=>Q2 P T.b a w fun f w=>Q1 P F.bK [f] w fun c w=>X1 c (K (.int .i64 51) w) (Q2 P T.b a w fun e w=>Q1 P F.bq [e] w fun b w=>J8 P .not b w fun d w=>X1 d (K (.int .i64 50) w) (K (.int .i64 0) w))
theorem Km {a:Value} {w:World} {K:Value→World→Prop} (h:Na a w K):Q1 P F.bo [a] w K:=Q9 (List.replicate 8 none) Tryz.func100 rfl (by decide) (by kernel_rfl) h
def Ty:V5:=[none,none,none,some ([5],[4,5,6,7,8,9,10,11,12,13,14,15,16,17,18,19]),none,none,none,none,none,none]
def De (h i:Value) (w:World) (K:Value→World→Prop):Prop:= lp (α:=Value) (.int .i64 0) w fun a b l w=>X2 P .len [T.i] T.d [false] [h] w fun j w=>Q3 P .lss T.d (.tmp 6) (.tmp 8) b j w fun k w=>X1 k (indexAddr P T.i h b w fun c w=>fieldAddr P T.b c 0 w fun f w=>Q2 P T.c f w fun d w=>Q3 P .eql T.c (.tmp 16) (.tmp 17) d i w fun g w=>X1 g (K b w) (Q3 P .add T.d (.tmp 10) (.const (.int .i64 1)) b (.int .i64 1) w fun e w=>a e w)) (K (.int .i64 (-1)) w)
theorem Ac {b a:Value} {w:World} {K:Value→World→Prop} (h:De b a w K):Q1 P F.b [b,a] w K:=Q9 Ty Tryz.func101 rfl (by decide) (by kernel_rfl) h
def Gr:V5:=[none,none,none,none,none,none,none,some ([6],[4,6,7,28,29,30,31,32,33,34,35,36,37,38,39,40,41,42,43,44,45,46,47,48,49,50,51]),none,none,none,none,none,none,none]
def Ls (h V:Value) (w:World) (K:Value→World→Prop):Prop:= box P T.b V w fun a w=>fieldAddr P T.b a 1 w fun W w=>Q2 P T.c W w fun q w=>Q1 P F.b [h,q] w fun f w=>Q3 P .lss T.d (.tmp 12) (.const (.int .i64 0)) f (.int .i64 0) w fun d w=>Q0 d false w (fun w J=>J h w) fun O w=>Q0 d false w (fun w J=>J f w) fun j w=>Q0 d false w (indexAddr P T.i O j) fun p w=>Q0 d false w (fieldAddr P T.b p 3) fun B w=>Q0 d false w (Q2 P T.u B) fun z w=>pick P d (.bool true) z w fun c w=>Q0 c false w (fun w J=>J h w) fun l w=>Q0 c false w (fun w J=>J f w) fun C w=>Q0 c false w (indexAddr P T.i l C) fun n w=>Q0 c false w (fieldAddr P T.b n 5) fun s w=>Q0 c false w (Q2 P T.u s) fun L w=>pick P c (.bool true) L w fun A w=>X1 A (K (.int .i64 61) w) (lp (α:=Value) (.int .i64 0) w fun e u X w=>fieldAddr P T.b a 2 w fun v w=>Q2 P T.h v w fun o w=>X2 P .len [T.h] T.d [false] [o] w fun r w=>Q3 P .lss T.d (.tmp 28) (.tmp 31) u r w fun t w=>X1 t (fieldAddr P T.b a 2 w fun N w=>Q2 P T.h N w fun D w=>indexAddr P T.h D u w fun i w=>Q2 P T.c i w fun U w=>Q1 P F.b [h,U] w fun g w=>Q3 P .lss T.d (.tmp 42) (.const (.int .i64 0)) g (.int .i64 0) w fun b w=>Q0 b false w (fun w J=>J h w) fun Q w=>Q0 b false w (fun w J=>J g w) fun R w=>Q0 b false w (indexAddr P T.i Q R) fun H w=>Q0 b false w (fieldAddr P T.b H 3) fun E w=>Q0 b false w (Q2 P T.u E) fun k w=>Q0 b false w (J8 P .not k) fun M w=>pick P b (.bool true) M w fun m w=>X1 m (K (.int .i64 62) w) (Q3 P .add T.d (.tmp 33) (.const (.int .i64 1)) u (.int .i64 1) w fun y w=>e y w)) (K (.int .i64 0) w))
theorem Fv {b a:Value} {w:World} {K:Value→World→Prop} (h:Ls b a w K):Q1 P F.be [b,a] w K:=Q9 Gr Tryz.func102 rfl (by decide) (by kernel_rfl) h
def Ii:V5:=[none,none,none,none,some ([3,4],[3,4,5,6,7,8,13,14,15,16,17,18,19,20,21,22,23,24,25,26,27,28,29,30,31,32,33,34,35,36,37,38,39,40,41,42,43,44,45,46,47,48,49,50,51,52,53,54]),none,none,none,none,none,none,none,some ([7],[7,8,34,35,36,37,38,39,40,41,42,43,44,45,46,47,48,49,50]),none,none,some ([],[8,40,41,42,43,44,45,46,47,48,49,50]),none,none,none,none,some ([9],[9,10,11,55,56,57,58,59,60,61,62,63,64,65,66,67,68,69,70,71,72,73,74,75,76,77,78,79,80,81,82,83,84,85,86,87,88,89,90,91,92,93,94,95,96,97,98,99,100,101,102,103]),none,none,none,none,some ([10],[10,11,61,62,63,64,65,66,67,68,69,70,71,72,73,74,75,76,77,78,79,80,81,82,83,84,85,86,87,88,89,90,91,92,93,94,95,96,97,98,99,100,101,102,103]),none,none,none,none,some ([11],[11,67,68,69,70,71,72,73,74,75,76,77,78,79,80,81,82,83,84,85,86,87,88,89,90,91,92,93,94,95,96,97,98,99,100,101,102,103]),none,none,none,none]
def Nz (a0:Value) (w:World) (K:Value→World→Prop):Prop:= buildSlice P T.a8 0 [] w fun b0 w=>lp (α:=Value×Value) (b0,(.int .i64 0)) w fun U r d_ w=>X2 P .len [T.i] T.d [false] [a0] w fun b3 w=>Q3 P .lss T.d (.tmp 13) (.tmp 15) r.2 b3 w fun bi w=>X1 bi (X2 P .len [T.i] T.d [false] [a0] w fun be w=>Li P T.a6 be be w fun a7 w=>dr w fun b d=>Q4 b (fun af=> ∀w,d w→indexAddr P T.i a0 r.2 w (dk b af w)) fun af=>Q4 b (fun am=> ∀ai w,d w→af ai w→fieldAddr P T.b ai 1 w (dk b am w)) fun am=>Q4 b (fun ao=> ∀w,d w→indexAddr P T.i a0 r.2 w (dk b ao w)) fun ao=>Q4 b (fun ar=> ∀aj w,d w→ao aj w→fieldAddr P T.b aj 2 w (dk b ar w)) fun ar=>Q4 b (fun ak=> ∀M w,d w→am M w→Q2 P T.c M w (dk b ak w)) fun ak=>Q4 b (fun a3=> ∀X w,d w→ak X w→buildSlice P T.h 1 [(0,X)] w (dk b a3 w)) fun a3=>Q4 b (fun a4=> ∀al w,d w→ar al w→Q2 P T.h al w (dk b a4 w)) fun a4=>∀ai M aj al X ba a8 w,d w→af ai w→am M w→ao aj w→ar al w→ak X w→a3 ba w→a4 a8 w→ X2 P .append [T.h,T.h] T.h [false,false] [ba,a8] w fun a9 w=>lp (α:=Value) (.int .i64 0) w fun n a2 d_ w=>X2 P .len [T.h] T.d [false] [a9] w fun b2 w=>Q3 P .lss T.d (.tmp 34) (.tmp 36) a2 b2 w fun bw w=>X1 bw (jn (α:=Unit) w (fun bb w=>indexAddr P T.h a9 a2 w fun b1 w=>Q2 P T.c b1 w fun bg w=>Q1 P F.b [a0,bg] w fun bd w=>Q3 P .geq T.d (.tmp 46) (.const (.int .i64 0)) bd (.int .i64 0) w fun bx w=>X1 bx (indexAddr P T.a6 a7 bd w fun bp w=>Y0 P T.u bp (.bool true) w fun _u w=>bb () w) (bb () w)) fun b4 d_ w=>Q3 P .add T.d (.tmp 38) (.const (.int .i64 1)) a2 (.int .i64 1) w fun bh w=>n bh w) (buildSlice P T.a8 1 [(0,a7)] w fun bo w=>X2 P .append [T.a8,T.a8] T.a8 [false,false] [r.1,bo] w fun bl w=>Q3 P .add T.d (.tmp 17) (.const (.int .i64 1)) r.2 (.int .i64 1) w fun bv w=>U (bl,bv) w)) (lp (α:=Value) (.int .i64 0) w fun k aw d_ w=>X2 P .len [T.i] T.d [false] [a0] w fun br w=>Q3 P .lss T.d (.tmp 55) (.tmp 57) aw br w fun bn w=>X1 bn (lp (α:=Value) (.int .i64 0) w fun l o d_ w=>X2 P .len [T.i] T.d [false] [a0] w fun bs w=>Q3 P .lss T.d (.tmp 61) (.tmp 63) o bs w fun bq w=>X1 bq (lp (α:=Value) (.int .i64 0) w fun m q d_ w=>X2 P .len [T.i] T.d [false] [a0] w fun bu w=>Q3 P .lss T.d (.tmp 67) (.tmp 69) q bu w fun bk w=>X1 bk (dr w fun b d=>Q4 b (fun ab=> ∀w,d w→indexAddr P T.a8 r.1 o w (dk b ab w)) fun ab=>Q4 b (fun ae=> ∀w,d w→indexAddr P T.a8 r.1 o w (dk b ae w)) fun ae=>Q4 b (fun a5=> ∀O w,d w→ab O w→Q2 P T.a6 O w (dk b a5 w)) fun a5=>Q4 b (fun t=> ∀ad w,d w→ae ad w→Q2 P T.a6 ad w (dk b t w)) fun t=>Q4 b (fun ax=> ∀z w,d w→t z w→indexAddr P T.a6 z q w (dk b ax w)) fun ax=>Q4 b (fun e=> ∀V w,d w→ax V w→Q2 P T.u V w (dk b e w)) fun e=>Q4 b (fun B=> ∀a w,d w→e a w→Q0 a false w (fun w J=>J r.1 w) (dk b B w)) fun B=>Q4 b (fun L=> ∀a w,d w→e a w→Q0 a false w (fun w J=>J o w) (dk b L w)) fun L=>Q4 b (fun W=> ∀a av an w,d w→e a w→B av w→L an w→Q0 a false w (indexAddr P T.a8 av an) (dk b W w)) fun W=>Q4 b (fun D=> ∀a w,d w→e a w→Q0 a false w (fun w J=>J aw w) (dk b D w)) fun D=>Q4 b (fun Q=> ∀a E w,d w→e a w→W E w→Q0 a false w (Q2 P T.a6 E) (dk b Q w)) fun Q=>Q4 b (fun ah=> ∀a v s w,d w→e a w→Q v w→D s w→Q0 a false w (indexAddr P T.a6 v s) (dk b ah w)) fun ah=>Q4 b (fun u=> ∀a ap w,d w→e a w→ah ap w→Q0 a false w (Q2 P T.u ap) (dk b u w)) fun u=>Q4 b (fun f=> ∀a N w,d w→e a w→u N w→Q0 a false w (fun w J=>J N w) (dk b f w)) fun f=>Q4 b (fun aa=> ∀c w,d w→f c w→Q0 c true w (fun w J=>J r.1 w) (dk b aa w)) fun aa=>Q4 b (fun aq=> ∀c w,d w→f c w→Q0 c true w (fun w J=>J aw w) (dk b aq w)) fun aq=>Q4 b (fun Y=> ∀c H ag w,d w→f c w→aa H w→aq ag w→Q0 c true w (indexAddr P T.a8 H ag) (dk b Y w)) fun Y=>Q4 b (fun Z=> ∀c w,d w→f c w→Q0 c true w (fun w J=>J q w) (dk b Z w)) fun Z=>Q4 b (fun ay=> ∀c A w,d w→f c w→Y A w→Q0 c true w (Q2 P T.a6 A) (dk b ay w)) fun ay=>Q4 b (fun ac=> ∀c y C w,d w→f c w→ay y w→Z C w→Q0 c true w (indexAddr P T.a6 y C) (dk b ac w)) fun ac=>Q4 b (fun j=> ∀c R w,d w→f c w→ac R w→Q0 c true w (Q2 P T.u R) (dk b j w)) fun j=>Q4 b (fun g=> ∀a c i w,d w→e a w→f c w→j i w→Q0 a false w (pick P c i (.bool false)) (dk b g w)) fun g=>Q4 b (fun p=> ∀a h w,d w→e a w→g h w→pick P a (.bool true) h w (dk b p w)) fun p=>∀O ad bc z V a av an E s v ap N c H ag A C y R i h a1 w,d w→ab O w→ae ad w→a5 bc w→t z w→ax V w→e a w→B av w→L an w→W E w→D s w→Q v w→ah ap w→u N w→f c w→aa H w→aq ag w→Y A w→Z C w→ay y w→ac R w→j i w→g h w→p a1 w→ indexAddr P T.a6 bc q w fun bf w=>Y0 P T.u bf a1 w fun _u w=>Q3 P .add T.d (.tmp 71) (.const (.int .i64 1)) q (.int .i64 1) w fun bz w=>m bz w) (Q3 P .add T.d (.tmp 65) (.const (.int .i64 1)) o (.int .i64 1) w fun bj w=>l bj w)) (Q3 P .add T.d (.tmp 59) (.const (.int .i64 1)) aw (.int .i64 1) w fun bm w=>k bm w)) (K r.1 w))
theorem Kk {a:Value} {w:World} {K:Value→World→Prop} (h:Nz a w K):Q1 P F.al [a] w K:=Q9 Ii Tryz.func103 rfl (by decide) (by kernel_rfl) h
def Q1g:V5:=[none,none,none,none,none,none,some ([9],[8,9,16,17,18,19,20,21,22,23,24,25,26,27,28]),none,none,none,none,none,none,none,none,some ([1,11],[1,11,41,42,43,44,45,46,47,48,49,50,51,52,53,54,55,56]),none,none,none,none]
def Hh (y t X s:Value) (w:World) (K:Value→World→Prop):Prop:= Q3 P .lss T.d (.tmp 12) (.tmp 13) s X w fun D w=>X1 D (K t w) (lp (α:=Value) (.int .i64 0) w fun e U Y w=>X2 P .len [T.a7] T.d [false] [t] w fun Q w=>Q3 P .lss T.d (.tmp 16) (.tmp 18) U Q w fun M w=>X1 M (indexAddr P T.a7 t U w fun B w=>Q2 P T.d B w fun J w=>Q3 P .eql T.d (.tmp 25) (.tmp 26) J s w fun N w=>X1 N (K t w) (Q3 P .add T.d (.tmp 20) (.const (.int .i64 1)) U (.int .i64 1) w fun E w=>e E w)) (dr w fun a o=>Q4 a (fun l=> ∀w,o w→indexAddr P T.i y s w (dk a l w)) fun l=>Q4 a (fun d=> ∀f w,o w→l f w→fieldAddr P T.b f 1 w (dk a d w)) fun d=>Q4 a (fun h=> ∀w,o w→indexAddr P T.i y s w (dk a h w)) fun h=>Q4 a (fun k=> ∀m w,o w→h m w→fieldAddr P T.b m 2 w (dk a k w)) fun k=>Q4 a (fun g=> ∀i w,o w→d i w→Q2 P T.c i w (dk a g w)) fun g=>Q4 a (fun q=> ∀j w,o w→g j w→buildSlice P T.h 1 [(0,j)] w (dk a q w)) fun q=>Q4 a (fun p=> ∀n w,o w→k n w→Q2 P T.h n w (dk a p w)) fun p=>∀f i m n j u r w,o w→l f w→d i w→h m w→k n w→g j w→q u w→p r w→ X2 P .append [T.h,T.h] T.h [false,false] [u,r] w fun v w=>lp (α:=Value×Value) (t,(.int .i64 0)) w fun c b Y w=>X2 P .len [T.h] T.d [false] [v] w fun V w=>Q3 P .lss T.d (.tmp 41) (.tmp 43) b.2 V w fun z w=>X1 z (indexAddr P T.h v b.2 w fun R w=>Q2 P T.c R w fun C w=>Q1 P F.b [y,C] w fun L w=>Q1 P F.b1 [y,b.1,X,L] w fun O w=>Q3 P .add T.d (.tmp 45) (.const (.int .i64 1)) b.2 (.int .i64 1) w fun W w=>c (O,W) w) (buildSlice P T.a7 1 [(0,s)] w fun A w=>X2 P .append [T.a7,T.a7] T.a7 [false,false] [b.1,A] w fun H w=>K H w)))
theorem Q1h {c a b d:Value} {w:World} {K:Value→World→Prop} (h:Hh c a b d w K):Q1 P F.b1 [c,a,b,d] w K:=Q9 Q1g Tryz.func104 rfl (by decide) (by kernel_rfl) h
def Xq (u A:Value) (w:World) (K:Value→World→Prop):Prop:= Q1 P F.b [u,A] w fun v w=>Q3 P .lss T.d (.tmp 9) (.const (.int .i64 0)) v (.int .i64 0) w fun y w=>X1 y (K (.slice none 0 0) w) (dr w fun a b=>Q4 a (fun j=> ∀w,b w→indexAddr P T.i u v w (dk a j w)) fun j=>Q4 a (fun n=> ∀e w,b w→j e w→fieldAddr P T.b e 1 w (dk a n w)) fun n=>Q4 a (fun c=> ∀w,b w→indexAddr P T.i u v w (dk a c w)) fun c=>Q4 a (fun h=> ∀p w,b w→c p w→fieldAddr P T.b p 6 w (dk a h w)) fun h=>Q4 a (fun i=> ∀w,b w→buildSlice P T.k 0 [] w (dk a i w)) fun i=>Q4 a (fun g=> ∀d w,b w→n d w→Q2 P T.c d w (dk a g w)) fun g=>Q4 a (fun k=> ∀f w,b w→g f w→Q1 P F.p [u,f] w (dk a k w)) fun k=>Q4 a (fun r=> ∀o l w,b w→i o w→k l w→X2 P .append [T.k,T.k] T.k [false,false] [o,l] w (dk a r w)) fun r=>Q4 a (fun q=> ∀m w,b w→h m w→Q2 P T.k m w (dk a q w)) fun q=>∀e d p m o f l t s w,b w→j e w→n d w→c p w→h m w→i o w→g f w→k l w→r t w→q s w→ X2 P .append [T.k,T.k] T.k [false,false] [t,s] w fun z w=>K z w)
theorem Lh {b a:Value} {w:World} {K:Value→World→Prop} (h:Xq b a w K):Q1 P F.p [b,a] w K:=Q9 (List.replicate 6 none) Tryz.func73 rfl (by decide) (by kernel_rfl) h
def Kx:V5:=[none,none,none,none,some ([8],[6,8,12,13,14,15,16,17,18,19,20,21,22,23,24,25]),none,none,none,none,none,none]
def Nj (m k l:Value) (w:World) (K:Value→World→Prop):Prop:= Q1 P F.p [m,k] w fun b w=>lp (α:=Value) (.int .i64 0) w fun a c n w=>X2 P .len [T.k] T.d [false] [b] w fun g w=>Q3 P .lss T.d (.tmp 12) (.tmp 14) c g w fun j w=>X1 j (indexAddr P T.k b c w fun f w=>fieldAddr P T.o f 0 w fun h w=>Q2 P T.c h w fun i w=>Q3 P .eql T.c (.tmp 22) (.tmp 23) i l w fun d w=>X1 d (K c w) (Q3 P .add T.d (.tmp 16) (.const (.int .i64 1)) c (.int .i64 1) w fun e w=>a e w)) (K (.int .i64 (-1)) w)
theorem Kb {c a b:Value} {w:World} {K:Value→World→Prop} (h:Nj c a b w K):Q1 P F.br [c,a,b] w K:=Q9 Kx Tryz.func149 rfl (by decide) (by kernel_rfl) h
def Dm (b:Value) (w:World) (K:Value→World→Prop):Prop:= X2 P .len [T.c] T.d [false] [b] w fun d w=>Q1 P F.a2 [b] w fun c w=>Q3 P .mul T.d (.const (.int .i64 2)) (.tmp 7) (.int .i64 2) c w fun e w=>Q3 P .sub T.d (.tmp 5) (.tmp 8) d e w fun f w=>S1 P T.c b none (some f) none w fun a w=>K a w
theorem Aa {a:Value} {w:World} {K:Value→World→Prop} (h:Dm a w K):Q1 P F.aX [a] w K:=Q9 (List.replicate 2 none) Tryz.func153 rfl (by decide) (by kernel_rfl) h
def Dj (q d:Value) (w:World) (K:Value→World→Prop):Prop:= Q3 P .eql T.c (.tmp 5) (.const (.string ⟨#[110,117,108,108]⟩)) d (.string ⟨#[110,117,108,108]⟩) w fun c w=>Q0 c false w (fun w J=>J d w) fun p w=>Q0 c false w (Q1 P F.e [p]) fun r w=>Q0 c false w (fun w J=>J r w) fun a w=>Q0 a true w (fun w J=>J d w) fun n w=>Q0 a true w (Q1 P F.aX [n]) fun m w=>Q0 a true w (Q1 P F.y [m]) fun l w=>Q0 a true w (fun w J=>J l w) fun b w=>Q0 b false w (fun w J=>J q w) fun o w=>Q0 b false w (fun w J=>J d w) fun e w=>Q0 b false w (Q1 P F.aX [e]) fun g w=>Q0 b false w (Q1 P F.b [o,g]) fun k w=>Q0 b false w (Q3 P .geq T.d (.tmp 18) (.const (.int .i64 0)) k (.int .i64 0)) fun i w=>Q0 a true w (pick P b (.bool true) i) fun j w=>Q0 c false w (pick P a j (.bool false)) fun h w=>pick P c (.bool true) h w fun f w=>K f w
theorem Ap {b a:Value} {w:World} {K:Value→World→Prop} (h:Dj b a w K):Q1 P F.a1 [b,a] w K:=Q9 (List.replicate 2 none) Tryz.func106 rfl (by decide) (by kernel_rfl) h
def Nx (f d:Value) (w:World) (K:Value→World→Prop):Prop:= Q3 P .neq T.c (.tmp 5) (.const (.string ⟨#[110,117,108,108]⟩)) d (.string ⟨#[110,117,108,108]⟩) w fun a w=>Q0 a true w (fun w J=>J f w) fun e w=>Q0 a true w (fun w J=>J d w) fun g w=>Q0 a true w (Q1 P F.a1 [e,g]) fun b w=>pick P a b (.bool false) w fun c w=>K c w
theorem Im {b a:Value} {w:World} {K:Value→World→Prop} (h:Nx b a w K):Q1 P F.bs [b,a] w K:=Q9 (List.replicate 2 none) Tryz.func150 rfl (by decide) (by kernel_rfl) h
def Ad:V5:=[none,none,none,none,some ([3,4],[3,4,5,6,7,8,9,10,11,12,13,14,15,16,17,18,19,20,21,22]),none,none,none,some ([3],[3,12,13,14,15]),none,none]
def Da (s:Value) (w:World) (K:Value→World→Prop):Prop:= box P T.e s w fun a w=>lp (α:=Value×Value) ((.string ⟨#[40]⟩),(.int .i64 0)) w fun b c r w=>fieldAddr P T.e a 1 w fun v w=>Q2 P T.h v w fun u w=>X2 P .len [T.h] T.d [false] [u] w fun q w=>Q3 P .lss T.d (.tmp 5) (.tmp 8) c.2 q w fun t w=>X1 t (jn (α:=Value) w (fun p w=>Q3 P .gtr T.d (.tmp 12) (.const (.int .i64 0)) c.2 (.int .i64 0) w fun l w=>X1 l (Q3 P .add T.c (.tmp 14) (.const (.string ⟨#[44]⟩)) c.1 (.string ⟨#[44]⟩) w fun o w=>p o w) (p c.1 w)) fun y r w=>fieldAddr P T.e a 1 w fun f w=>Q2 P T.h f w fun k w=>indexAddr P T.h k c.2 w fun j w=>Q2 P T.c j w fun g w=>Q3 P .add T.c (.tmp 16) (.tmp 21) y g w fun d w=>Q3 P .add T.d (.tmp 10) (.const (.int .i64 1)) c.2 (.int .i64 1) w fun m w=>b (d,m) w) (Q3 P .add T.c (.tmp 23) (.const (.string ⟨#[41]⟩)) c.1 (.string ⟨#[41]⟩) w fun e w=>fieldAddr P T.e a 2 w fun h w=>Q2 P T.c h w fun n w=>Q3 P .add T.c (.tmp 24) (.tmp 26) e n w fun i w=>K i w)
theorem Q04 {a:Value} {w:World} {K:Value→World→Prop} (h:Da a w K):Q1 P F.aW [a] w K:=Q9 Ad Tryz.func151 rfl (by decide) (by kernel_rfl) h
def Q0F:V5:=[none,none,none,some ([5],[4,5,6,7,8,9,10,11,12,13,14,15,16,17,18,19,20,21]),none,none,none,none,none,none]
def Hf (n m:Value) (w:World) (K:Value→World→Prop):Prop:= box P T.b n w fun a w=>lp (α:=Value) (.int .i64 0) w fun b c q w=>fieldAddr P T.b a 7 w fun p w=>Q2 P T.j p w fun l w=>X2 P .len [T.j] T.d [false] [l] w fun o w=>Q3 P .lss T.d (.tmp 6) (.tmp 9) c o w fun f w=>X1 f (fieldAddr P T.b a 7 w fun j w=>Q2 P T.j j w fun g w=>indexAddr P T.j g c w fun d w=>fieldAddr P T.e d 0 w fun e w=>Q2 P T.c e w fun i w=>Q3 P .eql T.c (.tmp 18) (.tmp 19) i m w fun h w=>X1 h (K c w) (Q3 P .add T.d (.tmp 11) (.const (.int .i64 1)) c (.int .i64 1) w fun k w=>b k w)) (K (.int .i64 (-1)) w)
theorem Q1e {b a:Value} {w:World} {K:Value→World→Prop} (h:Hf b a w K):Q1 P F.b2 [b,a] w K:=Q9 Q0F Tryz.func183 rfl (by decide) (by kernel_rfl) h
def Kq:V5:=[none,none,none,some ([9],[6,8,9,10,11,12,13,14,15,16,17,18,19,20,21,22,23,24,25,26,27,28,29,30,31,32,33,34,35,36,37,38,39,40,41,42,43,44,45,46,47,48,49,50,51,52,53,54]),none,none,none,none,none,none,none,none,none,none,none,none]
def Nf (O a1 a2:Value) (w:World) (K:Value→World→Prop):Prop:= box P T.b a1 w fun d w=>W0 P T.e w fun s w=>lp (α:=Value) (.int .i64 0) w fun h M d_ w=>fieldAddr P T.b d 2 w fun A w=>Q2 P T.h A w fun L w=>X2 P .len [T.h] T.d [false] [L] w fun Z w=>Q3 P .lss T.d (.tmp 15) (.tmp 18) M Z w fun W w=>X1 W (fieldAddr P T.b d 2 w fun H w=>Q2 P T.h H w fun R w=>indexAddr P T.h R M w fun Y w=>Q2 P T.c Y w fun D w=>Q1 P F.b [O,D] w fun V w=>indexAddr P T.i O V w fun J w=>Q2 P T.b J w fun N w=>W0 P T.b w fun a w=>Y0 P T.b a N w fun _u w=>Q2 P T.b a w fun U w=>Q1 P F.b2 [U,a2] w fun v w=>Q3 P .geq T.d (.tmp 35) (.const (.int .i64 0)) v (.int .i64 0) w fun C w=>X1 C (dr w fun b e=>Q4 b (fun i=> ∀w,e w→fieldAddr P T.b a 0 w (dk b i w)) fun i=>Q4 b (fun f=> ∀w,e w→fieldAddr P T.b a 7 w (dk b f w)) fun f=>Q4 b (fun p=> ∀l w,e w→i l w→Q2 P T.c l w (dk b p w)) fun p=>Q4 b (fun k=> ∀g w,e w→f g w→Q2 P T.j g w (dk b k w)) fun k=>Q4 b (fun m=> ∀n w,e w→k n w→indexAddr P T.j n v w (dk b m w)) fun m=>Q4 b (fun o=> ∀j w,e w→m j w→Q2 P T.e j w (dk b o w)) fun o=>∀l g y n j z w,e w→i l w→f g w→p y w→k n w→m j w→o z w→ Y0 P T.e s z w fun _u w=>Y8 P T.e s w fun u=>K (.tuple #[y,u,(.bool true)]) w) (Q2 P T.b a w fun ab w=>Q1 P F.aN [O,ab,a2] w fun r w=>ext P r 0 w fun B w=>ext P r 1 w fun aa w=>ext P r 2 w fun E w=>W0 P T.e w fun c w=>Y0 P T.e c aa w fun _u w=>X1 E (dr w fun b e=>Q4 b (fun q=> ∀w,e w→Q2 P T.e c w (dk b q w)) fun q=>∀t w,e w→q t w→ Y0 P T.e s t w fun _u w=>Y8 P T.e s w fun u=>K (.tuple #[B,u,(.bool true)]) w) (Q3 P .add T.d (.tmp 20) (.const (.int .i64 1)) M (.int .i64 1) w fun Q w=>h Q w))) (H3 P T.e [] w fun X w=>Y0 P T.e s X w fun _u w=>Y8 P T.e s w fun u=>K (.tuple #[(.string ⟨#[]⟩),u,(.bool false)]) w)
theorem Kr {c a b:Value} {w:World} {K:Value→World→Prop} (h:Nf c a b w K):Q1 P F.aN [c,a,b] w K:=Q9 Kq Tryz.func184 rfl (by decide) (by kernel_rfl) h
def Gf:V5:=[none,none,none,some ([9],[6,8,9,10,18,19,20,21,22,23,24,25,26,27,28,29,30,31,32,33,34,35,36,37,38,39,40,41,42,43,44,45,46,47]),none,none,none,none,none,none,none,none,some ([11],[6,8,11,12,13,14,51,52,53,54,55,56,57,58,59,60,61,62,63,64,65,66,67,68,69,70,71,72,73]),none,none,none,none,none,none,none]
def Lg (d a1 a2:Value) (w:World) (K:Value→World→Prop):Prop:= W0 P T.e w fun y w=>Q1 P F.b [d,a1] w fun Q w=>lp (α:=Value) Q w fun f A d_ w=>Q3 P .geq T.d (.tmp 18) (.const (.int .i64 0)) A (.int .i64 0) w fun Z w=>X1 Z (indexAddr P T.i d A w fun X w=>Q2 P T.b X w fun O w=>Q1 P F.b2 [O,a2] w fun B w=>Q3 P .geq T.d (.tmp 33) (.const (.int .i64 0)) B (.int .i64 0) w fun Y w=>X1 Y (dr w fun a b=>Q4 a (fun h=> ∀w,b w→indexAddr P T.i d A w (dk a h w)) fun h=>Q4 a (fun k=> ∀l w,b w→h l w→fieldAddr P T.b l 0 w (dk a k w)) fun k=>Q4 a (fun p=> ∀w,b w→indexAddr P T.i d A w (dk a p w)) fun p=>Q4 a (fun g=> ∀i w,b w→p i w→fieldAddr P T.b i 7 w (dk a g w)) fun g=>Q4 a (fun s=> ∀m w,b w→k m w→Q2 P T.c m w (dk a s w)) fun s=>Q4 a (fun j=> ∀o w,b w→g o w→Q2 P T.j o w (dk a j w)) fun j=>Q4 a (fun n=> ∀e w,b w→j e w→indexAddr P T.j e B w (dk a n w)) fun n=>Q4 a (fun r=> ∀q w,b w→n q w→Q2 P T.e q w (dk a r w)) fun r=>∀l m i o z e q D w,b w→h l w→k m w→p i w→g o w→s z w→j e w→n q w→r D w→ Y0 P T.e y D w fun _u w=>Y8 P T.e y w fun C=>K (.tuple #[z,C,(.bool true)]) w) (indexAddr P T.i d A w fun ad w=>fieldAddr P T.b ad 1 w fun N w=>Q2 P T.c N w fun V w=>Q1 P F.b [d,V] w fun af w=>f af w)) (Q1 P F.b [d,a1] w fun ag w=>lp (α:=Value) ag w fun c u d_ w=>Q3 P .geq T.d (.tmp 51) (.const (.int .i64 0)) u (.int .i64 0) w fun ae w=>X1 ae (indexAddr P T.i d u w fun J w=>Q2 P T.b J w fun aa w=>Q1 P F.aN [d,aa,a2] w fun t w=>ext P t 0 w fun ah w=>ext P t 1 w fun ac w=>ext P t 2 w fun R w=>W0 P T.e w fun E w=>Y0 P T.e E ac w fun _u w=>X1 R (dr w fun a b=>Q4 a (fun v=> ∀w,b w→Q2 P T.e E w (dk a v w)) fun v=>∀H w,b w→v H w→ Y0 P T.e y H w fun _u w=>Y8 P T.e y w fun C=>K (.tuple #[ah,C,(.bool true)]) w) (indexAddr P T.i d u w fun ab w=>fieldAddr P T.b ab 1 w fun M w=>Q2 P T.c M w fun W w=>Q1 P F.b [d,W] w fun L w=>c L w)) (H3 P T.e [] w fun U w=>Y0 P T.e y U w fun _u w=>Y8 P T.e y w fun C=>K (.tuple #[(.string ⟨#[]⟩),C,(.bool false)]) w))
theorem Gx {c a b:Value} {w:World} {K:Value→World→Prop} (h:Lg c a b w K):Q1 P F.bf [c,a,b] w K:=Q9 Gf Tryz.func152 rfl (by decide) (by kernel_rfl) h
def Fk:V5:=[none,none,none,none,some ([6],[4,6,24,25,26,27,28,29,30,31,32,33,34,35,36,37,38,39,40,41]),none,none,none,none,none,none,none,none,some ([7,8],[7,8,43,44,45,46,47,48,49,50,51,52,53,54,55,56,57,58]),none,none,none,none,none,some ([7,9],[7,9,59,60,61,62,63,64,65,66,67,68,69,70,71,72,73,74,75,76,77,78,79,80,81,82,83,84,85,86,87,88,89]),none,none,some ([7],[7,66,67,68,69,70,71,72,73,74,75,76,77,78,79,80,81,82,83,84,85,86,87,88,89]),none,none,none,none,some ([10],[4,10,90,91,92,93,94,95,96,97,98,99,100,101,102]),none,none,none,none,none,none,none,none,none,some ([12,13],[12,13,106,107,108,109,110,111,112,113,114,115,116,117,118,119,120,121,122,123,124,125,126,127,128,129,130]),none,none,some ([12],[12,112,113,114,115,116,117,118,119,120,121,122,123,124,125,126,127,128,129,130]),none,none,none,some ([14],[4,14,15,131,132,133,134,135,136,137,138,139,140,141,142,143,144,145,146,147,148,149,150,151,152,153,154,155,156,157,158,159,160,161,162,163,164,165]),none,none,none,none,some ([15],[4,15,137,138,139,140,141,142,143,144,145,146,147,148,149,150,151,152,153,154,155,156,157,158,159,160,161,162,163,164,165]),none,none,none,none,none,none,none,some ([16],[4,16,17,18,19,166,167,168,169,170,171,172,173,174,175,176,177,178,179,180,181,182,183,184,185,186,187,188,189,190,191,192,193,194,195]),none,none,none,none,none,none,none]
def Vq (a0 a1:Value) (w:World) (K:Value→World→Prop):Prop:= indexAddr P T.i a0 a1 w fun eh w=>Q2 P T.b eh w fun dn w=>W0 P T.b w fun t5 w=>Y0 P T.b t5 dn w fun _u w=>lp (α:=Value) (.int .i64 0) w fun a6 x4 d_ w=>fieldAddr P T.b t5 6 w fun dz w=>Q2 P T.k dz w fun c6 w=>X2 P .len [T.k] T.d [false] [c6] w fun d1 w=>Q3 P .lss T.d (.tmp 24) (.tmp 27) x4 d1 w fun d7 w=>X1 d7 (dr w fun b c=>Q4 b (fun bd=> ∀w,c w→fieldAddr P T.b t5 1 w (dk b bd w)) fun bd=>Q4 b (fun bf=> ∀w,c w→fieldAddr P T.b t5 6 w (dk b bf w)) fun bf=>Q4 b (fun bl=> ∀a4 w,c w→bd a4 w→Q2 P T.c a4 w (dk b bl w)) fun bl=>Q4 b (fun a5=> ∀bb w,c w→bf bb w→Q2 P T.k bb w (dk b a5 w)) fun a5=>Q4 b (fun ba=> ∀a2 w,c w→a5 a2 w→indexAddr P T.k a2 x4 w (dk b ba w)) fun ba=>Q4 b (fun a8=> ∀a9 w,c w→ba a9 w→fieldAddr P T.o a9 0 w (dk b a8 w)) fun a8=>Q4 b (fun bk=> ∀be w,c w→a8 be w→Q2 P T.c be w (dk b bk w)) fun bk=>∀a4 bb cf a2 a9 be ca w,c w→bd a4 w→bf bb w→bl cf w→a5 a2 w→ba a9 w→a8 be w→bk ca w→ Q1 P F.br [a0,cf,ca] w fun c9 w=>Q3 P .geq T.d (.tmp 40) (.const (.int .i64 0)) c9 (.int .i64 0) w fun db w=>X1 db (K (.int .i64 64) w) (Q3 P .add T.d (.tmp 29) (.const (.int .i64 1)) x4 (.int .i64 1) w fun dg w=>a6 dg w)) (buildSlice P T.h 0 [] w fun eb w=>lp (α:=Value×Value) (eb,(.int .i64 0)) w fun ar ax d_ w=>fieldAddr P T.b t5 6 w fun du w=>Q2 P T.k du w fun c7 w=>X2 P .len [T.k] T.d [false] [c7] w fun c8 w=>Q3 P .lss T.d (.tmp 43) (.tmp 46) ax.2 c8 w fun ef w=>X1 ef (fieldAddr P T.b t5 6 w fun dv w=>Q2 P T.k dv w fun dt w=>indexAddr P T.k dt ax.2 w fun dx w=>fieldAddr P T.o dx 1 w fun ed w=>Q2 P T.c ed w fun c5 w=>buildSlice P T.h 1 [(0,c5)] w fun d6 w=>X2 P .append [T.h,T.h] T.h [false,false] [ax.1,d6] w fun c2 w=>Q3 P .add T.d (.tmp 48) (.const (.int .i64 1)) ax.2 (.int .i64 1) w fun dd w=>ar (c2,dd) w) (lp (α:=Value×Value) (ax.1,(.int .i64 0)) w fun ai j d_ w=>fieldAddr P T.b t5 7 w fun dy w=>Q2 P T.j dy w fun dm w=>X2 P .len [T.j] T.d [false] [dm] w fun dw w=>Q3 P .lss T.d (.tmp 59) (.tmp 62) j.2 dw w fun df w=>X1 df (jn (α:=Value) w (fun b2 w=>fieldAddr P T.b t5 7 w fun ec w=>Q2 P T.j ec w fun d3 w=>indexAddr P T.j d3 j.2 w fun cz w=>fieldAddr P T.e cz 1 w fun eg w=>Q2 P T.h eg w fun ds w=>X2 P .append [T.h,T.h] T.h [false,false] [j.1,ds] w fun b0 w=>fieldAddr P T.b t5 7 w fun c0 w=>Q2 P T.j c0 w fun c4 w=>indexAddr P T.j c4 j.2 w fun d4 w=>fieldAddr P T.e d4 2 w fun d5 w=>Q2 P T.c d5 w fun ee w=>Q3 P .neq T.c (.tmp 79) (.const (.string ⟨#[]⟩)) ee (.string ⟨#[]⟩) w fun dc w=>X1 dc (fieldAddr P T.b t5 7 w fun da w=>Q2 P T.j da w fun d2 w=>indexAddr P T.j d2 j.2 w fun d9 w=>fieldAddr P T.e d9 2 w fun dq w=>Q2 P T.c dq w fun di w=>buildSlice P T.h 1 [(0,di)] w fun cy w=>X2 P .append [T.h,T.h] T.h [false,false] [b0,cy] w fun cx w=>b2 cx w) (b2 b0 w)) fun dp d_ w=>Q3 P .add T.d (.tmp 64) (.const (.int .i64 1)) j.2 (.int .i64 1) w fun dl w=>ai (dp,dl) w) (lp (α:=Value) (.int .i64 0) w fun aj bj d_ w=>X2 P .len [T.h] T.d [false] [j.1] w fun c3 w=>Q3 P .lss T.d (.tmp 90) (.tmp 92) bj c3 w fun dj w=>X1 dj (indexAddr P T.h j.1 bj w fun d0 w=>Q2 P T.c d0 w fun b6 w=>Q1 P F.bs [a0,b6] w fun bv w=>J8 P .not bv w fun b5 w=>X1 b5 (K (.int .i64 65) w) (Q3 P .add T.d (.tmp 94) (.const (.int .i64 1)) bj (.int .i64 1) w fun d8 w=>aj d8 w)) (Q1 P F.al [a0] w fun b8 w=>buildSlice P T.j 0 [] w fun bw w=>lp (α:=Value×Value) (bw,(.int .i64 0)) w fun ay f d_ w=>X2 P .len [T.i] T.d [false] [a0] w fun bp w=>Q3 P .lss T.d (.tmp 106) (.tmp 108) f.2 bp w fun cj w=>X1 cj (jn (α:=Value) w (fun cq w=>Q3 P .eql T.d (.tmp 112) (.tmp 113) f.2 a1 w fun g w=>Q0 g false w (fun w J=>J b8 w) fun ck w=>Q0 g false w (fun w J=>J a1 w) fun cd w=>Q0 g false w (indexAddr P T.a8 ck cd) fun cl w=>Q0 g false w (Q2 P T.a6 cl) fun cm w=>Q0 g false w (fun w J=>J f.2 w) fun cg w=>Q0 g false w (indexAddr P T.a6 cm cg) fun cc w=>Q0 g false w (Q2 P T.u cc) fun cp w=>pick P g (.bool true) cp w fun bq w=>X1 bq (indexAddr P T.i a0 f.2 w fun br w=>fieldAddr P T.b br 7 w fun b4 w=>Q2 P T.j b4 w fun bz w=>X2 P .append [T.j,T.j] T.j [false,false] [f.1,bz] w fun cw w=>cq cw w) (cq f.1 w)) fun c1 d_ w=>Q3 P .add T.d (.tmp 110) (.const (.int .i64 1)) f.2 (.int .i64 1) w fun cr w=>ay (c1,cr) w) (lp (α:=Value) (.int .i64 0) w fun al aw d_ w=>X2 P .len [T.j] T.d [false] [f.1] w fun b3 w=>Q3 P .lss T.d (.tmp 131) (.tmp 133) aw b3 w fun bo w=>X1 bo (lp (α:=Value) (.int .i64 0) w fun an a7 d_ w=>Q3 P .lss T.d (.tmp 137) (.tmp 138) a7 aw w fun ct w=>X1 ct (dr w fun b c=>Q4 b (fun p=> ∀w,c w→indexAddr P T.j f.1 aw w (dk b p w)) fun p=>Q4 b (fun ad=> ∀v w,c w→p v w→fieldAddr P T.e v 0 w (dk b ad w)) fun ad=>Q4 b (fun ab=> ∀w,c w→indexAddr P T.j f.1 a7 w (dk b ab w)) fun ab=>Q4 b (fun m=> ∀W w,c w→ab W w→fieldAddr P T.e W 0 w (dk b m w)) fun m=>Q4 b (fun Q=> ∀Y w,c w→ad Y w→Q2 P T.c Y w (dk b Q w)) fun Q=>Q4 b (fun M=> ∀H w,c w→m H w→Q2 P T.c H w (dk b M w)) fun M=>Q4 b (fun d=> ∀af y w,c w→Q af w→M y w→Q3 P .eql T.c (.tmp 146) (.tmp 151) af y w (dk b d w)) fun d=>Q4 b (fun L=> ∀a w,c w→d a w→Q0 a true w (fun w J=>J f.1 w) (dk b L w)) fun L=>Q4 b (fun ae=> ∀a w,c w→d a w→Q0 a true w (fun w J=>J aw w) (dk b ae w)) fun ae=>Q4 b (fun l=> ∀a q t w,c w→d a w→L q w→ae t w→Q0 a true w (indexAddr P T.j q t) (dk b l w)) fun l=>Q4 b (fun ac=> ∀a w,c w→d a w→Q0 a true w (fun w J=>J f.1 w) (dk b ac w)) fun ac=>Q4 b (fun N=> ∀a w,c w→d a w→Q0 a true w (fun w J=>J a7 w) (dk b N w)) fun N=>Q4 b (fun C=> ∀a B ag w,c w→d a w→ac B w→N ag w→Q0 a true w (indexAddr P T.j B ag) (dk b C w)) fun C=>Q4 b (fun R=> ∀a aa w,c w→d a w→l aa w→Q0 a true w (Q2 P T.e aa) (dk b R w)) fun R=>Q4 b (fun ao=> ∀a n w,c w→d a w→R n w→Q0 a true w (Q1 P F.aW [n]) (dk b ao w)) fun ao=>Q4 b (fun ak=> ∀a r w,c w→d a w→C r w→Q0 a true w (Q2 P T.e r) (dk b ak w)) fun ak=>∀v Y W H af y a q t aa B ag r n bi bh w,c w→p v w→ad Y w→ab W w→m H w→Q af w→M y w→d a w→L q w→ae t w→l aa w→ac B w→N ag w→C r w→R n w→ao bi w→ak bh w→ Q0 a true w (Q1 P F.aW [bh]) fun b9 w=>Q0 a true w (Q3 P .neq T.c (.tmp 158) (.tmp 163) bi b9) fun bs w=>pick P a bs (.bool false) w fun ci w=>X1 ci (K (.int .i64 66) w) (Q3 P .add T.d (.tmp 140) (.const (.int .i64 1)) a7 (.int .i64 1) w fun cu w=>an cu w)) (Q3 P .add T.d (.tmp 135) (.const (.int .i64 1)) aw (.int .i64 1) w fun b1 w=>al b1 w)) (lp (α:=Value) (.int .i64 0) w fun av bn d_ w=>X2 P .len [T.j] T.d [false] [f.1] w fun ch w=>Q3 P .lss T.d (.tmp 166) (.tmp 168) bn ch w fun o w=>Q0 o true w (fieldAddr P T.b t5 4) fun bu w=>Q0 o true w (Q2 P T.u bu) fun bx w=>Q0 o true w (J8 P .not bx) fun co w=>pick P o co (.bool false) w fun cb w=>X1 cb (dr w fun b c=>Q4 b (fun D=> ∀w,c w→fieldAddr P T.b t5 0 w (dk b D w)) fun D=>Q4 b (fun A=> ∀w,c w→indexAddr P T.j f.1 bn w (dk b A w)) fun A=>Q4 b (fun u=> ∀U w,c w→A U w→fieldAddr P T.e U 0 w (dk b u w)) fun u=>Q4 b (fun X=> ∀V w,c w→D V w→Q2 P T.c V w (dk b X w)) fun X=>Q4 b (fun z=> ∀E w,c w→u E w→Q2 P T.c E w (dk b z w)) fun z=>Q4 b (fun i=> ∀s Z w,c w→X s w→z Z w→Q1 P F.bf [a0,s,Z] w (dk b i w)) fun i=>Q4 b (fun az=> ∀e w,c w→i e w→ext P e 0 w (dk b az w)) fun az=>Q4 b (fun O=> ∀e w,c w→i e w→ext P e 1 w (dk b O w)) fun O=>Q4 b (fun am=> ∀e w,c w→i e w→ext P e 2 w (dk b am w)) fun am=>Q4 b (fun bc=> ∀w,c w→W0 P T.e w (dk b bc w)) fun bc=>Sr b (fun aq=> ∀k h w,c w→bc k w→O h w→Y0 P T.e k h w (dk b (aq [k,h]) w)) fun aq=>∀V U E s Z e cv h bg k de w,c w→D V w→A U w→u E w→X s w→z Z w→i e w→az cv w→O h w→am bg w→bc k w→aq [k,h] de w→ J8 P .not bg w fun ap w=>Q0 ap false w (fieldAddr P T.e k 3) fun cn w=>Q0 ap false w (Q2 P T.u cn) fun cs w=>pick P ap (.bool true) cs w fun ce w=>X1 ce (K (.int .i64 67) w) (Q3 P .add T.d (.tmp 175) (.const (.int .i64 1)) bn (.int .i64 1) w fun b7 w=>av b7 w)) (K (.int .i64 0) w)))))))
theorem Bw {b a:Value} {w:World} {K:Value→World→Prop} (h:Vq b a w K):Q1 P F.b9 [b,a] w K:=Q9 Fk Tryz.func105 rfl (by decide) (by kernel_rfl) h
end Go.Proofs.YtjdiakhipmggjaaGreatDoor

set_option maxRecDepth 100000
namespace Go.Proofs.YtjdiakhipmggjaaGreatDoor
open Go.Emb
def Q0l:V5:=[none,none,none,none,none,some ([5,7],[2,3,4,5,7,8,21,22,23,24,25,26,27,28,29,30,31,32,33,34,35,36,37,38,39,40,41,42]),none,none,none,none,none,none,none,none,none,some ([9],[2,3,4,9,43,44,45,46,47,48,49,50,51,52,53,54,55,56,57,58,59,60]),none,none,none,none,none,none,none,some ([10],[2,3,4,10,11,61,62,63,64,65,66,67,68,69,70,71,72,73,74,75,76]),none,none,none,none,none,none,none,none,none,some ([13],[2,3,4,13,79,80,81,82,83,84,85,86,87,88,89,90,91,92,93,94,95,96]),none,none,none,none,none,none,none,none,some ([14,15],[14,15,98,99,100,101,102,103,104,105,106,107,108,109,110]),none,none,none,none,none,some ([16],[2,3,4,16,17,111,112,113,114,115,116,117,118,119,120,121,122,123,124,125,126,127,128,129,130,131]),none,none,none,none,none,none,none]
def Hg (m:Value) (w:World) (K:Value→World→Prop):Prop:= Q1 P F.bn [] w fun B w=>X2 P .len [T.i] T.d [false] [B] w fun b w=>lp (α:=Value×Value) (B,(.int .i64 0)) w fun l c v w=>X2 P .len [T.i] T.d [false] [m] w fun av w=>Q3 P .lss T.d (.tmp 21) (.tmp 23) c.2 av w fun ad w=>X1 ad (indexAddr P T.i m c.2 w fun ap w=>Q2 P T.b ap w fun af w=>Q1 P F.bo [af] w fun y w=>Q3 P .neq T.w (.tmp 32) (.const (.int .i64 0)) y (.int .i64 0) w fun aq w=>X1 aq (K (.tuple #[(.slice none 0 0),c.2,y]) w) (indexAddr P T.i m c.2 w fun aa w=>Q2 P T.b aa w fun a4 w=>buildSlice P T.i 1 [(0,a4)] w fun R w=>X2 P .append [T.i,T.i] T.i [false,false] [c.1,R] w fun an w=>Q3 P .add T.d (.tmp 25) (.const (.int .i64 1)) c.2 (.int .i64 1) w fun a2 w=>l (an,a2) w)) (lp (α:=Value) (.int .i64 0) w fun g f v w=>X2 P .len [T.i] T.d [false] [m] w fun ax w=>Q3 P .lss T.d (.tmp 43) (.tmp 45) f ax w fun a3 w=>X1 a3 (indexAddr P T.i m f w fun az w=>fieldAddr P T.b az 0 w fun a1 w=>Q2 P T.c a1 w fun ak w=>Q1 P F.b [c.1,ak] w fun ar w=>Q3 P .add T.d (.tmp 56) (.tmp 57) b f w fun am w=>Q3 P .neq T.d (.tmp 55) (.tmp 58) ar am w fun Z w=>X1 Z (K (.tuple #[(.slice none 0 0),f,(.int .i64 60)]) w) (Q3 P .add T.d (.tmp 47) (.const (.int .i64 1)) f (.int .i64 1) w fun aw w=>g aw w)) (lp (α:=Value) (.int .i64 0) w fun k n v w=>X2 P .len [T.i] T.d [false] [m] w fun ae w=>Q3 P .lss T.d (.tmp 61) (.tmp 63) n ae w fun U w=>X1 U (indexAddr P T.i m n w fun ai w=>Q2 P T.b ai w fun ay w=>Q1 P F.be [c.1,ay] w fun H w=>Q3 P .neq T.w (.tmp 73) (.const (.int .i64 0)) H (.int .i64 0) w fun aj w=>X1 aj (K (.tuple #[(.slice none 0 0),n,H]) w) (Q3 P .add T.d (.tmp 65) (.const (.int .i64 1)) n (.int .i64 1) w fun ah w=>k ah w)) (Q1 P F.al [c.1] w fun V w=>lp (α:=Value) (.int .i64 0) w fun h e v w=>X2 P .len [T.i] T.d [false] [m] w fun Y w=>Q3 P .lss T.d (.tmp 79) (.tmp 81) e Y w fun Q w=>X1 Q (Q3 P .add T.d (.tmp 86) (.tmp 87) b e w fun ag w=>indexAddr P T.a8 V ag w fun W w=>Q2 P T.a6 W w fun O w=>Q3 P .add T.d (.tmp 91) (.tmp 92) b e w fun ao w=>indexAddr P T.a6 O ao w fun al w=>Q2 P T.u al w fun ac w=>X1 ac (K (.tuple #[(.slice none 0 0),e,(.int .i64 63)]) w) (Q3 P .add T.d (.tmp 83) (.const (.int .i64 1)) e (.int .i64 1) w fun ab w=>h ab w)) (buildSlice P T.a7 0 [] w fun X w=>lp (α:=Value×Value) (X,(.int .i64 0)) w fun d a v w=>X2 P .len [T.i] T.d [false] [m] w fun J w=>Q3 P .lss T.d (.tmp 98) (.tmp 100) a.2 J w fun A w=>X1 A (Q3 P .add T.d (.tmp 107) (.tmp 108) b a.2 w fun N w=>Q1 P F.b1 [c.1,a.1,b,N] w fun D w=>Q3 P .add T.d (.tmp 102) (.const (.int .i64 1)) a.2 (.int .i64 1) w fun C w=>d (D,C) w) (lp (α:=Value) (.int .i64 0) w fun i o v w=>X2 P .len [T.a7] T.d [false] [a.1] w fun L w=>Q3 P .lss T.d (.tmp 111) (.tmp 113) o L w fun t w=>X1 t (indexAddr P T.a7 a.1 o w fun E w=>Q2 P T.d E w fun u w=>Q1 P F.b9 [c.1,u] w fun p w=>Q3 P .neq T.w (.tmp 123) (.const (.int .i64 0)) p (.int .i64 0) w fun s w=>X1 s (dr w fun Tr Br=>Q4 Tr (fun j=> ∀w,Br w→indexAddr P T.a7 a.1 o w (dk Tr j w)) fun j=>∀q w,Br w→j q w→ Q2 P T.d q w fun z w=>Q3 P .sub T.d (.tmp 128) (.tmp 129) z b w fun M w=>K (.tuple #[(.slice none 0 0),M,p]) w) (Q3 P .add T.d (.tmp 115) (.const (.int .i64 1)) o (.int .i64 1) w fun r w=>i r w)) (K (.tuple #[c.1,(.int .i64 0),(.int .i64 0)]) w))))))
theorem Q1a {a:Value} {w:World} {K:Value→World→Prop} (h:Hg a w K):Q1 P F.bO [a] w K:=Q9 Q0l Tryz.func56 rfl (by decide) (by kernel_rfl) h
def Ni (D:Value) (w:World) (K:Value→World→Prop):Prop:= W0 P T.a w fun e w=>Q1 P F.aA [] w fun p w=>Q1 P F.cN [p] w fun d w=>ext P d 0 w fun f w=>ext P d 1 w fun C w=>ext P d 2 w fun s w=>Q1 P F.aA [] w fun r w=>Q1 P F.bO [r] w fun a w=>ext P a 0 w fun l w=>ext P a 1 w fun E w=>ext P a 2 w fun n w=>Q3 P .rem T.aq (.tmp 25) (.const (.int .u16 301)) D (.int .u16 301) w fun y w=>conv P T.aq T.d y w fun i w=>Q3 P .neq T.w (.tmp 28) (.const (.int .i64 0)) s (.int .i64 0) w fun b w=>Q0 b false w (fun w J=>J n w) fun o w=>Q0 b false w (Q3 P .neq T.w (.tmp 31) (.const (.int .i64 0)) o (.int .i64 0)) fun q w=>pick P b (.bool true) q w fun c w=>Q0 c false w (fun w J=>J f w) fun k w=>Q0 c false w (Q3 P .eql T.r (.tmp 35) (.const (.pointer none)) k (.pointer none)) fun A w=>pick P c (.bool true) A w fun t w=>X1 t (H3 P T.a [] w fun u w=>Y0 P T.a e u w fun _u w=>Y8 P T.a e w fun h=>K (.tuple #[(.pointer none),h]) w) (Q1 P F.cO [f,i] w fun g w=>ext P g 0 w fun z w=>ext P g 1 w fun j w=>Q3 P .neq T.w (.tmp 45) (.const (.int .i64 0)) j (.int .i64 0) w fun B w=>X1 B (H3 P T.a [] w fun v w=>Y0 P T.a e v w fun _u w=>Y8 P T.a e w fun h=>K (.tuple #[(.pointer none),h]) w) (H3 P T.a [(0,l),(1,i)] w fun m w=>Y0 P T.a e m w fun _u w=>Y8 P T.a e w fun h=>K (.tuple #[z,h]) w))
theorem Pb {a:Value} {w:World} {K:Value→World→Prop} (h:Ni a w K):Q1 P F.aj [a] w K:=Q9 (List.replicate 12 none) Tryz.func24 rfl (by decide) (by kernel_rfl) h
def Q27 (f:Value) (w:World) (K:Value→World→Prop):Prop:= W0 P T.g w fun a w=>Q3 P .eql T.c (.tmp 3) (.const (.string ⟨#[105,110,116]⟩)) f (.string ⟨#[105,110,116]⟩) w fun h w=>X1 h (H3 P T.g [(0,(.int .i64 1))] w fun g w=>Y0 P T.g a g w fun _u w=>Y8 P T.g a w fun b=>K b w) (Q3 P .eql T.c (.tmp 3) (.const (.string ⟨#[98,111,111,108]⟩)) f (.string ⟨#[98,111,111,108]⟩) w fun i w=>X1 i (H3 P T.g [(0,(.int .i64 2))] w fun j w=>Y0 P T.g a j w fun _u w=>Y8 P T.g a w fun b=>K b w) (Q3 P .eql T.c (.tmp 3) (.const (.string ⟨#[116,101,120,116]⟩)) f (.string ⟨#[116,101,120,116]⟩) w fun e w=>X1 e (H3 P T.g [(0,(.int .i64 3))] w fun d w=>Y0 P T.g a d w fun _u w=>Y8 P T.g a w fun b=>K b w) (H3 P T.g [] w fun c w=>Y0 P T.g a c w fun _u w=>Y8 P T.g a w fun b=>K b w)))
theorem Q6N {a:Value} {w:World} {K:Value→World→Prop} (h:Q27 a w K):Q1 P F.cv [a] w K:=Q9 (List.replicate 10 none) Tryz.func29 rfl (by decide) (by kernel_rfl) h
def Hw (a y v:Value) (w:World) (K:Value→World→Prop):Prop:= nilCheck P a w fun z w=>fieldAddr P T.p z 2 w fun g w=>Q2 P T.d g w fun s w=>X2 P .len [T.m] T.d [false] [v] w fun r w=>Q3 P .add T.d (.const (.int .i64 1)) (.tmp 13) (.int .i64 1) r w fun i w=>Q3 P .add T.d (.tmp 11) (.tmp 14) s i w fun u w=>nilCheck P a w fun c w=>fieldAddr P T.p c 2 w fun f w=>Y0 P T.d f u w fun _u w=>nilCheck P a w fun q w=>fieldAddr P T.p q 3 w fun j w=>Q2 P T.f j w fun d w=>H3 P T.n [(0,y),(1,v)] w fun k w=>buildSlice P T.f 1 [(0,k)] w fun t w=>X2 P .append [T.f,T.f] T.f [false,false] [d,t] w fun p w=>nilCheck P a w fun e w=>fieldAddr P T.p e 3 w fun m w=>Y0 P T.f m p w fun _u w=>nilCheck P a w fun h w=>fieldAddr P T.p h 3 w fun l w=>Q2 P T.f l w fun o w=>X2 P .len [T.f] T.d [false] [o] w fun n w=>Q3 P .sub T.d (.tmp 34) (.const (.int .i64 1)) n (.int .i64 1) w fun b w=>K (.tuple #[b,(.int .i64 0)]) w
theorem Q1Q {c a b:Value} {w:World} {K:Value→World→Prop} (h:Hw c a b w K):Q1 P F.b6 [c,a,b] w K:=Q9 (List.replicate 4 none) Tryz.func67 rfl (by decide) (by kernel_rfl) h
def Ki:V5:=[none,none,none,none,none,none,none,none,none,none,none,some ([7,31],[7,9,31,32,33,34,35,36,37,38,39,40,41]),none,none,none,none,none]
def Mf (f l:Value) (w:World) (K:Value→World→Prop):Prop:= nilCheck P f w fun C w=>fieldAddr P T.p C 0 w fun B w=>Q2 P T.r B w fun A w=>Q1 P F.aE [A,l] w fun E w=>J8 P .not E w fun i w=>X1 i (K (.tuple #[(.int .i64 0),(.int .i64 91)]) w) (nilCheck P f w fun u w=>fieldAddr P T.p u 0 w fun r w=>Q2 P T.r r w fun t w=>Q1 P F.a3 [t,l] w fun d w=>X2 P .len [T.k] T.d [false] [d] w fun k w=>Q3 P .add T.d (.const (.int .i64 1)) (.tmp 24) (.int .i64 1) k w fun n w=>Q1 P F.v [f] w fun s w=>Q3 P .gtr T.d (.tmp 25) (.tmp 27) n s w fun j w=>X1 j (K (.tuple #[(.int .i64 0),(.int .i64 90)]) w) (X2 P .len [T.k] T.d [false] [d] w fun m w=>lp (α:=Value×Value) ((.slice none 0 0),(.int .i64 0)) w fun b c L w=>Q3 P .lss T.d (.tmp 31) (.tmp 30) c.2 m w fun o w=>X1 o (indexAddr P T.k d c.2 w fun q w=>Q2 P T.o q w fun p w=>W0 P T.o w fun a w=>Y0 P T.o a p w fun _u w=>fieldAddr P T.o a 1 w fun D w=>Q2 P T.c D w fun v w=>Q1 P F.cv [v] w fun y w=>buildSlice P T.m 1 [(0,y)] w fun h w=>X2 P .append [T.m,T.m] T.m [false,false] [c.1,h] w fun J w=>Q3 P .add T.d (.tmp 31) (.const (.int .i64 1)) c.2 (.int .i64 1) w fun g w=>b (J,g) w) (Q1 P F.b6 [f,l,c.1] w fun e w=>ext P e 0 w fun H w=>ext P e 1 w fun z w=>K (.tuple #[H,z]) w)))
theorem Ix {b a:Value} {w:World} {K:Value→World→Prop} (h:Mf b a w K):Q1 P F.aJ [b,a] w K:=Q9 Ki Tryz.func33 rfl (by decide) (by kernel_rfl) h
def Q4v (e:Value) (w:World) (K:Value→World→Prop):Prop:= Q1 P F.a0 [e] w fun f w=>J8 P .not f w fun a w=>Q0 a false w (fun w J=>J e w) fun g w=>Q0 a false w (Q1 P F.cw [g]) fun h w=>Q0 a false w (Q3 P .eql T.d (.tmp 9) (.const (.int .i64 3)) h (.int .i64 3)) fun b w=>pick P a (.bool true) b w fun d w=>X1 d (K (.tuple #[(.string ⟨#[]⟩),(.int .i64 30)]) w) (Q3 P .add T.c (.tmp 12) (.const (.string ⟨#[91,93]⟩)) e (.string ⟨#[91,93]⟩) w fun c w=>K (.tuple #[c,(.int .i64 0)]) w)
theorem Q9X {a:Value} {w:World} {K:Value→World→Prop} (h:Q4v a w K):Q1 P F.cS [a] w K:=Q9 (List.replicate 5 none) Tryz.func68 rfl (by decide) (by kernel_rfl) h
def Q00:V5:=[none,none,none,none,none,none,none,none,none,none,none,none,some ([45],[11,45,46,47,48,49,50,51,52,53]),none,none,none,none,none]
def Oy (t h i:Value) (w:World) (K:Value→World→Prop):Prop:= Q1 P F.cS [h] w fun g w=>ext P g 0 w fun H w=>ext P g 1 w fun m w=>Q3 P .neq T.w (.tmp 18) (.const (.int .i64 0)) m (.int .i64 0) w fun a w=>Q0 a false w (fun w J=>J t w) fun u w=>Q0 a false w (nilCheck P u) fun o w=>Q0 a false w (fieldAddr P T.p o 0) fun B w=>Q0 a false w (Q2 P T.r B) fun q w=>Q0 a false w (fun w J=>J h w) fun v w=>Q0 a false w (Q1 P F.s [q,v]) fun E w=>Q0 a false w (J8 P .not E) fun A w=>pick P a (.bool true) A w fun c w=>Q0 c false w (fun w J=>J h w) fun r w=>Q0 c false w (Q3 P .eql T.c (.tmp 30) (.const (.string ⟨#[110,117,108,108]⟩)) r (.string ⟨#[110,117,108,108]⟩)) fun s w=>pick P c (.bool true) s w fun y w=>X1 y (K (.tuple #[(.int .i64 0),(.int .i64 91)]) w) (Q3 P .lss T.a0 (.tmp 34) (.const (.int .i64 0)) i (.int .i64 0) w fun k w=>X1 k (K (.tuple #[(.int .i64 0),(.int .i64 93)]) w) (Q1 P F.v [t] w fun l w=>Q3 P .geq T.a0 (.tmp 37) (.tmp 39) i l w fun M w=>X1 M (K (.tuple #[(.int .i64 0),(.int .i64 90)]) w) (Li P T.m i i w fun d w=>X2 P .len [T.m] T.d [false] [d] w fun j w=>lp (α:=Value) (.int .i64 0) w fun b e N w=>Q3 P .lss T.d (.tmp 45) (.tmp 44) e j w fun L w=>X1 L (Q1 P F.cv [h] w fun p w=>indexAddr P T.m d e w fun C w=>Y0 P T.g C p w fun _u w=>Q3 P .add T.d (.tmp 45) (.const (.int .i64 1)) e (.int .i64 1) w fun D w=>b D w) (Q1 P F.b6 [t,H,d] w fun f w=>ext P f 0 w fun z w=>ext P f 1 w fun n w=>K (.tuple #[z,n]) w))))
theorem Aq {c a b:Value} {w:World} {K:Value→World→Prop} (h:Oy c a b w K):Q1 P F.aQ [c,a,b] w K:=Q9 Q00 Tryz.func34 rfl (by decide) (by kernel_rfl) h
def Dd (d:Value) (w:World) (K:Value→World→Prop):Prop:= nilCheck P d w fun b w=>fieldAddr P T.p b 0 w fun c w=>Q2 P T.r c w fun a w=>K a w
theorem Ts {a:Value} {w:World} {K:Value→World→Prop} (h:Dd a w K):Q1 P F.bB [a] w K:=Q9 (List.replicate 2 none) Tryz.func35 rfl (by decide) (by kernel_rfl) h
def Oc (w:World) (K:Value→World→Prop):Prop:= Q1 P F.aj [(.int .u16 10)] w fun t8 w=>ext P t8 0 w fun d w=>ext P t8 1 w fun A w=>W0 P T.a w fun t2 w=>Y0 P T.a t2 A w fun _u w=>Q3 P .eql T.a5 (.tmp 11) (.const (.pointer none)) d (.pointer none) w fun U w=>X1 U (K (.bool false) w) (Q1 P F.aJ [d,(.string ⟨#[90,101,114,111,70,97,117,108,116]⟩)] w fun l w=>ext P l 0 w fun r w=>ext P l 1 w fun z w=>Q1 P F.aQ [d,(.string ⟨#[105,110,116]⟩),(.int .i64 3)] w fun k w=>ext P k 0 w fun D w=>ext P k 1 w fun t w=>Q3 P .eql T.d (.tmp 23) (.const (.int .i64 0)) r (.int .i64 0) w fun h w=>Q0 h true w (fun w J=>J z w) fun V w=>Q0 h true w (Q3 P .eql T.w (.tmp 26) (.const (.int .i64 0)) V (.int .i64 0)) fun M w=>pick P h M (.bool false) w fun g w=>Q0 g true w (fun w J=>J D w) fun y w=>Q0 g true w (Q3 P .eql T.d (.tmp 30) (.const (.int .i64 1)) y (.int .i64 1)) fun B w=>pick P g B (.bool false) w fun i w=>Q0 i true w (fun w J=>J t w) fun H w=>Q0 i true w (Q3 P .eql T.w (.tmp 34) (.const (.int .i64 0)) H (.int .i64 0)) fun o w=>pick P i o (.bool false) w fun e w=>Q0 e true w (fun w J=>J d w) fun Q w=>Q0 e true w (Q1 P F.v [Q]) fun q w=>Q0 e true w (Q3 P .eql T.d (.tmp 39) (.const (.int .i64 4)) q (.int .i64 4)) fun Z w=>pick P e Z (.bool false) w fun a w=>Q0 a true w (fun w J=>J d w) fun W w=>Q0 a true w (Q1 P F.c2 [W]) fun m w=>Q0 a true w (Q3 P .eql T.d (.tmp 44) (.const (.int .i64 2)) m (.int .i64 2)) fun Y w=>pick P a Y (.bool false) w fun f w=>Q0 f true w (fun w J=>J d w) fun O w=>Q0 f true w (Q1 P F.aB [O,(.int .i64 0)]) fun s w=>Q0 f true w (Q3 P .eql T.c (.tmp 49) (.const (.string ⟨#[90,101,114,111,70,97,117,108,116]⟩)) s (.string ⟨#[90,101,114,111,70,97,117,108,116]⟩)) fun X w=>pick P f X (.bool false) w fun b w=>Q0 b true w (fun w J=>J d w) fun R w=>Q0 b true w (Q1 P F.bN [R,(.int .i64 1)]) fun C w=>Q0 b true w (Q3 P .eql T.d (.tmp 54) (.const (.int .i64 3)) C (.int .i64 3)) fun L w=>pick P b L (.bool false) w fun j w=>Q0 j true w (fun w J=>J d w) fun E w=>Q0 j true w (Q1 P F.bz [E]) fun p w=>pick P j p (.bool false) w fun c w=>Q0 c true w (fun w J=>J d w) fun v w=>Q0 c true w (Q1 P F.bB [v]) fun u w=>Q0 c true w (Q3 P .neq T.r (.tmp 63) (.const (.pointer none)) u (.pointer none)) fun n w=>pick P c n (.bool false) w fun N w=>K N w)
theorem Pq {w:World} {K:Value→World→Prop} (h:Oc w K):Q1 P F.ai [] w K:=Q9 (List.replicate 8 none) Tryz.func14 rfl (by decide) (by kernel_rfl) h
def Ov (q p r:Value) (w:World) (K:Value→World→Prop):Prop:= Q1 P F.aH [q,p] w fun e w=>J8 P .not e w fun m w=>X1 m (K (.int .i64 92) w) (Q3 P .lss T.a0 (.tmp 13) (.const (.int .i64 0)) r (.int .i64 0) w fun a w=>Q0 a false w (fun w J=>J r w) fun b w=>Q0 a false w (fun w J=>J q w) fun d w=>Q0 a false w (nilCheck P d) fun k w=>Q0 a false w (fieldAddr P T.p k 3) fun h w=>Q0 a false w (Q2 P T.f h) fun j w=>Q0 a false w (fun w J=>J p w) fun f w=>Q0 a false w (indexAddr P T.f j f) fun o w=>Q0 a false w (fieldAddr P T.n o 1) fun l w=>Q0 a false w (Q2 P T.m l) fun c w=>Q0 a false w (X2 P .len [T.m] T.d [false] [c]) fun g w=>Q0 a false w (Q3 P .geq T.a0 (.tmp 16) (.tmp 25) b g) fun n w=>pick P a (.bool true) n w fun i w=>X1 i (K (.int .i64 93) w) (K (.int .i64 0) w))
theorem Au {c a b:Value} {w:World} {K:Value→World→Prop} (h:Ov c a b w K):Q1 P F.aS [c,a,b] w K:=Q9 (List.replicate 7 none) Tryz.func50 rfl (by decide) (by kernel_rfl) h
def Hr (o n p:Value) (w:World) (K:Value→World→Prop):Prop:= W0 P T.g w fun b w=>Q1 P F.aS [o,n,p] w fun a w=>Q3 P .neq T.w (.tmp 13) (.const (.int .i64 0)) a (.int .i64 0) w fun e w=>X1 e (H3 P T.g [] w fun c w=>Y0 P T.g b c w fun _u w=>Y8 P T.g b w fun f=>K (.tuple #[f,a]) w) (nilCheck P o w fun j w=>fieldAddr P T.p j 3 w fun g w=>Q2 P T.f g w fun i w=>indexAddr P T.f i n w fun m w=>fieldAddr P T.n m 1 w fun k w=>Q2 P T.m k w fun d w=>indexAddr P T.m d p w fun l w=>Q2 P T.g l w fun h w=>Y0 P T.g b h w fun _u w=>Y8 P T.g b w fun f=>K (.tuple #[f,(.int .i64 0)]) w)
theorem Q1U {c a b:Value} {w:World} {K:Value→World→Prop} (h:Hr c a b w K):Q1 P F.b4 [c,a,b] w K:=Q9 (List.replicate 6 none) Tryz.func16 rfl (by decide) (by kernel_rfl) h
def Tz:V5:=[none,none,none,none,some ([3,12],[3,5,6,12,13,14,15,16,17,18,19,20,21,22,23,24,25,26,27,28,29,30,31]),none,none,none,none,none,none,none]
def Dk (v:Value) (w:World) (K:Value→World→Prop):Prop:= nilCheck P v w fun u w=>fieldAddr P T.p u 3 w fun y w=>Q2 P T.f y w fun c w=>X2 P .len [T.f] T.d [false] [c] w fun r w=>lp (α:=Value×Value) ((.slice none 0 0),(.int .i64 0)) w fun b d A w=>Q3 P .lss T.d (.tmp 12) (.tmp 11) d.2 r w fun q w=>X1 q (indexAddr P T.f c d.2 w fun m w=>Q2 P T.n m w fun t w=>W0 P T.n w fun a w=>Y0 P T.n a t w fun _u w=>fieldAddr P T.n a 1 w fun g w=>Q2 P T.m g w fun k w=>X2 P .len [T.m] T.d [false] [k] w fun f w=>Li P T.m f f w fun e w=>fieldAddr P T.n a 1 w fun n w=>Q2 P T.m n w fun h w=>X2 P .copy [T.m,T.m] T.d [false,false] [e,h] w fun z w=>fieldAddr P T.n a 0 w fun o w=>Q2 P T.c o w fun s w=>H3 P T.n [(0,s),(1,e)] w fun i w=>buildSlice P T.f 1 [(0,i)] w fun p w=>X2 P .append [T.f,T.f] T.f [false,false] [d.1,p] w fun j w=>Q3 P .add T.d (.tmp 12) (.const (.int .i64 1)) d.2 (.int .i64 1) w fun l w=>b (j,l) w) (K d.1 w)
theorem Tu {a:Value} {w:World} {K:Value→World→Prop} (h:Dk a w K):Q1 P F.ac [a] w K:=Q9 Tz Tryz.func19 rfl (by decide) (by kernel_rfl) h
def Hq (E R V W:Value) (w:World) (K:Value→World→Prop):Prop:= box P T.g W w fun c w=>Q1 P F.aS [E,R,V] w fun L w=>Q3 P .neq T.w (.tmp 14) (.const (.int .i64 0)) L (.int .i64 0) w fun O w=>X1 O (K L w) (dr w fun a b=>Q4 a (fun e=> ∀w,b w→nilCheck P E w (dk a e w)) fun e=>Q4 a (fun d=> ∀k w,b w→e k w→fieldAddr P T.p k 3 w (dk a d w)) fun d=>Q4 a (fun C=> ∀w,b w→Q2 P T.g c w (dk a C w)) fun C=>Q4 a (fun i=> ∀y w,b w→d y w→Q2 P T.f y w (dk a i w)) fun i=>Q4 a (fun l=> ∀r w,b w→i r w→indexAddr P T.f r R w (dk a l w)) fun l=>Q4 a (fun h=> ∀n w,b w→l n w→Q2 P T.n n w (dk a h w)) fun h=>Q4 a (fun z=> ∀t w,b w→h t w→Q1 P F.aD [E,t,V] w (dk a z w)) fun z=>∀k y H r n t D w,b w→e k w→d y w→C H w→i r w→l n w→h t w→z D w→ Q1 P F.aC [E,H,D] w fun U w=>J8 P .not U w fun Q w=>X1 Q (K (.int .i64 91) w) (dr w fun a b=>Q4 a (fun f=> ∀w,b w→nilCheck P E w (dk a f w)) fun f=>Q4 a (fun j=> ∀o w,b w→f o w→fieldAddr P T.p o 3 w (dk a j w)) fun j=>Q4 a (fun u=> ∀q w,b w→j q w→Q2 P T.f q w (dk a u w)) fun u=>Q4 a (fun g=> ∀p w,b w→u p w→indexAddr P T.f p R w (dk a g w)) fun g=>Q4 a (fun m=> ∀v w,b w→g v w→fieldAddr P T.n v 1 w (dk a m w)) fun m=>Q4 a (fun B=> ∀s w,b w→m s w→Q2 P T.m s w (dk a B w)) fun B=>Q4 a (fun A=> ∀w,b w→Q2 P T.g c w (dk a A w)) fun A=>∀o q p v s J M w,b w→f o w→j q w→u p w→g v w→m s w→B J w→A M w→ indexAddr P T.m J V w fun N w=>Y0 P T.g N M w fun _u w=>K (.int .i64 0) w))
theorem Q1P {c a b d:Value} {w:World} {K:Value→World→Prop} (h:Hq c a b d w K):Q1 P F.aG [c,a,b,d] w K:=Q9 (List.replicate 10 none) Tryz.func22 rfl (by decide) (by kernel_rfl) h
def Ed (k:Value) (w:World) (K:Value→World→Prop):Prop:= box P T.l k w fun a w=>fieldAddr P T.l a 1 w fun j w=>Q2 P T.c j w fun g w=>X2 P .len [T.c] T.d [false] [g] w fun h w=>Q3 P .leq T.d (.tmp 5) (.const (.int .i64 100)) h (.int .i64 100) w fun b w=>Q0 b true w (fieldAddr P T.l a 4) fun i w=>Q0 b true w (fieldAddr P T.g i 2) fun l w=>Q0 b true w (Q2 P T.c l) fun c w=>Q0 b true w (X2 P .len [T.c] T.d [false] [c]) fun e w=>Q0 b true w (Q3 P .leq T.d (.tmp 11) (.const (.int .i64 5000)) e (.int .i64 5000)) fun f w=>pick P b f (.bool false) w fun d w=>K d w
theorem Q0I {a:Value} {w:World} {K:Value→World→Prop} (h:Ed a w K):Q1 P F.ag [a] w K:=Q9 (List.replicate 2 none) Tryz.func25 rfl (by decide) (by kernel_rfl) h
def Yo:V5:=[none,none,none,some ([8],[4,5,8,9,10,11,12,13,14,15,16,17,18]),none,none,none,none,none,none,none]
def G6 (g h:Value) (w:World) (K:Value→World→Prop):Prop:= X2 P .len [T.m] T.d [false] [g] w fun i w=>lp (α:=Value) (.int .i64 0) w fun a b k w=>Q3 P .lss T.d (.tmp 8) (.tmp 7) b i w fun j w=>X1 j (indexAddr P T.m g b w fun c w=>Q2 P T.g c w fun e w=>Z3 P h [e] w fun d w=>X1 d (K b w) (Q3 P .add T.d (.tmp 8) (.const (.int .i64 1)) b (.int .i64 1) w fun f w=>a f w)) (K (.int .i64 (-1)) w)
theorem Yu {b a:Value} {w:World} {K:Value→World→Prop} (h:G6 b a w K):Q1 P F.a4 [b,a] w K:=Q9 Yo Tryz.func119 rfl (by decide) (by kernel_rfl) h
def B2 (d a:Value) (w:World) (K:Value→World→Prop):Prop:= Q1 P F.a4 [d,a] w fun b w=>Q3 P .geq T.d (.tmp 7) (.const (.int .i64 0)) b (.int .i64 0) w fun c w=>K c w
theorem Xi {b a:Value} {w:World} {K:Value→World→Prop} (h:B2 b a w K):Q1 P F.k [b,a] w K:=Q9 (List.replicate 2 none) Tryz.func75 rfl (by decide) (by kernel_rfl) h
def On (j g:Value) (w:World) (K:Value→World→Prop):Prop:= box P T.g j w fun a w=>fieldAddr P T.g a 0 w fun f w=>Q2 P T.d f w fun h w=>Q3 P .eql T.d (.tmp 5) (.const (.int .i64 4)) h (.int .i64 4) w fun b w=>Q0 b true w (fieldAddr P T.g a 3) fun i w=>Q0 b true w (Q2 P T.d i) fun k w=>Q0 b true w (Q2 P T.d g) fun c w=>Q0 b true w (Q3 P .geq T.d (.tmp 9) (.tmp 10) k c) fun e w=>pick P b e (.bool false) w fun d w=>K d w
theorem An {b a:Value} {w:World} {K:Value→World→Prop} (h:On b a w K):Q1 P F.bG [b,a] w K:=Q9 (List.replicate 2 none) Tryz.func76 rfl (by decide) (by kernel_rfl) h
def Q1T:V5:=[none,none,none,none,some ([22],[5,22,23,24,25,26,27,28,29,30]),none,none,none,none,none,some ([],[6,31,32,33,34,35,36,37,38,39,40,41,42,43,44,45,46,47,48,49,50,51,52,53,54,55,56,57,58,59,60,61,62,63,64,65,66,67,68,69]),none,none,none,none]
def Hv (M a1:Value) (w:World) (K:Value→World→Prop):Prop:= box P T.d a1 w fun t3 w=>Q2 P T.d t3 w fun t7 w=>X2 P .max [T.d,T.d] T.d [false,true] [t7,(.int .i64 0)] w fun t8 w=>Y0 P T.d t3 t8 w fun _u w=>dr w fun a b=>Q4 a (fun U=> ∀w,b w→nilCheck P M w (dk a U w)) fun U=>Q4 a (fun N=> ∀J w,b w→U J w→fieldAddr P T.p J 3 w (dk a N w)) fun N=>Q4 a (fun O=> ∀w,b w→nilCheck P M w (dk a O w)) fun O=>Q4 a (fun X=> ∀Z w,b w→O Z w→fieldAddr P T.p Z 3 w (dk a X w)) fun X=>Q4 a (fun ac=> ∀z w,b w→N z w→Q2 P T.f z w (dk a ac w)) fun ac=>Q4 a (fun m=> ∀w,b w→Q2 P T.d t3 w (dk a m w)) fun m=>Q4 a (fun L=> ∀e w,b w→X e w→Q2 P T.f e w (dk a L w)) fun L=>Q4 a (fun q=> ∀H w,b w→L H w→X2 P .len [T.f] T.d [false] [H] w (dk a q w)) fun q=>Q4 a (fun aa=> ∀u W w,b w→m u w→q W w→X2 P .min [T.d,T.d] T.d [false,false] [u,W] w (dk a aa w)) fun aa=>∀J z Z e am u H W ai w,b w→U J w→N z w→O Z w→X e w→ac am w→m u w→L H w→q W w→aa ai w→ S1 P T.f am none (some ai) none w fun ak w=>X2 P .len [T.f] T.d [false] [ak] w fun ar w=>lp (α:=Value) (.int .i64 0) w fun r x4 d_ w=>Q3 P .lss T.d (.tmp 22) (.tmp 21) x4 ar w fun bg w=>X1 bg (indexAddr P T.f ak x4 w fun a7 w=>Q2 P T.n a7 w fun aw w=>W0 P T.n w fun t5 w=>Y0 P T.n t5 aw w fun _u w=>fieldAddr P T.n t5 1 w fun az w=>Q2 P T.m az w fun ay w=>H1 P (.func F.bG) [] [t3] w fun a6 w=>Q1 P F.k [ay,a6] w fun bc w=>X1 bc (K (.tuple #[]) w) (Q3 P .add T.d (.tmp 22) (.const (.int .i64 1)) x4 (.int .i64 1) w fun a9 w=>r a9 w)) (lp (α:=Unit) () w fun c bl d_ w=>dr w fun a b=>Q4 a (fun D=> ∀w,b w→nilCheck P M w (dk a D w)) fun D=>Q4 a (fun k=> ∀l w,b w→D l w→fieldAddr P T.p l 3 w (dk a k w)) fun k=>Q4 a (fun Y=> ∀o w,b w→k o w→Q2 P T.f o w (dk a Y w)) fun Y=>Q4 a (fun ab=> ∀n w,b w→Y n w→X2 P .len [T.f] T.d [false] [n] w (dk a ab w)) fun ab=>Q4 a (fun af=> ∀w,b w→Q2 P T.d t3 w (dk a af w)) fun af=>∀l o n ag ao w,b w→D l w→k o w→Y n w→ab ag w→af ao w→ Q3 P .gtr T.d (.tmp 35) (.tmp 36) ag ao w fun bh w=>X1 bh (nilCheck P M w fun aq w=>fieldAddr P T.p aq 3 w fun a3 w=>Q2 P T.f a3 w fun a4 w=>X2 P .len [T.f] T.d [false] [a4] w fun bb w=>Q3 P .sub T.d (.tmp 42) (.const (.int .i64 1)) bb (.int .i64 1) w fun an w=>dr w fun a b=>Q4 a (fun f=> ∀w,b w→nilCheck P M w (dk a f w)) fun f=>Q4 a (fun y=> ∀B w,b w→f B w→fieldAddr P T.p B 2 w (dk a y w)) fun y=>Q4 a (fun h=> ∀w,b w→nilCheck P M w (dk a h w)) fun h=>Q4 a (fun Q=> ∀E w,b w→h E w→fieldAddr P T.p E 3 w (dk a Q w)) fun Q=>Q4 a (fun ae=> ∀C w,b w→y C w→Q2 P T.d C w (dk a ae w)) fun ae=>Q4 a (fun p=> ∀A w,b w→Q A w→Q2 P T.f A w (dk a p w)) fun p=>Q4 a (fun g=> ∀i w,b w→p i w→indexAddr P T.f i an w (dk a g w)) fun g=>Q4 a (fun V=> ∀v w,b w→g v w→fieldAddr P T.n v 1 w (dk a V w)) fun V=>Q4 a (fun t=> ∀j w,b w→V j w→Q2 P T.m j w (dk a t w)) fun t=>Q4 a (fun d=> ∀R w,b w→t R w→X2 P .len [T.m] T.d [false] [R] w (dk a d w)) fun d=>Q4 a (fun ad=> ∀s w,b w→d s w→Q3 P .add T.d (.const (.int .i64 1)) (.tmp 56) (.int .i64 1) s w (dk a ad w)) fun ad=>∀B C E A al i v j R s aj w,b w→f B w→y C w→h E w→Q A w→ae al w→p i w→g v w→V j w→t R w→d s w→ad aj w→ Q3 P .sub T.d (.tmp 47) (.tmp 57) al aj w fun ax w=>nilCheck P M w fun ap w=>fieldAddr P T.p ap 2 w fun av w=>Y0 P T.d av ax w fun _u w=>nilCheck P M w fun a8 w=>fieldAddr P T.p a8 3 w fun a5 w=>Q2 P T.f a5 w fun be w=>S1 P T.f be none (some an) none w fun bd w=>nilCheck P M w fun a2 w=>fieldAddr P T.p a2 3 w fun bf w=>Y0 P T.f bf bd w fun _u w=>c () w) (K (.tuple #[]) w))
theorem Q20 {b a:Value} {w:World} {K:Value→World→Prop} (h:Hv b a w K):Q1 P F.c4 [b,a] w K:=Q9 Q1T Tryz.func40 rfl (by decide) (by kernel_rfl) h
def Q0b:V5:=[none,none,some ([],[5,6,7]),none,some ([],[8,9,10]),none,some ([],[11,12,13]),none,none]
def Oi (d:Value) (w:World) (K:Value→World→Prop):Prop:= W0 P T.g w fun j w=>H3 P T.g [] w fun p w=>W0 P T.g w fun a w=>Y0 P T.g a p w fun _u w=>jn (α:=Unit) w (fun h w=>Q3 P .eql T.c (.tmp 5) (.const (.string ⟨#[105,110,116]⟩)) d (.string ⟨#[105,110,116]⟩) w fun o w=>X1 o (fieldAddr P T.g a 0 w fun n w=>Y0 P T.d n (.int .i64 1) w fun _u w=>h () w) (h () w)) fun s k w=>jn (α:=Unit) w (fun g w=>Q3 P .eql T.c (.tmp 8) (.const (.string ⟨#[98,111,111,108]⟩)) d (.string ⟨#[98,111,111,108]⟩) w fun m w=>X1 m (fieldAddr P T.g a 0 w fun b w=>Y0 P T.d b (.int .i64 2) w fun _u w=>g () w) (g () w)) fun r k w=>jn (α:=Unit) w (fun i w=>Q3 P .eql T.c (.tmp 11) (.const (.string ⟨#[116,101,120,116]⟩)) d (.string ⟨#[116,101,120,116]⟩) w fun f w=>X1 f (fieldAddr P T.g a 0 w fun e w=>Y0 P T.d e (.int .i64 3) w fun _u w=>i () w) (i () w)) fun q k w=>Q2 P T.g a w fun c w=>Y0 P T.g j c w fun _u w=>Y8 P T.g j w fun l=>K l w
theorem Al {a:Value} {w:World} {K:Value→World→Prop} (h:Oi a w K):Q1 P F.aP [a] w K:=Q9 Q0b Tryz.func30 rfl (by decide) (by kernel_rfl) h
def Tx:V5:=[none,none,none,none,some ([3,4],[3,4,7,8,9,10,11,12,13,14,15,16,17,18,19,20,21,22,23]),none,none,none,none]
def Dp (q:Value) (w:World) (K:Value→World→Prop):Prop:= box P T.a q w fun a w=>fieldAddr P T.a a 1 w fun p w=>Q2 P T.d p w fun s w=>lp (α:=Value×Value) (s,(.int .i64 0)) w fun b c t w=>fieldAddr P T.a a 2 w fun o w=>Q2 P T.f o w fun r w=>X2 P .len [T.f] T.d [false] [r] w fun f w=>Q3 P .lss T.d (.tmp 7) (.tmp 10) c.2 f w fun m w=>X1 m (fieldAddr P T.a a 2 w fun n w=>Q2 P T.f n w fun d w=>indexAddr P T.f d c.2 w fun j w=>fieldAddr P T.n j 1 w fun h w=>Q2 P T.m h w fun i w=>X2 P .len [T.m] T.d [false] [i] w fun g w=>Q3 P .add T.d (.const (.int .i64 1)) (.tmp 21) (.int .i64 1) g w fun e w=>Q3 P .sub T.d (.tmp 14) (.tmp 22) c.1 e w fun k w=>Q3 P .add T.d (.tmp 12) (.const (.int .i64 1)) c.2 (.int .i64 1) w fun l w=>b (k,l) w) (K c.1 w)
theorem Tw {a:Value} {w:World} {K:Value→World→Prop} (h:Dp a w K):Q1 P F.aR [a] w K:=Q9 Tx Tryz.func37 rfl (by decide) (by kernel_rfl) h
def Vv (j k:Value) (w:World) (K:Value→World→Prop):Prop:= Q1 P F.b [j,k] w fun i w=>Q3 P .geq T.d (.tmp 9) (.const (.int .i64 0)) i (.int .i64 0) w fun a w=>Q0 a true w (fun w J=>J j w) fun d w=>Q0 a true w (fun w J=>J i w) fun c w=>Q0 a true w (indexAddr P T.i d c) fun e w=>Q0 a true w (fieldAddr P T.b e 4) fun g w=>Q0 a true w (Q2 P T.u g) fun f w=>Q0 a true w (J8 P .not f) fun b w=>pick P a b (.bool false) w fun h w=>K h w
theorem By {b a:Value} {w:World} {K:Value→World→Prop} (h:Vv b a w K):Q1 P F.b7 [b,a] w K:=Q9 (List.replicate 3 none) Tryz.func72 rfl (by decide) (by kernel_rfl) h
def Fm:V5:=[none,none,none,none,none,none,none,none,none,none,none,some ([8],[8,28,29,30,31,32,33,34,35,36,37,38,39,40,41,42,43,44]),none,none,none,none,none]
def Lo (a0 X:Value) (w:World) (K:Value→World→Prop):Prop:= box P T.a a0 w fun a w=>W0 P T.a w fun H w=>fieldAddr P T.a a 0 w fun t9 w=>Q2 P T.i t9 w fun Z w=>Q1 P F.b7 [Z,X] w fun al w=>J8 P .not al w fun ai w=>X1 ai (Q2 P T.a a w fun ab w=>Y0 P T.a H ab w fun _u w=>Y8 P T.a H w fun L=>K (.tuple #[L,(.int .i64 91)]) w) (fieldAddr P T.a a 0 w fun an w=>Q2 P T.i an w fun R w=>Q1 P F.p [R,X] w fun D w=>X2 P .len [T.k] T.d [false] [D] w fun ag w=>Q3 P .add T.d (.const (.int .i64 1)) (.tmp 20) (.int .i64 1) ag w fun ac w=>Q2 P T.a a w fun U w=>Q1 P F.aR [U] w fun ah w=>Q3 P .gtr T.d (.tmp 21) (.tmp 23) ac ah w fun W w=>X1 W (Q2 P T.a a w fun ad w=>Y0 P T.a H ad w fun _u w=>Y8 P T.a H w fun L=>K (.tuple #[L,(.int .i64 90)]) w) (H3 P T.n [(0,X)] w fun af w=>W0 P T.n w fun c w=>Y0 P T.n c af w fun _u w=>lp (α:=Value) (.int .i64 0) w fun e E d_ w=>X2 P .len [T.k] T.d [false] [D] w fun Y w=>Q3 P .lss T.d (.tmp 28) (.tmp 30) E Y w fun aa w=>X1 aa (dr w fun b d=>Q4 b (fun t=> ∀w,d w→fieldAddr P T.n c 1 w (dk b t w)) fun t=>Q4 b (fun p=> ∀w,d w→indexAddr P T.k D E w (dk b p w)) fun p=>Q4 b (fun h=> ∀q w,d w→p q w→fieldAddr P T.o q 1 w (dk b h w)) fun h=>Q4 b (fun C=> ∀n w,d w→t n w→Q2 P T.m n w (dk b C w)) fun C=>Q4 b (fun o=> ∀i w,d w→h i w→Q2 P T.c i w (dk b o w)) fun o=>Q4 b (fun m=> ∀y w,d w→o y w→Q1 P F.aP [y] w (dk b m w)) fun m=>Q4 b (fun z=> ∀f w,d w→m f w→buildSlice P T.m 1 [(0,f)] w (dk b z w)) fun z=>∀n q i J y f M w,d w→t n w→p q w→h i w→C J w→o y w→m f w→z M w→ X2 P .append [T.m,T.m] T.m [false,false] [J,M] w fun am w=>fieldAddr P T.n c 1 w fun Q w=>Y0 P T.m Q am w fun _u w=>Q3 P .add T.d (.tmp 32) (.const (.int .i64 1)) E (.int .i64 1) w fun ae w=>e ae w) (dr w fun b d=>Q4 b (fun s=> ∀w,d w→fieldAddr P T.a a 2 w (dk b s w)) fun s=>Q4 b (fun j=> ∀w,d w→buildSlice P T.f 0 [] w (dk b j w)) fun j=>Q4 b (fun g=> ∀v w,d w→s v w→Q2 P T.f v w (dk b g w)) fun g=>Q4 b (fun A=> ∀u r w,d w→j u w→g r w→X2 P .append [T.f,T.f] T.f [false,false] [u,r] w (dk b A w)) fun A=>Q4 b (fun l=> ∀w,d w→Q2 P T.n c w (dk b l w)) fun l=>Q4 b (fun B=> ∀k w,d w→l k w→buildSlice P T.f 1 [(0,k)] w (dk b B w)) fun B=>∀v u r N k O w,d w→s v w→j u w→g r w→A N w→l k w→B O w→ X2 P .append [T.f,T.f] T.f [false,false] [N,O] w fun V w=>fieldAddr P T.a a 2 w fun aj w=>Y0 P T.f aj V w fun _u w=>Q2 P T.a a w fun ak w=>Y0 P T.a H ak w fun _u w=>Y8 P T.a H w fun L=>K (.tuple #[L,(.int .i64 0)]) w)))
theorem Gu {b a:Value} {w:World} {K:Value→World→Prop} (h:Lo b a w K):Q1 P F.bc [b,a] w K:=Q9 Fm Tryz.func57 rfl (by decide) (by kernel_rfl) h
def Ks:V5:=[none,none,none,none,none,none,none,none,none,none,none,none,none,some ([9],[9,41,42,43,44,45,46,47,48,49,50,51,52]),none,none,none,none,none]
def Nh (a0 C N:Value) (w:World) (K:Value→World→Prop):Prop:= box P T.a a0 w fun a w=>W0 P T.a w fun u w=>Q3 P .eql T.c (.tmp 10) (.const (.string ⟨#[110,117,108,108]⟩)) C (.string ⟨#[110,117,108,108]⟩) w fun f w=>Q0 f false w (fieldAddr P T.a a 0) fun al w=>Q0 f false w (Q2 P T.i al) fun aa w=>Q0 f false w (fun w J=>J C w) fun aq w=>Q0 f false w (Q1 P F.a1 [aa,aq]) fun R w=>Q0 f false w (J8 P .not R) fun Y w=>pick P f (.bool true) Y w fun o w=>Q0 o false w (fun w J=>J C w) fun ah w=>Q0 o false w (Q1 P F.a2 [ah]) fun ab w=>Q0 o false w (Q3 P .gtr T.d (.tmp 21) (.const (.int .i64 2)) ab (.int .i64 2)) fun V w=>pick P o (.bool true) V w fun aj w=>X1 aj (Q2 P T.a a w fun X w=>Y0 P T.a u X w fun _u w=>Y8 P T.a u w fun A=>K (.tuple #[A,(.int .i64 91)]) w) (Q3 P .lss T.a0 (.tmp 25) (.const (.int .i64 0)) N (.int .i64 0) w fun an w=>X1 an (Q2 P T.a a w fun ag w=>Y0 P T.a u ag w fun _u w=>Y8 P T.a u w fun A=>K (.tuple #[A,(.int .i64 93)]) w) (Q3 P .gtr T.a0 (.tmp 28) (.const (.int .i64 1048576)) N (.int .i64 1048576) w fun d w=>Q0 d false w (fun w J=>J N w) fun Z w=>Q0 d false w (Q3 P .add T.d (.const (.int .i64 1)) (.tmp 31) (.int .i64 1) Z) fun ad w=>Q0 d false w (Q2 P T.a a) fun af w=>Q0 d false w (Q1 P F.aR [af]) fun ae w=>Q0 d false w (Q3 P .gtr T.d (.tmp 32) (.tmp 34) ad ae) fun O w=>pick P d (.bool true) O w fun ap w=>X1 ap (Q2 P T.a a w fun ak w=>Y0 P T.a u ak w fun _u w=>Y8 P T.a u w fun A=>K (.tuple #[A,(.int .i64 90)]) w) (Q3 P .add T.c (.tmp 38) (.const (.string ⟨#[91,93]⟩)) C (.string ⟨#[91,93]⟩) w fun Q w=>H3 P T.n [(0,Q)] w fun av w=>W0 P T.n w fun c w=>Y0 P T.n c av w fun _u w=>lp (α:=Value) (.int .i64 0) w fun g D d_ w=>Q3 P .lss T.a0 (.tmp 41) (.tmp 42) D N w fun ao w=>X1 ao (dr w fun b e=>Q4 b (fun r=> ∀w,e w→fieldAddr P T.n c 1 w (dk b r w)) fun r=>Q4 b (fun v=> ∀t w,e w→r t w→Q2 P T.m t w (dk b v w)) fun v=>Q4 b (fun k=> ∀w,e w→Q1 P F.aP [C] w (dk b k w)) fun k=>Q4 b (fun B=> ∀h w,e w→k h w→buildSlice P T.m 1 [(0,h)] w (dk b B w)) fun B=>∀t L h M w,e w→r t w→v L w→k h w→B M w→ X2 P .append [T.m,T.m] T.m [false,false] [L,M] w fun W w=>fieldAddr P T.n c 1 w fun am w=>Y0 P T.m am W w fun _u w=>Q3 P .add T.a0 (.tmp 44) (.const (.int .i64 1)) D (.int .i64 1) w fun ar w=>g ar w) (dr w fun b e=>Q4 b (fun n=> ∀w,e w→fieldAddr P T.a a 2 w (dk b n w)) fun n=>Q4 b (fun j=> ∀w,e w→buildSlice P T.f 0 [] w (dk b j w)) fun j=>Q4 b (fun p=> ∀l w,e w→n l w→Q2 P T.f l w (dk b p w)) fun p=>Q4 b (fun z=> ∀q m w,e w→j q w→p m w→X2 P .append [T.f,T.f] T.f [false,false] [q,m] w (dk b z w)) fun z=>Q4 b (fun s=> ∀w,e w→Q2 P T.n c w (dk b s w)) fun s=>Q4 b (fun y=> ∀i w,e w→s i w→buildSlice P T.f 1 [(0,i)] w (dk b y w)) fun y=>∀l q m H i E w,e w→n l w→j q w→p m w→z H w→s i w→y E w→ X2 P .append [T.f,T.f] T.f [false,false] [H,E] w fun U w=>fieldAddr P T.a a 2 w fun ac w=>Y0 P T.f ac U w fun _u w=>Q2 P T.a a w fun ai w=>Y0 P T.a u ai w fun _u w=>Y8 P T.a u w fun A=>K (.tuple #[A,(.int .i64 0)]) w))))
theorem Ke {c a b:Value} {w:World} {K:Value→World→Prop} (h:Nh c a b w K):Q1 P F.bl [c,a,b] w K:=Q9 Ks Tryz.func58 rfl (by decide) (by kernel_rfl) h
def Q1W:V5:=[none,none,some ([],[4,14,15,16,17,18,19,20,21,22,23,24,25,26,27,28,29,30,31,32,33,34,35,36,37,38,39,40,41,42,43,44,45,46,47,48,49,50,51,52,53,54,55,56,57,58,59,60,61,62,63,64,65,66,67,68,69,70,71,72,73,74,75,76,77,78,79,80,81,82,83,84,85,86,87,88,89,90]),none,none,none,none,none,none,none,none,none,none,none,none,none,none,none,none,none]
def Hs (a0 a1:Value) (w:World) (K:Value→World→Prop):Prop:= box P T.a a0 w fun t2 w=>box P T.g a1 w fun b w=>fieldAddr P T.g b 3 w fun t6 w=>Q2 P T.d t6 w fun t7 w=>Q3 P .eql T.d (.tmp 7) (.const (.int .i64 0)) t7 (.int .i64 0) w fun l w=>Q0 l true w (fieldAddr P T.g b 2) fun ah w=>Q0 l true w (Q2 P T.c ah) fun R w=>Q0 l true w (Q3 P .eql T.c (.tmp 11) (.const (.string ⟨#[]⟩)) R (.string ⟨#[]⟩)) fun az w=>pick P l az (.bool false) w fun a w=>jn (α:=Unit) w (fun k w=>fieldAddr P T.g b 0 w fun A w=>Q2 P T.d A w fun d w=>Q3 P .eql T.d (.tmp 15) (.const (.int .i64 0)) d (.int .i64 0) w fun ag w=>X1 ag (Q0 a true w (fieldAddr P T.g b 1) fun am w=>Q0 a true w (Q2 P T.a0 am) fun B w=>Q0 a true w (Q3 P .eql T.a0 (.tmp 21) (.const (.int .i64 0)) B (.int .i64 0)) fun a4 w=>pick P a a4 (.bool false) w fun ap w=>X1 ap (K (.string ⟨#[110,117,108,108]⟩) w) (k () w)) (Q3 P .eql T.d (.tmp 15) (.const (.int .i64 1)) d (.int .i64 1) w fun D w=>X1 D (X1 a (K (.string ⟨#[105,110,116]⟩) w) (k () w)) (Q3 P .eql T.d (.tmp 15) (.const (.int .i64 2)) d (.int .i64 2) w fun ad w=>X1 ad (Q0 a true w (fieldAddr P T.g b 1) fun ai w=>Q0 a true w (Q2 P T.a0 ai) fun E w=>Q0 a true w (Q3 P .eql T.a0 (.tmp 32) (.const (.int .i64 0)) E (.int .i64 0)) fun L w=>Q0 a true w (fun w J=>J L w) fun h w=>Q0 h false w (fieldAddr P T.g b 1) fun p w=>Q0 h false w (Q2 P T.a0 p) fun a3 w=>Q0 h false w (Q3 P .eql T.a0 (.tmp 36) (.const (.int .i64 1)) a3 (.int .i64 1)) fun aq w=>Q0 a true w (pick P h (.bool true) aq) fun av w=>pick P a av (.bool false) w fun r w=>X1 r (K (.string ⟨#[98,111,111,108]⟩) w) (k () w)) (Q3 P .eql T.d (.tmp 15) (.const (.int .i64 3)) d (.int .i64 3) w fun X w=>X1 X (fieldAddr P T.g b 1 w fun ak w=>Q2 P T.a0 ak w fun a2 w=>Q3 P .eql T.a0 (.tmp 43) (.const (.int .i64 0)) a2 (.int .i64 0) w fun f w=>Q0 f true w (fieldAddr P T.g b 3) fun V w=>Q0 f true w (Q2 P T.d V) fun aw w=>Q0 f true w (Q3 P .eql T.d (.tmp 47) (.const (.int .i64 0)) aw (.int .i64 0)) fun M w=>pick P f M (.bool false) w fun e w=>Q0 e true w (fieldAddr P T.g b 2) fun t w=>Q0 e true w (Q2 P T.c t) fun ay w=>Q0 e true w (X2 P .len [T.c] T.d [false] [ay]) fun O w=>Q0 e true w (Q3 P .leq T.d (.tmp 53) (.const (.int .i64 4096)) O (.int .i64 4096)) fun z w=>pick P e z (.bool false) w fun i w=>Q0 i true w (fieldAddr P T.g b 2) fun ac w=>Q0 i true w (Q2 P T.c ac) fun H w=>Q0 i true w (Q1 P F.aK [H]) fun q w=>pick P i q (.bool false) w fun C w=>X1 C (K (.string ⟨#[116,101,120,116]⟩) w) (k () w)) (Q3 P .eql T.d (.tmp 15) (.const (.int .i64 4)) d (.int .i64 4) w fun u w=>X1 u (fieldAddr P T.g b 1 w fun ae w=>Q2 P T.a0 ae w fun Y w=>Q3 P .eql T.a0 (.tmp 64) (.const (.int .i64 0)) Y (.int .i64 0) w fun j w=>Q0 j true w (fieldAddr P T.g b 2) fun al w=>Q0 j true w (Q2 P T.c al) fun U w=>Q0 j true w (Q3 P .eql T.c (.tmp 68) (.const (.string ⟨#[]⟩)) U (.string ⟨#[]⟩)) fun ao w=>pick P j ao (.bool false) w fun g w=>Q0 g true w (fieldAddr P T.g b 3) fun ax w=>Q0 g true w (Q2 P T.d ax) fun Q w=>Q0 g true w (Q3 P .geq T.d (.tmp 73) (.const (.int .i64 0)) Q (.int .i64 0)) fun y w=>pick P g y (.bool false) w fun c w=>Q0 c true w (fieldAddr P T.g b 3) fun Z w=>Q0 c true w (Q2 P T.d Z) fun aa w=>Q0 c true w (fieldAddr P T.a t2 2) fun an w=>Q0 c true w (Q2 P T.f an) fun ab w=>Q0 c true w (X2 P .len [T.f] T.d [false] [ab]) fun o w=>Q0 c true w (Q3 P .lss T.d (.tmp 78) (.tmp 81) aa o) fun W w=>pick P c W (.bool false) w fun N w=>X1 N (fieldAddr P T.a t2 2 w fun s w=>Q2 P T.f s w fun af w=>fieldAddr P T.g b 3 w fun ar w=>Q2 P T.d ar w fun aj w=>indexAddr P T.f af aj w fun v w=>fieldAddr P T.n v 0 w fun n w=>Q2 P T.c n w fun m w=>K m w) (k () w)) (k () w)))))) fun z2 d_ w=>K (.string ⟨#[]⟩) w
theorem Q1O {b a:Value} {w:World} {K:Value→World→Prop} (h:Hs b a w K):Q1 P F.c3 [b,a] w K:=Q9 Q1W Tryz.func32 rfl (by decide) (by kernel_rfl) h
def Ew (k e i:Value) (w:World) (K:Value→World→Prop):Prop:= Q1 P F.a1 [k,e] w fun W w=>J8 P .not W w fun b w=>Q0 b false w (fun w J=>J k w) fun D w=>Q0 b false w (fun w J=>J i w) fun Z w=>Q0 b false w (Q1 P F.a1 [D,Z]) fun r w=>Q0 b false w (J8 P .not r) fun A w=>pick P b (.bool true) A w fun c w=>Q0 c false w (fun w J=>J e w) fun O w=>Q0 c false w (fun w J=>J i w) fun E w=>Q0 c false w (Q3 P .eql T.c (.tmp 20) (.tmp 21) O E) fun t w=>pick P c (.bool true) t w fun U w=>X1 U (Q3 P .eql T.c (.tmp 24) (.tmp 25) e i w fun d w=>Q0 d true w (fun w J=>J k w) fun u w=>Q0 d true w (fun w J=>J e w) fun L w=>Q0 d true w (Q1 P F.a1 [u,L]) fun z w=>pick P d z (.bool false) w fun C w=>K C w) (Q1 P F.y [e] w fun f w=>Q0 f false w (fun w J=>J i w) fun p w=>Q0 f false w (Q1 P F.y [p]) fun X w=>pick P f (.bool true) X w fun h w=>Q0 h false w (fun w J=>J i w) fun q w=>Q0 h false w (Q3 P .eql T.c (.tmp 39) (.const (.string ⟨#[110,117,108,108]⟩)) q (.string ⟨#[110,117,108,108]⟩)) fun ac w=>pick P h (.bool true) ac w fun o w=>X1 o (K (.bool false) w) (Q3 P .eql T.c (.tmp 42) (.const (.string ⟨#[110,117,108,108]⟩)) e (.string ⟨#[110,117,108,108]⟩) w fun j w=>Q0 j false w (fun w J=>J i w) fun aa w=>Q0 j false w (Q3 P .eql T.c (.tmp 45) (.const (.string ⟨#[79,98,106,101,99,116]⟩)) aa (.string ⟨#[79,98,106,101,99,116]⟩)) fun ab w=>pick P j (.bool true) ab w fun V w=>X1 V (K (.bool true) w) (Q1 P F.b [k,e] w fun m w=>Q1 P F.b [k,i] w fun l w=>Q3 P .geq T.d (.tmp 54) (.const (.int .i64 0)) m (.int .i64 0) w fun g w=>Q0 g true w (fun w J=>J l w) fun s w=>Q0 g true w (Q3 P .geq T.d (.tmp 57) (.const (.int .i64 0)) s (.int .i64 0)) fun H w=>pick P g H (.bool false) w fun a w=>Q0 a true w (fun w J=>J k w) fun R w=>Q0 a true w (Q1 P F.al [R]) fun y w=>Q0 a true w (fun w J=>J m w) fun v w=>Q0 a true w (indexAddr P T.a8 y v) fun n w=>Q0 a true w (Q2 P T.a6 n) fun N w=>Q0 a true w (fun w J=>J l w) fun B w=>Q0 a true w (indexAddr P T.a6 N B) fun M w=>Q0 a true w (Q2 P T.u M) fun Y w=>pick P a Y (.bool false) w fun Q w=>K Q w)))
theorem Q1b {c a b:Value} {w:World} {K:Value→World→Prop} (h:Ew c a b w K):Q1 P F.bT [c,a,b] w K:=Q9 (List.replicate 12 none) Tryz.func63 rfl (by decide) (by kernel_rfl) h
def Oq (n k l:Value) (w:World) (K:Value→World→Prop):Prop:= box P T.a n w fun b w=>box P T.g k w fun c w=>Q2 P T.a b w fun m w=>Q2 P T.g c w fun o w=>Q1 P F.c3 [m,o] w fun d w=>Q3 P .neq T.c (.tmp 11) (.const (.string ⟨#[]⟩)) d (.string ⟨#[]⟩) w fun a w=>Q0 a true w (fieldAddr P T.a b 0) fun g w=>Q0 a true w (Q2 P T.i g) fun i w=>Q0 a true w (fun w J=>J d w) fun h w=>Q0 a true w (fun w J=>J l w) fun e w=>Q0 a true w (Q1 P F.bT [i,h,e]) fun j w=>pick P a j (.bool false) w fun f w=>K f w
theorem Tv {c a b:Value} {w:World} {K:Value→World→Prop} (h:Oq c a b w K):Q1 P F.bA [c,a,b] w K:=Q9 (List.replicate 3 none) Tryz.func28 rfl (by decide) (by kernel_rfl) h
def Oo (d:Value) (w:World) (K:Value→World→Prop):Prop:= X2 P .len [T.c] T.d [false] [d] w fun i w=>Q3 P .lss T.d (.tmp 6) (.const (.int .i64 3)) i (.int .i64 3) w fun c w=>Q0 c false w (fun w J=>J d w) fun s w=>Q0 c false w (fun w J=>J i w) fun j w=>Q0 c false w (Q3 P .sub T.d (.tmp 10) (.const (.int .i64 2)) j (.int .i64 2)) fun q w=>Q0 c false w (S1 P T.c s (some q) none none) fun p w=>Q0 c false w (Q3 P .neq T.c (.tmp 12) (.const (.string ⟨#[91,93]⟩)) p (.string ⟨#[91,93]⟩)) fun o w=>pick P c (.bool true) o w fun a w=>Q0 a false w (fun w J=>J d w) fun e w=>Q0 a false w (Q1 P F.a2 [e]) fun h w=>Q0 a false w (Q3 P .gtr T.d (.tmp 17) (.const (.int .i64 3)) h (.int .i64 3)) fun m w=>pick P a (.bool true) m w fun b w=>Q0 b false w (fun w J=>J d w) fun k w=>Q0 b false w (Q1 P F.e [k]) fun r w=>Q0 b false w (J8 P .not r) fun n w=>pick P b (.bool true) n w fun g w=>X1 g (K (.string ⟨#[]⟩) w) (Q3 P .sub T.d (.tmp 26) (.const (.int .i64 2)) i (.int .i64 2) w fun l w=>S1 P T.c d none (some l) none w fun f w=>K f w)
theorem Q05 {a:Value} {w:World} {K:Value→World→Prop} (h:Oo a w K):Q1 P F.bE [a] w K:=Q9 (List.replicate 6 none) Tryz.func71 rfl (by decide) (by kernel_rfl) h
end Go.Proofs.YtjdiakhipmggjaaGreatDoor

set_option maxRecDepth 100000
namespace Go.Proofs.YtjdiakhipmggjaaGreatDoor
open Go.Emb
def Dn (o n q:Value) (w:World) (K:Value→World→Prop):Prop:= box P T.a o w fun b w=>box P T.n n w fun a w=>fieldAddr P T.n a 0 w fun m w=>Q2 P T.c m w fun p w=>Q1 P F.bE [p] w fun c w=>Q3 P .neq T.c (.tmp 11) (.const (.string ⟨#[]⟩)) c (.string ⟨#[]⟩) w fun k w=>X1 k (K c w) (fieldAddr P T.a b 0 w fun g w=>Q2 P T.i g w fun e w=>fieldAddr P T.n a 0 w fun d w=>Q2 P T.c d w fun f w=>Q1 P F.p [e,f] w fun j w=>indexAddr P T.k j q w fun i w=>fieldAddr P T.o i 1 w fun h w=>Q2 P T.c h w fun l w=>K l w)
theorem Ak {c a b:Value} {w:World} {K:Value→World→Prop} (h:Dn c a b w K):Q1 P F.bF [c,a,b] w K:=Q9 (List.replicate 6 none) Tryz.func74 rfl (by decide) (by kernel_rfl) h
def Mu (v g u:Value) (w:World) (K:Value→World→Prop):Prop:= box P T.a v w fun b w=>Q3 P .lss T.d (.tmp 7) (.const (.int .i64 0)) g (.int .i64 0) w fun c w=>Q0 c false w (fun w J=>J g w) fun h w=>Q0 c false w (fieldAddr P T.a b 2) fun r w=>Q0 c false w (Q2 P T.f r) fun q w=>Q0 c false w (X2 P .len [T.f] T.d [false] [q]) fun p w=>Q0 c false w (Q3 P .geq T.d (.tmp 10) (.tmp 13) h p) fun i w=>pick P c (.bool true) i w fun t w=>X1 t (K (.int .i64 92) w) (Q3 P .lss T.a0 (.tmp 16) (.const (.int .i64 0)) u (.int .i64 0) w fun a w=>Q0 a false w (fun w J=>J u w) fun l w=>Q0 a false w (fieldAddr P T.a b 2) fun n w=>Q0 a false w (Q2 P T.f n) fun j w=>Q0 a false w (fun w J=>J g w) fun d w=>Q0 a false w (indexAddr P T.f j d) fun o w=>Q0 a false w (fieldAddr P T.n o 1) fun f w=>Q0 a false w (Q2 P T.m f) fun k w=>Q0 a false w (X2 P .len [T.m] T.d [false] [k]) fun s w=>Q0 a false w (Q3 P .geq T.a0 (.tmp 19) (.tmp 26) l s) fun m w=>pick P a (.bool true) m w fun e w=>X1 e (K (.int .i64 93) w) (K (.int .i64 0) w))
theorem Ta {c a b:Value} {w:World} {K:Value→World→Prop} (h:Mu c a b w K):Q1 P F.aM [c,a,b] w K:=Q9 (List.replicate 8 none) Tryz.func108 rfl (by decide) (by kernel_rfl) h
def Ep (a0 B X a3:Value) (w:World) (K:Value→World→Prop):Prop:= box P T.a a0 w fun a w=>box P T.g a3 w fun c w=>W0 P T.a w fun s w=>Q2 P T.a a w fun Y w=>Q1 P F.aM [Y,B,X] w fun u w=>Q3 P .neq T.w (.tmp 17) (.const (.int .i64 0)) u (.int .i64 0) w fun R w=>X1 R (Q2 P T.a a w fun O w=>Y0 P T.a s O w fun _u w=>Y8 P T.a s w fun y=>K (.tuple #[y,u]) w) (dr w fun b n=>Q4 b (fun e=> ∀w,n w→fieldAddr P T.a a 2 w (dk b e w)) fun e=>Q4 b (fun p=> ∀w,n w→Q2 P T.a a w (dk b p w)) fun p=>Q4 b (fun o=> ∀w,n w→Q2 P T.g c w (dk b o w)) fun o=>Q4 b (fun h=> ∀w,n w→Q2 P T.a a w (dk b h w)) fun h=>Q4 b (fun i=> ∀g w,n w→e g w→Q2 P T.f g w (dk b i w)) fun i=>Q4 b (fun l=> ∀j w,n w→i j w→indexAddr P T.f j B w (dk b l w)) fun l=>Q4 b (fun d=> ∀k w,n w→l k w→Q2 P T.n k w (dk b d w)) fun d=>Q4 b (fun q=> ∀m f w,n w→h m w→d f w→Q1 P F.bF [m,f,X] w (dk b q w)) fun q=>∀g z A m j k f v w,n w→e g w→p z w→o A w→h m w→i j w→l k w→d f w→q v w→ Q1 P F.bA [z,A,v] w fun E w=>J8 P .not E w fun H w=>X1 H (Q2 P T.a a w fun M w=>Y0 P T.a s M w fun _u w=>Y8 P T.a s w fun y=>K (.tuple #[y,(.int .i64 91)]) w) (buildSlice P T.f 0 [] w fun L w=>fieldAddr P T.a a 2 w fun D w=>Q2 P T.f D w fun ac w=>X2 P .append [T.f,T.f] T.f [false,false] [L,ac] w fun r w=>buildSlice P T.m 0 [] w fun V w=>indexAddr P T.f r B w fun C w=>fieldAddr P T.n C 1 w fun J w=>Q2 P T.m J w fun ab w=>X2 P .append [T.m,T.m] T.m [false,false] [V,ab] w fun t w=>Q2 P T.g c w fun W w=>indexAddr P T.m t X w fun U w=>Y0 P T.g U W w fun _u w=>indexAddr P T.f r B w fun Z w=>fieldAddr P T.n Z 1 w fun aa w=>Y0 P T.m aa t w fun _u w=>fieldAddr P T.a a 2 w fun N w=>Y0 P T.f N r w fun _u w=>Q2 P T.a a w fun Q w=>Y0 P T.a s Q w fun _u w=>Y8 P T.a s w fun y=>K (.tuple #[y,(.int .i64 0)]) w))
theorem Q1k {c a b d:Value} {w:World} {K:Value→World→Prop} (h:Ep c a b d w K):Q1 P F.bP [c,a,b,d] w K:=Q9 (List.replicate 14 none) Tryz.func59 rfl (by decide) (by kernel_rfl) h
def Eb (p n o:Value) (w:World) (K:Value→World→Prop):Prop:= box P T.a p w fun a w=>W0 P T.g w fun c w=>Q2 P T.a a w fun q w=>Q1 P F.aM [q,n,o] w fun b w=>Q3 P .neq T.w (.tmp 13) (.const (.int .i64 0)) b (.int .i64 0) w fun g w=>X1 g (H3 P T.g [] w fun m w=>Y0 P T.g c m w fun _u w=>Y8 P T.g c w fun h=>K (.tuple #[h,b]) w) (fieldAddr P T.a a 2 w fun f w=>Q2 P T.f f w fun l w=>indexAddr P T.f l n w fun k w=>fieldAddr P T.n k 1 w fun i w=>Q2 P T.m i w fun d w=>indexAddr P T.m d o w fun e w=>Q2 P T.g e w fun j w=>Y0 P T.g c j w fun _u w=>Y8 P T.g c w fun h=>K (.tuple #[h,(.int .i64 0)]) w)
theorem Q0j {c a b:Value} {w:World} {K:Value→World→Prop} (h:Eb c a b w K):Q1 P F.bQ [c,a,b] w K:=Q9 (List.replicate 6 none) Tryz.func60 rfl (by decide) (by kernel_rfl) h
def Q0T:V5:=[none,some ([1],[1,8,9]),none,none,none,some ([5],[5,6,7,10,11,12,13,14,15,16,17,18,19,20,21,22,23,24,25,26,27,28,29,30,31,32,33,34,35,36,37,38,39,40,41,42,43,44,45,46,47,48,49,50,51]),none,none,none,none,some ([6],[6,7,22,23,24,25,26,27,28,29,30,31,32,33,34,35,36,37,38,39,40,41,42,43,44,45,46,47,48,49,50,51]),none,none,none,none,none,none,some ([],[52,53,54,55,56,57,58,59,60,61,62,63]),none,none]
def Es (a0 a1:Value) (w:World) (K:Value→World→Prop):Prop:= box P T.a a0 w fun e w=>W0 P T.a w fun j w=>jn (α:=Value) w (fun J1 w=>Q3 P .lss T.d (.tmp 8) (.const (.int .i64 0)) a1 (.int .i64 0) w fun t9 w=>X1 t9 (J1 (.int .i64 0) w) (J1 a1 w)) fun i z w=>lp (α:=Value) (.int .i64 0) w fun d h z w=>Q3 P .lss T.d (.tmp 10) (.tmp 11) h i w fun a w=>Q0 a true w (fun w J=>J h w) fun B w=>Q0 a true w (fieldAddr P T.a e 2) fun aj w=>Q0 a true w (Q2 P T.f aj) fun n w=>Q0 a true w (X2 P .len [T.f] T.d [false] [n]) fun y w=>Q0 a true w (Q3 P .lss T.d (.tmp 14) (.tmp 17) B y) fun X w=>pick P a X (.bool false) w fun U w=>X1 U (lp (α:=Value) (.int .i64 0) w fun c f z w=>fieldAddr P T.a e 2 w fun Z w=>Q2 P T.f Z w fun s w=>indexAddr P T.f s h w fun af w=>fieldAddr P T.n af 1 w fun V w=>Q2 P T.m V w fun q w=>X2 P .len [T.m] T.d [false] [q] w fun M w=>Q3 P .lss T.d (.tmp 22) (.tmp 29) f M w fun v w=>X1 v (fieldAddr P T.a e 2 w fun O w=>Q2 P T.f O w fun N w=>indexAddr P T.f N h w fun ai w=>fieldAddr P T.n ai 1 w fun aa w=>Q2 P T.m aa w fun ac w=>indexAddr P T.m ac f w fun al w=>Q2 P T.g al w fun l w=>W0 P T.g w fun R w=>Y0 P T.g R l w fun _u w=>fieldAddr P T.g R 0 w fun L w=>Q2 P T.d L w fun ag w=>Q3 P .eql T.d (.tmp 43) (.const (.int .i64 4)) ag (.int .i64 4) w fun b w=>Q0 b true w (fieldAddr P T.g R 3) fun ak w=>Q0 b true w (Q2 P T.d ak) fun ad w=>Q0 b true w (fun w J=>J i w) fun ab w=>Q0 b true w (Q3 P .geq T.d (.tmp 47) (.tmp 48) ad ab) fun o w=>pick P b o (.bool false) w fun ah w=>X1 ah (Q2 P T.a e w fun r w=>Y0 P T.a j r w fun _u w=>Y8 P T.a j w fun C=>K C w) (Q3 P .add T.d (.tmp 31) (.const (.int .i64 1)) f (.int .i64 1) w fun E w=>c E w)) (Q3 P .add T.d (.tmp 20) (.const (.int .i64 1)) h (.int .i64 1) w fun D w=>d D w)) (jn (α:=Unit) w (fun g w=>fieldAddr P T.a e 2 w fun ae w=>Q2 P T.f ae w fun A w=>X2 P .len [T.f] T.d [false] [A] w fun Q w=>Q3 P .lss T.d (.tmp 52) (.tmp 55) i Q w fun W w=>X1 W (buildSlice P T.f 0 [] w fun p w=>fieldAddr P T.a e 2 w fun H w=>Q2 P T.f H w fun m w=>S1 P T.f m none (some i) none w fun Y w=>X2 P .append [T.f,T.f] T.f [false,false] [p,Y] w fun u w=>fieldAddr P T.a e 2 w fun t w=>Y0 P T.f t u w fun _u w=>g () w) (g () w)) fun aq z w=>Q2 P T.a e w fun k w=>Y0 P T.a j k w fun _u w=>Y8 P T.a j w fun C=>K C w)
theorem Q19 {b a:Value} {w:World} {K:Value→World→Prop} (h:Es b a w K):Q1 P F.bR [b,a] w K:=Q9 Q0T Tryz.func61 rfl (by decide) (by kernel_rfl) h
def Hp (a0 a1 a2:Value) (w:World) (K:Value→World→Prop):Prop:= box P T.a a1 w fun t4 w=>box P T.l a2 w fun r w=>W0 P T.a w fun t6 w=>fieldAddr P T.l r 0 w fun eu w=>Q2 P T.d eu w fun a4 w=>Q3 P .eql T.d (.tmp 23) (.const (.int .i64 0)) a4 (.int .i64 0) w fun eh w=>X1 eh (Q2 P T.a t4 w fun ei w=>fieldAddr P T.l r 1 w fun ep w=>Q2 P T.c ep w fun ec w=>Q1 P F.bc [ei,ec] w fun c7 w=>ext P c7 0 w fun eq w=>ext P c7 1 w fun cs w=>W0 P T.a w fun t8 w=>Y0 P T.a t8 eq w fun _u w=>fieldAddr P T.l r 1 w fun d8 w=>Q2 P T.c d8 w fun et w=>Q1 P F.aJ [a0,et] w fun dd w=>ext P dd 0 w fun d3 w=>ext P dd 1 w fun eg w=>dr w fun a b=>Q4 a (fun m=> ∀w,b w→Q3 P .eql T.w (.tmp 41) (.tmp 42) cs eg w (dk a m w)) fun m=>Q4 a (fun b5=> ∀d w,b w→m d w→Q0 d true w (fun w J=>J cs w) (dk a b5 w)) fun b5=>Q4 a (fun bl=> ∀d bp w,b w→m d w→b5 bp w→Q0 d true w (Q3 P .neq T.w (.tmp 45) (.const (.int .i64 0)) bp (.int .i64 0)) (dk a bl w)) fun bl=>Q4 a (fun av=> ∀d br w,b w→m d w→bl br w→Q0 d true w (fun w J=>J br w) (dk a av w)) fun av=>Q4 a (fun bq=> ∀o w,b w→av o w→Q0 o true w (fun w J=>J d3 w) (dk a bq w)) fun bq=>Q4 a (fun b7=> ∀o bi w,b w→av o w→bq bi w→Q0 o true w (Q3 P .eql T.d (.tmp 48) (.const (.int .i64 0)) bi (.int .i64 0)) (dk a b7 w)) fun b7=>Q4 a (fun ch=> ∀d o bu w,b w→m d w→av o w→b7 bu w→Q0 d true w (pick P o bu (.bool false)) (dk a ch w)) fun ch=>Q4 a (fun u=> ∀d bo w,b w→m d w→ch bo w→Q0 d true w (fun w J=>J bo w) (dk a u w)) fun u=>Q4 a (fun bg=> ∀h w,b w→u h w→Q0 h false w (fun w J=>J cs w) (dk a bg w)) fun bg=>Q4 a (fun b6=> ∀h b0 w,b w→u h w→bg b0 w→Q0 h false w (Q3 P .eql T.w (.tmp 52) (.const (.int .i64 0)) b0 (.int .i64 0)) (dk a b6 w)) fun b6=>Q4 a (fun s=> ∀h cb w,b w→u h w→b6 cb w→Q0 h false w (fun w J=>J cb w) (dk a s w)) fun s=>Q4 a (fun bj=> ∀g w,b w→s g w→Q0 g true w (fun w J=>J d3 w) (dk a bj w)) fun bj=>Q4 a (fun b4=> ∀g w,b w→s g w→Q0 g true w (fieldAddr P T.a t4 2) (dk a b4 w)) fun b4=>Q4 a (fun b9=> ∀w,b w→Q2 P T.a t8 w (dk a b9 w)) fun b9=>Q4 a (fun ce=> ∀g bh w,b w→s g w→b4 bh w→Q0 g true w (Q2 P T.f bh) (dk a ce w)) fun ce=>Q4 a (fun a9=> ∀g cf w,b w→s g w→ce cf w→Q0 g true w (X2 P .len [T.f] T.d [false] [cf]) (dk a a9 w)) fun a9=>Q4 a (fun bn=> ∀g ci bc w,b w→s g w→bj ci w→a9 bc w→Q0 g true w (Q3 P .eql T.d (.tmp 55) (.tmp 58) ci bc) (dk a bn w)) fun bn=>Q4 a (fun bd=> ∀h g b3 w,b w→u h w→s g w→bn b3 w→Q0 h false w (pick P g b3 (.bool false)) (dk a bd w)) fun bd=>Q4 a (fun cd=> ∀d h b8 w,b w→m d w→u h w→bd b8 w→Q0 d true w (pick P h (.bool true) b8) (dk a cd w)) fun cd=>Q4 a (fun cu=> ∀d bz w,b w→m d w→cd bz w→pick P d bz (.bool false) w (dk a cu w)) fun cu=>Sr a (fun j=> ∀ar w,b w→b9 ar w→Y0 P T.a t6 ar w (dk a (j [ar]) w)) fun j=>∀d bp br o bi bu bo h b0 cb g ci bh ar cf bc b3 b8 bz dj cv w,b w→m d w→b5 bp w→bl br w→av o w→bq bi w→b7 bu w→ch bo w→u h w→bg b0 w→b6 cb w→s g w→bj ci w→b4 bh w→b9 ar w→ce cf w→a9 bc w→bn b3 w→bd b8 w→cd bz w→cu dj w→j [ar] cv w→ Y8 P T.a t6 w fun r0=>K (.tuple #[r0,dj]) w) (Q3 P .eql T.d (.tmp 23) (.const (.int .i64 1)) a4 (.int .i64 1) w fun el w=>X1 el (Q2 P T.a t4 w fun d9 w=>fieldAddr P T.l r 1 w fun er w=>Q2 P T.c er w fun ek w=>fieldAddr P T.l r 2 w fun ed w=>Q2 P T.a0 ed w fun ea w=>Q1 P F.bl [d9,ek,ea] w fun d4 w=>ext P d4 0 w fun ee w=>ext P d4 1 w fun ct w=>W0 P T.a w fun d5 w=>Y0 P T.a d5 ee w fun _u w=>fieldAddr P T.l r 1 w fun ej w=>Q2 P T.c ej w fun em w=>fieldAddr P T.l r 2 w fun eo w=>Q2 P T.a0 eo w fun es w=>Q1 P F.aQ [a0,em,es] w fun c6 w=>ext P c6 0 w fun cy w=>ext P c6 1 w fun eb w=>dr w fun a b=>Q4 a (fun n=> ∀w,b w→Q3 P .eql T.w (.tmp 84) (.tmp 85) ct eb w (dk a n w)) fun n=>Q4 a (fun bk=> ∀c w,b w→n c w→Q0 c true w (fun w J=>J ct w) (dk a bk w)) fun bk=>Q4 a (fun bf=> ∀c bb w,b w→n c w→bk bb w→Q0 c true w (Q3 P .neq T.w (.tmp 88) (.const (.int .i64 0)) bb (.int .i64 0)) (dk a bf w)) fun bf=>Q4 a (fun aq=> ∀c a8 w,b w→n c w→bf a8 w→Q0 c true w (fun w J=>J a8 w) (dk a aq w)) fun aq=>Q4 a (fun bv=> ∀l w,b w→aq l w→Q0 l true w (fun w J=>J cy w) (dk a bv w)) fun bv=>Q4 a (fun a7=> ∀l bx w,b w→aq l w→bv bx w→Q0 l true w (Q3 P .eql T.d (.tmp 91) (.const (.int .i64 0)) bx (.int .i64 0)) (dk a a7 w)) fun a7=>Q4 a (fun b1=> ∀c l be w,b w→n c w→aq l w→a7 be w→Q0 c true w (pick P l be (.bool false)) (dk a b1 w)) fun b1=>Q4 a (fun v=> ∀c bw w,b w→n c w→b1 bw w→Q0 c true w (fun w J=>J bw w) (dk a v w)) fun v=>Q4 a (fun cj=> ∀i w,b w→v i w→Q0 i false w (fun w J=>J ct w) (dk a cj w)) fun cj=>Q4 a (fun bm=> ∀i cg w,b w→v i w→cj cg w→Q0 i false w (Q3 P .eql T.w (.tmp 95) (.const (.int .i64 0)) cg (.int .i64 0)) (dk a bm w)) fun bm=>Q4 a (fun t=> ∀i b2 w,b w→v i w→bm b2 w→Q0 i false w (fun w J=>J b2 w) (dk a t w)) fun t=>Q4 a (fun cc=> ∀f w,b w→t f w→Q0 f true w (fun w J=>J cy w) (dk a cc w)) fun cc=>Q4 a (fun bs=> ∀f w,b w→t f w→Q0 f true w (fieldAddr P T.a t4 2) (dk a bs w)) fun bs=>Q4 a (fun cl=> ∀w,b w→Q2 P T.a d5 w (dk a cl w)) fun cl=>Q4 a (fun ap=> ∀f ca w,b w→t f w→bs ca w→Q0 f true w (Q2 P T.f ca) (dk a ap w)) fun ap=>Q4 a (fun ag=> ∀f Y w,b w→t f w→ap Y w→Q0 f true w (X2 P .len [T.f] T.d [false] [Y]) (dk a ag w)) fun ag=>Q4 a (fun Q=> ∀f ba E w,b w→t f w→cc ba w→ag E w→Q0 f true w (Q3 P .eql T.d (.tmp 98) (.tmp 101) ba E) (dk a Q w)) fun Q=>Q4 a (fun af=> ∀i f R w,b w→v i w→t f w→Q R w→Q0 i false w (pick P f R (.bool false)) (dk a af w)) fun af=>Q4 a (fun ab=> ∀c i W w,b w→n c w→v i w→af W w→Q0 c true w (pick P i (.bool true) W) (dk a ab w)) fun ab=>Q4 a (fun ay=> ∀c aa w,b w→n c w→ab aa w→pick P c aa (.bool false) w (dk a ay w)) fun ay=>Sr a (fun j=> ∀aw w,b w→cl aw w→Y0 P T.a t6 aw w (dk a (j [aw]) w)) fun j=>∀c bb a8 l bx be bw i cg b2 f ba ca aw Y E R W aa cm cv w,b w→n c w→bk bb w→bf a8 w→aq l w→bv bx w→a7 be w→b1 bw w→v i w→cj cg w→bm b2 w→t f w→cc ba w→bs ca w→cl aw w→ap Y w→ag E w→Q R w→af W w→ab aa w→ay cm w→j [aw] cv w→ Y8 P T.a t6 w fun r0=>K (.tuple #[r0,cm]) w) (Q3 P .eql T.d (.tmp 23) (.const (.int .i64 2)) a4 (.int .i64 2) w fun dg w=>X1 dg (Q2 P T.a t4 w fun ds w=>fieldAddr P T.l r 3 w fun c3 w=>Q2 P T.d c3 w fun d0 w=>fieldAddr P T.l r 2 w fun cz w=>Q2 P T.a0 cz w fun c4 w=>fieldAddr P T.l r 4 w fun dx w=>Q2 P T.g dx w fun da w=>Q1 P F.bP [ds,d0,c4,da] w fun cq w=>ext P cq 0 w fun dl w=>ext P cq 1 w fun dv w=>W0 P T.a w fun dh w=>Y0 P T.a dh dl w fun _u w=>dr w fun a b=>Q4 a (fun U=> ∀w,b w→fieldAddr P T.l r 3 w (dk a U w)) fun U=>Q4 a (fun Z=> ∀w,b w→fieldAddr P T.l r 2 w (dk a Z w)) fun Z=>Q4 a (fun M=> ∀w,b w→fieldAddr P T.l r 4 w (dk a M w)) fun M=>Q4 a (fun N=> ∀w,b w→Q2 P T.a dh w (dk a N w)) fun N=>Q4 a (fun y=> ∀ae w,b w→U ae w→Q2 P T.d ae w (dk a y w)) fun y=>Q4 a (fun ac=> ∀B w,b w→Z B w→Q2 P T.a0 B w (dk a ac w)) fun ac=>Q4 a (fun ai=> ∀V w,b w→M V w→Q2 P T.g V w (dk a ai w)) fun ai=>Q4 a (fun L=> ∀am ad H w,b w→y am w→ac ad w→ai H w→Q1 P F.aG [a0,am,ad,H] w (dk a L w)) fun L=>Q4 a (fun a6=> ∀C w,b w→L C w→Q3 P .eql T.w (.tmp 127) (.tmp 128) C dv w (dk a a6 w)) fun a6=>Sr a (fun a3=> ∀q w,b w→N q w→Y0 P T.a t6 q w (dk a (a3 [q]) w)) fun a3=>∀ae B V q am ad H C cn ef w,b w→U ae w→Z B w→M V w→N q w→y am w→ac ad w→ai H w→L C w→a6 cn w→a3 [q] ef w→ Y8 P T.a t6 w fun r0=>K (.tuple #[r0,cn]) w) (Q3 P .eql T.d (.tmp 23) (.const (.int .i64 3)) a4 (.int .i64 3) w fun c0 w=>X1 c0 (Q2 P T.a t4 w fun c9 w=>fieldAddr P T.l r 3 w fun cx w=>Q2 P T.d cx w fun dz w=>fieldAddr P T.l r 2 w fun c5 w=>Q2 P T.a0 c5 w fun c8 w=>Q1 P F.bQ [c9,dz,c8] w fun co w=>ext P co 0 w fun d2 w=>ext P co 1 w fun dq w=>W0 P T.g w fun dc w=>Y0 P T.g dc d2 w fun _u w=>fieldAddr P T.l r 3 w fun de w=>Q2 P T.d de w fun db w=>fieldAddr P T.l r 2 w fun dw w=>Q2 P T.a0 dw w fun d6 w=>Q1 P F.b4 [a0,db,d6] w fun cp w=>ext P cp 0 w fun dn w=>ext P cp 1 w fun dt w=>W0 P T.g w fun d1 w=>Y0 P T.g d1 dn w fun _u w=>dr w fun a b=>Q4 a (fun A=> ∀w,b w→Q2 P T.a t4 w (dk a A w)) fun A=>Q4 a (fun ah=> ∀w,b w→Q2 P T.g dc w (dk a ah w)) fun ah=>Q4 a (fun ak=> ∀w,b w→Q2 P T.g d1 w (dk a ak w)) fun ak=>Q4 a (fun k=> ∀X an w,b w→ah X w→ak an w→Q3 P .eql T.g (.tmp 151) (.tmp 152) X an w (dk a k w)) fun k=>Q4 a (fun ao=> ∀e w,b w→k e w→Q0 e true w (fun w J=>J dq w) (dk a ao w)) fun ao=>Q4 a (fun z=> ∀e w,b w→k e w→Q0 e true w (fun w J=>J dt w) (dk a z w)) fun z=>Q4 a (fun aj=> ∀e O al w,b w→k e w→ao O w→z al w→Q0 e true w (Q3 P .eql T.w (.tmp 155) (.tmp 156) O al) (dk a aj w)) fun aj=>Q4 a (fun az=> ∀e D w,b w→k e w→aj D w→pick P e D (.bool false) w (dk a az w)) fun az=>Sr a (fun cw=> ∀p w,b w→A p w→Y0 P T.a t6 p w (dk a (cw [p]) w)) fun cw=>∀p X an e O al D cr u9 w,b w→A p w→ah X w→ak an w→k e w→ao O w→z al w→aj D w→az cr w→cw [p] u9 w→ Y8 P T.a t6 w fun r0=>K (.tuple #[r0,cr]) w) (Q3 P .eql T.d (.tmp 23) (.const (.int .i64 4)) a4 (.int .i64 4) w fun d7 w=>X1 d7 (fieldAddr P T.l r 3 w fun c1 w=>Q2 P T.d c1 w fun df w=>Q1 P F.c4 [a0,df] w fun ew w=>Q2 P T.a t4 w fun du w=>fieldAddr P T.l r 3 w fun di w=>Q2 P T.d di w fun dm w=>Q1 P F.bR [du,dm] w fun dp w=>Y0 P T.a t6 dp w fun _u w=>Y8 P T.a t6 w fun r0=>K (.tuple #[r0,(.bool true)]) w) (Q2 P T.a t4 w fun c2 w=>Y0 P T.a t6 c2 w fun _u w=>Y8 P T.a t6 w fun r0=>K (.tuple #[r0,(.bool true)]) w)))))
theorem Q1S {c a b:Value} {w:World} {K:Value→World→Prop} (h:Hp c a b w K):Q1 P F.ak [c,a,b] w K:=Q9 (List.replicate 22 none) Tryz.func26 rfl (by decide) (by kernel_rfl) h
def Az:V5:=[none,none,none,none,none,none,some ([5],[4,5,6,12,13,14,15,16,17,18,19,20,21,22,23,24,25,26,27,28,29,30,31,32,33,34,35,36,37,38,39,40,41,42,43,44,45,46,47,48,49,50,51,52,53,54,55,56,57,58,59,60,61,62,63,64,65,66,67,68,69,70]),none,none,none,none,none,none,none,some ([6],[4,6,44,45,46,47,48,49,50,51,52,53,54,55,56,57,58,59,60,61,62,63,64,65,66,67,68,69,70]),none,none,none,none,none,none]
def Dc (a0 a1:Value) (w:World) (K:Value→World→Prop):Prop:= X2 P .len [T.f] T.d [false] [a0] w fun t8 w=>X2 P .len [T.f] T.d [false] [a1] w fun bc w=>Q3 P .neq T.d (.tmp 8) (.tmp 10) t8 bc w fun a8 w=>X1 a8 (K (.bool false) w) (lp (α:=Value) (.int .i64 0) w fun j x6 d_ w=>X2 P .len [T.f] T.d [false] [a0] w fun a5 w=>Q3 P .lss T.d (.tmp 12) (.tmp 14) x6 a5 w fun bg w=>X1 bg (dr w fun b c=>Q4 b (fun u=> ∀w,c w→indexAddr P T.f a0 x6 w (dk b u w)) fun u=>Q4 b (fun Q=> ∀ae w,c w→u ae w→fieldAddr P T.n ae 0 w (dk b Q w)) fun Q=>Q4 b (fun aa=> ∀w,c w→indexAddr P T.f a1 x6 w (dk b aa w)) fun aa=>Q4 b (fun Y=> ∀r w,c w→aa r w→fieldAddr P T.n r 0 w (dk b Y w)) fun Y=>Q4 b (fun f=> ∀n w,c w→Q n w→Q2 P T.c n w (dk b f w)) fun f=>Q4 b (fun D=> ∀H w,c w→Y H w→Q2 P T.c H w (dk b D w)) fun D=>Q4 b (fun d=> ∀V B w,c w→f V w→D B w→Q3 P .neq T.c (.tmp 22) (.tmp 27) V B w (dk b d w)) fun d=>Q4 b (fun ab=> ∀a w,c w→d a w→Q0 a false w (fun w J=>J a0 w) (dk b ab w)) fun ab=>Q4 b (fun ah=> ∀a w,c w→d a w→Q0 a false w (fun w J=>J x6 w) (dk b ah w)) fun ah=>Q4 b (fun R=> ∀a X Z w,c w→d a w→ab X w→ah Z w→Q0 a false w (indexAddr P T.f X Z) (dk b R w)) fun R=>Q4 b (fun m=> ∀a q w,c w→d a w→R q w→Q0 a false w (fieldAddr P T.n q 1) (dk b m w)) fun m=>Q4 b (fun W=> ∀a w,c w→d a w→Q0 a false w (fun w J=>J a1 w) (dk b W w)) fun W=>Q4 b (fun p=> ∀a w,c w→d a w→Q0 a false w (fun w J=>J x6 w) (dk b p w)) fun p=>Q4 b (fun ac=> ∀a an ai w,c w→d a w→W an w→p ai w→Q0 a false w (indexAddr P T.f an ai) (dk b ac w)) fun ac=>Q4 b (fun h=> ∀a aj w,c w→d a w→ac aj w→Q0 a false w (fieldAddr P T.n aj 1) (dk b h w)) fun h=>Q4 b (fun am=> ∀a z w,c w→d a w→m z w→Q0 a false w (Q2 P T.m z) (dk b am w)) fun am=>Q4 b (fun ao=> ∀a v w,c w→d a w→am v w→Q0 a false w (X2 P .len [T.m] T.d [false] [v]) (dk b ao w)) fun ao=>Q4 b (fun y=> ∀a i w,c w→d a w→h i w→Q0 a false w (Q2 P T.m i) (dk b y w)) fun y=>Q4 b (fun aq=> ∀a N w,c w→d a w→y N w→Q0 a false w (X2 P .len [T.m] T.d [false] [N]) (dk b aq w)) fun aq=>∀ae n r H V B a X Z q z an ai aj i v aw N ax w,c w→u ae w→Q n w→aa r w→Y H w→f V w→D B w→d a w→ab X w→ah Z w→R q w→m z w→W an w→p ai w→ac aj w→h i w→am v w→ao aw w→y N w→aq ax w→ Q0 a false w (Q3 P .neq T.d (.tmp 35) (.tmp 41) aw ax) fun bd w=>pick P a (.bool true) bd w fun bf w=>X1 bf (K (.bool false) w) (lp (α:=Value) (.int .i64 0) w fun e af d_ w=>indexAddr P T.f a0 x6 w fun be w=>fieldAddr P T.n be 1 w fun a6 w=>Q2 P T.m a6 w fun ba w=>X2 P .len [T.m] T.d [false] [ba] w fun a9 w=>Q3 P .lss T.d (.tmp 44) (.tmp 50) af a9 w fun a3 w=>X1 a3 (dr w fun b c=>Q4 b (fun k=> ∀w,c w→indexAddr P T.f a0 x6 w (dk b k w)) fun k=>Q4 b (fun M=> ∀C w,c w→k C w→fieldAddr P T.n C 1 w (dk b M w)) fun M=>Q4 b (fun E=> ∀w,c w→indexAddr P T.f a1 x6 w (dk b E w)) fun E=>Q4 b (fun ag=> ∀O w,c w→E O w→fieldAddr P T.n O 1 w (dk b ag w)) fun ag=>Q4 b (fun g=> ∀U w,c w→M U w→Q2 P T.m U w (dk b g w)) fun g=>Q4 b (fun t=> ∀s w,c w→g s w→indexAddr P T.m s af w (dk b t w)) fun t=>Q4 b (fun ap=> ∀o w,c w→t o w→Q2 P T.g o w (dk b ap w)) fun ap=>Q4 b (fun al=> ∀ad w,c w→ag ad w→Q2 P T.m ad w (dk b al w)) fun al=>Q4 b (fun A=> ∀l w,c w→al l w→indexAddr P T.m l af w (dk b A w)) fun A=>Q4 b (fun ar=> ∀L w,c w→A L w→Q2 P T.g L w (dk b ar w)) fun ar=>∀C U O ad s o az l L ay w,c w→k C w→M U w→E O w→ag ad w→g s w→t o w→ap az w→al l w→A L w→ar ay w→ Q3 P .neq T.g (.tmp 61) (.tmp 69) az ay w fun a4 w=>X1 a4 (K (.bool false) w) (Q3 P .add T.d (.tmp 52) (.const (.int .i64 1)) af (.int .i64 1) w fun a7 w=>e a7 w)) (Q3 P .add T.d (.tmp 16) (.const (.int .i64 1)) x6 (.int .i64 1) w fun bb w=>j bb w))) (K (.bool true) w))
theorem Q01 {b a:Value} {w:World} {K:Value→World→Prop} (h:Dc b a w K):Q1 P F.bC [b,a] w K:=Q9 Az Tryz.func38 rfl (by decide) (by kernel_rfl) h
end Go.Proofs.YtjdiakhipmggjaaGreatDoor

set_option maxRecDepth 100000
namespace Go.Proofs.YtjdiakhipmggjaaGreatDoor
open Go.Emb
def Cs:V5:=[none,none,none,none,none,none,none,some ([9],[9,33,34,35,36,37,38,39,40,41,42,43,44,45,46,47,48,49,50,51,52,53,54,55,56,57]),none,none,some ([],[43,44,45,46,47,48,49,50,51,52,53,54,55,56,57]),none,none,none,none,some ([],[6,14,15,72,73,74,75,76,77,78,79,80,81,82,83,84,85,86,87,88,89,90,91,92,93,94,95,96,97,98,99,100,101,102,103,104,105,106,107,108,109,110,111,112,113,114,115,116,117,118,119,120,121,122,123,124,125,126,127,128,129,130,131,132,133,134,135,136,137,138,139,140,141,142,143,144,145,146,147]),none,none,none,none,none,none,none,none,none]
def Vh (a0 a1 a2:Value) (w:World) (K:Value→World→Prop):Prop:= box P T.l a2 w fun j w=>Q1 P F.aj [a0] w fun cm w=>ext P cm 0 w fun i w=>ext P cm 1 w fun dz w=>W0 P T.a w fun t8 w=>Y0 P T.a t8 dz w fun _u w=>Q1 P F.ai [] w fun cz w=>J8 P .not cz w fun cd w=>Q0 cd false w (fun w J=>J i w) fun c9 w=>Q0 cd false w (Q3 P .eql T.a5 (.tmp 24) (.const (.pointer none)) c9 (.pointer none)) fun dl w=>pick P cd (.bool true) dl w fun bq w=>Q0 bq false w (Q2 P T.l j) fun du w=>Q0 bq false w (Q1 P F.ag [du]) fun dd w=>Q0 bq false w (J8 P .not dd) fun db w=>pick P bq (.bool true) db w fun dw w=>X1 dw (Q1 P F.ai [] w fun c0 w=>K c0 w) (lp (α:=Value) (.int .i64 0) w fun bv x7 d_ w=>X2 P .len [T.z] T.d [false] [a1] w fun cw w=>Q3 P .lss T.d (.tmp 33) (.tmp 35) x7 cw w fun cc w=>Q0 cc true w (fun w J=>J x7 w) fun d1 w=>Q0 cc true w (Q3 P .lss T.d (.tmp 38) (.const (.int .i64 30)) d1 (.int .i64 30)) fun di w=>pick P cc di (.bool false) w fun c6 w=>X1 c6 (jn (α:=Unit) w (fun cn w=>indexAddr P T.z a1 x7 w fun c4 w=>Q2 P T.l c4 w fun c5 w=>Q1 P F.ag [c5] w fun d2 w=>X1 d2 (sq w fun w=>indexAddr P T.z a1 x7 w fun dn w=>Q2 P T.a t8 w fun c3 w=>Q2 P T.l dn w fun dj w=>Q1 P F.ak [i,c3,dj] w fun cr w=>ext P cr 0 w fun c1 w=>ext P cr 1 w fun d7 w=>Y0 P T.a t8 c1 w fun _u w=>cn () w) (cn () w)) fun d5 d_ w=>Q3 P .add T.d (.tmp 41) (.const (.int .i64 1)) x7 (.int .i64 1) w fun dx w=>bv dx w) (Q1 P F.ac [i] w fun bz w=>Q1 P F.v [i] w fun dg w=>fieldAddr P T.l j 3 w fun da w=>Q2 P T.d da w fun dq w=>fieldAddr P T.l j 2 w fun de w=>Q2 P T.a0 de w fun cy w=>fieldAddr P T.l j 4 w fun dy w=>Q2 P T.g dy w fun dp w=>Q1 P F.aG [i,dq,cy,dp] w fun df w=>Q1 P F.ac [i] w fun b5 w=>jn (α:=Unit) w (fun co w=>Q3 P .eql T.w (.tmp 72) (.const (.int .i64 0)) df (.int .i64 0) w fun c2 w=>X1 c2 (fieldAddr P T.l j 3 w fun dm w=>Q2 P T.d dm w fun ds w=>fieldAddr P T.l j 2 w fun dt w=>Q2 P T.a0 dt w fun d0 w=>Q1 P F.b4 [i,ds,d0] w fun cj w=>ext P cj 0 w fun cv w=>ext P cj 1 w fun c7 w=>W0 P T.g w fun cf w=>Y0 P T.g cf cv w fun _u w=>Q3 P .neq T.w (.tmp 83) (.const (.int .i64 0)) c7 (.int .i64 0) w fun bj w=>Q0 bj false w (Q2 P T.g cf) fun dh w=>Q0 bj false w (fieldAddr P T.l j 4) fun dc w=>Q0 bj false w (Q2 P T.g dc) fun cx w=>Q0 bj false w (Q3 P .neq T.g (.tmp 86) (.tmp 88) dh cx) fun cu w=>pick P bj (.bool true) cu w fun ct w=>X1 ct (K (.bool false) w) (dr w fun b e=>Q4 b (fun bu=> ∀w,e w→fieldAddr P T.l j 3 w (dk b bu w)) fun bu=>Q4 b (fun bn=> ∀bw w,e w→bu bw w→Q2 P T.d bw w (dk b bn w)) fun bn=>Q4 b (fun g=> ∀bp w,e w→bn bp w→Q3 P .lss T.d (.tmp 92) (.const (.int .i64 0)) bp (.int .i64 0) w (dk b g w)) fun g=>Q4 b (fun b4=> ∀d w,e w→g d w→Q0 d false w (fieldAddr P T.l j 3) (dk b b4 w)) fun b4=>Q4 b (fun b6=> ∀d w,e w→g d w→Q0 d false w (fun w J=>J b5 w) (dk b b6 w)) fun b6=>Q4 b (fun bs=> ∀d w,e w→g d w→Q0 d false w (fun w J=>J bz w) (dk b bs w)) fun bs=>Q4 b (fun br=> ∀d b3 w,e w→g d w→b4 b3 w→Q0 d false w (Q2 P T.d b3) (dk b br w)) fun br=>Q4 b (fun b2=> ∀d bx w,e w→g d w→b6 bx w→Q0 d false w (X2 P .len [T.f] T.d [false] [bx]) (dk b b2 w)) fun b2=>Q4 b (fun be=> ∀d b1 w,e w→g d w→bs b1 w→Q0 d false w (X2 P .len [T.f] T.d [false] [b1]) (dk b be w)) fun be=>Q4 b (fun am=> ∀d bo Y w,e w→g d w→b2 bo w→be Y w→Q0 d false w (X2 P .min [T.d,T.d] T.d [false,false] [bo,Y]) (dk b am w)) fun am=>Q4 b (fun O=> ∀d b0 s w,e w→g d w→br b0 w→am s w→Q0 d false w (Q3 P .geq T.d (.tmp 96) (.tmp 101) b0 s) (dk b O w)) fun O=>Q4 b (fun h=> ∀d Q w,e w→g d w→O Q w→pick P d (.bool true) Q w (dk b h w)) fun h=>Q4 b (fun y=> ∀f w,e w→h f w→Q0 f false w (fieldAddr P T.l j 2) (dk b y w)) fun y=>Q4 b (fun C=> ∀f t w,e w→h f w→y t w→Q0 f false w (Q2 P T.a0 t) (dk b C w)) fun C=>Q4 b (fun ab=> ∀f ap w,e w→h f w→C ap w→Q0 f false w (Q3 P .lss T.a0 (.tmp 106) (.const (.int .i64 0)) ap (.int .i64 0)) (dk b ab w)) fun ab=>Q4 b (fun c=> ∀f af w,e w→h f w→ab af w→pick P f (.bool true) af w (dk b c w)) fun c=>Q4 b (fun E=> ∀a w,e w→c a w→Q0 a false w (fieldAddr P T.l j 2) (dk b E w)) fun E=>Q4 b (fun a8=> ∀a w,e w→c a w→Q0 a false w (fun w J=>J b5 w) (dk b a8 w)) fun a8=>Q4 b (fun n=> ∀a w,e w→c a w→Q0 a false w (fieldAddr P T.l j 3) (dk b n w)) fun n=>Q4 b (fun H=> ∀a w,e w→c a w→Q0 a false w (fun w J=>J bz w) (dk b H w)) fun H=>Q4 b (fun r=> ∀a w,e w→c a w→Q0 a false w (fieldAddr P T.l j 3) (dk b r w)) fun r=>Q4 b (fun bk=> ∀a u w,e w→c a w→E u w→Q0 a false w (Q2 P T.a0 u) (dk b bk w)) fun bk=>Q4 b (fun N=> ∀a v w,e w→c a w→n v w→Q0 a false w (Q2 P T.d v) (dk b N w)) fun N=>Q4 b (fun ar=> ∀a o a7 w,e w→c a w→a8 o w→N a7 w→Q0 a false w (indexAddr P T.f o a7) (dk b ar w)) fun ar=>Q4 b (fun Z=> ∀a M w,e w→c a w→ar M w→Q0 a false w (fieldAddr P T.n M 1) (dk b Z w)) fun Z=>Q4 b (fun ac=> ∀a ax w,e w→c a w→Z ax w→Q0 a false w (Q2 P T.m ax) (dk b ac w)) fun ac=>Q4 b (fun aj=> ∀a ak w,e w→c a w→ac ak w→Q0 a false w (X2 P .len [T.m] T.d [false] [ak]) (dk b aj w)) fun aj=>Q4 b (fun U=> ∀a aq w,e w→c a w→r aq w→Q0 a false w (Q2 P T.d aq) (dk b U w)) fun U=>Q4 b (fun l=> ∀a ay ai w,e w→c a w→H ay w→U ai w→Q0 a false w (indexAddr P T.f ay ai) (dk b l w)) fun l=>Q4 b (fun ad=> ∀a a9 w,e w→c a w→l a9 w→Q0 a false w (fieldAddr P T.n a9 1) (dk b ad w)) fun ad=>Q4 b (fun ag=> ∀a p w,e w→c a w→ad p w→Q0 a false w (Q2 P T.m p) (dk b ag w)) fun ag=>Q4 b (fun A=> ∀a ah w,e w→c a w→ag ah w→Q0 a false w (X2 P .len [T.m] T.d [false] [ah]) (dk b A w)) fun A=>Q4 b (fun bl=> ∀a az W w,e w→c a w→aj az w→A W w→Q0 a false w (X2 P .min [T.d,T.d] T.d [false,false] [az,W]) (dk b bl w)) fun bl=>∀bw bp d b3 bx b1 b0 bo Y s Q f t ap af a u o v ay aq ca a7 M ax ak az ai a9 p ah W b8 w,e w→bu bw w→bn bp w→g d w→b4 b3 w→b6 bx w→bs b1 w→br b0 w→b2 bo w→be Y w→am s w→O Q w→h f w→y t w→C ap w→ab af w→c a w→E u w→a8 o w→n v w→H ay w→r aq w→bk ca w→N a7 w→ar M w→Z ax w→ac ak w→aj az w→U ai w→l a9 w→ad p w→ag ah w→A W w→bl b8 w→ Q0 a false w (Q3 P .geq T.a0 (.tmp 111) (.tmp 126) ca b8) fun ce w=>pick P a (.bool true) ce w fun cl w=>X1 cl (K (.bool false) w) (dr w fun b e=>Q4 b (fun m=> ∀w,e w→fieldAddr P T.l j 3 w (dk b m w)) fun m=>Q4 b (fun an=> ∀w,e w→fieldAddr P T.l j 2 w (dk b an w)) fun an=>Q4 b (fun a3=> ∀w,e w→fieldAddr P T.l j 3 w (dk b a3 w)) fun a3=>Q4 b (fun R=> ∀w,e w→fieldAddr P T.l j 2 w (dk b R w)) fun R=>Q4 b (fun bf=> ∀bg w,e w→m bg w→Q2 P T.d bg w (dk b bf w)) fun bf=>Q4 b (fun ae=> ∀q w,e w→bf q w→indexAddr P T.f b5 q w (dk b ae w)) fun ae=>Q4 b (fun ao=> ∀al w,e w→ae al w→fieldAddr P T.n al 1 w (dk b ao w)) fun ao=>Q4 b (fun bh=> ∀L w,e w→ao L w→Q2 P T.m L w (dk b bh w)) fun bh=>Q4 b (fun bi=> ∀ba w,e w→an ba w→Q2 P T.a0 ba w (dk b bi w)) fun bi=>Q4 b (fun a4=> ∀B w,e w→a3 B w→Q2 P T.d B w (dk b a4 w)) fun a4=>Q4 b (fun aa=> ∀bb w,e w→a4 bb w→indexAddr P T.f bz bb w (dk b aa w)) fun aa=>Q4 b (fun a5=> ∀aw w,e w→aa aw w→fieldAddr P T.n aw 1 w (dk b a5 w)) fun a5=>Q4 b (fun D=> ∀bd w,e w→a5 bd w→Q2 P T.m bd w (dk b D w)) fun D=>Q4 b (fun z=> ∀X w,e w→R X w→Q2 P T.a0 X w (dk b z w)) fun z=>Q4 b (fun bc=> ∀av V w,e w→D av w→z V w→indexAddr P T.m av V w (dk b bc w)) fun bc=>Q4 b (fun bm=> ∀a6 w,e w→bc a6 w→Q2 P T.g a6 w (dk b bm w)) fun bm=>∀bg ba B X q al L b7 b9 bb aw bd av V a6 cb w,e w→m bg w→an ba w→a3 B w→R X w→bf q w→ae al w→ao L w→bh b7 w→bi b9 w→a4 bb w→aa aw w→a5 bd w→D av w→z V w→bc a6 w→bm cb w→ indexAddr P T.m b7 b9 w fun cp w=>Y0 P T.g cp cb w fun _u w=>co () w))) (co () w)) fun d4 d_ w=>Q1 P F.bC [bz,b5] w fun k w=>Q0 k true w (fun w J=>J i w) fun cs w=>Q0 k true w (Q1 P F.v [cs]) fun cg w=>Q0 k true w (fun w J=>J dg w) fun ci w=>Q0 k true w (Q3 P .eql T.d (.tmp 153) (.tmp 154) cg ci) fun ck w=>pick P k ck (.bool false) w fun cq w=>K cq w))
theorem Cn {c a b:Value} {w:World} {K:Value→World→Prop} (h:Vh c a b w K):Q1 P F.cd [c,a,b] w K:=Q9 Cs Tryz.func11 rfl (by decide) (by kernel_rfl) h
end Go.Proofs.YtjdiakhipmggjaaGreatDoor


namespace Go.Emb
open Go.RowKit (Below)
variable {P : Program} {w w' : World} {K : Value → World → Prop}
theorem X9 {s:Sem Value} {v:Value} (h:s.run P w= .ok v w'):op P (sv s) w K=K v w':=by
 rw[T9];unfold P5 sv;simp[h]
theorem Lm {s:Sem Unit} (h:s.run P w= .ok () w'):op P (su s) w K=K undef w':=by
 rw[T9];unfold P5 su;simp[h]
abbrev S (l:List UInt8):Value:= .string ⟨l.toArray⟩
abbrev I (n:Int):Value:= .int .i64 n
theorem Er {b:Bool} {x y:Value}:pick P (.bool b) x y w K=K (if b then x else y) w:=by
 unfold pick;rw[T9];unfold P5;cases b<;>simp[asBool]
theorem M8 {x y:Value}:pick P (.bool true) x y w K=K x w:=by rw[Er];rfl
theorem W9 {x y:Value}:pick P (.bool false) x y w K=K y w:=by rw[Er];rfl
theorem X16 {a b:Bool} {u:Value}:pick P (.bool a) (if a=true then .bool b else u) (.bool false) w K=K (.bool (a&&b)) w:=by
 rw[Er];cases a<;>rfl
theorem X2p {a b:Bool} {u:Value}:pick P (.bool a) (.bool true) (if a=false then .bool b else u) w K=K (.bool (a||b)) w:=by
 rw[Er];cases a<;>rfl
theorem W5 {c:World→(Value→World→Prop)→Prop}:Q0 (.bool true) true w c K=c w K:=by rw[Eu];simp[Oa]
theorem W7 {c:World→(Value→World→Prop)→Prop}:Q0 (.bool false) false w c K=c w K:=by rw[Eu];simp[Oa]
theorem S4 {c:World→(Value→World→Prop)→Prop}:Q0 (.bool true) false w c K=K undef w:=by rw[Eu];simp[Oa]
theorem E4 {c:World→(Value→World→Prop)→Prop}:Q0 (.bool false) true w c K=K undef w:=by rw[Eu];simp[Oa]
theorem D0 {b:Bool} {c:World→(Value→World→Prop)→Prop}:Q0 undef b w c K=K undef w:=by rw[Eu];rfl
theorem X0x {a b:Bool} {v:Value}:Q0 (.bool a) b w (fun w J=>J v w) K=K (if a=b then v else undef) w:=by
 rw[Eu];unfold Oa;by_cases h:a=b<;>simp[h]
theorem Q5e {b:Bool} {t e:Prop}:X1 (.bool b) t e=if b=true then t else e:=by rw[Q5a];cases b<;>rfl
theorem H8 {t e:Prop}:X1 (.bool true) t e=t:=by rw[Q5e];simp
theorem M7 {t e:Prop}:X1 (.bool false) t e=e:=by rw[Q5e];simp
section ints
variable {k : IntKind} {t : TypeId} {ox oy : Operand} {a b : Int}
theorem Gs:Q3 P .add t ox oy (.int k a) (.int k b) w K=K (.int k (k.wrap (a+b))) w:=X9 (by simp[eqGuard,Go.binOp,Op.intArith])
theorem Q3O:Q3 P .sub t ox oy (.int k a) (.int k b) w K=K (.int k (k.wrap (a-b))) w:=X9 (by simp[eqGuard,Go.binOp,Op.intArith])
theorem Q7o:Q3 P .mul t ox oy (.int k a) (.int k b) w K=K (.int k (k.wrap (a*b))) w:=X9 (by simp[eqGuard,Go.binOp,Op.intArith])
theorem Q3V:Q3 P .lss t ox oy (.int k a) (.int k b) w K=K (.bool (decide (a<b))) w:=X9 (by simp[eqGuard,Go.binOp,Op.intCmp])
theorem Q3P:Q3 P .leq t ox oy (.int k a) (.int k b) w K=K (.bool (decide (a≤b))) w:=X9 (by simp[eqGuard,Go.binOp,Op.intCmp])
theorem Rp:Q3 P .gtr t ox oy (.int k a) (.int k b) w K=K (.bool (decide (b<a))) w:=X9 (by simp[eqGuard,Go.binOp,Op.intCmp])
theorem Q1B:Q3 P .geq t ox oy (.int k a) (.int k b) w K=K (.bool (decide (b≤a))) w:=X9 (by simp[eqGuard,Go.binOp,Op.intCmp])
theorem Q1F:Q3 P .eql t ox oy (.int k a) (.int k b) w K=K (.bool (decide (a=b))) w:=X9 (by
 simp[eqGuard,Go.binOp,Op.intCmp];rfl)
theorem Q3U:Q3 P .neq t ox oy (.int k a) (.int k b) w K=K (.bool (!decide (a=b))) w:=X9 (by
 simp[eqGuard,Go.binOp,Op.intCmp];rfl)
end ints
theorem Q3T {b:Bool}:J8 P .not (.bool b) w K=K (.bool (!b)) w:=X9 (by simp[Op.unary])
section bools
variable {t : TypeId} {ox oy : Operand} {a b : Bool}
theorem Q2K (d:Nat) (h:P.underlying t=some .bool):(Op.equalIn (d+1) t (.bool a) (.bool b)).run P w= .ok (a==b) w:=by
 simp[Op.equalIn,run_underlying h]
theorem Ia (h:P.underlying t=some .bool):(Op.equal t (.bool a) (.bool b)).run P w= .ok (a==b) w:=Q2K 9999 h
theorem Q69 (h:P.underlying t=some .bool):Q3 P .eql t ox oy (.bool a) (.bool b) w K=K (.bool (a==b)) w:=X9 (by
 simp[eqGuard,Go.binOp,Ia h])
theorem Q58 (h:P.underlying t=some .bool):Q3 P .neq t ox oy (.bool a) (.bool b) w K=K (.bool (!(a==b))) w:=X9 (by
 simp[eqGuard,Go.binOp,Ia h])
end bools
theorem Jp {vs:List Value} {i:Nat} {v:Value} (h:vs[i]? =some v):ext P (.tuple vs.toArray) i w K=K v w:=X9 (by
 simp[Instr.extract,h])
theorem X2R {a b:Value}:ext P (.tuple #[a,b]) 0 w K=K a w:=Jp (vs:=[a,b]) rfl
theorem X2P {a b:Value}:ext P (.tuple #[a,b]) 1 w K=K b w:=Jp (vs:=[a,b]) rfl
theorem X1m {a b c:Value}:ext P (.tuple #[a,b,c]) 0 w K=K a w:=Jp (vs:=[a,b,c]) rfl
theorem X1c {a b c:Value}:ext P (.tuple #[a,b,c]) 1 w K=K b w:=Jp (vs:=[a,b,c]) rfl
theorem X1k {a b c:Value}:ext P (.tuple #[a,b,c]) 2 w K=K c w:=Jp (vs:=[a,b,c]) rfl
theorem G8 {n:Int} (e: -9223372036854775808≤n) (c:n≤9223372036854775807):IntKind.i64.wrap n=n:=by
 have d:n % 18446744073709551616=n∨n % 18446744073709551616=n+18446744073709551616:=by omega
 show (if (true&&decide (n % 18446744073709551616≥9223372036854775808))=true then n % 18446744073709551616-18446744073709551616 else n % 18446744073709551616)=n
 simp only[Bool.true_and,decide_eq_true_eq]
 split<;>omega
theorem w32 {n:Int} (d: -2147483648≤n) (c:n≤2147483647):IntKind.i32.wrap n=n:=by
 show (if (true&&decide (n % 4294967296≥2147483648))=true then n % 4294967296-4294967296 else n % 4294967296)=n
 simp only[Bool.true_and,decide_eq_true_eq]
 split<;>omega
section strs
variable {t : TypeId} {ox oy : Operand} {a b : List UInt8}
theorem Q42 (a b:List UInt8):(a==b)=decide (a=b):=by rw[Bool.eq_iff_iff];simp
theorem Bz:Q3 P .eql t ox oy (S a) (S b) w K=K (.bool (decide (a=b))) w:=X9 (by
 simp[eqGuard,Go.binOp,Op.stringOp,Q42])
theorem Bt:Q3 P .neq t ox oy (S a) (S b) w K=K (.bool (!decide (a=b))) w:=X9 (by
 simp[eqGuard,Go.binOp,Op.stringOp,Q42])
theorem I9 (l:List UInt8):(ByteArray.mk l.toArray).size=l.length:=by simp[ByteArray.size]
theorem Q9R (a b:List UInt8):ByteArray.mk a.toArray++ByteArray.mk b.toArray=ByteArray.mk (a++b).toArray:=by
 apply ByteArray.ext;simp
theorem X3I:IntKind.i64.max=9223372036854775807:=by decide
theorem Q26 (h:a.length+b.length≤9223372036854775807):Q3 P .add t ox oy (S a) (S b) w K=K (S (a++b)) w:=X9 (by
 have c: ¬(((a.length+b.length:Nat):Int)>IntKind.i64.max):=by rw[X3I];omega
 simp only[eqGuard,Go.binOp,Op.stringOp,I9,Q9R]
 simp only[if_neg c]
 simp)
theorem R9 {cs:List Bool} {r:TypeId} (c:P.underlying t=some .string):X2 P .len [t] r cs [S a] w K=K (I a.length) w:=by
 have h:(Builtin.len_ #[t] r #[S a]).run P w= .ok (I a.length) w:=by
  simp[Builtin.len_,run_underlying c,I9,goInt]
 exact X9 h
theorem Xs {i:Int} (d:P.underlying t=some .string) (c:0≤i) (h:i.toNat<a.length):C5 P t (S a) (I i) w K=K (.int .u8 (a[i.toNat]'h).toNat) w:=X9 (by
 simp only[Instr.index,asIntOf,Sem.run_bind,Sem.run_pure,Result.andThen_ok,run_underlying d,c,if_true]
 have:(ByteArray.mk a.toArray)[i.toNat]? =some (a[i.toNat]'h):=by
  rw[getElem?_pos _ _ (by rw[I9];exact h)]
  rfl
 rw[this];simp)
theorem Q33 (l:List UInt8) (i j:Nat):(ByteArray.mk l.toArray).extract i j=ByteArray.mk ((l.take j).drop i).toArray:=by
 apply ByteArray.ext
 apply Array.ext'
 simp[List.drop_take]
theorem Uu {i:Int} (d:P.underlying t=some .string) (c:0≤i) (h:i≤a.length):S1 P t (S a) (some (I i)) none none w K=K (S (a.drop i.toNat)) w:=X9 (by
 simp[Instr.sliceAt,Instr.slice,Instr.sliceBounds,Instr.sliceBound,asIntOf,run_underlying d,c,h,I9,Q33])
theorem T3 {i:Int} (d:P.underlying t=some .string) (c:0≤i) (h:i≤a.length):S1 P t (S a) none (some (I i)) none w K=K (S (a.take i.toNat)) w:=X9 (by
 simp[Instr.sliceAt,Instr.slice,Instr.sliceBounds,Instr.sliceBound,asIntOf,run_underlying d,c,h,I9,Q33])
end strs
theorem Iy {s d:TypeId} {k j:IntKind} {n:Int} {ds:TypeDesc} (c:P.underlying s=some ds) (e:P.underlying d=some (.int k)):conv P s d (.int j n) w K=K (.int k (k.wrap n)) w:=X9 (by
 simp[Go.convert,run_underlying c,run_underlying e,Conv.intToInt])
def Q0O (w:World) (r:Nat) (o:Obj):World:={w with heap:=w.heap.setIfInBounds r o}
theorem Q48 {B r:Nat} {a w:World} {o:Obj} (h:Below B a w) (c:B≤r):Below B a (Q0O w r o):=
 h.trans ⟨rfl,rfl,rfl,by simp[Q0O],fun k d=>by simp only[Q0O];rw[Array.getElem?_setIfInBounds_ne (by omega)]⟩
theorem Q7C {w:World} {r:Nat} {o:Obj} (h:r<w.heap.size):(Q0O w r o).heap[r]? =some o:=by
 simp only[Q0O];rw[Array.getElem?_setIfInBounds_self_of_lt h]
theorem X2z {t:TypeId} {a:List UInt8} (c:P.underlying t=some .string):rng P t (S a) w K=K (.pointer (some ⟨w.heap.size,0,none⟩)) (w.alloc (.stringIter ⟨a.toArray⟩ 0)):=X9 (by
 simp[Instr.range,run_underlying c])
theorem X1G {t:TypeId} {r pos:Nat} {s:ByteArray} (h:w.heap[r]? =some (.stringIter s pos)) (e:pos<s.size):
 W6 P (.pointer (some ⟨r,0,none⟩)) true t w K=K (.tuple #[.bool true,I pos, .int .i32 (Utf8.decode s pos).1]) (Q0O w r (.stringIter s (pos+(Utf8.decode s pos).2))):=X9 (by
 have c: ∀(k:Obj→Sem Value),(getObj r>>=k).run P w=(k (.stringIter s pos)).run P w:=by
  intro k;rw[Sem.run_bind];simp[getObj,Sem.run,h]
 have d: ∀o,(setObj r o).run P w= .ok () (Q0O w r o):=by intro o;simp[setObj,Sem.run,h,Q0O]
 unfold Instr.next
 simp only[c,e,if_true]
 simp[d,goInt])
theorem Q75 {t:TypeId} {r pos:Nat} {s:ByteArray} (h:w.heap[r]? =some (.stringIter s pos)) (d: ¬pos<s.size):
 W6 P (.pointer (some ⟨r,0,none⟩)) true t w K=K (.tuple #[.bool false]) w:=X9 (by
 have c: ∀(k:Obj→Sem Value),(getObj r>>=k).run P w=(k (.stringIter s pos)).run P w:=by
  intro k;rw[Sem.run_bind];simp[getObj,Sem.run,h]
 unfold Instr.next
 simp only[c,d,if_false]
 simp)
theorem X1B {a:Value}:ext P (.tuple #[a]) 0 w K=K a w:=Jp (vs:=[a]) rfl
theorem Q8z {s:ByteArray} {i:Nat} (h:(s.get! i).toNat<128):Utf8.decode s i=((s.get! i).toNat,1):=by
 unfold Utf8.decode
 simp only[Nat.add_zero]
 rw[if_pos h]
theorem Q6I {s:ByteArray} {i:Nat} (h: ¬(s.get! i).toNat<128):128≤(Utf8.decode s i).1:=by
 unfold Utf8.decode
 simp only[Nat.add_zero]
 rw[if_neg h]
 repeat' split
 all_goals (simp only[Utf8.runeError] at*;try omega)
 all_goals (simp only[Bool.and_eq_true,decide_eq_true_eq,ge_iff_le] at*;omega)
theorem Q5P {s:ByteArray} {i:Nat}:1≤(Utf8.decode s i).2:=by
 unfold Utf8.decode
 simp only
 repeat' split
 all_goals simp
def Ie (p:Int→Bool) (s:ByteArray):Nat→Nat→Bool
 | 0,_=>true
 | n+1,i=>if i<s.size then p (Utf8.decode s i).1&&Ie p s n (i+(Utf8.decode s i).2) else true
theorem Q3A {a:List UInt8} {i:Nat} (h:i<a.length):(ByteArray.mk a.toArray).get! i=a[i]:=by
 show (ByteArray.mk a.toArray).data[i]! =a[i]
 simp[h]
theorem Q8k (p:Int→Bool) (f: ∀c:Int,128≤c→p c=false) (a:List UInt8): ∀(n i:Nat),a.length-i≤n→Ie p ⟨a.toArray⟩ n i=(a.drop i).all (fun b=>p b.toNat):=by
 intro n
 induction n with
 | zero=>intro i h;rw[List.drop_eq_nil_of_le (by omega)];rfl
 | succ n g=>
  intro i h
  simp only[Ie,I9]
  split
  ·rename_i d
   rw[List.drop_eq_getElem_cons d,List.all_cons]
   by_cases e:a[i].toNat<128
   ·rw[Q8z (by rw[Q3A d];exact e),Q3A d]
    simp only
    rw[g (i+1) (by omega)]
   ·have j:=Q6I (s:=⟨a.toArray⟩) (i:=i) (by rw[Q3A d];exact e)
    rw[f _ (by omega),f _ (by omega)];rfl
  ·rename_i d;rw[List.drop_eq_nil_of_le (by omega)];rfl
theorem U6 {α:Type} {A:(α→World→Prop)→World→Prop} {B:α→(Nat→Value)→World→Prop} (h:A (fun x w=> ∀d,B x d w) w):jn w A B:=Jc _ h (fun _ d _ c=>c d)
theorem X4 {e:World→World→Prop} {A c:(Value→World→Prop)→Prop} (V:Value) (h:A (fun v _=>v=V)) (d:c (fun v _=>v=V)):Q4 e A c:=
 H2 _ (fun _ _ _ h _=>h) h d
theorem Dq {w w0:World} {A:(World→World→Prop)→(World→Prop)→Prop} (d:Below w0.heap.size w0 w)
 (h:A (fun w w'=>Below w.heap.size w w') (fun w'=>Below w0.heap.size w0 w')):dr w A:=
 Pv _ _ d.drew (fun _ _ c e=>c.trans (e.mono c.size)) h
theorem Q38 {w w':World} {v V:Value} (c:Below w.heap.size w w') (h:v=V):dk (fun w w'=>Below w.heap.size w w') (fun v _=>v=V) w v w':=⟨c,h⟩
theorem X6 {w:World} {v V:Value} (h:v=V):dk (fun w w'=>Below w.heap.size w w') (fun v _=>v=V) w v w:=⟨Below.refl _ _,h⟩
theorem Q6W {n:Nat} {fn:Func} {e:Array Value→Sem Value} {xs:List Value} {v:Value} (g:P.funcs[n]? =some fn) (m:(fn.name== "runtime.NumGoroutine")=false) (i:fn.body.isNone=true)
 (j:(Extern.findNext fn).isNone=true) (l:Extern.find fn=some e) (o:(e xs.toArray).run P w= .ok v w) (h:K v w):Q1 P n xs w K:=by
 have f:Extern.findNext fn=none:=by simpa using j
 have d: ¬fn.name= "runtime.NumGoroutine":=by simpa using m
 have c:fn.body=none:=by simpa using i
 unfold Q1
 rw[T9]
 unfold P5 callFunc
 simp[g,d,c,f,l,o,h]
theorem Q3c {α:Type} (p:α→Bool) (c:Nat→Bool): ∀(l:List α),(∀i (h:i<l.length),c i=p l[i])→(List.range l.length).find? c=l.findIdx? p
 | [],_=>rfl
 | x::l,h=>by
  rw[List.length_cons,List.range_succ_eq_map,List.find?_cons,List.findIdx?_cons]
  have e:c 0=p x:=h 0 (by simp)
  rw[e]
  cases p x
  ·simp only[Bool.false_eq_true,if_false]
   rw[List.find?_map]
   have:=Q3c p (c ∘ Nat.succ) l (fun i d=>h (i+1) (by simpa using d))
   rw[this]
  ·rfl
def Mr:=And.intro @M8 <| And.intro @W9 <| And.intro @D0 <| And.intro @Gs <| And.intro @Q3O <| And.intro @Q7o <| And.intro @Q3V <| And.intro @Q3P <| And.intro @Rp <| And.intro @Q1B <| And.intro @Q1F <| And.intro @Q3U <| And.intro @Q3T <| And.intro @Bz <| And.intro @Bt <| And.intro @X2R <| And.intro @X2P <| And.intro @X1m <| And.intro @X1c <| And.intro @X1k <| And.intro @X1B <| And.intro @X16 <| And.intro @X2p <| And.intro @W5 <| And.intro @W7 <| And.intro @S4 <| And.intro @E4 <| And.intro @X0x <| And.intro @H8 <| @M7
def Mp:=And.intro @M8 <| And.intro @W9 <| And.intro @D0 <| And.intro @Gs <| And.intro @Q3O <| And.intro @Q7o <| And.intro @Q3V <| And.intro @Q3P <| And.intro @Rp <| And.intro @Q1B <| And.intro @Q1F <| And.intro @Q3U <| And.intro @Q3T <| And.intro @Bz <| And.intro @Bt <| And.intro @X2R <| And.intro @X2P <| And.intro @X1m <| And.intro @X1c <| And.intro @X1k <| And.intro @X1B <| And.intro @W5 <| And.intro @W7 <| And.intro @S4 <| And.intro @E4 <| And.intro @H8 <| @M7
def Mb:=And.intro @Bool.true_eq_false <| And.intro @Bool.false_eq_true <| And.intro @Bool.not_true <| And.intro @Bool.not_false <| And.intro @Bool.and_true <| And.intro @Bool.true_and <| And.intro @Bool.and_false <| And.intro @Bool.false_and <| And.intro @Bool.or_true <| And.intro @Bool.true_or <| And.intro @Bool.or_false <| @Bool.false_or
end Go.Emb

namespace Go.Kd
abbrev X0:=List UInt8
def Xl (c:Int):Bool:=decide (65≤c)&&decide (c≤90)
def Qc (c:Int):Bool:=decide (97≤c)&&decide (c≤122)
def G3 (c:Int):Bool:=decide (48≤c)&&decide (c≤57)
def C2 (c:Int):Bool:=Xl c||Qc c||G3 c
def name (s:X0):Bool:=match s with
 | []=>false
 | c::_=>decide (s.length≤32)&& !G3 c.toNat&&s.all (fun b=>C2 b.toNat)
def M9 (s:X0):Bool:=match s with
 | []=>false
 | c::_=>name s&&Xl c.toNat
def E2 (s:X0):Bool:=match s with
 | []=>false
 | c::_=>name s&&Qc c.toNat
def plain (s:X0):Bool:=decide (s=[105,110,116])||decide (s=[98,111,111,108])||decide (s=[116,101,120,116])
def arr (s:X0):Bool:=decide (2≤s.length)&&decide (s.drop (s.length-2)=[91,93])
def cutA (s:X0):X0:=s.take (s.length-2)
def Za:Nat→X0→X0×Nat
 | 0,s=>(s,0)
 | n+1,s=>if arr s then ((Za n (cutA s)).1,(Za n (cutA s)).2+1) else (s,0)
def base (s:X0):X0×Nat:=Za s.length s
def right (s:X0):Bool:=decide ((base s).2≤3)&&(plain (base s).1||M9 (base s).1)
def elem (s:X0):X0:=if arr s&&right s then cutA s else []
def Yb (s:X0):Nat:=if right s then (base s).2 else 0
def Xc (s:X0):X0×X0×Bool:=match s with
 | []=>([],[],false)
 | c::r=>if c=46 then ([],r,true) else ((c::(Xc r).1),(Xc r).2.1,(Xc r).2.2)
def Zn (s:X0):Bool:=(Xc s).2.2&&M9 (Xc s).1&&E2 (Xc s).2.1
def Q1m (c:UInt8) (s:X0):Int:=match s.findIdx? (fun b=>decide (b=c)) with
 | some i=>i
 | none=> -1
def Q2V (s:X0) (o:Option Nat):X0×X0×Bool:=match o with
 | some i=>(s.take i,s.drop (i+1),true)
 | none=>(s,[],false)
theorem Py (s:X0):Xc s=Q2V s (s.findIdx? (fun b=>decide (b=46))):=by
 induction s with
 | nil=>rfl
 | cons c r a=>
  rw[List.findIdx?_cons]
  simp only[Xc]
  by_cases h:c=46
  ·simp[h,Q2V]
  ·simp only[h,if_false,decide_false,Bool.false_eq_true]
   rw[a]
   cases r.findIdx? (fun b=>decide (b=46)) with
   | none=>simp[Q2V]
   | some i=>simp[Q2V]
end Go.Kd

namespace Go.Proofs.YtjdiakhipmggjaaGreatDoor
open Go.Emb Go.RowKit Go.Kd
variable {w : World} {K : Value → World → Prop}
theorem X8:P.underlying T.c=some .string:=by kernel_rfl
theorem Q1u:P.underlying T.d=some (.int .i64):=by kernel_rfl
theorem Q39:P.underlying T.u=some .bool:=by kernel_rfl
theorem Q3Q:P.underlying T.a3=some (.int .u8):=by kernel_rfl
theorem Q7f:P.underlying T.an=some (.int .i32):=by kernel_rfl
theorem Q7E (c:Int) (h:K (.bool (Xl c)) w):Q1 P F.ck [.int .i32 c] w K:=Q5T (by
 unfold Q0H
 (try simp only[↓Mr,Mr,Mb,reduceIte])
 cases a:decide (65≤c)<;>simp only[a,↓Mr,Mr,Mb,reduceIte]<;>simpa [Xl,a] using h)
theorem Q7p (c:Int) (h:K (.bool (Qc c)) w):Q1 P F.cl [.int .i32 c] w K:=Q6a (by
 unfold Q0G
 (try simp only[↓Mr,Mr,Mb,reduceIte])
 cases a:decide (97≤c)<;>simp only[a,↓Mr,Mr,Mb,reduceIte]<;>simpa [Qc,a] using h)
theorem X1Y (c:Int) (h:K (.bool (C2 c)) w):Q1 P F.cb [.int .i32 c] w K:=Q4Y (by
 unfold To
 refine Q7E c ?_
 cases a:Xl c
 ·(try simp only[↓Mr,Mr,Mb,reduceIte])
  refine Q7p c ?_
  cases b:Qc c
  ·(try simp only[↓Mr,Mr,Mb,reduceIte])
   cases d:decide (48≤c)
   ·(try simp only[↓Mr,Mr,Mb,reduceIte])
    simpa [C2,G3,a,b,d] using h
   ·(try simp only[↓Mr,Mr,Mb,reduceIte])
    simpa [C2,G3,a,b,d] using h
  ·(try simp only[↓Mr,Mr,Mb,reduceIte])
   simpa [C2,a,b] using h
 ·(try simp only[↓Mr,Mr,Mb,reduceIte])
  simpa [C2,a] using h)
theorem X48 (a:List UInt8) (f:Value) (p:Int→Bool) (l: ∀(c:Int) (w:World) (K:Value→World→Prop),K (.bool (p c)) w→Z3 P f [.int .i32 c] w K)
 (h: ∀w',Below w.heap.size w w'→K (.bool (Ie p ⟨a.toArray⟩ a.length 0)) w'):Q1 P F.cD [S a,f] w K:=Q8u (by
 unfold Q2R
 rw[X2z X8]
 refine Wk (fun _ w'=> ∃pos n:Nat,a.length-pos≤n∧Ie p ⟨a.toArray⟩ a.length 0=Ie p ⟨a.toArray⟩ n pos∧Below w.heap.size w w'∧w'.heap[w.heap.size]? =some (.stringIter ⟨a.toArray⟩ pos))
  (fun _ w'=>match w'.heap[w.heap.size]? with | some (.stringIter _ pos)=>a.length-pos | _=>0) ⟨0,a.length,by omega,rfl,(Below.refl _ _).alloc (Nat.le_refl _) _,heap_alloc_new w _⟩ ?_
 rintro _ _ w1 ⟨pos,n,q,b,j,g⟩
 by_cases e:pos<a.length
 ·rw[X1G g (by rw[I9];exact e)]
  (try simp only[↓Mr,Mr,Mb,reduceIte])
  refine l _ _ _ ?_
  obtain ⟨n,rfl⟩: ∃m,n=m+1:=⟨n-1,by omega⟩
  simp only[Ie,I9,e,if_true] at b
  have r:=Q5P (s:=⟨a.toArray⟩) (i:=pos)
  have d:w.heap.size<w1.heap.size:=(Array.getElem?_eq_some_iff.1 g).1
  cases k:p (Utf8.decode ⟨a.toArray⟩ pos).1
  ·(try simp only[↓Mr,Mr,Mb,reduceIte])
   rw[k] at b
   have:=h _ (Q48 (o:= .stringIter ⟨a.toArray⟩ (pos+(Utf8.decode ⟨a.toArray⟩ pos).2)) j (Nat.le_refl _))
   rw[b] at this
   exact this
  ·(try simp only[↓Mr,Mr,Mb,reduceIte])
   rw[k] at b
   refine ⟨⟨_,n,?_,b,Q48 j (Nat.le_refl _),Q7C d⟩,?_⟩
   ·omega
   ·simp only[Q7C d,g];omega
 ·rw[Q75 g (by rw[I9];exact e)]
  (try simp only[↓Mr,Mr,Mb,reduceIte])
  have:Ie p ⟨a.toArray⟩ n pos=true:=by
   cases n with
   | zero=>rfl
   | succ n=>simp only[Ie,I9,e,if_false]
  rw[←this,←b]
  exact h _ j)
theorem Q8y (c:Int) (h:128≤c):C2 c=false:=by
 simp[C2,Xl,Qc,G3];omega
theorem Q5n (a:List UInt8) (n:a.length≤140737488355328) (h: ∀w',Below w.heap.size w w'→K (.bool (name a)) w'):Q1 P F.c6 [S a] w K:=Q6z (by
 unfold Q2r
 have d: ∀c r,a=c::r→(decide (a.length≤32)&& !G3 c.toNat)=true→Q1 P F.cD [S a,(.func (.func F.cb) #[] #[])] w K:=by
  intro c r l b
  refine X48 a _ C2 (fun c w K h=>Z7 (first:=[]) (caps:=[]) (X1Y c h)) fun w' m=>?_
  rw[Q8k _ Q8y a _ _ (by omega)]
  have:=h w' m
  rw[l] at this b⊢
  simp only[name] at this
  rw[b,Bool.true_and] at this
  simpa using this
 cases a with
 | nil=>
  simp only[↓Mr,Mr,Mb,reduceIte,decide_true]
  exact h w (Below.refl _ _)
 | cons c r=>
  have g:decide (c::r=[])=false:=by simp
  simp only[↓Mr,Mr,Mb,reduceIte,g,R9 X8]
  by_cases i:(c::r).length≤32
  ·have e:r.length≤31:=by simpa using i
   have b:decide ((32:Int)<((c::r).length:Int))=false:=by simp only[decide_eq_false_iff_not];omega
   simp only[↓Mr,Mr,Mb,reduceIte,b]
   rw[Xs X8 (by omega) (by simp)]
   (try simp only[↓Mr,Mr,Mb,reduceIte])
   have k:(c::r)[(0:Int).toNat]'(by simp)=c:=rfl
   simp only[k]
   cases f:decide ((48:Int)≤(c.toNat:Int))
   ·(try simp only[↓Mr,Mr,Mb,reduceIte])
    exact d c r rfl (by simp[G3,e,f])
   ·(try simp only[↓Mr,Mr,Mb,reduceIte])
    rw[Xs X8 (by omega) (by simp)]
    simp only[↓Mr,Mr,Mb,reduceIte,k]
    cases j:decide ((c.toNat:Int)≤57)
    ·(try simp only[↓Mr,Mr,Mb,reduceIte])
     exact d c r rfl (by simp only[G3,f,j];simp[e])
    ·(try simp only[↓Mr,Mr,Mb,reduceIte])
     have:name (c::r)=false:=by simp only[name,G3,f,j];simp
     rw[←this];exact h w (Below.refl _ _)
  ·have b:decide ((32:Int)<((c::r).length:Int))=true:=by simp only[decide_eq_true_eq];omega
   simp only[↓Mr,Mr,Mb,reduceIte,b]
   have:name (c::r)=false:=by simp only[name];rw[decide_eq_false i];rfl
   rw[←this];exact h w (Below.refl _ _))
theorem Rn (a:List UInt8) (f:a.length≤140737488355328) (h: ∀w',Below w.heap.size w w'→K (.bool (M9 a)) w'):Q1 P F.am [S a] w K:=Q6p (by
 unfold Q0y
 refine Q5n a f fun w1 b=>?_
 cases a with
 | nil=>
  simp only[name,↓Mr,Mr,Mb,reduceIte]
  exact h w1 b
 | cons c r=>
  cases d:name (c::r)
  ·(try simp only[↓Mr,Mr,Mb,reduceIte])
   have:=h w1 b
   simp only[M9,d] at this
   simpa using this
  ·(try simp only[↓Mr,Mr,Mb,reduceIte])
   rw[Xs X8 (by omega) (by simp)]
   have e:(c::r)[(0:Int).toNat]'(by simp)=c:=rfl
   simp only[e]
   rw[Iy Q3Q Q7f,w32 (by omega) (by have:=c.toNat_lt;omega)]
   refine Q7E _ ?_
   (try simp only[↓Mr,Mr,Mb,reduceIte])
   have:=h w1 b
   simp only[M9,d] at this
   simpa using this)
theorem Rm (a:List UInt8) (h:K (.bool (plain a)) w):Q1 P F.aO [S a] w K:=Q5c (by
 unfold Q1f
 (try simp only[↓Mr,Mr,Mb,reduceIte])
 cases b:decide (a=[105,110,116])<;>(try simp only[↓Mr,Mr,Mb,reduceIte])
 ·cases c:decide (a=[98,111,111,108])<;>(try simp only[↓Mr,Mr,Mb,reduceIte])<;>simpa [plain,b,c] using h
 ·simpa [plain,b] using h)
def Js (a b:List UInt8):Bool:=decide (b.length≤a.length)&&decide (a.drop (a.length-b.length)=b)
theorem Dt (a b:List UInt8) (f:a.length≤140737488355328) (e:b.length≤140737488355328) (h:K (.bool (Js a b)) w):Q1 P F.ab [S a,S b] w K:=Cq (by
 unfold Vk
 rw[R9 X8,R9 X8]
 (try simp only[↓Mr,Mr,Mb,reduceIte])
 by_cases d:b.length≤a.length
 ·have c:decide ((b.length:Int)≤a.length)=true:=by simp only[decide_eq_true_eq];omega
  simp only[↓Mr,Mr,Mb,reduceIte,c,R9 X8]
  rw[G8 (by omega) (by omega),Uu X8 (by omega) (by omega)]
  (try simp only[↓Mr,Mr,Mb,reduceIte])
  rw[show ((a.length:Int)-b.length).toNat=a.length-b.length from by omega]
  simpa [Js,d] using h
 ·have c:decide ((b.length:Int)≤a.length)=false:=by simp only[decide_eq_false_iff_not];omega
  simp only[↓Mr,Mr,Mb,reduceIte,c]
  simpa [Js,d] using h)
theorem Q6V (a b:List UInt8) (d:a.length≤140737488355328) (c:b.length≤140737488355328) (h:K (.bool (Js a b)) w):Q1 P F.bL [S a,S b] w K:=Q06 (by
 unfold Di
 exact Dt a b d c h)
def Dv (a b:List UInt8):List UInt8:=if Js a b then a.take (a.length-b.length) else a
theorem Q4z {a b:List UInt8} (h:Js a b=true):b.length≤a.length:=by
 simp only[Js,Bool.and_eq_true,decide_eq_true_eq] at h;exact h.1
theorem Q5h (a b:List UInt8) (e:a.length≤140737488355328) (d:b.length≤140737488355328) (h:K (S (Dv a b)) w):Q1 P F.bt [S a,S b] w K:=Pu (by
 unfold Od
 refine Ru ?_
 unfold Ua
 refine Dt a b e d ?_
 cases c:Js a b
 ·(try simp only[↓Mr,Mr,Mb,reduceIte])
  simpa [Dv,c] using h
 ·have f:=Q4z c
  simp only[↓Mr,Mr,Mb,reduceIte,R9 X8]
  rw[G8 (by omega) (by omega),T3 X8 (by omega) (by omega)]
  rw[show ((a.length:Int)-b.length).toNat=a.length-b.length from by omega]
  simpa [Dv,c] using h)
theorem Q6y (a b:List UInt8) (e:a.length≤140737488355328) (d:b.length≤140737488355328) (h:K (.tuple #[S (Dv a b), .bool (Js a b)]) w):Q1 P F.bJ [S a,S b] w K:=Q0a (by
 unfold Om
 refine Cu ?_
 unfold Vj
 refine Dt a b e d ?_
 cases c:Js a b
 ·(try simp only[↓Mr,Mr,Mb,reduceIte])
  simpa [Dv,c] using h
 ·have f:=Q4z c
  simp only[↓Mr,Mr,Mb,reduceIte,R9 X8]
  rw[G8 (by omega) (by omega),T3 X8 (by omega) (by omega)]
  rw[show ((a.length:Int)-b.length).toNat=a.length-b.length from by omega]
  (try simp only[↓Mr,Mr,Mb,reduceIte])
  simpa [Dv,c] using h)
theorem Q3j (a:List UInt8):Js a [91,93]=arr a:=rfl
theorem Q2b (a:List UInt8):Dv a [91,93]=if arr a then Kd.cutA a else a:=rfl
theorem K7 {a:List UInt8} (h:arr a=true):(Kd.cutA a).length+2=a.length:=by
 simp only[arr,Bool.and_eq_true,decide_eq_true_eq] at h
 simp only[Kd.cutA,List.length_take];omega
theorem Q3q: ∀(n m:Nat) (a:List UInt8),a.length≤n→a.length≤m→Za n a=Za m a
 | 0,0,a,_,_=>rfl
 | 0,m+1,a,h,_=>by
  have:a=[]:=List.eq_nil_of_length_eq_zero (by omega)
  subst this;rfl
 | n+1,0,a,_,h=>by
  have:a=[]:=List.eq_nil_of_length_eq_zero (by omega)
  subst this;rfl
 | n+1,m+1,a,b,c=>by
  simp only[Za]
  split
  ·rename_i h
   have:=K7 h
   rw[Q3q n m (Kd.cutA a) (by omega) (by omega)]
  ·rfl
theorem Xu (a:List UInt8):base a=if arr a then ((base (Kd.cutA a)).1,(base (Kd.cutA a)).2+1) else (a,0):=by
 unfold base
 cases b:a.length with
 | zero=>
  have:a=[]:=List.eq_nil_of_length_eq_zero b
  subst this;rfl
 | succ n=>
  simp only[Za]
  split
  ·rename_i h
   have:=K7 h
   rw[Q3q n (Kd.cutA a).length (Kd.cutA a) (by omega) (Nat.le_refl _)]
  ·rfl
theorem Q1J (a:List UInt8):(base a).1.length+2*(base a).2=a.length:=by
 have key: ∀n (a:List UInt8),(Za n a).1.length+2*(Za n a).2=a.length:=by
  intro n
  induction n with
  | zero=>intro a;simp[Za]
  | succ n b=>
   intro a
   simp only[Za]
   split
   ·rename_i h
    have:=K7 h
    have:=b (Kd.cutA a)
    simp only;omega
   ·simp
 exact key _ a
theorem Q9b (a:List UInt8) (g:a.length≤140737488355328) (h:K (.tuple #[S (base a).1,I (base a).2]) w):Q1 P F.cx [S a] w K:=Q6M (by
 unfold Q2m
 refine Wk (fun x w'=>w'=w∧ ∃(b:List UInt8) (n:Nat),x=(S b,I n)∧b.length+2*n=a.length∧base a=((base b).1,(base b).2+n)) (fun x _=>match x.1 with | .string s=>s.size | _=>0)
  ⟨rfl,a,0,rfl,by omega,rfl⟩ ?_
 rintro _ _ _ ⟨rfl,b,n,rfl,e,d⟩
 refine Q6V b _ (by omega) (by simp) ?_
 rw[Q3j]
 cases c:arr b
 ·(try simp only[↓Mr,Mr,Mb,reduceIte])
  rw[Xu b,c] at d
  simp only[Bool.false_eq_true,if_false,Nat.zero_add] at d
  rw[d] at h;exact h
 ·(try simp only[↓Mr,Mr,Mb,reduceIte])
  refine Q5h b _ (by omega) (by simp) ?_
  rw[Q2b,c]
  simp only[↓Mr,Mr,Mb,reduceIte,if_true]
  have f:=K7 c
  rw[G8 (by omega) (by omega)]
  refine ⟨⟨by first | rfl | trivial,Kd.cutA b,n+1,by simp,by omega,?_⟩,?_⟩
  ·rw[d,Xu b,c];simp;omega
  ·simp only[I9];omega)
theorem Zq (a:List UInt8) (g:a.length≤140737488355328) (h: ∀w',Below w.heap.size w w'→K (.bool (right a)) w'):Q1 P F.a0 [S a] w K:=Q5F (by
 unfold Q1c
 have e:=Q1J a
 refine Q9b a g ?_
 (try simp only[↓Mr,Mr,Mb,reduceIte])
 by_cases c:(base a).2≤3
 ·have b:decide (((base a).2:Int)≤3)=true:=by simp only[decide_eq_true_eq];omega
  simp only[↓Mr,Mr,Mb,reduceIte,b]
  refine Rm _ ?_
  cases d:plain (base a).1
  ·(try simp only[↓Mr,Mr,Mb,reduceIte])
   refine Rn _ (by omega) fun w1 f=>?_
   (try simp only[↓Mr,Mr,Mb,reduceIte])
   have:=h w1 f
   simp only[right,c,d] at this
   simpa using this
  ·(try simp only[↓Mr,Mr,Mb,reduceIte])
   have:=h w (Below.refl _ _)
   simp only[right,c,d] at this
   simpa using this
 ·have b:decide (((base a).2:Int)≤3)=false:=by simp only[decide_eq_false_iff_not];omega
  simp only[↓Mr,Mr,Mb,reduceIte,b]
  have:=h w (Below.refl _ _)
  simp only[right,c] at this
  simpa using this)
theorem Q6g (a:List UInt8) (d:a.length≤140737488355328) (h: ∀w',Below w.heap.size w w'→K (S (elem a)) w'):Q1 P F.c5 [S a] w K:=Q6v (by
 unfold Q25
 refine Q6y a _ d (by simp) ?_
 rw[Q3j,Q2b]
 (try simp only[↓Mr,Mr,Mb,reduceIte])
 cases b:arr a
 ·(try simp only[↓Mr,Mr,Mb,reduceIte])
  have:=h w (Below.refl _ _)
  simp only[elem,b] at this
  exact this
 ·(try simp only[↓Mr,Mr,Mb,reduceIte])
  refine Zq a d fun w1 e=>?_
  have:=h w1 e
  cases c:right a
  ·(try simp only[↓Mr,Mr,Mb,reduceIte])
   simp only[elem,b,c] at this
   exact this
  ·simp only[↓Mr,Mr,Mb,reduceIte,if_true]
   simp only[elem,b,c] at this
   exact this)
theorem X02 (a:List UInt8) (b:a.length≤140737488355328) (h: ∀w',Below w.heap.size w w'→K (I (Yb a)) w'):Q1 P F.cw [S a] w K:=Q78 (by
 unfold Q2a
 refine Q9b a b ?_
 (try simp only[↓Mr,Mr,Mb,reduceIte])
 refine Zq a b fun w1 d=>?_
 have:=h w1 d
 cases c:right a<;>(try simp only[↓Mr,Mr,Mb,reduceIte])<;>simpa [Yb,c] using this)
theorem X4j (a:List UInt8) (i:a.length≤140737488355320) (h: ∀w',Below w.heap.size w w'→K (if right a&&decide (Yb a≠3) then .tuple #[S (a++[91,93]),I 0] else .tuple #[S [],I 30]) w'):Q1 P F.cS [S a] w K:=Q9X (by
 unfold Q4v
 refine Zq a (by omega) fun w1 d=>?_
 cases b:right a
 ·(try simp only[↓Mr,Mr,Mb,reduceIte])
  have:=h w1 d
  simp only[b] at this
  simpa using this
 ·(try simp only[↓Mr,Mr,Mb,reduceIte])
  refine X02 a (by omega) fun g e=>?_
  have:=h g (d.trans (e.mono d.size))
  by_cases f:Yb a=3
  ·have c:decide ((Yb a:Int)=3)=true:=by simp only[decide_eq_true_eq];omega
   simp only[↓Mr,Mr,Mb,reduceIte,c]
   simp only[b,f] at this
   simpa using this
  ·have c:decide ((Yb a:Int)=3)=false:=by simp only[decide_eq_false_iff_not];omega
   simp only[↓Mr,Mr,Mb,reduceIte,c]
   rw[Q26 (by simp;omega)]
   simp only[b] at this
   simpa [f] using this)
end Go.Proofs.YtjdiakhipmggjaaGreatDoor

namespace Go.Proofs.YtjdiakhipmggjaaGreatDoor
open Go.Emb Go.RowKit Go.Kd
variable {w : World} {K : Value → World → Prop}
theorem Q1R (a:List UInt8) (c:UInt8) (h:K (I (Q1m c a)) w):Q1 P F.c1 [S a, .int .u8 c.toNat] w K:=by
 refine Q6W (e:=Extern.BytealgIndexByte.indexByte) Tryz.func231 (by decide) rfl (by kernel_rfl) (by kernel_rfl) ?_ h
 have f:((List.range (ByteArray.mk a.toArray).size).find? fun i=>(ByteArray.mk a.toArray)[i]! ==c)=a.findIdx? (fun b=>decide (b=c)):=by
  rw[I9]
  refine Q3c _ _ a fun i d=>?_
  have:(ByteArray.mk a.toArray)[i]! =a[i]:=by
   rw[getElem!_pos _ _ (by rw[I9];exact d)];rfl
  rw[this,Bool.eq_iff_iff];simp
 have g:((c.toNat:Int).toNat.toUInt8)=c:=by simp
 have:=run_indexByte_string (P:=P) ⟨a.toArray⟩ c.toNat w
 rw[g] at this
 refine this.trans ?_
 unfold firstIdx Q1m
 rw[f]
 cases a.findIdx? (fun b=>decide (b=c))<;>rfl
theorem X10 (a:List UInt8) (c:UInt8) (h:K (I (Q1m c a)) w):Q1 P F.bM [S a,S [c]] w K:=Q09 (by
 unfold Oh
 simp only[R9 X8]
 have j:decide ((([c]:List UInt8).length:Int)=0)=false:=rfl
 have g:decide ((([c]:List UInt8).length:Int)=1)=true:=rfl
 simp only[Q1F,j,g]
 simp only[↓Mr,Mr,Mb,reduceIte]
 have d:C5 P T.c (S [c]) (I 0) w fun e w=>Q1 P F.ay [S a,e] w fun b w=>K b w:=by
  rw[Xs X8 (by omega) (by simp)]
  refine Cp ?_
  unfold Ve
  exact Q1R a c h
 cases f:decide ([c]=a)
 ·(try simp only[↓Mr,Mr,Mb,reduceIte])
  exact d
 ·(try simp only[↓Mr,Mr,Mb,reduceIte])
  have i:[c]=a:=by simpa using f
  have:Q1m c a=0:=by rw[←i];simp[Q1m,List.findIdx?_cons]
  rw[this] at h;exact h)
theorem X0Y {c:UInt8} {a:List UInt8} {i:Nat} (h:a.findIdx? (fun b=>decide (b=c))=some i):i<a.length:=by
 have:=List.findIdx?_eq_some_iff_getElem.1 h
 exact this.1
theorem X3S (a:List UInt8) (g:a.length≤140737488355328) (h: ∀w',Below w.heap.size w w'→K (.tuple #[S (Xc a).1,S (Xc a).2.1, .bool (Xc a).2.2]) w'):Q1 P F.cB [S a,S [46]] w K:=Q4U (by
 unfold Tm
 refine Q1X ?_
 unfold Hu
 refine X10 a 46 ?_
 rw[Py] at h
 unfold Q1m
 cases c:a.findIdx? (fun b=>decide (b=46)) with
 | none=>
  simp only[↓Mr,Mr,Mb,reduceIte,show decide ((0:Int)≤ -1)=false from rfl]
  have:=h w (Below.refl _ _)
  rw[c] at this;exact this
 | some i=>
  have f:=X0Y c
  have d:decide ((0:Int)≤(i:Int))=true:=by simp
  simp only[Q1B,d]
  simp only[↓Mr,Mr,Mb,reduceIte]
  refine Dq (Below.refl _ w) ?_
  refine X4 (S (a.take i)) (fun w1 _=>?_) ?_
  ·rw[T3 X8 (by omega) (by omega)];exact X6 (by simp)
  refine X4 (I 1) (fun w1 _=>?_) ?_
  ·rw[R9 X8];exact X6 rfl
  refine X4 (I (i+1)) ?_ ?_
  ·rintro _ w1 _ rfl
   rw[Gs,G8 (by omega) (by omega)];exact X6 rfl
  refine X4 (S (a.drop (i+1))) ?_ ?_
  ·rintro _ w1 _ rfl
   rw[Uu X8 (by omega) (by omega)];exact X6 (by simp)
  rintro _ _ _ _ w1 e rfl rfl rfl rfl
  (try simp only[↓Mr,Mr,Mb,reduceIte])
  have:=h w1 e
  rw[c] at this;exact this)
theorem X26 (a:List UInt8) (A:a.length≤140737488355328) (h: ∀w',Below w.heap.size w w'→K (if Zn a then .tuple #[S (Xc a).1,S (Xc a).2.1,I 0] else .tuple #[S [],S [],I 30]) w'):Q1 P F.cI [S a] w K:=Q5S (by
 unfold Q0W
 refine X3S a A fun w1 e=>?_
 have o:(Xc a).1.length≤a.length∧(Xc a).2.1.length≤a.length:=by
  rw[Py]
  cases a.findIdx? (fun b=>decide (b=46))<;>simp[Q2V]
  omega
 generalize z:(Xc a).1=p at h o
 generalize y:(Xc a).2.1=q at h o
 have l:Zn a=((Xc a).2.2&&M9 p&&E2 q):=by rw[Zn,z,y]
 cases m:(Xc a).2.2
 ·simp only[↓Mr,Mr,Mb,reduceIte]
  have:=h w1 e
  rw[l,m] at this;simpa using this
 ·simp only[↓Mr,Mr,Mb,reduceIte]
  refine Rn p (by omega) fun t j=>?_
  have d:=e.trans (j.mono e.size)
  cases s:M9 p
  ·(try simp only[↓Mr,Mr,Mb,reduceIte])
   have:=h t d
   rw[l,m,s] at this;simpa using this
  ·(try simp only[↓Mr,Mr,Mb,reduceIte])
   refine Q5n q (by omega) fun u k=>?_
   have f:=d.trans (k.mono d.size)
   have:=h u f
   rw[l,m,s] at this
   cases g:name q
   ·(try simp only[↓Mr,Mr,Mb,reduceIte])
    have i:E2 q=false:=by cases q with | nil=>rfl | cons c r=>simp[E2,g]
    rw[i] at this;simpa using this
   ·(try simp only[↓Mr,Mr,Mb,reduceIte])
    cases q with
    | nil=>simp[name] at g
    | cons c r=>
     rw[Xs X8 (by omega) (by simp)]
     have n:(c::r)[(0:Int).toNat]'(by simp)=c:=rfl
     (try simp only[↓Mr,Mr,Mb,reduceIte])
     rw[n,Iy Q3Q Q7f,w32 (by omega) (by have:=c.toNat_lt;omega)]
     refine Q7p _ ?_
     have i:E2 (c::r)=Qc c.toNat:=by simp[E2,g]
     rw[i] at this
     cases v:Qc c.toNat<;>(try simp only[↓Mr,Mr,Mb,reduceIte])<;>rw[v] at this<;>simpa using this)
theorem Eh (a:List UInt8) (h:K (.bool (plain a)) w):Q1 P F.y [S a] w K:=Ka (by
 unfold Ny
 refine U6 ?_
 (try simp only[↓Mr,Mr,Mb,reduceIte])
 cases b:decide (a=[105,110,116])
 ·cases c:decide (a=[98,111,111,108])
  ·cases d:decide (a=[116,101,120,116])<;>(try simp only[↓Mr,Mr,Mb,reduceIte])<;>intro _<;>(try simp only[↓Mr,Mr,Mb,reduceIte])<;>simpa [plain,b,c,d] using h
  ·(try simp only[↓Mr,Mr,Mb,reduceIte])
   intro _
   (try simp only[↓Mr,Mr,Mb,reduceIte])
   simpa [plain,b,c] using h
 ·(try simp only[↓Mr,Mr,Mb,reduceIte])
  intro _
  (try simp only[↓Mr,Mr,Mb,reduceIte])
  simpa [plain,b] using h)
def X1j (a:List UInt8) (w:World) (x:Value) (w':World):Prop:=
 w=w'∧ ∃i:Nat,x=I i∧i≤a.length∧(0<i→(a.head?.map fun c=>G3 c.toNat)=some false)∧(a.take i).all (fun b=>C2 b.toNat)=true
def Q4Z (a:List UInt8) (x:Value):Nat:=match x with | .int _ i=>a.length-i.toNat | _=>0
theorem Q5N (a:List UInt8) (O:a.length≤140737488355328) (h:K (.bool (name a)) w):Q1 P F.aY [S a] w K:=Ae (by
 unfold Dg
 refine Wk (X1j a w) (fun x _=>Q4Z a x) ⟨rfl,0,rfl,by omega,by omega,by simp⟩ ?_
 rintro _ _ _ ⟨rfl,i,rfl,N,L,k⟩
 rw[R9 X8]
 (try simp only[↓Mr,Mr,Mb,reduceIte])
 by_cases m:i<a.length
 ·have A:decide ((i:Int)<a.length)=true:=by simp only[decide_eq_true_eq];omega
  simp only[A,↓Mr,Mr,Mb,reduceIte]
  have d: ∀H:Value→World→Prop,C5 P T.c (S a) (I i) w H=H (.int .u8 (a[i]'m).toNat) w:=fun H=>by
   rw[Xs X8 (by omega) (by simpa using m)];simp
  generalize p:a[i]=c at d
  have e:C2 c.toNat=false∨(i=0∧G3 c.toNat=true)→name a=false:=by
   intro y
   cases a with
   | nil=>rfl
   | cons c0 r=>
    simp only[name]
    rcases y with y | ⟨rfl,y⟩
    ·have:(c0::r).all (fun b=>C2 b.toNat)=false:=by
      rw[List.all_eq_false]
      exact ⟨c,by rw[←p];exact List.getElem_mem _,by simp[y]⟩
     rw[this];simp
    ·simp only[List.getElem_cons_zero] at p
     rw[p,y];simp
  have f:C2 c.toNat=true→(i=0→G3 c.toNat=false)→X1j a w (I (IntKind.i64.wrap ((i:Int)+1))) w∧Q4Z a (I (IntKind.i64.wrap ((i:Int)+1)))<Q4Z a (I i):=by
   intro D J
   rw[G8 (by omega) (by omega)]
   refine ⟨⟨rfl,i+1,by simp,by omega,fun _=>?_,?_⟩,by simp only[Q4Z];omega⟩
   ·by_cases q:0<i
    ·exact L q
    ·obtain rfl:i=0:=by omega
     cases a with
     | nil=>simp at m
     | cons c0 r=>simp only[List.getElem_cons_zero] at p;subst p;simp[J rfl]
   ·rw[List.take_add_one,List.getElem?_eq_getElem m,p]
    simp[k,D]
  have E:=c.toNat_lt
  have v:decide ((i:Int)=0)=decide (i=0):=by rw[Bool.eq_iff_iff];simp
  by_cases o:97≤(c.toNat:Int)
  ·by_cases z:(c.toNat:Int)≤122
   ·simp only[d,decide_eq_true o,decide_eq_true z,↓Mr,Mr,Mb,reduceIte]
    exact f (by simp[C2,Qc,o,z]) (fun _=>by simp[G3];omega)
   ·have n:(65:Int)≤c.toNat:=by omega
    have u: ¬(c.toNat:Int)≤90:=by omega
    have g: ¬(c.toNat:Int)<48:=by omega
    have j:(57:Int)<c.toNat:=by omega
    simp only[d,decide_eq_true o,decide_eq_false z,decide_eq_true n,decide_eq_false u,decide_eq_false g,decide_eq_true j,v,↓Mr,Mr,Mb,reduceIte]
    have l:=e (.inl (by simp[C2,Xl,Qc,G3];omega))
    rw[l] at h
    cases decide (i=0)<;>(try simp only[d,decide_eq_false g,decide_eq_true j,↓Mr,Mr,Mb,reduceIte])<;>exact h
  ·by_cases n:(65:Int)≤c.toNat
   ·by_cases u:(c.toNat:Int)≤90
    ·simp only[d,decide_eq_false o,decide_eq_true n,decide_eq_true u,↓Mr,Mr,Mb,reduceIte]
     exact f (by simp[C2,Xl,n,u]) (fun _=>by simp[G3];omega)
    ·have g: ¬(c.toNat:Int)<48:=by omega
     have j:(57:Int)<c.toNat:=by omega
     simp only[d,decide_eq_false o,decide_eq_true n,decide_eq_false u,decide_eq_false g,decide_eq_true j,v,↓Mr,Mr,Mb,reduceIte]
     have l:=e (.inl (by simp[C2,Xl,Qc,G3];omega))
     rw[l] at h
     cases decide (i=0)<;>(try simp only[d,decide_eq_false g,decide_eq_true j,↓Mr,Mr,Mb,reduceIte])<;>exact h
   ·by_cases g:(c.toNat:Int)<48
    ·simp only[d,decide_eq_false o,decide_eq_false n,decide_eq_true g,v,↓Mr,Mr,Mb,reduceIte]
     have l:=e (.inl (by simp[C2,Xl,Qc,G3];omega))
     rw[l] at h
     cases decide (i=0)<;>(try simp only[d,decide_eq_true g,↓Mr,Mr,Mb,reduceIte])<;>exact h
    ·by_cases j:(57:Int)<c.toNat
     ·simp only[d,decide_eq_false o,decide_eq_false n,decide_eq_false g,decide_eq_true j,v,↓Mr,Mr,Mb,reduceIte]
      have l:=e (.inl (by simp[C2,Xl,Qc,G3];omega))
      rw[l] at h
      cases decide (i=0)<;>(try simp only[d,decide_eq_false g,decide_eq_true j,↓Mr,Mr,Mb,reduceIte])<;>exact h
     ·have t:G3 c.toNat=true:=by simp[G3];omega
      simp only[d,decide_eq_false o,decide_eq_false n,decide_eq_false g,decide_eq_false j,v,↓Mr,Mr,Mb,reduceIte]
      by_cases q:i=0
      ·have l:=e (.inr ⟨q,t⟩)
       rw[l] at h
       simp only[decide_eq_true q,d,decide_eq_false g,decide_eq_false j,↓Mr,Mr,Mb,reduceIte]
       exact h
      ·simp only[decide_eq_false q,d,decide_eq_false g,decide_eq_false j,↓Mr,Mr,Mb,reduceIte]
       exact f (by simp[C2,t]) (fun h=>absurd h q)
 ·have A:decide ((i:Int)<a.length)=false:=by simp only[decide_eq_false_iff_not];omega
  obtain rfl:i=a.length:=by omega
  simp only[A,↓Mr,Mr,Mb,reduceIte]
  rw[R9 X8]
  cases a with
  | nil=>
   have B:decide ((1:Int)≤(([]:List UInt8).length:Int))=false:=rfl
   simp only[B,↓Mr,Mr,Mb,reduceIte];exact h
  | cons c r=>
   have B:decide ((1:Int)≤((c::r).length:Int))=true:=by simp only[decide_eq_true_eq,List.length_cons];omega
   have s:=L (by simp)
   simp only[List.head?_cons,Option.map_some,Option.some.injEq] at s
   simp only[List.take_length] at k
   have C:name (c::r)=decide ((c::r).length≤32):=by simp only[name,s,k];simp
   have M:decide (((c::r).length:Int)≤32)=decide ((c::r).length≤32):=by rw[Bool.eq_iff_iff];simp only[decide_eq_true_eq];omega
   simp only[B,R9 X8,M,↓Mr,Mr,Mb,reduceIte]
   rw[←C];exact h)
theorem Tb {c:UInt8} {r:List UInt8} (h:name (c::r)=true):C2 c.toNat=true∧G3 c.toNat=false:=by
 simp only[name,Bool.and_eq_true,List.all_cons,Bool.not_eq_true'] at h
 exact ⟨h.2.1,h.1.2⟩
theorem Yf (a:List UInt8) (g:a.length≤140737488355328) (h:K (.bool (M9 a)) w):Q1 P F.d [S a] w K:=Ij (by
 unfold Mh
 refine Q5N a g ?_
 cases a with
 | nil=>simp only[name,↓Mr,Mr,Mb,reduceIte];exact h
 | cons c r=>
  cases b:name (c::r)
  ·(try simp only[↓Mr,Mr,Mb,reduceIte])
   simpa [M9,b] using h
  ·(try simp only[↓Mr,Mr,Mb,reduceIte])
   rw[Xs X8 (by omega) (by simp)]
   have d:(c::r)[(0:Int).toNat]'(by simp)=c:=rfl
   (try simp only[↓Mr,Mr,Mb,reduceIte])
   rw[d]
   obtain ⟨e,f⟩:=Tb b
   have:decide ((c.toNat:Int)≤90)=Xl c.toNat:=by
    simp only[C2,Xl,Qc,G3,Bool.or_eq_true,Bool.and_eq_true,Bool.and_eq_false_iff,decide_eq_true_eq,decide_eq_false_iff_not] at e f⊢
    rw[Bool.eq_iff_iff];simp only[Bool.and_eq_true,decide_eq_true_eq];omega
   rw[this]
   simpa [M9,b] using h)
theorem Ig (a:List UInt8) (g:a.length≤140737488355328) (h:K (.bool (E2 a)) w):Q1 P F.u [S a] w K:=Fx (by
 unfold Lt
 refine Q5N a g ?_
 cases a with
 | nil=>simp only[name,↓Mr,Mr,Mb,reduceIte];exact h
 | cons c r=>
  cases b:name (c::r)
  ·(try simp only[↓Mr,Mr,Mb,reduceIte])
   simpa [E2,b] using h
  ·(try simp only[↓Mr,Mr,Mb,reduceIte])
   rw[Xs X8 (by omega) (by simp)]
   have d:(c::r)[(0:Int).toNat]'(by simp)=c:=rfl
   (try simp only[↓Mr,Mr,Mb,reduceIte])
   rw[d]
   obtain ⟨e,f⟩:=Tb b
   have:decide ((97:Int)≤c.toNat)=Qc c.toNat:=by
    simp only[C2,Xl,Qc,G3,Bool.or_eq_true,Bool.and_eq_true,Bool.and_eq_false_iff,decide_eq_true_eq,decide_eq_false_iff_not] at e f⊢
    rw[Bool.eq_iff_iff];simp only[Bool.and_eq_true,decide_eq_true_eq];omega
   rw[this]
   simpa [E2,b] using h)
def X3U (a:List UInt8) (w:World) (x:Value×Value) (w':World):Prop:=
 w=w'∧ ∃(b:List UInt8) (n:Nat),x=(S b,I n)∧b.length+2*n=a.length∧(base a).2=(base b).2+n
def X1z (x:Value×Value):Nat:=match x.1 with | .string s=>s.size | _=>0
theorem Ce (a:List UInt8) (k:a.length≤140737488355328) (h:K (I (base a).2) w):Q1 P F.a2 [S a] w K:=Ab (by
 unfold Dl
 refine Wk (X3U a w) (fun x _=>X1z x) ⟨rfl,a,0,rfl,by omega,rfl⟩ ?_
 rintro _ _ _ ⟨rfl,b,n,rfl,j,c⟩
 rw[R9 X8]
 (try simp only[↓Mr,Mr,Mb,reduceIte])
 by_cases f:2≤b.length
 ·have e:decide ((2:Int)≤b.length)=true:=by simp only[decide_eq_true_eq];omega
  simp only[e,R9 X8,↓Mr,Mr,Mb,reduceIte]
  rw[G8 (by omega) (by omega),Uu X8 (by omega) (by omega)]
  rw[show ((b.length:Int)-2).toNat=b.length-2 from by omega]
  have g:decide (b.drop (b.length-2)=[91,93])=arr b:=by simp[arr,f]
  simp only[g,↓Mr,Mr,Mb,reduceIte]
  cases d:arr b
  ·(try simp only[↓Mr,Mr,Mb,reduceIte])
   rw[Xu b,d] at c
   simp only[Bool.false_eq_true,if_false,Nat.zero_add] at c
   rw[c] at h;exact h
  ·(try simp only[R9 X8,↓Mr,Mr,Mb,reduceIte])
   rw[T3 X8 (by omega) (by omega)]
   rw[show ((b.length:Int)-2).toNat=b.length-2 from by omega]
   have i:=K7 d
   refine ⟨⟨rfl,Kd.cutA b,n+1,?_,by omega,?_⟩,?_⟩
   ·simp only[Kd.cutA,Prod.mk.injEq,true_and]
    first | rfl | (rw[G8 (by omega) (by omega)];rfl)
   ·rw[c,Xu b,d];simp;omega
   ·simp only[X1z,I9,List.length_take];omega
 ·have e:decide ((2:Int)≤b.length)=false:=by simp only[decide_eq_false_iff_not];omega
  simp only[e,↓Mr,Mr,Mb,reduceIte]
  have d:arr b=false:=by simp[arr,f]
  rw[Xu b,d] at c
  simp only[Bool.false_eq_true,if_false,Nat.zero_add] at c
  rw[c] at h;exact h)
theorem Q4r (a:List UInt8):a.take (a.length-2*(base a).2)=(base a).1:=by
 have key: ∀n (a:List UInt8),a.take (a.length-2*(Za n a).2)=(Za n a).1:=by
  intro n
  induction n with
  | zero=>intro a;simp[Za]
  | succ n b=>
   intro a
   simp only[Za]
   split
   ·rename_i h
    have c:=K7 h
    simp only
    rw[←b (Kd.cutA a)]
    rw[Kd.cutA,List.take_take,List.length_take]
    congr 1
    omega
   ·simp
 exact key _ a
theorem Jw (a:List UInt8) (f:a.length≤140737488355328) (h:K (.bool (right a)) w):Q1 P F.e [S a] w K:=Iq (by
 unfold Md
 have e:=Q1J a
 refine Ce a f ?_
 rw[R9 X8]
 (try simp only[↓Mr,Mr,Mb,reduceIte])
 rw[G8 (n:=2*((base a).2:Int)) (by omega) (by omega),G8 (by omega) (by omega),T3 X8 (by omega) (by omega)]
 rw[show ((a.length:Int)-2*((base a).2:Int)).toNat=a.length-2*(base a).2 from by omega,Q4r]
 (try simp only[↓Mr,Mr,Mb,reduceIte])
 by_cases c:(base a).2≤3
 ·have b:decide (((base a).2:Int)≤3)=true:=by simp only[decide_eq_true_eq];omega
  simp only[b,↓Mr,Mr,Mb,reduceIte]
  refine Eh _ ?_
  cases d:plain (base a).1
  ·(try simp only[↓Mr,Mr,Mb,reduceIte])
   refine Yf _ (by omega) ?_
   (try simp only[↓Mr,Mr,Mb,reduceIte])
   simpa [right,c,d] using h
  ·(try simp only[↓Mr,Mr,Mb,reduceIte])
   simpa [right,c,d] using h
 ·have b:decide (((base a).2:Int)≤3)=false:=by simp only[decide_eq_false_iff_not];omega
  simp only[b,↓Mr,Mr,Mb,reduceIte]
  simpa [right,c] using h)
theorem X2b {a:List UInt8} (h:arr a=true):2≤a.length:=by simp only[arr,Bool.and_eq_true,decide_eq_true_eq] at h;exact h.1
theorem Q4e {a:List UInt8} (h:arr a=true) (c:right a=true):3≤a.length:=by
 have d:=X2b h
 refine Nat.lt_of_le_of_ne d fun e=>?_
 have f:=K7 h
 have b:Kd.cutA a=[]:=List.eq_nil_of_length_eq_zero (by omega)
 simp only[right,Xu a,h,if_true,b] at c
 revert c;decide
theorem X0G (a:List UInt8) (e:a.length≤140737488355328) (h:K (S (elem a)) w):Q1 P F.bE [S a] w K:=Q05 (by
 unfold Oo
 rw[R9 X8]
 (try simp only[↓Mr,Mr,Mb,reduceIte])
 by_cases j:a.length<3
 ·have b:decide ((a.length:Int)<3)=true:=by simp only[decide_eq_true_eq];omega
  simp only[b,↓Mr,Mr,Mb,reduceIte]
  have i:elem a=[]:=by
   simp only[elem]
   split
   ·rename_i hh
    simp only[Bool.and_eq_true] at hh
    have:=Q4e hh.1 hh.2
    omega
   ·rfl
  rw[i] at h;exact h
 ·have b:decide ((a.length:Int)<3)=false:=by simp only[decide_eq_false_iff_not];omega
  simp only[b,↓Mr,Mr,Mb,reduceIte]
  rw[G8 (by omega) (by omega),Uu X8 (by omega) (by omega)]
  rw[show ((a.length:Int)-2).toNat=a.length-2 from by omega]
  have f:decide (a.drop (a.length-2)=[91,93])=arr a:=by simp[arr];omega
  (try simp only[↓Mr,Mr,Mb,reduceIte])
  (try simp only[f,↓Mr,Mr,Mb,reduceIte])
  cases d:arr a
  ·(try simp only[↓Mr,Mr,Mb,reduceIte])
   simpa [elem,d] using h
  ·(try simp only[↓Mr,Mr,Mb,reduceIte])
   refine Ce a e ?_
   (try simp only[↓Mr,Mr,Mb,reduceIte])
   by_cases g:(base a).2≤3
   ·have b:decide ((3:Int)<((base a).2:Int))=false:=by simp only[decide_eq_false_iff_not];omega
    simp only[b,↓Mr,Mr,Mb,reduceIte]
    refine Jw a e ?_
    cases c:right a
    ·(try simp only[↓Mr,Mr,Mb,reduceIte])
     simpa [elem,d,c] using h
    ·(try simp only[↓Mr,Mr,Mb,reduceIte])
     try rw[G8 (by omega) (by omega)]
     rw[T3 X8 (by omega) (by omega)]
     rw[show ((a.length:Int)-2).toNat=a.length-2 from by omega]
     simpa [elem,d,c,Kd.cutA] using h
   ·have b:decide ((3:Int)<((base a).2:Int))=true:=by simp only[decide_eq_true_eq];omega
    simp only[b,↓Mr,Mr,Mb,reduceIte]
    have c:right a=false:=by simp[right,g]
    simpa [elem,d,c] using h)
def X35 (a:List UInt8) (w:World) (x:Value) (w':World):Prop:=
 w=w'∧ ∃n:Nat,x=I n∧n≤a.length∧(∀i,(h:i<n)→(b:i<a.length)→a[i]≠46)
def Q9o (a:List UInt8) (x:Value):Nat:=match x with | .int _ n=>(a.length-n).toNat | _=>0
theorem Q4x (a:List UInt8) (M:a.length≤140737488355328) (h: ∀w',Below w.heap.size w w'→K (if (Xc a).2.2 then .tuple #[S (Xc a).1,S (Xc a).2.1, .bool (Zn a)] else .tuple #[S [],S [], .bool false]) w'):Q1 P F.bw [S a] w K:=Kt (by
 unfold Mn
 refine Wk (X35 a w) (fun x _=>Q9o a x) ⟨rfl,0,rfl,by omega,by omega⟩ ?_
 rintro _ _ _ ⟨rfl,n,rfl,L,u⟩
 rw[R9 X8]
 (try simp only[↓Mr,Mr,Mb,reduceIte])
 by_cases J:n<a.length
 ·have r:decide ((n:Int)<a.length)=true:=by simp only[decide_eq_true_eq];omega
  simp only[r,↓Mr,Mr,Mb,reduceIte]
  rw[Xs X8 (by omega) (by omega)]
  (try simp only[↓Mr,Mr,Mb,reduceIte])
  simp only[Int.toNat_natCast]
  have E:decide (((a[n]).toNat:Int)=46)=decide (a[n]=46):=by
   rw[Bool.eq_iff_iff];simp only[decide_eq_true_eq]
   constructor
   ·intro e;exact UInt8.toNat_inj.1 (by have:(46:UInt8).toNat=46:=rfl;omega)
   ·intro e;rw[e];rfl
  rw[E]
  by_cases m:a[n]=46
  ·simp only[m,decide_true,↓Mr,Mr,Mb,reduceIte]
   have l:Xc a=(a.take n,a.drop (n+1),true):=by
    have:a.findIdx? (fun b=>decide (b=46))=some n:=by
     rw[List.findIdx?_eq_some_iff_getElem]
     exact ⟨J,by simpa using m,fun j D=>by simpa using u j D (by omega)⟩
    rw[Py,this];rfl
   have s:Zn a=(M9 (a.take n)&&E2 (a.drop (n+1))):=by simp[Zn,l]
   rw[l,s] at h
   have v:((n:Int)+1).toNat=n+1:=by omega
   have o:(a.take n).length≤140737488355328:=by simp only[List.length_take];omega
   have q:(a.drop (n+1)).length≤140737488355328:=by simp only[List.length_drop];omega
   have A: ∀{w:World} {K:Value→World→Prop},K (S (a.take n)) w→S1 P T.c (S a) none (some (I n)) none w K:=by
    intro w K h
    rw[T3 X8 (by omega) (by omega),show ((n:Int)).toNat=n from by omega];exact h
   have B: ∀{w:World} {K:Value→World→Prop},K (S (a.drop (n+1))) w→S1 P T.c (S a) (some (I (n+1))) none none w K:=by
    intro w K h
    rw[Uu X8 (by omega) (by omega),v];exact h
   refine Dq (Below.refl _ _) ?_
   refine X4 (S (a.take n)) (fun w c=>A (X6 rfl)) ?_
   refine X4 (I (n+1)) (fun w c=>X6 (by rw[G8 (by omega) (by omega)])) ?_
   refine X4 (S (a.drop (n+1))) (fun t w c e=>by rw[e];exact B (X6 rfl)) ?_
   refine X4 (S (a.take n)) (fun w c=>A (X6 rfl)) ?_
   refine X4 (.bool (M9 (a.take n))) (fun t w c e=>by rw[e];exact Yf _ o (X6 rfl)) ?_
   cases k:M9 (a.take n)
   ·refine X4 undef (fun t w c e=>by rw[e,E4];exact X6 rfl) ?_
    refine X4 undef (fun t w c e=>by rw[e,E4];exact X6 rfl) ?_
    refine X4 undef (fun t f w c e d=>by rw[e,E4];exact X6 rfl) ?_
    refine X4 undef (fun t f p w c e d g=>by rw[e,E4];exact X6 rfl) ?_
    refine X4 undef (fun t f w c e d=>by rw[e,E4];exact X6 rfl) ?_
    refine X4 (.bool false) (fun t f w c e d=>by rw[e,W9];exact X6 rfl) ?_
    rintro _ _ _ _ _ _ _ _ _ _ _ w1 c rfl rfl rfl rfl rfl rfl rfl rfl rfl rfl rfl
    rw[k] at h
    exact h w1 (by simpa using c)
   ·refine X4 (S a) (fun t w c e=>by rw[e,W5];exact X6 rfl) ?_
    refine X4 (I n) (fun t w c e=>by rw[e,W5];exact X6 rfl) ?_
    refine X4 (I (n+1)) (fun t f w c e d=>by rw[e,d,W5];simp only[↓Mr,Mr,Mb,reduceIte];exact X6 (by rw[G8 (by omega) (by omega)])) ?_
    refine X4 (S (a.drop (n+1))) (fun t f p w c e d g=>by rw[e,d,g,W5];exact B (X6 rfl)) ?_
    refine X4 (.bool (E2 (a.drop (n+1)))) (fun t f w c e d=>by rw[e,d,W5];exact Ig _ q (X6 rfl)) ?_
    refine X4 (.bool (E2 (a.drop (n+1)))) (fun t f w c e d=>by rw[e,d,M8];exact X6 rfl) ?_
    rintro _ _ _ _ _ _ _ _ _ _ _ w1 c rfl rfl rfl rfl rfl rfl rfl rfl rfl rfl rfl
    rw[k] at h
    exact h w1 (by simpa using c)
  ·simp only[m,decide_false,↓Mr,Mr,Mb,reduceIte]
   rw[G8 (by omega) (by omega)]
   refine ⟨⟨rfl,n+1,rfl,by omega,fun i z C=>?_⟩,?_⟩
   ·by_cases y:i=n
    ·subst y;exact m
    ·exact u i (by omega) C
   ·simp only[Q9o];omega
 ·have r:decide ((n:Int)<a.length)=false:=by simp only[decide_eq_false_iff_not];omega
  simp only[r,↓Mr,Mr,Mb,reduceIte]
  have l:(Xc a).2.2=false∧(Xc a).1=a∧(Xc a).2.1=[]:=by
   have:a.findIdx? (fun b=>decide (b=46))=none:=by
    rw[List.findIdx?_eq_none_iff]
    intro x H
    obtain ⟨i,z,rfl⟩:=List.getElem_of_mem H
    simpa using u i (by omega) z
   rw[Py,this];exact ⟨rfl,rfl,rfl⟩
  rw[l.1] at h
  exact h w (Below.refl _ _))
end Go.Proofs.YtjdiakhipmggjaaGreatDoor

namespace Go.Emb
open Go.RowKit
class TZ (P : Program) (t : TypeId) (sz b : outParam Nat) (z : outParam Value) : Prop where
  h : (P.info? t).map (fun i => (i.size, i.bytes, i.zero)) = some (sz, b, some z)
def Q9Y:Option TypeDesc→Bool
 | some (.struct _)=>true
 | some (.array _ _)=>true
 | none=>true
 | _=>false
class TG (P : Program) (t : TypeId) (g : outParam Bool) : Prop where
  h : (Q9Y (P.underlying t), (P.underlying t).isSome) = (g, true)
class TS (P : Program) (t : TypeId) (e : outParam TypeId) : Prop where
  h : P.underlying t = some (.slice e)
class TA (P : Program) (t : TypeId) (n : outParam Nat) (e : outParam TypeId) : Prop where
  h : P.underlying t = some (.array n e)
class TM (P : Program) (t : TypeId) (k e : outParam TypeId) : Prop where
  h : P.underlying t = some (.map k e)
def Q3F (d:Option TypeDesc) (k:Nat):Option (Nat×TypeId):=match d with
 | some (.struct a)=>(a[k]?).map fun f=>(f.offset,f.type)
 | _=>none
class TF (P : Program) (t : TypeId) (k : Nat) (off : outParam Nat) (ft : outParam TypeId) : Prop where
  h : Q3F (P.underlying t) k = some (off, ft)
variable {P : Program} {w w0 w1 w' w'' : World} {K : Value → World → Prop}
theorem TZ.info {t:TypeId} {sz b:Nat} {z:Value} (h:TZ P t sz b z): ∃i,P.info? t=some i∧i.size=sz∧i.bytes=b∧i.zero=some z:=by
 obtain ⟨i,a,e⟩:=Option.map_eq_some_iff.1 h.h
 simp only[Prod.mk.injEq] at e
 exact ⟨i,a,e.1,e.2.1,e.2.2⟩
theorem L4 {t:TypeId} {sz b:Nat} {z:Value} (h:TZ P t sz b z) (w:World):(sizeOf t).run P w= .ok sz w:=by
 obtain ⟨i,a,rfl,_⟩:=h.info
 simp[sizeOf,typeInfo,a]
theorem Zl {t:TypeId} {sz b:Nat} {z:Value} (h:TZ P t sz b z) (w:World):(zeroValue t).run P w= .ok z w:=by
 obtain ⟨i,a,_,_,c⟩:=h.info
 simp[zeroValue,typeInfo,a,c]
theorem Yd {t:TypeId} {g:Bool} (h:TG P t g) (w:World):(isAgg t).run P w= .ok g w:=by
 have hh:=h.h
 simp only[Prod.mk.injEq] at hh
 obtain ⟨c,b⟩:=hh
 cases a:P.underlying t with
 | none=>rw[a] at b;cases b
 | some d=>
  rw[a] at c
  have:=run_underlying (P:=P) (w:=w) a
  simp only[isAgg,Sem.run_bind,this,Result.andThen_ok]
  cases d<;>simp_all [Q9Y]
theorem Q41 (a:Addr) (i j:Nat):(a.add i).add j=a.add (i+j):=by
 unfold Addr.add
 by_cases c:i=0
 ·simp[c]
 ·by_cases b:j=0
  ·simp[b]
  ·simp[c,b,Nat.add_assoc]
theorem add_zero (a:Addr):a.add 0=a:=by simp[Addr.add]
theorem C1 (a:Addr) (i:Nat):(a.add i).block=a.block:=by unfold Addr.add;split<;>rfl
theorem Qg (a:Addr) (i:Nat):(a.add i).off=a.off+i:=by unfold Addr.add;split<;>simp_all
theorem K3 {a:Addr} (h:a.spot=none) (i:Nat):(a.add i).spot=none:=by unfold Addr.add;split<;>simp_all
abbrev Q6:=Nat→Option Obj
def X3 (w:World) (σ:Q6):Prop:= ∀b o,σ b=some o→w.heap[b]? =some o
structure Stp (w : World) (σ : Q6) (w' : World) (σ' : Q6) : Prop where
  bel : Below w.heap.size w w'
  sat : X3 w' σ'
  le : ∀ b o, σ b = some o → σ' b = some o
  old : ∀ b, b < w.heap.size → σ' b = σ b
theorem X3.lt {σ:Q6} (h:X3 w σ) {b:Nat} {o:Obj} (a:σ b=some o):b<w.heap.size:=(Array.getElem?_eq_some_iff.1 (h b o a)).1
theorem X3.below {σ:Q6} (h:X3 w σ) (a:Below w.heap.size w w'):X3 w' σ:=fun b o e=>(a.block b (h.lt e)).trans (h b o e)
theorem Stp.refl {σ:Q6} (h:X3 w σ):Stp w σ w σ:=⟨Below.refl _ _,h,fun _ _ e=>e,fun _ _=>rfl⟩
theorem Stp.trans {σ0 σ1 c:Q6} (h:Stp w σ0 w' σ1) (k:Stp w' σ1 w'' c):Stp w σ0 w'' c:=
 ⟨h.bel.trans (k.bel.mono h.bel.size),k.sat,fun b o e=>k.le b o (h.le b o e),fun b a=>(k.old b (Nat.lt_of_lt_of_le a h.bel.size)).trans (h.old b a)⟩
theorem Stp.of_below {σ:Q6} (h:X3 w σ) (a:Below w.heap.size w w'):Stp w σ w' σ:=⟨a,h.below a,fun _ _ e=>e,fun _ _=>rfl⟩
def Q6.put (σ:Q6) (b:Nat) (o:Obj):Q6:=fun k=>if k=b then some o else σ k
theorem X3.none {σ:Q6} (h:X3 w σ) {b:Nat} (a:w.heap.size≤b):σ b=none:=by
 cases e:σ b with
 | none=>rfl
 | some o=>have:=h.lt e;omega
theorem Stp.alloc {σ:Q6} (h:X3 w σ) (o:Obj):Stp w σ (w.alloc o) (σ.put w.heap.size o):=by
 refine ⟨(Below.refl _ _).alloc (Nat.le_refl _) o,?_,?_,?_⟩
 ·intro b p e
  by_cases a:b=w.heap.size
  ·subst a
   simp only[Q6.put,if_true] at e
   cases e
   exact heap_alloc_new w o
  ·simp only[Q6.put,if_neg a] at e
   rw[Below.heap_alloc w o b (h.lt e)];exact h b p e
 ·intro b p e
  have:=h.lt e
  simp only[Q6.put];rw[if_neg (by omega)];exact e
 ·intro b a
  simp only[Q6.put];rw[if_neg (by omega)]
theorem Stp.own {σ:Q6} (h:X3 w σ) (o:Obj):Stp w σ (w.alloc o) σ:=Stp.of_below h ((Below.refl _ _).alloc (Nat.le_refl _) o)
def Z4 (σ:Q6) (a:Addr) (cs:List Value):Prop:=a.spot=none∧ ∃arr e b,σ a.block=some (.cells arr e b)∧ ∀i v,cs[i]? =some v→arr[a.off+i]? =some v
theorem Z4.up {σ σ':Q6} {a:Addr} {cs:List Value} (h:Z4 σ a cs) (g:Stp w σ w' σ'):Z4 σ' a cs:=by
 obtain ⟨b,arr,e,d,f,c⟩:=h
 exact ⟨b,arr,e,d,g.le _ _ f,c⟩
theorem Z4.cell {σ:Q6} {a:Addr} {cs:List Value} (h:Z4 σ a cs) (f:X3 w σ) {i:Nat} {v:Value} (c:cs[i]? =some v):w.cell? (a.add i)=some v:=by
 obtain ⟨b,arr,e,j,g,d⟩:=h
 have:=f _ _ g
 unfold World.cell?
 rw[C1,this,Qg,K3 b]
 exact d i v c
def Y3 (σ:Q6) (w:World) (b:Nat) (cs:List Value):Prop:=σ b=none∧ ∃e,w.heap[b]? =some (.cells cs.toArray e (0,0))
theorem Y3.lt {σ:Q6} {b:Nat} {cs:List Value} (h:Y3 σ w b cs):b<w.heap.size:=by
 obtain ⟨_,e,h⟩:=h
 exact (Array.getElem?_eq_some_iff.1 h).1
theorem Y3.up {σ σ':Q6} {b:Nat} {cs:List Value} (h:Y3 σ w b cs) (c:Stp w σ w' σ'):Y3 σ' w' b cs:=by
 have a:=h.lt
 obtain ⟨d,e,f⟩:=h
 exact ⟨(c.old b a).trans d,e,(c.bel.block b a).trans f⟩
theorem Y3.cell {σ:Q6} {b:Nat} {cs:List Value} (h:Y3 σ w b cs) {i:Nat} {v:Value} (a:cs[i]? =some v):w.cell? ((⟨b,0,none⟩:Addr).add i)=some v:=by
 obtain ⟨_,e,c⟩:=h
 unfold World.cell?
 rw[C1,Qg,K3 rfl]
 simp only[c]
 simpa using a
theorem Y3.keep {σ σ0:Q6} {b:Nat} {cs:List Value} (h:Y3 σ w b cs) (d:Stp w0 σ0 w σ) (m:w0.heap.size≤b): ∃σ',Stp w0 σ0 w σ'∧Z4 σ' ⟨b,0,none⟩ cs∧(∀k o,σ k=some o→σ' k=some o)∧(∀k,k≠b→σ' k=σ k):=by
 obtain ⟨g,e,l⟩:=h
 refine ⟨σ.put b (.cells cs.toArray e (0,0)),⟨d.bel,?_,?_,?_⟩,⟨rfl,cs.toArray,e,(0,0),by simp[Q6.put],?_⟩,?_,?_⟩
 ·intro k o c
  by_cases a:k=b
  ·subst a;simp only[Q6.put,if_true] at c;cases c;exact l
  ·simp only[Q6.put,if_neg a] at c;exact d.sat k o c
 ·intro k o c
  by_cases a:k=b
  ·subst a;have:=d.le _ _ c;rw[g] at this;cases this
  ·simp only[Q6.put,if_neg a];exact d.le _ _ c
 ·intro k f
  simp only[Q6.put];rw[if_neg (by omega)];exact d.old k f
 ·intro i v j;simpa using j
 ·intro k o c
  by_cases a:k=b
  ·subst a;rw[g] at c;cases c
  ·simp only[Q6.put,if_neg a];exact c
 ·intro k a;simp only[Q6.put,if_neg a]
theorem Q7L (t:TypeId) (v:Value) (w:World):(Instr.box t v).run P w= .ok (.pointer (some ⟨w.heap.size,0,none⟩)) (w.alloc (.cells v.cells t)):=by
 simp[Instr.box,newVar,newRow]
theorem Q2P {σ:Q6} (a:X3 w σ) (cs:Array Value) (t:TypeId):Y3 σ (w.alloc (.cells cs t)) w.heap.size cs.toList:=
 ⟨a.none (Nat.le_refl _),t,by simpa using heap_alloc_new w (.cells cs t)⟩
theorem Q7Z {σ:Q6} (cs:Array Value) (t:TypeId):Z4 (σ.put w.heap.size (.cells cs t)) ⟨w.heap.size,0,none⟩ cs.toList:=
 ⟨rfl,cs,t,(0,0),by simp[Q6.put],fun i v h=>by simpa using h⟩
theorem E8 {σ:Q6} {t:TypeId} {v:Value} (b:X3 w σ) (h: ∀a w' σ',Stp w σ w' σ'→Z4 σ' a v.cells.toList→K (.pointer (some a)) w'):box P t v w K:=by
 unfold box;rw[X9 (Q7L t v w)]
 exact h _ _ _ (Stp.alloc b _) (Q7Z _ t)
theorem Q5i {σ:Q6} {t:TypeId} {v:Value} (a:X3 w σ) (h: ∀b w',w.heap.size≤b→Stp w σ w' σ→Y3 σ w' b v.cells.toList→K (.pointer (some ⟨b,0,none⟩)) w'):box P t v w K:=by
 unfold box;rw[X9 (Q7L t v w)]
 exact h _ _ (Nat.le_refl _) (Stp.own a _) (Q2P a _ t)
theorem Iv {σ:Q6} {t:TypeId} {sz a:Nat} {z:Value} [tz:TZ P t sz a z] (c:X3 w σ) (h: ∀b w',w.heap.size≤b→Stp w σ w' σ→Y3 σ w' b z.cells.toList→K (.pointer (some ⟨b,0,none⟩)) w'):W0 P t w K:=by
 unfold W0
 have:(Instr.alloc t true (.tuple #[])).run P w= .ok (.pointer (some ⟨w.heap.size,0,none⟩)) (w.alloc (.cells z.cells t)):=by
  simp[Instr.alloc,Zl tz,newVar,newRow]
 rw[X9 this]
 exact h _ _ (Nat.le_refl _) (Stp.own c _) (Q2P c _ t)
theorem Qi {t:TypeId} [tg:TG P t false] {a:Addr} {v:Value} (b:w.cell? a=some v) (h:K v w):Q2 P t (.pointer (some a)) w K:=by
 unfold Q2
 rw[X9 (v:=v) (w':=w) (by simp[Instr.loadAt,Instr.sureAddr,loadVar,Yd tg,b])]
 exact h
theorem Pc {t:TypeId} {sz b:Nat} {z:Value} [tg:TG P t true] [tz:TZ P t sz b z] {a:Addr} {cs:List Value} (c:cs.length=sz) (d: ∀j v,cs[j]? =some v→w.cell? (a.add j)=some v) (h:K (.agg cs.toArray) w):Q2 P t (.pointer (some a)) w K:=by
 unfold Q2
 have:=run_loadCells_list (P:=P) w a cs d
 rw[c] at this
 rw[X9 (v:= .agg cs.toArray) (w':=w) (by simp[Instr.loadAt,Instr.sureAddr,loadVar,Yd tg,L4 tz,this])]
 exact h
theorem ld {σ:Q6} {t:TypeId} [TG P t false] {a:Addr} {cs:List Value} {i:Nat} {v:Value} (c:X3 w σ) (d:Z4 σ a cs) (b:cs[i]? =some v) (h:K v w):Q2 P t (.pointer (some (a.add i))) w K:=
 Qi (d.cell c b) h
theorem X7 {σ:Q6} {t:TypeId} [TG P t false] {a:Addr} {cs:List Value} {v:Value} (c:X3 w σ) (d:Z4 σ a cs) (b:cs[0]? =some v) (h:K v w):Q2 P t (.pointer (some a)) w K:=by
 have:=ld (P:=P) (t:=t) c d b h
 rwa [add_zero] at this
theorem Y2 {σ:Q6} {t:TypeId} {sz b:Nat} {z:Value} [TG P t true] [TZ P t sz b z] {a:Addr} {cs:List Value} (f:X3 w σ) (g:Z4 σ a cs) (c:cs.length=sz) (h:K (.agg cs.toArray) w):Q2 P t (.pointer (some a)) w K:=
 Pc c (fun _ _ d=>g.cell f d) h
theorem Yj {σ:Q6} {t:TypeId} [TG P t false] {b:Nat} {cs:List Value} {i:Nat} {v:Value} (c:Y3 σ w b cs) (a:cs[i]? =some v) (h:K v w):Q2 P t (.pointer (some ((⟨b,0,none⟩:Addr).add i))) w K:=
 Qi (c.cell a) h
theorem Q8F {σ:Q6} {t:TypeId} [TG P t false] {b:Nat} {cs:List Value} {v:Value} (c:Y3 σ w b cs) (a:cs[0]? =some v) (h:K v w):Q2 P t (.pointer (some ⟨b,0,none⟩)) w K:=by
 have:=Yj (P:=P) (t:=t) c a h
 rwa [add_zero] at this
theorem Sz {σ:Q6} {t:TypeId} {sz a:Nat} {z:Value} [TG P t true] [TZ P t sz a z] {b:Nat} {cs:List Value} (f:Y3 σ w b cs) (c:cs.length=sz) (h:K (.agg cs.toArray) w):Q2 P t (.pointer (some ⟨b,0,none⟩)) w K:=
 Pc c (fun _ _ d=>f.cell d) h
theorem V1 {t:TypeId} {sz a:Nat} {z:Value} [tg:TG P t true] [tz:TZ P t sz a z] {σ:Q6} {b:Nat} {cs:List Value} {K:Value→Prop} (f:Y3 σ w b cs) (c:cs.length=sz) (h:K (.agg cs.toArray)):Y8 P t (.pointer (some ⟨b,0,none⟩)) w K:=by
 rw[Q3v]
 refine ⟨_,?_,h⟩
 have:=run_loadCells_list (P:=P) w ⟨b,0,none⟩ cs (fun _ _ d=>f.cell d)
 rw[c] at this
 simp[asAddr,loadVar,Yd tg,L4 tz,this]
structure Upd (w : World) (b : Nat) (w' : World) : Prop where
  os : w'.os = w.os
  tape : w'.tape = w.tape
  output : w'.output = w.output
  size : w'.heap.size = w.heap.size
  block : ∀ k, k ≠ b → w'.heap[k]? = w.heap[k]?
theorem Upd.stp {σ0 σ:Q6} {b:Nat} (c:Upd w b w') (a:Stp w0 σ0 w σ) (h:w0.heap.size≤b) (f:σ b=none):Stp w0 σ0 w' σ:=by
 refine ⟨⟨c.os.trans a.bel.os,c.tape.trans a.bel.tape,c.output.trans a.bel.output,by rw[c.size];exact a.bel.size,fun k g=>(c.block k (by omega)).trans (a.bel.block k g)⟩,?_,a.le,a.old⟩
 intro k o d
 rw[c.block k (by intro e;subst e;rw[f] at d;cases d)]
 exact a.sat k o d
theorem Y3.upd {σ:Q6} {b k:Nat} {cs:List Value} (h:Y3 σ w k cs) (f:Upd w b w') (a:k≠b):Y3 σ w' k cs:=by
 obtain ⟨c,e,d⟩:=h
 exact ⟨c,e,(f.block k a).trans d⟩
theorem Va {b:Nat} {cs:Array Value} {a:Array Value} {e:TypeId} (h:w.heap[b]? =some (.cells a e (0,0))):Upd w b (w.setRow b cs)∧(w.setRow b cs).heap[b]? =some (.cells cs e (0,0)):=by
 have c:=(Array.getElem?_eq_some_iff.1 h).1
 refine ⟨⟨rfl,rfl,rfl,by simp[World.setRow],fun k d=>?_⟩,?_⟩
 ·simp only[World.setRow,Array.getElem?_modify]
  rw[if_neg (by omega)]
 ·simp only[World.setRow,Array.getElem?_modify,if_true,h]
  rfl
theorem Ob {t:TypeId} {sz a:Nat} {z:Value} [tz:TZ P t sz a z] {σ:Q6} {b:Nat} {cs ds:List Value} (l:Y3 σ w b cs) (j:cs.length=sz) (f:ds.length=sz) (k:ds.toArray.all (·.oneCell')=true)
 (h: ∀w',Upd w b w'→Y3 σ w' b ds→K undef w'):Y0 P t (.pointer (some ⟨b,0,none⟩)) (.agg ds.toArray) w K:=by
 obtain ⟨n,e,d⟩:=l
 unfold Y0
 obtain ⟨i,m,c,_⟩:=tz.info
 have:=run_storeVar_row (P:=P) w b e t cs.toArray ds.toArray d (by simp[m,c,f]) (by simp[j,f]) k
 rw[Lm (w':=w.setRow b ds.toArray) (by simpa [Instr.storeAt,Instr.sureAddr] using this)]
 obtain ⟨g,hh⟩:=Va (cs:=ds.toArray) d
 exact h _ g ⟨n,e,hh⟩
theorem Q7I {cs:List Value} {i:Nat} {v:Value} (a:i<cs.length):(cs.take i++[v]++cs.drop (i+1))=cs.set i v:=by
 rw[List.set_eq_take_append_cons_drop,if_pos a];simp
theorem Jy {t:TypeId} {c:Nat} {z:Value} [tz:TZ P t 1 c z] {σ:Q6} {b i:Nat} {cs:List Value} {v:Value} (k:Y3 σ w b cs) (l:i<cs.length) (j:v.cells= #[v]) (g:v.oneCell'=true)
 (h: ∀w',Upd w b w'→Y3 σ w' b (cs.set i v)→K undef w'):Y0 P t (.pointer (some ((⟨b,0,none⟩:Addr).add i))) v w K:=by
 obtain ⟨n,e,d⟩:=k
 unfold Y0
 have a:(⟨b,0,none⟩:Addr).add i=⟨b,i,none⟩:=by unfold Addr.add;split<;>simp_all
 have:=run_storeCells_at P b i e [v] 0 cs.toArray w d (by simp;omega) (by simpa using g)
 simp only[Nat.add_zero] at this
 obtain ⟨f,hh⟩:=Va (cs:=(cs.set i v).toArray) d
 have m:(List.take i cs.toArray.toList++[v]++List.drop (i+[v].length) cs.toArray.toList).toArray=(cs.set i v).toArray:=by
  rw[←Q7I l];simp
 rw[m] at this
 rw[Lm (w':=w.setRow b (cs.set i v).toArray) (by simp[Instr.storeAt,Instr.sureAddr,a,storeVar,L4 tz,j,this])]
 exact h _ f ⟨n,e,hh⟩
theorem st0 {t:TypeId} {a:Nat} {z:Value} [tz:TZ P t 1 a z] {σ:Q6} {b:Nat} {cs:List Value} {v:Value} (g:Y3 σ w b cs) (d:0<cs.length) (f:v.cells= #[v]) (c:v.oneCell'=true)
 (h: ∀w',Upd w b w'→Y3 σ w' b (cs.set 0 v)→K undef w'):Y0 P t (.pointer (some ⟨b,0,none⟩)) v w K:=by
 have:=Jy (P:=P) (t:=t) g d f c h
 rwa [add_zero] at this
class NZ (n : Nat) : Prop where
  h : (n == 0) = false
instance (n:Nat):NZ (n+1):=⟨rfl⟩
theorem fa {t:TypeId} {k b:Nat} {d:TypeId} {sz c:Nat} {z:Value} [tf:TF P t k b d] [tz:TZ P d sz c z] [nz:NZ sz] {a:Addr}:fieldAddr P t (.pointer (some a)) k w K=K (.pointer (some (a.add b))) w:=by
 unfold fieldAddr
 have hh:=tf.h
 unfold Q3F at hh
 split at hh
 ·rename_i o m
  obtain ⟨f,j,g⟩:=Option.map_eq_some_iff.1 hh
  simp only[Prod.mk.injEq] at g
  obtain ⟨i,l⟩:=g
  subst l i
  have n: ¬sz=0:=by simpa using nz.h
  exact X9 (by simp[Instr.fieldAt,run_underlying m,j,Instr.sureAddr,fieldPlace,L4 tz,n])
 ·cases hh
theorem Cj {t e:TypeId} {sz c:Nat} {z:Value} [ts:TS P t e] [tz:TZ P e sz c z] {a:Addr} {n b:Nat} {k:IntKind} {i:Int} (f:0≤i) (d:i<n):indexAddr P t (.slice (some a) n b) (.int k i) w K=K (.pointer (some (a.add (i.toNat*sz)))) w:=by
 unfold indexAddr
 exact X9 (by simp[Instr.indexAt,run_underlying ts.h,asIntOf,L4 tz,f,d])
theorem Q93 {t e:TypeId} {n sz b:Nat} {z:Value} [ta:TA P t n e] [tz:TZ P e sz b z] {a:Addr} {k:IntKind} {i:Int} (d:0≤i) (c:i<n):indexAddr P t (.pointer (some a)) (.int k i) w K=K (.pointer (some (a.add (i.toNat*sz)))) w:=by
 unfold indexAddr
 exact X9 (by simp[Instr.indexAt,run_underlying ta.h,asIntOf,Instr.sureAddr,L4 tz,d,c])
theorem L9 {a:Addr}:nilCheck P (.pointer (some a)) w K=K (.pointer (some a)) w:=by
 unfold nilCheck
 rw[T9];unfold P5
 simp[execOp]
class Rep {α : Type} (R : Q6 → α → List Value → Prop) : Prop where
  up : ∀ {σ σ' : Q6} {x : α} {cs : List Value}, (∀ b o, σ b = some o → σ' b = some o) → R σ x cs → R σ' x cs
  one : ∀ {σ : Q6} {x : α} {cs : List Value}, R σ x cs → ∀ u ∈ cs, u.oneCell' = true
def Sl {α:Type} (sz:Nat) (R:Q6→α→List Value→Prop) (σ:Q6) (v:Value) (xs:List α):Prop:=
 ∃a c,v= .slice a xs.length c∧xs.length≤c∧c≤maxLen∧(a=none→c=0)∧
  ∀b,a=some b→(0<xs.length→b.spot=none)∧ ∀i x,xs[i]? =some x→ ∃cs,Z4 σ (b.add (i*sz)) cs∧cs.length=sz∧R σ x cs
theorem Z4.le {σ σ':Q6} {a:Addr} {cs:List Value} (h:Z4 σ a cs) (i: ∀b o,σ b=some o→σ' b=some o):Z4 σ' a cs:=by
 obtain ⟨c,arr,e,f,g,d⟩:=h
 exact ⟨c,arr,e,f,i _ _ g,d⟩
section
variable {α : Type} {R : Q6 → α → List Value → Prop} {sz : Nat} {σ σ' : Q6} {v : Value} {xs : List α}
theorem Sl.le [hr:Rep R] (h:Sl sz R σ v xs) (f: ∀b o,σ b=some o→σ' b=some o):Sl sz R σ' v xs:=by
 obtain ⟨a,c,k,n,l,q,d⟩:=h
 refine ⟨a,c,k,n,l,q,fun b g=>⟨(d b g).1,fun i x m=>?_⟩⟩
 obtain ⟨cs,p,j,r⟩:=(d b g).2 i x m
 exact ⟨cs,p.le f,j,hr.up f r⟩
theorem Sl.up [Rep R] (h:Sl sz R σ v xs) (a:Stp w σ w' σ'):Sl sz R σ' v xs:=h.le a.le
theorem Sl.max (h:Sl sz R σ v xs):xs.length≤9223372036854775807:=by
 obtain ⟨a,b,d,g,c,f⟩:=h
 simp only[maxLen] at c;omega
theorem Sl.nil:Sl sz R σ (.slice none 0 0) ([]:List α):=⟨none,0,rfl,by simp,by simp,fun _=>rfl,fun b a=>by cases a⟩
theorem Q1y {c e t:TypeId} {cs:List Bool} [ts:TS P c e] {a:Option Addr} {n b:Nat}:X2 P .len [c] t cs [.slice a n b] w K=K (I n) w:=by
 have h:(Builtin.len_ #[c] t #[.slice a n b]).run P w= .ok (I n) w:=by
  simp[Builtin.len_,run_underlying ts.h,goInt]
 exact X9 h
theorem X2G {b e t:TypeId} {cs:List Bool} [ts:TS P b e] (h:Sl sz R σ v xs):X2 P .len [b] t cs [v] w K=K (I xs.length) w:=by
 obtain ⟨a,c,rfl,_⟩:=h
 exact Q1y
theorem X3C {t e:TypeId} {c:Nat} {z:Value} [TS P t e] [TZ P e sz c z] (h:Sl sz R σ v xs) {k:IntKind} {i:Int} (m:0≤i) (f:i.toNat<xs.length)
 (j: ∀a cs,Z4 σ a cs→cs.length=sz→R σ xs[i.toNat] cs→K (.pointer (some a)) w):indexAddr P t v (.int k i) w K:=by
 obtain ⟨a,n,rfl,r,q,o,g⟩:=h
 cases a with
 | none=>have:=o rfl;omega
 | some b=>
  rw[Cj m (by omega)]
  obtain ⟨cs,l,d,p⟩:=(g b rfl).2 i.toNat xs[i.toNat] (by simp[f])
  exact j _ cs l d p
end
theorem Stp.turn {σ0 σ:Q6} {row:Option Nat} (b:w.grownBy w' row) (a:Stp w0 σ0 w σ) (d: ∀k,row=some k→w0.heap.size≤k∧σ k=none):Stp w0 σ0 w' σ:=by
 refine ⟨⟨b.os.trans a.bel.os,b.tape.trans a.bel.tape,b.output.trans a.bel.output,Nat.le_trans a.bel.size b.size,fun k f=>?_⟩,?_,a.le,a.old⟩
 ·refine (b.block k (Nat.lt_of_lt_of_le f a.bel.size) ?_).trans (a.bel.block k f)
  intro e;have:=(d k e.symm).1;omega
 ·intro k o c
  refine (b.block k (a.sat.lt c) ?_).trans (a.sat k o c)
  intro e;rw[(d k e.symm).2] at c;cases c
theorem Y3.turn {σ:Q6} {row:Option Nat} {k:Nat} {cs:List Value} (h:Y3 σ w k cs) (d:w.grownBy w' row) (a:some k≠row):Y3 σ w' k cs:=by
 have b:=h.lt
 obtain ⟨c,e,f⟩:=h
 exact ⟨c,e,(d.block k b a).trans f⟩
def V6 {α:Type} (B:Nat) (e:TypeId) (sz:Nat) (R:Q6→α→List Value→Prop) (σ:Q6) (w:World) (v:Value) (xs:List α):Prop:=
 ∃cells,w.ownsRow B e sz v xs.length cells∧(∀k,v.ownBlock=some k→σ k=none)∧ ∀i x,xs[i]? =some x→R σ x ((cells.drop (i*sz)).take sz)
section
variable {α : Type} {R : Q6 → α → List Value → Prop} {B sz : Nat} {e : TypeId} {σ σ' : Q6} {v u : Value} {xs ys : List α}
theorem V6.nil:V6 B e sz R σ w (.slice none 0 0) ([]:List α):=⟨[],World.ownsRow_nil w B e sz,by intro k a;simp[Value.ownBlock] at a,by intro i x h;simp at h⟩
theorem V6.mem (h:V6 B e sz R σ w v xs): ∀k,v.ownBlock=some k→B≤k∧k<w.heap.size∧σ k=none:=by
 obtain ⟨cells,d,f,_⟩:=h
 intro k c
 obtain ⟨a,b⟩:=d.lt k c
 exact ⟨a,b,f k c⟩
theorem V6.up [hr:Rep R] (h:V6 B e sz R σ w v xs) (a:Stp w σ w' σ'):V6 B e sz R σ' w' v xs:=by
 obtain ⟨cells,c,j,f⟩:=h
 refine ⟨cells,c.kept ⟨a.bel.os,a.bel.tape,a.bel.output,a.bel.size,fun k d _=>a.bel.block k d⟩ (by cases b:v.ownBlock<;>simp) (row:=none),?_,fun i x g=>hr.up a.le (f i x g)⟩
 intro k b
 rw[a.old k (c.lt k b).2];exact j k b
theorem Sl.cells (h:Sl sz R σ v xs) (D:X3 w σ) [hr:Rep R]: ∃(a:Option Addr) (d:Nat) (c:List Value),v= .slice a xs.length d∧(a=none→d=0)∧c.length=xs.length*sz∧(∀b,a=some b→ ∀j u,c[j]? =some u→w.cell? (b.add j)=some u)∧(∀u∈c,u.oneCell'=true)∧
 ∀i x,xs[i]? =some x→R σ x ((c.drop (i*sz)).take sz):=by
 obtain ⟨a,d,rfl,O,N,m,z⟩:=h
 cases a with
 | none=>
  have Q:=m rfl
  have f:xs=[]:=List.eq_nil_of_length_eq_zero (by omega)
  subst f
  exact ⟨none,d,[],rfl,m,by simp,fun b J=>(by cases J),by simp,by simp⟩
 | some b=>
  obtain ⟨C,p⟩:=z b rfl
  clear z
  have key: ∀(ys:List α) (k:Nat),(∀i x,ys[i]? =some x→ ∃cs,Z4 σ (b.add ((k+i)*sz)) cs∧cs.length=sz∧R σ x cs)→
   ∃c:List Value,c.length=ys.length*sz∧(∀j u,c[j]? =some u→w.cell? (b.add (k*sz+j))=some u)∧(∀u∈c,u.oneCell'=true)∧ ∀i x,ys[i]? =some x→R σ x ((c.drop (i*sz)).take sz):=by
   intro ys
   induction ys with
   | nil=>intro k _;exact ⟨[],by simp,by simp,by simp,by simp⟩
   | cons y r E=>
    intro k s
    obtain ⟨cs,H,t,A⟩:=s 0 y rfl
    obtain ⟨c,o,g,l,n⟩:=E (k+1) (fun i x f=>by
     have:=s (i+1) x (by simpa using f)
     rwa [show k+1+i=k+(i+1) by omega])
    refine ⟨cs++c,by simp[o,t,Nat.add_mul,Nat.add_comm],?_,?_,?_⟩
    ·intro j u hu
     by_cases M:j<sz
     ·rw[List.getElem?_append_left (by omega)] at hu
      have:=H.cell D hu
      rwa [Q41,Nat.add_zero] at this
     ·rw[List.getElem?_append_right (by omega)] at hu
      have:=g _ _ hu
      rwa [t,show (k+1)*sz+(j-sz)=k*sz+j by rw[Nat.add_mul];omega] at this
    ·intro u hu
     rcases List.mem_append.1 hu with hu | hu
     ·exact hr.one A u hu
     ·exact l u hu
    ·intro i x f
     cases i with
     | zero=>
      simp at f;subst f
      simp only[Nat.zero_mul,List.drop_zero]
      rw[List.take_append_of_le_length (by omega),List.take_of_length_le (by omega)];exact A
     | succ i=>
      have:=n i x (by simpa using f)
      rw[show (i+1)*sz=cs.length+i*sz by rw[Nat.add_mul];omega,List.drop_append]
      simpa [List.drop_eq_nil_of_le] using this
  obtain ⟨c,o,g,l,n⟩:=key xs 0 (fun i x f=>by rw[Nat.zero_add];exact p i x f)
  refine ⟨some b,d,c,rfl,m,o,?_,l,n⟩
  intro L q j u hu
  cases q
  have:=g j u hu
  rwa [Nat.zero_mul,Nat.zero_add] at this
end
section
variable {α : Type} {R : Q6 → α → List Value → Prop} {sz : Nat} {e : TypeId} {σ σ0 : Q6} {v u : Value} {xs ys : List α}
theorem Wy (cells a:List Value) (n i:Nat) (c:cells.length=n*sz) (b:i<n):((cells++a).drop (i*sz)).take sz=(cells.drop (i*sz)).take sz:=by
 have h:i*sz+sz≤n*sz:=by rw[←Nat.succ_mul];exact Nat.mul_le_mul_right _ b
 rw[List.drop_append_of_le_length (by omega),List.take_append_of_le_length (by simp only[List.length_drop];omega)]
theorem app {t y:TypeId} {o:Nat} {z:Value} {cs:List Bool} [ts:TS P t e] [tz:TZ P e sz o z] [hr:Rep R] (C:Stp w0 σ0 w σ) (ha:V6 w0.heap.size e sz R σ w v xs) (O:Sl sz R σ u ys) (E:(z.cells.size==sz&&decide (0<sz))=true)
 (hb:(xs.length+ys.length)*o≤140737488355328) (hm:xs.length+ys.length≤9223372036854775807)
 (h: ∀d w',w.grownBy w' v.ownBlock→Stp w0 σ0 w' σ→V6 w0.heap.size e sz R σ w' d (xs++ys)→(d.ownBlock=v.ownBlock∨ ∀k,d.ownBlock=some k→w.heap.size≤k)→K d w'):X2 P .append [t,t] y cs [v,u] w K:=by
 obtain ⟨cells,s,V,h3⟩:=ha
 obtain ⟨a,m,c,rfl,W,U,n3,n4,n5⟩:=O.cells C.sat
 obtain ⟨i,L,H,M,r⟩:=tz.info
 have q: ∀d w',(Builtin.append_ #[t,t] y #[v, .slice a ys.length m]).run P w= .ok d w'→w'.ownsRow w0.heap.size e sz d (xs.length+ys.length) (cells++c)→w.grownBy w' v.ownBlock→(d.ownBlock=v.ownBlock∨d.ownBlock=some w.heap.size)→X2 P .append [t,t] y cs [v, .slice a ys.length m] w K:=by
  intro d w' A f l hat
  have p:(builtin .append #[t,t] y cs.toArray #[v, .slice a ys.length m]).run P w= .ok (.value d) w':=by
   simp[builtin,A]
  unfold X2
  rw[T9];unfold P5
  rw[p]
  refine h d w' l (Stp.turn l C fun k n=>⟨(s.lt k n).1,V k n⟩) ⟨cells++c,by rw[List.length_append];exact f,?_,?_⟩ ?_
  ·intro k n
   rcases hat with hat | hat
   ·exact V k (hat▸n)
   ·rw[hat] at n;cases n;exact C.sat.none (Nat.le_refl _)
  ·intro j x D
   by_cases Q:j<xs.length
   ·rw[List.getElem?_append_left Q] at D
    rw[Wy cells c xs.length j s.1 Q]
    exact h3 j x D
   ·rw[List.getElem?_append_right (by omega)] at D
    have:=n5 _ _ D
    rw[show j*sz=cells.length+(j-xs.length)*sz by rw[s.1,←Nat.add_mul];congr 1;omega,List.drop_append]
    simpa [List.drop_eq_nil_of_le] using this
  ·rcases hat with hat | hat
   ·exact .inl hat
   ·right;intro k n;rw[hat] at n;cases n;exact Nat.le_refl _
 simp only[Bool.and_eq_true,beq_iff_eq,decide_eq_true_eq] at E
 cases a with
 | some b=>
  obtain ⟨d,w',g1,Z,g3,_,Y⟩:=run_append_own_at (P:=P) w w0.heap.size t y e i z sz o ts.h L r H M E.1 E.2 v xs.length cells s b ys.length m c U (n3 b rfl) n4 (by simp only[maxLen];omega) hb C.bel.size
  exact q d w' g1 Z g3 Y
 | none=>
  have hy:ys=[]:=List.eq_nil_of_length_eq_zero (by obtain ⟨a',X,e',q1,_,q3,_⟩:=O;injection e' with _ e2 e3;have:=W rfl;subst e3;omega)
  have N:=W rfl
  subst hy N
  have hn:c=[]:=List.eq_nil_of_length_eq_zero (by simpa using U)
  subst hn
  have f:=s
  rcases s.2 with ⟨rfl,h0⟩ | ⟨g,m,ac,rfl,ad,hg,J,_⟩
  ·refine q (.slice none 0 0) w ?_ (by simpa using f) (World.grownBy.refl w _) (.inl rfl)
   simp[Builtin.append_,run_underlying ts.h,sizeOf,typeInfo,L,Builtin.lenOf,Builtin.firstCells]
  ·refine q _ w ?_ (by simpa using f) (World.grownBy.refl w _) (.inl rfl)
   simp[Builtin.append_,run_underlying ts.h,sizeOf,typeInfo,L,Builtin.lenOf,Builtin.firstCells,J,storeCells]
end
section
variable {α : Type} {R : Q6 → α → List Value → Prop} {sz : Nat} {e : TypeId} {σ σ0 : Q6} {v u : Value} {xs ys : List α}
theorem Q6.put_le {w:World} (d:X3 w σ) {b:Nat} (h:σ b=none) (o:Obj): ∀k p,σ k=some p→(σ.put b o) k=some p:=by
 intro k p c
 by_cases a:k=b
 ·subst a;rw[h] at c;cases c
 ·simp only[Q6.put,if_neg a];exact c
theorem Stp.put {b:Nat} {o:Obj} (c:Stp w0 σ0 w σ) (f:σ b=none) (h:w0.heap.size≤b) (g:w.heap[b]? =some o):Stp w0 σ0 w (σ.put b o):=by
 refine ⟨c.bel,?_,fun k p a=>Q6.put_le c.sat f o k p (c.le k p a),?_⟩
 ·intro k p a
  by_cases d:k=b
  ·subst d;simp only[Q6.put,if_true] at a;cases a;exact g
  ·simp only[Q6.put,if_neg d] at a;exact c.sat k p a
 ·intro k a
  simp only[Q6.put];rw[if_neg (by omega)];exact c.old k a
theorem V6.keep [hr:Rep R] (h:V6 w0.heap.size e sz R σ w v xs) (l:Stp w0 σ0 w σ): ∃σ',Stp w0 σ0 w σ'∧Sl sz R σ' v xs∧(∀k o,σ k=some o→σ' k=some o)∧(∀k,some k≠v.ownBlock→σ' k=σ k):=by
 obtain ⟨cells,r,D,z⟩:=h
 rcases r.2 with ⟨rfl,E⟩ | ⟨g,p,d,rfl,J,A,m,f,y,q⟩
 ·have:xs=[]:=List.eq_nil_of_length_eq_zero E
  subst this
  exact ⟨σ,l,Sl.nil,fun _ _ h=>h,fun _ _=>rfl⟩
 ·have t:=D g rfl
  have a:=Q6.put_le l.sat t (.cells d e (0,0))
  refine ⟨σ.put g (.cells d e (0,0)),l.put t J A,⟨_,p,rfl,m,f,by simp,?_⟩,a,?_⟩
  ·intro b n
   cases n
   refine ⟨fun _=>rfl,fun i x s=>⟨(cells.drop (i*sz)).take sz,⟨K3 rfl _,d,e,(0,0),by rw[C1];simp[Q6.put],?_⟩,?_,hr.up a (z i x s)⟩⟩
   ·intro j u c
    rw[Qg]
    rw[List.getElem?_take] at c
    split at c
    ·rw[List.getElem?_drop,←q,List.getElem?_take] at c
     split at c
     ·simpa using c
     ·cases c
    ·cases c
   ·have H:i<xs.length:=(List.getElem?_eq_some_iff.1 s).1
    have h:i*sz+sz≤xs.length*sz:=by rw[←Nat.succ_mul];exact Nat.mul_le_mul_right _ H
    rw[List.length_take,List.length_drop,r.1];omega
  ·intro k C
   have:k≠g:=by intro e;subst e;exact C rfl
   simp only[Q6.put,if_neg this]
theorem Sl.piece {a:Option Addr} {n d:Nat} (h:Sl sz R σ (.slice a n d) xs) (l m:Nat) (M:l+m≤xs.length):Sl sz R σ (.slice (if d=l then a else a.map (·.add (l*sz))) m (d-l)) ((xs.drop l).take m):=by
 obtain ⟨L,p,J,O,N,D,o⟩:=h
 injection J with C H y
 subst C H y
 have c:((xs.drop l).take m).length=m:=by simp;omega
 refine ⟨_,d-l,by rw[c],by rw[c];omega,by omega,?_,?_⟩
 ·intro j
  split at j
  ·omega
  ·cases a with
   | none=>have:=D rfl;omega
   | some b=>simp at j
 ·intro b g
  split at g
  ·rename_i t
   obtain ⟨q,k⟩:=o b g
   have z:m=0:=by omega
   subst z
   exact ⟨fun h=>by simp at h,by simp⟩
  ·cases a with
   | none=>simp at g
   | some s=>
    simp only[Option.map_some,Option.some.injEq] at g
    obtain ⟨q,k⟩:=o s rfl
    subst g
    refine ⟨fun h=>K3 (q (by rw[c] at h;omega)) _,fun i x f=>?_⟩
    rw[List.getElem?_take] at f
    split at f
    ·rw[List.getElem?_drop] at f
     obtain ⟨cs,A,r,E⟩:=k _ _ f
     refine ⟨cs,?_,r,E⟩
     rw[Q41,←Nat.add_mul];exact A
    ·cases f
theorem Ex {t:TypeId} {f:Nat} {z:Value} [ts:TS P t e] [tz:TZ P e sz f z] (h:Sl sz R σ v xs) (c d:Option Value) (l m:Nat) (i:c=none∧l=0∨c=some (I l)) (g:d=none∧m=xs.length∨d=some (I m)) (j:l≤m) (y:m≤xs.length)
 (n: ∀k,Sl sz R σ k ((xs.drop l).take (m-l))→K k w):S1 P t v c d none w K:=by
 have o:=h
 obtain ⟨a,b,rfl,A,r,C,s⟩:=h
 have hh: ∀w:World,(Instr.sliceBounds true xs.length b c d none).run P w= .ok (l,m,b) w:=by
  intro w
  have D:(m:Int)≤b:=by omega
  have q:(l:Int)≤m:=by omega
  have p:m≤b:=by omega
  rcases i with ⟨rfl,rfl⟩ | rfl<;>rcases g with ⟨rfl,rfl⟩ | rfl<;>
   simp[Instr.sliceBounds,Instr.sliceBound,asIntOf,p,j]<;>intros<;>omega
 unfold S1
 have:(Instr.sliceAt t (.slice a xs.length b) c d none).run P w= .ok (.slice (if b=l then a else a.map (·.add (l*sz))) (m-l) (b-l)) w:=by
  simp[Instr.sliceAt,run_underlying ts.h,Instr.slice,hh,L4 tz]
 rw[X9 this]
 exact n _ (o.piece l (m-l) (by omega))
def en:Nat→List Value→List (Nat×Value)
 | _,[]=>[]
 | i,v::r=>(i,v)::en (i+1) r
theorem Q9J (off:Nat): ∀(vs:List Value) (k:Nat) (cs:Array Value),off+k+vs.length≤cs.size→
 ((vs.zipIdx k).foldl (fun cs (p:Value×Nat)=>cs.setIfInBounds (off+p.2) p.1) cs).toList=cs.toList.take (off+k)++vs++cs.toList.drop (off+k+vs.length):=by
 intro vs
 induction vs with
 | nil=>intro k cs _;simp
 | cons v r ih=>
  intro k cs h
  simp only[List.length_cons] at h
  rw[List.zipIdx_cons,List.foldl_cons,ih (k+1) _ (by simp;omega)]
  simp only[Array.toList_setIfInBounds,List.length_cons]
  apply List.ext_getElem?
  intro i
  simp only[List.getElem?_append,List.length_take,List.length_set,Array.length_toList,List.getElem?_take,List.getElem?_drop,List.length_append,List.getElem?_set,List.length_cons]
  rcases Nat.lt_trichotomy i (off+k) with hi | hi | hi
  ·simp[show i<off+(k+1) by omega,hi,show i<min (off+(k+1)) cs.size by omega,show i<min (off+(k+1)) cs.size+r.length by omega,show i<min (off+k) cs.size by omega,show i<min (off+k) cs.size+(r.length+1) by omega,show off+k≠i by omega]
  ·subst hi
   simp[show off+k<off+(k+1) by omega,show off+k<min (off+(k+1)) cs.size by omega,show off+k<min (off+(k+1)) cs.size+r.length by omega,show¬off+k<min (off+k) cs.size by omega,show off+k<min (off+k) cs.size+(r.length+1) by omega,show off+k<cs.size by omega,show off+k-min (off+k) cs.size=0 by omega]
  ·by_cases h2:i<off+(k+1)+r.length
   ·simp[show¬i<min (off+(k+1)) cs.size by omega,show i<min (off+(k+1)) cs.size+r.length by omega,show¬i<min (off+k) cs.size by omega,show i<min (off+k) cs.size+(r.length+1) by omega,show i-min (off+k) cs.size=(i-min (off+(k+1)) cs.size)+1 by omega]
   ·simp only[show¬i<min (off+(k+1)) cs.size+r.length by omega,show¬i<min (off+k) cs.size+(r.length+1) by omega,if_false]
    rw[show off+(k+1)+r.length+(i-(min (off+(k+1)) cs.size+r.length))=i by omega,show off+k+(r.length+1)+(i-(min (off+k) cs.size+(r.length+1)))=i by omega,if_neg (by omega)]
theorem Q7u (sz:Nat): ∀(vs:List Value) (i:Nat) (cs:Array Value),(i+vs.length)*sz≤cs.size→(∀v∈vs,v.cells.size=sz)→
 ∃cs',Instr.fill (fun i=>some (i*sz,sz)) cs (en i vs)=some cs'∧cs'.toList=cs.toList.take (i*sz)++vs.flatMap (·.cells.toList)++cs.toList.drop ((i+vs.length)*sz):=by
 intro vs
 induction vs with
 | nil=>intro i cs _ _;exact ⟨cs,rfl,by simp⟩
 | cons v r ih=>
  intro i cs h hv
  have hv0:=hv v (by simp)
  simp only[List.length_cons] at h
  have h1:i*sz+sz≤cs.size:=by
   have:(i+1)*sz≤(i+(r.length+1))*sz:=Nat.mul_le_mul_right _ (by omega)
   rw[Nat.succ_mul] at this;omega
  have hset:=Q9J (i*sz) v.cells.toList 0 cs (by simp;omega)
  simp only[Nat.add_zero] at hset
  have e1:v.cells.zipIdx.foldl (fun cs (p:Value×Nat)=>cs.setIfInBounds (i*sz+p.2) p.1) cs=(v.cells.toList.zipIdx 0).foldl (fun cs (p:Value×Nat)=>cs.setIfInBounds (i*sz+p.2) p.1) cs:=by
   rw[←Array.foldl_toList,Array.toList_zipIdx]
  have hsz':((v.cells.toList.zipIdx 0).foldl (fun cs (p:Value×Nat)=>cs.setIfInBounds (i*sz+p.2) p.1) cs).size=cs.size:=by
   rw[←Array.length_toList,hset]
   simp;omega
  obtain ⟨cs',q1,q2⟩:=ih (i+1) _ (by rw[hsz'];rw[show i+1+r.length=i+(r.length+1) by omega];exact h) (fun u hu=>hv u (by simp[hu]))
  refine ⟨cs',?_,?_⟩
  ·simp only[en,Instr.fill]
   rw[if_neg (by simp[hv0];omega)]
   rw[e1];exact q1
  ·rw[q2,hset]
   simp only[List.flatMap_cons,List.length_cons,Array.length_toList,hv0]
   have e2:(i+1)*sz=i*sz+sz:=by rw[Nat.succ_mul]
   have e3:(i+(r.length+1))*sz=i*sz+sz+r.length*sz:=by rw[Nat.add_mul,Nat.succ_mul];omega
   have e4:(i+1+r.length)*sz=i*sz+sz+r.length*sz:=by rw[Nat.add_mul,Nat.succ_mul]
   rw[e2,e3,e4]
   have t1:(cs.toList.take (i*sz)).length=i*sz:=by simp;omega
   have t2:(cs.toList.take (i*sz)++v.cells.toList).length=i*sz+sz:=by rw[List.length_append,t1];simp[hv0]
   have k1: ∀C:List Value,(cs.toList.take (i*sz)++v.cells.toList++C).take (i*sz+sz)=cs.toList.take (i*sz)++v.cells.toList:=by
    intro C
    rw[List.take_append_of_le_length (by omega),List.take_of_length_le (by omega)]
   have k2: ∀(C:List Value) (n:Nat),(cs.toList.take (i*sz)++v.cells.toList++C).drop (i*sz+sz+n)=C.drop n:=by
    intro C n
    rw[List.drop_append,t2,List.drop_eq_nil_of_le (by omega),List.nil_append]
    congr 1;omega
   rw[k1,k2,List.drop_drop]
   simp only[List.append_assoc]
theorem Hy {t:TypeId} {by_:Nat} {z:Value} [ts:TS P t e] [tz:TZ P e sz by_ z] (vs:List Value) (hv: ∀v∈vs,v.cells.size=sz) (hsm:vs.length*sz≤16777216) (w:World):
 ∃cells:Array Value,(Instr.buildSlice t vs.length (en 0 vs).toArray).run P w= .ok (.slice (some ⟨w.heap.size,0,none⟩) vs.length vs.length) (w.alloc (.cells cells e))∧cells.toList=vs.flatMap (·.cells.toList):=by
 have h2: ¬vs.length*sz>2 ^ 24:=by omega
 by_cases h:vs.length*sz=0
 ·obtain ⟨cells,hf,hl⟩:=Q7u sz vs 0 ((Array.range (vs.length*sz)).map ((#[]:Array Value)[· % (#[]:Array Value).size]!)) (by simp) hv
  refine ⟨cells,?_,by rw[hl];simp⟩
  simp only[Instr.buildSlice,Sem.run_bind,run_underlying ts.h,Result.andThen_ok,L4 tz,if_neg h2,if_pos h,Sem.run_pure,hf]
  simp[newRow]
 ·obtain ⟨cells,hf,hl⟩:=Q7u sz vs 0 ((Array.range (vs.length*sz)).map (z.cells[· % z.cells.size]!)) (by simp) hv
  refine ⟨cells,?_,by rw[hl];simp⟩
  simp only[Instr.buildSlice,Sem.run_bind,run_underlying ts.h,Result.andThen_ok,L4 tz,if_neg h2,if_neg h,Sem.run_pure,Zl tz,hf]
  simp[newRow]
theorem Q8s {vs:List Value} (d: ∀v∈vs,v.cells.size=sz) (i:Nat) (v:Value) (h:vs[i]? =some v):((vs.flatMap (·.cells.toList)).drop (i*sz)).take sz=v.cells.toList:=by
 induction vs generalizing i with
 | nil=>simp at h
 | cons a r f=>
  have b:=d a (by simp)
  cases i with
  | zero=>
   simp at h;subst h
   rw[List.flatMap_cons,Nat.zero_mul,List.drop_zero,List.take_append_of_le_length (by simp[b]),List.take_of_length_le (by simp[b])]
  | succ i=>
   rw[List.flatMap_cons,Nat.succ_mul,List.drop_append,List.drop_eq_nil_of_le (by simp[b]),List.nil_append]
   rw[show i*sz+sz-a.cells.toList.length=i*sz by simp[b]]
   exact f (fun v c=>d v (by simp[c])) i (by simpa using h)
theorem Q2t {vs:List Value} (b: ∀v∈vs,v.cells.size=sz):(vs.flatMap (·.cells.toList)).length=vs.length*sz:=by
 induction vs with
 | nil=>simp
 | cons a r c=>
  rw[List.flatMap_cons,List.length_append,c (fun v h=>b v (by simp[h]))]
  simp[b a (by simp),Nat.succ_mul,Nat.add_comm]
def Q0g (R:Q6→α→List Value→Prop) (σ:Q6):List Value→List α→Prop
 | [],[]=>True
 | v::vs,x::xs=>R σ x v.cells.toList∧Q0g R σ vs xs
 | _,_=>False
theorem Q0g.len {vs:List Value} (h:Q0g R σ vs xs):vs.length=xs.length:=by
 induction vs generalizing xs with
 | nil=>cases xs with
  | nil=>rfl
  | cons=>exact h.elim
 | cons v r a=>cases xs with
  | nil=>exact h.elim
  | cons x y=>simp[a h.2]
theorem Q0g.get {vs:List Value} (h:Q0g R σ vs xs) {i:Nat} {x:α} (a:xs[i]? =some x): ∃v,vs[i]? =some v∧R σ x v.cells.toList:=by
 induction vs generalizing xs i with
 | nil=>cases xs with
  | nil=>simp at a
  | cons=>exact h.elim
 | cons v r c=>cases xs with
  | nil=>exact h.elim
  | cons y ys=>
   cases i with
   | zero=>simp at a;subst a;exact ⟨v,rfl,h.1⟩
   | succ i=>obtain ⟨u,b,d⟩:=c h.2 (i:=i) (by simpa using a);exact ⟨u,by simpa using b,d⟩
theorem Zf {t:TypeId} {j:Nat} {z:Value} {n:Nat} {a:List (Nat×Value)} [ts:TS P t e] [tz:TZ P e sz j z] (g:Stp w0 σ0 w σ) (vs:List Value) (xs:List α) (p:n=vs.length) (y:a=en 0 vs) (c: ∀v∈vs,v.cells.size=sz) (b:(decide (0<sz)&&decide (vs.length*sz≤16777216))=true) (o:Q0g R σ vs xs)
 (h: ∀v w',Stp w σ w' σ→V6 w0.heap.size e sz R σ w' v xs→(∀k,v.ownBlock=some k→w.heap.size≤k)→K v w'):buildSlice P t n a w K:=by
 subst p y
 simp only[Bool.and_eq_true,decide_eq_true_eq] at b
 obtain ⟨l,b⟩:=b
 obtain ⟨cells,r,f⟩:=Hy (P:=P) (t:=t) vs c b w
 unfold buildSlice
 rw[X9 r]
 have d:=o.len
 refine h _ _ (Stp.own g.sat _) ⟨cells.toList,⟨by rw[f,Q2t c,d], .inr ⟨_,_,cells,by rw[d],g.bel.size,heap_alloc_new w _,by omega,?_,?_,?_⟩⟩,?_,?_⟩ ?_
 ·simp only[maxLen]
  have:vs.length*1≤vs.length*sz:=Nat.mul_le_mul_left _ l
  omega
 ·rw[←Array.length_toList,f,Q2t c,d]
 ·rw[List.take_of_length_le (by rw[f,Q2t c,d];exact Nat.le_refl _)]
 ·intro k m;cases m;exact g.sat.none (Nat.le_refl _)
 ·intro i x s
  obtain ⟨v,A,q⟩:=o.get s
  rw[f,Q8s c i v A];exact q
 ·intro k m;cases m;exact Nat.le_refl _
theorem T4 [Rep R] {t:TypeId} {b:Nat} {z:Value} {n:Nat} {a:List (Nat×Value)} [ts:TS P t e] [tz:TZ P e sz b z] (i:X3 w σ) (vs:List Value) (xs:List α) (f:n=vs.length) (l:a=en 0 vs) (g: ∀v∈vs,v.cells.size=sz) (c:(decide (0<sz)&&decide (vs.length*sz≤16777216))=true) (o:Q0g R σ vs xs)
 (h: ∀v w' σ',Stp w σ w' σ'→Sl sz R σ' v xs→K v w'):buildSlice P t n a w K:=by
 refine Zf (Stp.refl i) vs xs f l g c o fun v w' j m _=>?_
 obtain ⟨σ',k,d,_⟩:=m.keep j
 exact h v w' σ' k d
theorem X1K {t:TypeId} {k a:Nat} {c:TypeId} [tf:TF P t k a c] [tg:TG P c false] {cs:Array Value} {v:Value} (g:cs[a]? =some v):F2 P t (.agg cs) k w K=K v w:=by
 unfold F2
 have hh:=tf.h
 unfold Q3F at hh
 split at hh
 ·rename_i m l
  obtain ⟨f,i,b⟩:=Option.map_eq_some_iff.1 hh
  simp only[Prod.mk.injEq] at b
  obtain ⟨d,j⟩:=b
  subst j d
  exact X9 (by simp[Instr.field,run_underlying l,i,asAgg,part,Yd tg,g])
 ·cases hh
theorem Qh {f:Fn} {first caps:List Value}:H1 P f first caps w K=K (.func f first.toArray caps.toArray) w:=X9 (by simp[Instr.makeFunc])
theorem W1 {t:TypeId} {a:List (Nat×Value)} {cells:Array Value} (h:P.built t a=some cells) (b:K (.agg cells) w):H3 P t a w K:=by
 unfold H3
 rw[X9 (run_build w t a.toArray cells h)];exact b
end
def H5 (o:Option Obj) (m:List (List UInt8×Value)):Prop:=
 ∃b a,o=some (.map b a)∧b.toList.map (fun e=>(e.key,e.val))=m.map (fun p=>(S p.1,p.2))∧(b.toList.map (·.born)).Pairwise (· < ·)∧ ∀e∈b.toList,e.born<a
def C8 (m:List (List UInt8×Value)) (k:List UInt8):Option Value:=match m with
 | []=>none
 | p::r=>if p.1=k then some p.2 else C8 r k
def Ww (m:List (List UInt8×Value)) (k:List UInt8) (v:Value):List (List UInt8×Value):=match m with
 | []=>[(k,v)]
 | p::r=>if p.1=k then (k,v)::r else p::Ww r k v
theorem Hc (a b:List UInt8):((⟨a.toArray⟩:ByteArray)==⟨b.toArray⟩)=decide (a=b):=by
 rw[←Q42]
 show (a.toArray==b.toArray)=_
 simp
theorem Bm (k:List UInt8): ∀(c:List MapEntry) (m:List (List UInt8×Value)) (i:Nat),c.map (fun e=>(e.key,e.val))=m.map (fun p=>(S p.1,p.2))→
 ∃r,Instr.findNow .string (S k) c i=some r∧r.map (·.2)=C8 m k∧(∀j v,r=some (j,v)→i≤j∧(∃e,c[j-i]? =some e∧e.key=S k)∧ ∀u,(c.modify (j-i) fun e=>{e with key:=S k,val:=u}).map (fun e=>(e.key,e.val))=(Ww m k u).map (fun p=>(S p.1,p.2)))∧
  (r=none→ ∀u,Ww m k u=m++[(k,u)]):=by
 intro c
 induction c with
 | nil=>
  intro m i h
  cases m with
  | nil=>exact ⟨none,rfl,rfl,(by simp),fun _ u=>rfl⟩
  | cons=>simp at h
 | cons e r t=>
  intro m i h
  cases m with
  | nil=>simp at h
  | cons p q=>
   simp only[List.map_cons,List.cons.injEq,Prod.mk.injEq] at h
   obtain ⟨⟨d,l⟩,g⟩:=h
   simp only[Instr.findNow,d,Instr.sameNow,Hc]
   by_cases a:p.1=k
   ·have f:decide (k=p.1)=true:=by simp[a]
    simp only[f]
    refine ⟨_,rfl,by simp[C8,a,l],?_,by simp⟩
    intro j v b
    cases b
    refine ⟨Nat.le_refl _,⟨e,by simp,by rw[d,a]⟩,fun u=>?_⟩
    simp[Ww,a,g]
   ·have f:decide (k=p.1)=false:=by simp;exact fun e=>a e.symm
    simp only[f]
    obtain ⟨A,D,s,y,z⟩:=t q (i+1) g
    refine ⟨A,D,by simp[C8,a,s],?_,?_⟩
    ·intro j v b
     obtain ⟨E,C,n⟩:=y j v b
     refine ⟨by omega,by rw[show j-i=(j-(i+1))+1 by omega];simpa using C,fun u=>?_⟩
     have:=n u
     rw[show j-i=(j-(i+1))+1 by omega]
     simp[Ww,a,d,l,this]
    ·intro o u
     simp[Ww,a,z o u]
theorem K2 {t:TypeId} (a:P.underlying t=some .string) (b:Bool) (k:List UInt8) (w:World):(Instr.checkKey b 10000 t (S k)).run P w= .ok () w:=by
 unfold Instr.checkKey
 simp[run_underlying a]
theorem Q2y {t f g:TypeId} {sz d:Nat} {z:Value} [tm:TM P t f g] [tz:TZ P g sz d z] (c:P.underlying f=some .string) {r:Nat} {m:List (List UInt8×Value)} (o:H5 (w.heap[r]?) m) (k:List UInt8):
 lookup P t (.map (some r)) (S k) true w K=K (match C8 m k with | some v=> .tuple #[v, .bool true] | none=> .tuple #[z, .bool false]) w:=by
 obtain ⟨j,a,l,q,y,A⟩:=o
 obtain ⟨s,i,b,C,D⟩:=Bm k j.toList m 0 q
 unfold lookup
 refine X9 ?_
 simp only[Instr.lookup,Sem.run_bind,run_underlying tm.h,Result.andThen_ok,Instr.findKey,run_underlying c,i,K2 c]
 have n:(getObj r).run P w= .ok (.map j a) w:=by simp[getObj,Sem.run,l]
 simp only[n,Result.andThen_ok,Sem.run_bind,Sem.run_pure,K2 c,run_underlying c,i]
 cases s with
 | none=>simp at b;rw[←b];simp[Zl tz]
 | some p=>simp at b;rw[←b];simp
theorem Q4A {t f g:TypeId} {sz c:Nat} {z:Value} [tm:TM P t f g] [tz:TZ P g sz c z] (d:P.underlying f=some .string) {r:Nat} {m:List (List UInt8×Value)} (n:H5 (w.heap[r]?) m) (k:List UInt8):
 lookup P t (.map (some r)) (S k) false w K=K ((C8 m k).getD z) w:=by
 obtain ⟨i,a,j,o,y,A⟩:=n
 obtain ⟨q,s,b,C,D⟩:=Bm k i.toList m 0 o
 unfold lookup
 refine X9 ?_
 have l:(getObj r).run P w= .ok (.map i a) w:=by simp[getObj,Sem.run,j]
 simp only[Instr.lookup,Sem.run_bind,run_underlying tm.h,Result.andThen_ok,Instr.findKey,run_underlying d,s,K2 d,l,Sem.run_pure]
 cases q with
 | none=>simp at b;rw[←b];simp[Zl tz]
 | some p=>simp at b;rw[←b];simp
def C6 (σ:Q6) (w:World) (r:Nat) (m:List (List UInt8×Value)):Prop:=σ r=none∧H5 (w.heap[r]?) m
def Xm (σ:Q6) (r:Nat) (m:List (List UInt8×Value)):Prop:=H5 (σ r) m
theorem Xm.is {σ:Q6} {r:Nat} {m:List (List UInt8×Value)} (h:Xm σ r m) (d:X3 w σ):H5 (w.heap[r]?) m:=by
 obtain ⟨c,a,b,f⟩:=h
 exact ⟨c,a,d _ _ b,f⟩
theorem Xm.le {σ σ':Q6} {r:Nat} {m:List (List UInt8×Value)} (h:Xm σ r m) (f: ∀b o,σ b=some o→σ' b=some o):Xm σ' r m:=by
 obtain ⟨d,a,c,g⟩:=h
 exact ⟨d,a,f _ _ c,g⟩
theorem Xm.up {σ σ':Q6} {r:Nat} {m:List (List UInt8×Value)} (h:Xm σ r m) (a:Stp w σ w' σ'):Xm σ' r m:=h.le a.le
theorem C6.lt {σ:Q6} {r:Nat} {m:List (List UInt8×Value)} (h:C6 σ w r m):r<w.heap.size:=by
 obtain ⟨_,c,a,b,_⟩:=h
 exact (Array.getElem?_eq_some_iff.1 b).1
theorem C6.up {σ σ':Q6} {r:Nat} {m:List (List UInt8×Value)} (h:C6 σ w r m) (b:Stp w σ w' σ'):C6 σ' w' r m:=by
 have a:=h.lt
 exact ⟨(b.old r a).trans h.1,(b.bel.block r a).symm▸h.2⟩
theorem Q3e {t:TypeId} {σ:Q6} (a:X3 w σ) (h: ∀r w',w.heap.size≤r→Stp w σ w' σ→C6 σ w' r []→K (.map (some r)) w'):Pl P t none w K:=by
 unfold Pl
 rw[X9 (v:= .map (some w.heap.size)) (w':=w.alloc (.map #[] 0)) (by simp[Instr.makeMap])]
 exact h _ _ (Nat.le_refl _) (Stp.own a _) ⟨a.none (Nat.le_refl _), #[],0,heap_alloc_new w _,rfl,by simp,by simp⟩
theorem C6.keep {σ σ0:Q6} {r:Nat} {m:List (List UInt8×Value)} (h:C6 σ w r m) (c:Stp w0 σ0 w σ) (g:w0.heap.size≤r): ∃σ',Stp w0 σ0 w σ'∧Xm σ' r m∧(∀k o,σ k=some o→σ' k=some o)∧(∀k,k≠r→σ' k=σ k):=by
 obtain ⟨d,b,a,f,j⟩:=h
 exact ⟨σ.put r (.map b a),c.put d g f,⟨b,a,by simp[Q6.put],j⟩,Q6.put_le c.sat d _,fun k i=>by simp only[Q6.put,if_neg i]⟩
theorem Ik {t U et:TypeId} [tm:TM P t U et] (A:P.underlying U=some .string) {σ:Q6} {r:Nat} {m:List (List UInt8×Value)} (Z:C6 σ w r m) (k:List UInt8) (v:Value)
 (h: ∀w',Upd w r w'→C6 σ w' r (Ww m k v)→K undef w'):mapUpdate P t (.map (some r)) (S k) v w K:=by
 obtain ⟨O,l,d,D,N,L,E⟩:=Z
 obtain ⟨r',W,q2,q3,q4⟩:=Bm k l.toList m 0 N
 have M:(getObj r).run P w= .ok (.map l d) w:=by simp[getObj,Sem.run,D]
 have X:=(Array.getElem?_eq_some_iff.1 D).1
 have n: ∀o,o=Obj.map l d∨True→(∀c e f,o≠ .cells c e f)→(setObj r o).run P w= .ok () {w with heap:=w.heap.setIfInBounds r o}:=by
  intro o _ _
  simp[setObj,Sem.run,D]
 have z: ∀o,Upd w r {w with heap:=w.heap.setIfInBounds r o}:=fun o=>⟨rfl,rfl,rfl,by simp,fun k A=>by simp only[Array.getElem?_setIfInBounds];rw[if_neg (by omega)]⟩
 have C: ∀o,({w with heap:=w.heap.setIfInBounds r o}:World).heap[r]? =some o:=fun o=>by simp[Array.getElem?_setIfInBounds,X]
 unfold mapUpdate
 cases r' with
 | none=>
  rw[Lm (w':={w with heap:=w.heap.setIfInBounds r (.map (l.push {key:=S k,val:=v,born:=d}) (d+1))}) (by
   simp only[Instr.mapUpdate,Sem.run_bind,run_underlying tm.h,Result.andThen_ok,Instr.findKey,run_underlying A,W,K2 A,M,Sem.run_pure]
   exact n _ (.inr trivial) (by intros;simp))]
  refine h _ (z _) ⟨O,_,_,C _,?_,?_,?_⟩
  ·rw[q4 rfl];simp[N]
  ·simp only[Array.toList_push,List.map_append,List.map_cons,List.map_nil]
   rw[List.pairwise_append]
   refine ⟨L,by simp,?_⟩
   intro a ha b V
   simp at V;subst V
   obtain ⟨e,s,rfl⟩:=List.mem_map.1 ha
   exact E e s
  ·intro e s
   simp at s
   rcases s with s | rfl
   ·have:=E e (by simpa using s);omega
   ·simp
 | some p=>
  obtain ⟨j,u⟩:=p
  obtain ⟨z1,z2,J⟩:=q3 j u rfl
  obtain ⟨e,Q,e2⟩:=z2
  simp only[Nat.sub_zero] at Q J
  have g:((l.modify j fun e=>{e with key:=S k,val:=v}).toList.map (·.born))=l.toList.map (·.born):=by
   apply List.ext_getElem?
   intro i
   simp only[Array.toList_modify,List.getElem?_map,List.getElem?_modify]
   by_cases H:j=i<;>cases l.toList[i]? <;>simp[H]
  have q:(Instr.keyThatStays (S k) (S k)).run P w= .ok (S k) w:=by
   simp[Instr.keyThatStays,Instr.sameBits,Hc]
  rw[Lm (w':={w with heap:=w.heap.setIfInBounds r (.map (l.modify j fun e=>{e with key:=S k,val:=v}) d)}) (by
   simp only[Instr.mapUpdate,Sem.run_bind,run_underlying tm.h,Result.andThen_ok,Instr.findKey,run_underlying A,W,K2 A,M,Sem.run_pure]
   rw[show ((l[j]?).map (·.key)).getD (S k)=S k by rw[←Array.getElem?_toList,Q];simp[e2]]
   simp only[q,Result.andThen_ok]
   exact n _ (.inr trivial) (by intros;simp))]
  refine h _ (z _) ⟨O,_,_,C _,?_,?_,?_⟩
  ·simp only[Array.toList_modify];exact J v
  ·rw[g];exact L
  ·intro x Y
   have:x.born∈l.toList.map (·.born):=by rw[←g];exact List.mem_map.2 ⟨x,Y,rfl⟩
   obtain ⟨y,hy,e⟩:=List.mem_map.1 this
   rw[←e];exact E y hy
end Go.Emb

namespace Go.Emb
open Go.RowKit
variable {P : Program} {w w0 w1 w' w'' : World} {K : Value → World → Prop}
theorem Z8 {c b:Bool} {a:World→(Value→World→Prop)→Prop} (d:c=b→a w K) (e:c=(!b)→K undef w):Q0 (.bool c) b w a K:=by
 cases c<;>cases b
 ·rw[W7];exact d rfl
 ·rw[E4];exact e rfl
 ·rw[S4];exact e rfl
 ·rw[W5];exact d rfl
theorem Q7 {c:Bool} {t e:Prop} (a:c=true→t) (b:c=false→e):X1 (.bool c) t e:=by
 cases c
 ·rw[M7];exact b rfl
 ·rw[H8];exact a rfl
theorem Q8 {α:Type} {R:Q6→α→List Value→Prop} {sz:Nat} {σ:Q6} {v:Value} {xs:List α} {a e t:TypeId} {cs:List Bool} [ts:TS P a e] (h:Sl sz R σ v xs) (b:K (I xs.length) w):X2 P .len [a] t cs [v] w K:=by
 rw[X2G h];exact b
structure Kpt (D : Nat → Prop) (w w' : World) : Prop where
  os : w'.os = w.os
  tape : w'.tape = w.tape
  output : w'.output = w.output
  size : w.heap.size ≤ w'.heap.size
  block : ∀ k, k < w.heap.size → ¬ D k → w'.heap[k]? = w.heap[k]?
theorem Kpt.refl {D:Nat→Prop}:Kpt D w w:=⟨rfl,rfl,rfl,Nat.le_refl _,fun _ _ _=>rfl⟩
theorem Kpt.trans {D:Nat→Prop} (h:Kpt D w w') (k:Kpt D w' w''):Kpt D w w'':=
 ⟨k.os.trans h.os,k.tape.trans h.tape,k.output.trans h.output,Nat.le_trans h.size k.size,fun i a b=>(k.block i (Nat.lt_of_lt_of_le a h.size) b).trans (h.block i a b)⟩
theorem Kpt.of_below {D:Nat→Prop} (h:Below w.heap.size w w'):Kpt D w w':=⟨h.os,h.tape,h.output,h.size,fun k a _=>h.block k a⟩
theorem Kpt.of_grown {D:Nat→Prop} {row:Option Nat} (h:w.grownBy w' row) (a: ∀k,row=some k→D k):Kpt D w w':=⟨h.os,h.tape,h.output,h.size,fun k b c=>h.block k b (fun e=>c (a k e.symm))⟩
theorem Kpt.of_upd {D:Nat→Prop} {b:Nat} (h:Upd w b w') (a:D b):Kpt D w w':=⟨h.os,h.tape,h.output,by rw[h.size];exact Nat.le_refl _,fun k d c=>h.block k (fun e=>c (e▸a))⟩
theorem Kpt.mono {D D':Nat→Prop} (h:Kpt D w w') (c: ∀k,k<w.heap.size→D k→D' k):Kpt D' w w':=⟨h.os,h.tape,h.output,h.size,fun k a b=>h.block k a (fun e=>b (c k a e))⟩
theorem Kpt.below {D:Nat→Prop} (h:Kpt D w w') (b: ∀k,¬D k):Below w.heap.size w w':=⟨h.os,h.tape,h.output,h.size,fun k a=>h.block k a (b k)⟩
theorem Stp.kp {σ0 σ:Q6} {D:Nat→Prop} (a:Stp w0 σ0 w σ) (b:Kpt D w w') (f: ∀k,D k→w0.heap.size≤k∧σ k=none):Stp w0 σ0 w' σ:=by
 refine ⟨⟨b.os.trans a.bel.os,b.tape.trans a.bel.tape,b.output.trans a.bel.output,Nat.le_trans a.bel.size b.size,fun k c=>?_⟩,?_,a.le,a.old⟩
 ·refine (b.block k (Nat.lt_of_lt_of_le c a.bel.size) ?_).trans (a.bel.block k c)
  intro e;have:=(f k e).1;omega
 ·intro k o d
  refine (b.block k (a.sat.lt d) ?_).trans (a.sat k o d)
  intro e;rw[(f k e).2] at d;cases d
theorem Y3.kp {σ:Q6} {D:Nat→Prop} {k:Nat} {cs:List Value} (h:Y3 σ w k cs) (d:Kpt D w w') (a: ¬D k):Y3 σ w' k cs:=by
 have b:=h.lt
 obtain ⟨c,e,f⟩:=h
 exact ⟨c,e,(d.block k b a).trans f⟩
theorem C6.kp {σ:Q6} {D:Nat→Prop} {r:Nat} {m:List (List UInt8×Value)} (h:C6 σ w r m) (b:Kpt D w w') (a: ¬D r):C6 σ w' r m:=
 ⟨h.1,(b.block r h.lt a).symm▸h.2⟩
theorem V6.kp {α:Type} {R:Q6→α→List Value→Prop} {B sz:Nat} {e:TypeId} {σ:Q6} {v:Value} {xs:List α} {D:Nat→Prop} (h:V6 B e sz R σ w v xs) (m:Kpt D w w') (d: ∀k,v.ownBlock=some k→ ¬D k):V6 B e sz R σ w' v xs:=by
 obtain ⟨cells,f,n,l⟩:=h
 refine ⟨cells,⟨f.1,?_⟩,n,l⟩
 rcases f.2 with j | ⟨g,c,b,rfl,o,i,a⟩
 ·exact .inl j
 ·refine .inr ⟨g,c,b,rfl,o,?_,a⟩
  rw[m.block g (Array.getElem?_eq_some_iff.1 i).1 (d g rfl)];exact i
theorem bt {w w1 b:World} (a:Below w.heap.size w w1) (c:Below w1.heap.size w1 b):Below w.heap.size w b:=a.trans (c.mono a.size)
abbrev U1:Nat:=140737488351232
def U8 (_:Q6) (s:List UInt8) (cs:List Value):Prop:=cs=[S s]∧s.length≤U1
instance:Rep U8:=⟨fun _ h=>h,fun h u hu=>by rw[h.1] at hu;simp at hu;subst hu;rfl⟩
def Wz (_:Q6) (n:Int) (cs:List Value):Prop:=cs=[I n]∧ -9223372036854775808≤n∧n≤9223372036854775807
instance:Rep Wz:=⟨fun _ h=>h,fun h u hu=>by rw[h.1] at hu;simp at hu;subst hu;rfl⟩
def Q3a (_:Q6) (b:Bool) (cs:List Value):Prop:=cs=[.bool b]
instance:Rep Q3a:=⟨fun _ h=>h,fun h u hu=>by rw[h] at hu;simp at hu;subst hu;rfl⟩
def UpI (N:Nat) (a:Nat→World→Prop) (x:Value) (w:World):Prop:= ∃n:Nat,x=I n∧n≤N∧a n w
def UpM (N:Nat) (x:Value):Nat:=match x with | .int _ n=>N-n.toNat | _=>0
theorem U2 {A:(Value→World→Prop)→Value→(Nat→Value)→World→Prop} (N:Nat) (a:Nat→World→Prop) (f:a 0 w)
 (b: ∀n w d,n≤N→a n w→A (fun y w'=>UpI N a y w'∧UpM N y<UpM N (I n)) (I n) d w):lp (α:=Value) (.int .i64 0) w A:=by
 refine Wk (UpI N a) (fun x _=>UpM N x) ⟨0,rfl,Nat.zero_le _,f⟩ ?_
 rintro _ d w' ⟨n,rfl,e,c⟩
 exact b n w' d e c
theorem Y5 {N n:Nat} {a:Nat→World→Prop} (d:N≤9223372036854775807) (c:n<N) (b:a (n+1) w):UpI N a (.int .i64 (IntKind.i64.wrap (n+1))) w∧UpM N (.int .i64 (IntKind.i64.wrap (n+1)))<UpM N (I n):=by
 rw[G8 (by omega) (by omega)]
 exact ⟨⟨n+1,rfl,c,b⟩,by simp only[UpM];omega⟩
def Bv {α:Type} (N:Nat) (a:Nat→α→World→Prop) (x:α×Value) (w:World):Prop:= ∃n:Nat,x.2=I n∧n≤N∧a n x.1 w
def Nk {α:Type} (N:Nat) (x:α×Value):Nat:=UpM N x.2
theorem E7 {α:Type} {A:(α×Value→World→Prop)→α×Value→(Nat→Value)→World→Prop} {a:α} (N:Nat) (b:Nat→α→World→Prop) (h:b 0 a w)
 (c: ∀n a w d,n≤N→b n a w→A (fun y w'=>Bv N b y w'∧Nk N y<Nk N (a,I n)) (a,I n) d w):lp (α:=α×Value) (a, .int .i64 0) w A:=by
 refine Wk (Bv N b) (fun x _=>Nk N x) ⟨0,rfl,Nat.zero_le _,h⟩ ?_
 rintro ⟨a,x⟩ d w' ⟨n,f,g,e⟩
 simp only at f e
 subst f
 exact c n a w' d g e
theorem J4 {α:Type} {a c:α} {N n:Nat} {b:Nat→α→World→Prop} (f:N≤9223372036854775807) (e:n<N) (d:b (n+1) c w):Bv N b (c, .int .i64 (IntKind.i64.wrap (n+1))) w∧Nk N (c, .int .i64 (IntKind.i64.wrap (n+1)))<Nk N (a,I n):=by
 rw[G8 (by omega) (by omega)]
 exact ⟨⟨n+1,rfl,e,d⟩,by simp only[Nk,UpM];omega⟩
theorem N3 {α:Type} {R:Q6→α→List Value→Prop} {sz:Nat} {σ:Q6} {v:Value} {xs:List α} {t e:TypeId} {b:Nat} {z:Value} [TS P t e] [TZ P e sz b z] (h:Sl sz R σ v xs) {n:Nat} (c:n<xs.length)
 (g: ∀a cs,Z4 σ a cs→cs.length=sz→R σ xs[n] cs→K (.pointer (some a)) w):indexAddr P t v (I n) w K:=
 X3C h (by omega) (by simpa using c) (fun a cs d i f=>g a cs d i (by simpa using f))
theorem Y7 {t:TypeId} {sz c:Nat} {z:Value} {A:Value→Value→World→Prop} [tz:TZ P t sz c z] {σ:Q6} {cs:List Value} (q:X3 w σ) (k:z.cells.size=sz) (m:cs.length=sz) (n: ∀u∈cs,u.oneCell'=true)
 (h: ∀a w' e,Stp w σ w' e→Z4 e a cs→A (.pointer (some a)) undef w'):W0 P t w (fun p w=>Y0 P t p (.agg cs.toArray) w (fun u w=>A p u w)):=by
 refine Iv q fun b w1 g r f=>?_
 refine Ob f (by simpa using k) m (by rw[List.all_toArray];exact List.all_eq_true.2 n) fun o l d=>?_
 have i:Stp w σ o σ:=l.stp r g f.1
 obtain ⟨e,s,j,_⟩:=d.keep i g
 exact h _ _ _ s j
theorem U7 {t:TypeId} {d:Nat} {z:Value} {A:Value→Value→World→Prop} [tz:TZ P t 1 d z] {σ:Q6} {v:Value} (r:X3 w σ) (l:z.cells.size=1) (s:v.cells= #[v]) (o:v.oneCell'=true)
 (h: ∀a w' f,Stp w σ w' f→Z4 f a [v]→A (.pointer (some a)) undef w'):W0 P t w (fun p w=>Y0 P t p v w (fun u w=>A p u w)):=by
 refine Iv r fun b w1 i y g=>?_
 have n:z.cells.toList.length=1:=by simpa using l
 refine st0 g (by omega) s o fun q m c=>?_
 have j:Stp w σ q σ:=m.stp y i g.1
 have e:z.cells.toList.set 0 v=[v]:=by
  match hzl:z.cells.toList,n with
  | [x],_=>rfl
 rw[e] at c
 obtain ⟨f,B,k,_⟩:=c.keep j i
 exact h _ _ _ B k
theorem L2 {α:Type} {xs:List α} {p:α→Bool} {n:Nat} (h:n<xs.length):(xs.take (n+1)).any p=((xs.take n).any p||p xs[n]):=by
 rw[List.take_add_one,List.getElem?_eq_getElem h,List.any_append];simp
theorem S9 {α:Type} {xs:List α} {p:α→Bool} {n:Nat} (h:n<xs.length) (a:p xs[n]=true):xs.any p=true:=List.any_eq_true.2 ⟨_,List.getElem_mem h,a⟩
theorem E5 {α:Type} {xs:List α} {p:α→Bool} {n:Nat} (h: ¬n<xs.length):(xs.take n).any p=xs.any p:=by rw[List.take_of_length_le (by omega)]
end Go.Emb

namespace Go.Hm
open Go.Kd
structure Fld where
  name : X0
  kind : X0
  tr : Bool
deriving DecidableEq
structure Ins where
  op : X0
  n : Int
  s : X0
deriving DecidableEq
structure Cat where
  frm : Int
  to : Int
  at_ : Int
  cls : X0
deriving DecidableEq
structure Met where
  name : X0
  params : List X0
  result : X0
  abs : Bool
  locals : Int
  code : List Ins
  catches : List Cat
deriving DecidableEq
structure Cla where
  name : X0
  super : X0
  like : List X0
  iface : Bool
  abs : Bool
  fin : Bool
  fields : List Fld
  methods : List Hm.Met
deriving DecidableEq
def Fld.zero:Fld:=⟨[],[],false⟩
def Met.zero:Hm.Met:=⟨[],[],[],false,0,[],[]⟩
def Cla.zero:Cla:=⟨[],[],[],false,false,false,[],[]⟩
end Go.Hm

namespace Go.Emb
open Go.RowKit Go.Hm
abbrev Yw (n:Int):Prop:= -9223372036854775808≤n∧n≤9223372036854775807
def S2 (_:Q6) (f:Fld) (cs:List Value):Prop:=cs=[S f.name,S f.kind, .bool f.tr]∧f.name.length≤U1∧f.kind.length≤U1
def Qr (_:Q6) (i:Ins) (cs:List Value):Prop:=cs=[S i.op,I i.n,S i.s]∧i.op.length≤U1∧Yw i.n∧i.s.length≤U1
def Ur (_:Q6) (c:Cat) (cs:List Value):Prop:=cs=[I c.frm,I c.to,I c.at_,S c.cls]∧Yw c.frm∧Yw c.to∧Yw c.at_∧c.cls.length≤U1
def H0 (σ:Q6) (m:Hm.Met) (cs:List Value):Prop:= ∃pv b a,cs=[S m.name,pv,S m.result, .bool m.abs,I m.locals,b,a]∧Sl 1 U8 σ pv m.params∧Sl 3 Qr σ b m.code∧Sl 4 Ur σ a m.catches∧m.name.length≤U1∧m.result.length≤U1∧Yw m.locals
def V0 (σ:Q6) (c:Cla) (cs:List Value):Prop:= ∃b a mv,cs=[S c.name,S c.super,b, .bool c.iface, .bool c.abs, .bool c.fin,a,mv]∧Sl 1 U8 σ b c.like∧Sl 3 S2 σ a c.fields∧Sl 7 H0 σ mv c.methods∧c.name.length≤U1∧c.super.length≤U1
theorem Qa {α:Type} {sz:Nat} {R:Q6→α→List Value→Prop} {σ:Q6} {v:Value} {xs:List α} (h:Sl sz R σ v xs):v.oneCell'=true:=by
 obtain ⟨a,b,rfl,_⟩:=h;rfl
instance:Rep S2:=⟨fun _ h=>h,fun h u hu=>by rw[h.1] at hu;simp at hu;rcases hu with rfl | rfl | rfl<;>rfl⟩
instance:Rep Qr:=⟨fun _ h=>h,fun h u hu=>by rw[h.1] at hu;simp at hu;rcases hu with rfl | rfl | rfl<;>rfl⟩
instance:Rep Ur:=⟨fun _ h=>h,fun h u hu=>by rw[h.1] at hu;simp at hu;rcases hu with rfl | rfl | rfl | rfl<;>rfl⟩
instance:Rep H0:=⟨fun hk ⟨pv,cv,hv,h1,h2,h3,h4,h5⟩=>⟨pv,cv,hv,h1,h2.le hk,h3.le hk,h4.le hk,h5⟩,fun ⟨pv,cv,hv,h1,h2,h3,h4,h5⟩ u hu=>by
 rw[h1] at hu;simp at hu;rcases hu with rfl | rfl | rfl | rfl | rfl | rfl | rfl
 ·rfl
 ·exact Qa h2
 ·rfl
 ·rfl
 ·rfl
 ·exact Qa h3
 ·exact Qa h4⟩
instance:Rep V0:=⟨fun hk ⟨pv,cv,hv,h1,h2,h3,h4,h5⟩=>⟨pv,cv,hv,h1,h2.le hk,h3.le hk,h4.le hk,h5⟩,fun ⟨pv,cv,hv,h1,h2,h3,h4,h5⟩ u hu=>by
 rw[h1] at hu;simp at hu;rcases hu with rfl | rfl | rfl | rfl | rfl | rfl | rfl | rfl
 ·rfl
 ·rfl
 ·exact Qa h2
 ·rfl
 ·rfl
 ·rfl
 ·exact Qa h3
 ·exact Qa h4⟩
end Go.Emb
