/- Parts of a proof about the given program: its functions as texts of their own, what each computes, plain laws of that. The conditions of each stand in its statement. -/
import Derived.Test.YtfppjenblllfaaaGreatDoorB1
import Derived.Below
import Derived.Maps.AppendAt
import Derived.ChangeArms
import Derived.DataReads
import Derived.SizedLaws
set_option linter.unnecessarySimpa false
set_option linter.defProp false
set_option linter.unusedSectionVars false
set_option linter.unusedVariables false
set_option linter.unusedSimpArgs false
set_option maxRecDepth 100000
namespace Go.Proofs.YtfppjenblllfaaaGreatDoor
open Go.Emb
def Ny (w:World) (K:Value→World→Prop):Prop:= buildSlice P T.d 42 [(0,(.string ⟨#[105,110,116]⟩)),(1,(.string ⟨#[116,114,117,101]⟩)),(2,(.string ⟨#[102,97,108,115,101]⟩)),(3,(.string ⟨#[119,111,114,100]⟩)),(4,(.string ⟨#[110,117,108,108]⟩)),(5,(.string ⟨#[108,111,97,100]⟩)),(6,(.string ⟨#[115,116,111,114,101]⟩)),(7,(.string ⟨#[112,111,112]⟩)),(8,(.string ⟨#[100,117,112]⟩)),(9,(.string ⟨#[115,119,97,112]⟩)),(10,(.string ⟨#[97,100,100]⟩)),(11,(.string ⟨#[115,117,98]⟩)),(12,(.string ⟨#[109,117,108]⟩)),(13,(.string ⟨#[100,105,118]⟩)),(14,(.string ⟨#[114,101,109]⟩)),(15,(.string ⟨#[110,101,103]⟩)),(16,(.string ⟨#[108,101,115,115]⟩)),(17,(.string ⟨#[115,97,109,101]⟩)),(18,(.string ⟨#[110,111,116]⟩)),(19,(.string ⟨#[98,111,116,104]⟩)),(20,(.string ⟨#[106,111,105,110]⟩)),(21,(.string ⟨#[115,105,122,101]⟩)),(22,(.string ⟨#[106,117,109,112]⟩)),(23,(.string ⟨#[98,114,97,110,99,104]⟩)),(24,(.string ⟨#[110,101,119]⟩)),(25,(.string ⟨#[103,101,116]⟩)),(26,(.string ⟨#[112,117,116]⟩)),(27,(.string ⟨#[99,97,108,108]⟩)),(28,(.string ⟨#[97,114,114,97,121]⟩)),(29,(.string ⟨#[97,116]⟩)),(30,(.string ⟨#[115,101,116]⟩)),(31,(.string ⟨#[105,115]⟩)),(32,(.string ⟨#[99,97,115,116]⟩)),(33,(.string ⟨#[114,101,116,117,114,110]⟩)),(34,(.string ⟨#[116,104,114,111,119]⟩)),(35,(.string ⟨#[111,117,116]⟩)),(36,(.string ⟨#[101,113,117,97,108]⟩)),(37,(.string ⟨#[97,110,100]⟩)),(38,(.string ⟨#[111,114]⟩)),(39,(.string ⟨#[120,111,114]⟩)),(40,(.string ⟨#[115,104,108]⟩)),(41,(.string ⟨#[115,104,114]⟩))] w fun a w=>K a w
theorem Tt {w:World} {K:Value→World→Prop} (h:Ny w K):Q1 P F.bv [] w K:=X0 (List.replicate 2 none) Tryz.func63 rfl (by decide) (by kernel_rfl) h
def Ct:V4:=[none,none,none,none,some ([4],[2,4,6,7,8,9,10,11,12,13,14,15,16,17,18]),none,none,none,none,none,none]
def Vj (i:Value) (w:World) (K:Value→World→Prop):Prop:= Q1 P F.bv [] w fun g w=>lp (α:=Value) (.int .i64 0) w fun a b k w=>X5 P .len [T.d] T.e [false] [g] w fun h w=>Q4 P .lss T.e (.tmp 6) (.tmp 8) b h w fun j w=>X1 j (indexAddr P T.d g b w fun d w=>Q2 P T.b d w fun f w=>Q4 P .eql T.b (.tmp 15) (.tmp 16) f i w fun c w=>X1 c (K b w) (Q4 P .add T.e (.tmp 10) (.const (.int .i64 1)) b (.int .i64 1) w fun e w=>a e w)) (K (.int .i64 (-1)) w)
theorem Cn {a:Value} {w:World} {K:Value→World→Prop} (h:Vj a w K):Q1 P F.aZ [a] w K:=X0 Ct Tryz.func34 rfl (by decide) (by kernel_rfl) h
def Bd:V4:=[none,none,none,some ([4],[4,5,6,7,8,9]),none,none,none,none,none,some ([10],[10,11,12,13,14,15,16,17,18]),none,none,none,none,none,none,none,none,none,none,none,none]
def Vy (a:Value) (w:World) (K:Value→World→Prop):Prop:= jn (α:=Value) w (fun g w=>Q4 P .eql T.b (.tmp 3) (.const (.string ⟨#[105,110,116]⟩)) a (.string ⟨#[105,110,116]⟩) w fun p w=>X1 p (g p w) (Q4 P .eql T.b (.tmp 3) (.const (.string ⟨#[108,111,97,100]⟩)) a (.string ⟨#[108,111,97,100]⟩) w fun q w=>X1 q (g q w) (Q4 P .eql T.b (.tmp 3) (.const (.string ⟨#[115,116,111,114,101]⟩)) a (.string ⟨#[115,116,111,114,101]⟩) w fun o w=>X1 o (g o w) (Q4 P .eql T.b (.tmp 3) (.const (.string ⟨#[106,117,109,112]⟩)) a (.string ⟨#[106,117,109,112]⟩) w fun n w=>X1 n (g n w) (Q4 P .eql T.b (.tmp 3) (.const (.string ⟨#[98,114,97,110,99,104]⟩)) a (.string ⟨#[98,114,97,110,99,104]⟩) w fun r w=>g r w))))) fun u s w=>X1 u (K (.int .i64 1) w) (jn (α:=Value) w (fun b w=>Q4 P .eql T.b (.tmp 3) (.const (.string ⟨#[119,111,114,100]⟩)) a (.string ⟨#[119,111,114,100]⟩) w fun j w=>X1 j (b j w) (Q4 P .eql T.b (.tmp 3) (.const (.string ⟨#[110,101,119]⟩)) a (.string ⟨#[110,101,119]⟩) w fun i w=>X1 i (b i w) (Q4 P .eql T.b (.tmp 3) (.const (.string ⟨#[103,101,116]⟩)) a (.string ⟨#[103,101,116]⟩) w fun h w=>X1 h (b h w) (Q4 P .eql T.b (.tmp 3) (.const (.string ⟨#[112,117,116]⟩)) a (.string ⟨#[112,117,116]⟩) w fun d w=>X1 d (b d w) (Q4 P .eql T.b (.tmp 3) (.const (.string ⟨#[99,97,108,108]⟩)) a (.string ⟨#[99,97,108,108]⟩) w fun e w=>X1 e (b e w) (Q4 P .eql T.b (.tmp 3) (.const (.string ⟨#[97,114,114,97,121]⟩)) a (.string ⟨#[97,114,114,97,121]⟩) w fun c w=>X1 c (b c w) (Q4 P .eql T.b (.tmp 3) (.const (.string ⟨#[105,115]⟩)) a (.string ⟨#[105,115]⟩) w fun f w=>X1 f (b f w) (Q4 P .eql T.b (.tmp 3) (.const (.string ⟨#[99,97,115,116]⟩)) a (.string ⟨#[99,97,115,116]⟩) w fun l w=>b l w)))))))) fun t s w=>X1 t (K (.int .i64 2) w) (Q1 P F.aZ [a] w fun k w=>Q4 P .lss T.e (.tmp 20) (.const (.int .i64 0)) k (.int .i64 0) w fun m w=>X1 m (K (.int .i64 (-1)) w) (K (.int .i64 0) w)))
theorem Fy {a:Value} {w:World} {K:Value→World→Prop} (h:Vy a w K):Q1 P F.b7 [a] w K:=X0 Bd Tryz.func18 rfl (by decide) (by kernel_rfl) h
def Vr (c l:Value) (w:World) (K:Value→World→Prop):Prop:= X5 P .len [T.b] T.e [false] [c] w fun n w=>Q4 P .lss T.e (.tmp 5) (.tmp 7) l n w fun b w=>Q0 b true w (fun w J=>J c w) fun m w=>Q0 b true w (fun w J=>J l w) fun g w=>Q0 b true w (E0 P T.b m g) fun e w=>Q0 b true w (Q4 P .geq T.w (.tmp 12) (.const (.int .u8 128)) e (.int .u8 128)) fun i w=>pick P b i (.bool false) w fun a w=>Q0 a true w (fun w J=>J c w) fun f w=>Q0 a true w (fun w J=>J l w) fun d w=>Q0 a true w (E0 P T.b f d) fun k w=>Q0 a true w (Q4 P .lss T.w (.tmp 18) (.const (.int .u8 192)) k (.int .u8 192)) fun h w=>pick P a h (.bool false) w fun j w=>K j w
theorem Gg {a b:Value} {w:World} {K:Value→World→Prop} (h:Vr a b w K):Q1 P F.p [a,b] w K:=X0 (List.replicate 2 none) Tryz.func242 rfl (by decide) (by kernel_rfl) h
def Im:V4:=[none,none,some ([],[2,4,5,9,10,11,12,13,14,15,16,17,18,19,20,21,22,23,24,25,26,27,28,29,30,31,32,33,34,35,36,37,38,39,40,41,42,43,44,45,46,47,48,49,50,51,52,53,54,55,56,57,58,59,60,61,62,63,64,65,66,67,68,69,70,71,72,73,74,75,76,77,78,79,80,81,82,83,84,85,86,87,88,89,90,91,92,93,94,95,96,97,98,99,100,101,102,103,104,105,106]),none,none,none,none,none,none,none,none,none,none,none,none,none]
def Lq (c:Value) (w:World) (K:Value→World→Prop):Prop:= E0 P T.b c (.int .i64 0) w fun t7 w=>conv P T.w T.e t7 w fun f w=>jn (α:=Unit) w (fun J2 w=>Q4 P .lss T.e (.tmp 10) (.const (.int .i64 128)) f (.int .i64 128) w fun bk w=>X1 bk (K (.int .i64 1) w) (Q4 P .geq T.e (.tmp 13) (.const (.int .i64 194)) f (.int .i64 194) w fun ai w=>Q0 ai true w (fun w J=>J f w) fun a8 w=>Q0 ai true w (Q4 P .lss T.e (.tmp 16) (.const (.int .i64 224)) a8 (.int .i64 224)) fun bc w=>pick P ai bc (.bool false) w fun al w=>Q0 al true w (fun w J=>J c w) fun br w=>Q0 al true w (Q1 P F.p [br,(.int .i64 1)]) fun bg w=>pick P al bg (.bool false) w fun ba w=>X1 ba (K (.int .i64 2) w) (Q4 P .geq T.e (.tmp 24) (.const (.int .i64 224)) f (.int .i64 224) w fun am w=>Q0 am true w (fun w J=>J f w) fun bp w=>Q0 am true w (Q4 P .lss T.e (.tmp 27) (.const (.int .i64 240)) bp (.int .i64 240)) fun bd w=>pick P am bd (.bool false) w fun aj w=>Q0 aj true w (fun w J=>J c w) fun b0 w=>Q0 aj true w (Q1 P F.p [b0,(.int .i64 1)]) fun bs w=>pick P aj bs (.bool false) w fun ar w=>Q0 ar true w (fun w J=>J c w) fun bw w=>Q0 ar true w (Q1 P F.p [bw,(.int .i64 2)]) fun bn w=>pick P ar bn (.bool false) w fun bl w=>X1 bl (dr w fun a b=>Q7 a (fun Z=> ∀w,b w→Q4 P .rem T.e (.tmp 38) (.const (.int .i64 16)) f (.int .i64 16) w (dk a Z w)) fun Z=>Q7 a (fun h=> ∀aa w,b w→Z aa w→Q4 P .mul T.e (.tmp 39) (.const (.int .i64 4096)) aa (.int .i64 4096) w (dk a h w)) fun h=>Q7 a (fun E=> ∀w,b w→E0 P T.b c (.int .i64 1) w (dk a E w)) fun E=>Q7 a (fun v=> ∀ad w,b w→E ad w→Q4 P .rem T.w (.tmp 42) (.const (.int .u8 64)) ad (.int .u8 64) w (dk a v w)) fun v=>Q7 a (fun H=> ∀w,b w→E0 P T.b c (.int .i64 2) w (dk a H w)) fun H=>Q7 a (fun D=> ∀y w,b w→H y w→Q4 P .rem T.w (.tmp 48) (.const (.int .u8 64)) y (.int .u8 64) w (dk a D w)) fun D=>Q7 a (fun n=> ∀Y w,b w→v Y w→conv P T.w T.e Y w (dk a n w)) fun n=>Q7 a (fun t=> ∀m w,b w→n m w→Q4 P .mul T.e (.tmp 44) (.const (.int .i64 64)) m (.int .i64 64) w (dk a t w)) fun t=>Q7 a (fun ap=> ∀U k w,b w→h U w→t k w→Q4 P .add T.e (.tmp 40) (.tmp 45) U k w (dk a ap w)) fun ap=>Q7 a (fun aw=> ∀z w,b w→D z w→conv P T.w T.e z w (dk a aw w)) fun aw=>∀aa U ad Y y z m k a6 a4 w,b w→Z aa w→h U w→E ad w→v Y w→H y w→D z w→n m w→t k w→ap a6 w→aw a4 w→ Q4 P .add T.e (.tmp 46) (.tmp 50) a6 a4 w fun aq w=>Q4 P .geq T.e (.tmp 52) (.const (.int .i64 2048)) aq (.int .i64 2048) w fun d w=>Q0 d true w (fun w J=>J aq w) fun bf w=>Q0 d true w (Q4 P .lss T.e (.tmp 55) (.const (.int .i64 55296)) bf (.int .i64 55296)) fun bv w=>Q0 d true w (fun w J=>J bv w) fun ak w=>Q0 ak false w (fun w J=>J aq w) fun a7 w=>Q0 ak false w (Q4 P .gtr T.e (.tmp 58) (.const (.int .i64 57343)) a7 (.int .i64 57343)) fun a9 w=>Q0 d true w (pick P ak (.bool true) a9) fun bm w=>pick P d bm (.bool false) w fun bz w=>X1 bz (K (.int .i64 3) w) (J2 () w)) (Q4 P .geq T.e (.tmp 63) (.const (.int .i64 240)) f (.int .i64 240) w fun ax w=>Q0 ax true w (fun w J=>J f w) fun bj w=>Q0 ax true w (Q4 P .lss T.e (.tmp 66) (.const (.int .i64 245)) bj (.int .i64 245)) fun be w=>pick P ax be (.bool false) w fun an w=>Q0 an true w (fun w J=>J c w) fun bo w=>Q0 an true w (Q1 P F.p [bo,(.int .i64 1)]) fun bi w=>pick P an bi (.bool false) w fun ah w=>Q0 ah true w (fun w J=>J c w) fun bb w=>Q0 ah true w (Q1 P F.p [bb,(.int .i64 2)]) fun bq w=>pick P ah bq (.bool false) w fun ao w=>Q0 ao true w (fun w J=>J c w) fun bx w=>Q0 ao true w (Q1 P F.p [bx,(.int .i64 3)]) fun b1 w=>pick P ao b1 (.bool false) w fun bh w=>X1 bh (dr w fun a b=>Q7 a (fun r=> ∀w,b w→Q4 P .rem T.e (.tmp 81) (.const (.int .i64 8)) f (.int .i64 8) w (dk a r w)) fun r=>Q7 a (fun l=> ∀O w,b w→r O w→Q4 P .mul T.e (.tmp 82) (.const (.int .i64 262144)) O (.int .i64 262144) w (dk a l w)) fun l=>Q7 a (fun ae=> ∀w,b w→E0 P T.b c (.int .i64 1) w (dk a ae w)) fun ae=>Q7 a (fun R=> ∀u w,b w→ae u w→Q4 P .rem T.w (.tmp 85) (.const (.int .u8 64)) u (.int .u8 64) w (dk a R w)) fun R=>Q7 a (fun N=> ∀w,b w→E0 P T.b c (.int .i64 2) w (dk a N w)) fun N=>Q7 a (fun s=> ∀o w,b w→N o w→Q4 P .rem T.w (.tmp 91) (.const (.int .u8 64)) o (.int .u8 64) w (dk a s w)) fun s=>Q7 a (fun M=> ∀w,b w→E0 P T.b c (.int .i64 3) w (dk a M w)) fun M=>Q7 a (fun ac=> ∀af w,b w→M af w→Q4 P .rem T.w (.tmp 97) (.const (.int .u8 64)) af (.int .u8 64) w (dk a ac w)) fun ac=>Q7 a (fun ab=> ∀A w,b w→R A w→conv P T.w T.e A w (dk a ab w)) fun ab=>Q7 a (fun X=> ∀C w,b w→ab C w→Q4 P .mul T.e (.tmp 87) (.const (.int .i64 4096)) C (.int .i64 4096) w (dk a X w)) fun X=>Q7 a (fun L=> ∀q j w,b w→l q w→X j w→Q4 P .add T.e (.tmp 83) (.tmp 88) q j w (dk a L w)) fun L=>Q7 a (fun Q=> ∀V w,b w→s V w→conv P T.w T.e V w (dk a Q w)) fun Q=>Q7 a (fun B=> ∀g w,b w→Q g w→Q4 P .mul T.e (.tmp 93) (.const (.int .i64 64)) g (.int .i64 64) w (dk a B w)) fun B=>Q7 a (fun ay=> ∀W i w,b w→L W w→B i w→Q4 P .add T.e (.tmp 89) (.tmp 94) W i w (dk a ay w)) fun ay=>Q7 a (fun av=> ∀p w,b w→ac p w→conv P T.w T.e p w (dk a av w)) fun av=>∀O q u A o V af p C j W g i az a3 w,b w→r O w→l q w→ae u w→R A w→N o w→s V w→M af w→ac p w→ab C w→X j w→L W w→Q g w→B i w→ay az w→av a3 w→ Q4 P .add T.e (.tmp 95) (.tmp 99) az a3 w fun ag w=>Q4 P .geq T.e (.tmp 101) (.const (.int .i64 65536)) ag (.int .i64 65536) w fun e w=>Q0 e true w (fun w J=>J ag w) fun a5 w=>Q0 e true w (Q4 P .leq T.e (.tmp 104) (.const (.int .i64 1114111)) a5 (.int .i64 1114111)) fun a2 w=>pick P e a2 (.bool false) w fun a1 w=>X1 a1 (K (.int .i64 4) w) (J2 () w)) (J2 () w))))) fun z2 d_ w=>K (.int .i64 0) w
theorem Kv {a:Value} {w:World} {K:Value→World→Prop} (h:Lq a w K):Q1 P F.bt [a] w K:=X0 Im Tryz.func240 rfl (by decide) (by kernel_rfl) h
def Ba:V4:=[none,none,some ([0],[0,2,3,4,5,6,7,8,9,10,11,12]),none,none,none,none,none,none,none]
def Wo (e:Value) (w:World) (K:Value→World→Prop):Prop:= lp (α:=Value) e w fun a b h w=>Q4 P .neq T.b (.tmp 4) (.const (.string ⟨#[]⟩)) b (.string ⟨#[]⟩) w fun f w=>X1 f (Q1 P F.bt [b] w fun d w=>Q4 P .eql T.e (.tmp 8) (.const (.int .i64 0)) d (.int .i64 0) w fun g w=>X1 g (K (.bool false) w) (H4 P T.b b (some d) none none w fun c w=>a c w)) (K (.bool true) w)
theorem Bf {a:Value} {w:World} {K:Value→World→Prop} (h:Wo a w K):Q1 P F.bk [a] w K:=X0 Ba Tryz.func232 rfl (by decide) (by kernel_rfl) h
def Gm:V4:=[none,none,none,some ([5],[2,3,4,5,6,7,8,9,10,11,12,13,14,15,16,17,18,19,20,21,22,23,24,25,26,27,28,29,30,31,32,33]),none,none,none,none,none,none]
def Wu (z:Value) (w:World) (K:Value→World→Prop):Prop:= lp (α:=Value) (.int .i64 0) w fun h v N w=>X5 P .len [T.b] T.e [false] [z] w fun L w=>Q4 P .lss T.e (.tmp 6) (.tmp 8) v L w fun M w=>X1 M (E0 P T.b z v w fun D w=>Q4 P .eql T.w (.tmp 14) (.const (.int .u8 46)) D (.int .u8 46) w fun E w=>X1 E (dr w fun b d=>Q7 b (fun u=> ∀w,d w→H4 P T.b z none (some v) none w (dk b u w)) fun u=>Q7 b (fun l=> ∀w,d w→Q4 P .add T.e (.tmp 20) (.const (.int .i64 1)) v (.int .i64 1) w (dk b l w)) fun l=>Q7 b (fun t=> ∀q w,d w→l q w→H4 P T.b z (some q) none none w (dk b t w)) fun t=>Q7 b (fun e=> ∀w,d w→H4 P T.b z none (some v) none w (dk b e w)) fun e=>Q7 b (fun c=> ∀o w,d w→e o w→Q1 P F.e [o] w (dk b c w)) fun c=>Q7 b (fun i=> ∀a w,d w→c a w→Q0 a true w (fun w J=>J z w) (dk b i w)) fun i=>Q7 b (fun p=> ∀a w,d w→c a w→Q0 a true w (fun w J=>J v w) (dk b p w)) fun p=>Q7 b (fun s=> ∀a f w,d w→c a w→p f w→Q0 a true w (Q4 P .add T.e (.tmp 29) (.const (.int .i64 1)) f (.int .i64 1)) (dk b s w)) fun s=>Q7 b (fun g=> ∀a n j w,d w→c a w→i n w→s j w→Q0 a true w (H4 P T.b n (some j) none none) (dk b g w)) fun g=>Q7 b (fun m=> ∀a r w,d w→c a w→g r w→Q0 a true w (Q1 P F.r [r]) (dk b m w)) fun m=>Q7 b (fun y=> ∀a k w,d w→c a w→m k w→pick P a k (.bool false) w (dk b y w)) fun y=>∀C q A o a n f j r k B w,d w→u C w→l q w→t A w→e o w→c a w→i n w→p f w→s j w→g r w→m k w→y B w→ K (.tuple #[C,A,B]) w) (Q4 P .add T.e (.tmp 10) (.const (.int .i64 1)) v (.int .i64 1) w fun H w=>h H w)) (K (.tuple #[(.string ⟨#[]⟩),(.string ⟨#[]⟩),(.bool false)]) w)
theorem Fc {a:Value} {w:World} {K:Value→World→Prop} (h:Wu a w K):Q1 P F.bl [a] w K:=X0 Gm Tryz.func233 rfl (by decide) (by kernel_rfl) h
def Bb:V4:=[none,none,none,none,none,none,some ([4],[4,5,6,7,8,30,31,32,33,34,35,36,37,38,39,40,41,42,43,44,45,46,47,48,49,50,51,52,53,54,55,56,57,58,59,60,61,62,63,64,65,66,67,68,69,70,71,72,73,74,75,76,77,78,79,80,81,82,83,84,85,86,87,88,89,90,91,92,93,94,95,96,97,98,99,100,101,102,103,104,105,106,107,108,109,110]),none,none,none,none,none,some ([4,5],[4,5,59,60,61,62,63,64,65,66,67,68,69,70,71,72,73]),none,none,none,none,some ([82],[82,83,84]),none,none,none,none,none,none,none]
def Wy (a0:Value) (w:World) (K:Value→World→Prop):Prop:= box P T.n a0 w fun d w=>fieldAddr P T.n d 0 w fun t9 w=>Q2 P T.b t9 w fun X w=>Q1 P F.b7 [X] w fun l w=>Q4 P .lss T.e (.tmp 12) (.const (.int .i64 0)) l (.int .i64 0) w fun ad w=>X1 ad (K (.int .i64 40) w) (Q4 P .eql T.e (.tmp 14) (.const (.int .i64 1)) l (.int .i64 1) w fun k w=>Q0 k false w (fieldAddr P T.n d 1) fun V w=>Q0 k false w (Q2 P T.al V) fun W w=>Q0 k false w (Q4 P .eql T.al (.tmp 18) (.const (.int .i64 0)) W (.int .i64 0)) fun ac w=>pick P k (.bool true) ac w fun h w=>Q0 h true w (fun w J=>J l w) fun O w=>Q0 h true w (Q4 P .eql T.e (.tmp 22) (.const (.int .i64 2)) O (.int .i64 2)) fun a2 w=>Q0 h true w (fun w J=>J a2 w) fun i w=>Q0 i false w (fieldAddr P T.n d 2) fun Z w=>Q0 i false w (Q2 P T.b Z) fun B w=>Q0 i false w (Q4 P .eql T.b (.tmp 26) (.const (.string ⟨#[]⟩)) B (.string ⟨#[]⟩)) fun aq w=>Q0 h true w (pick P i (.bool true) aq) fun Y w=>pick P h Y (.bool false) w fun a w=>jn (α:=Value) w (fun n w=>Q4 P .eql T.e (.tmp 30) (.const (.int .i64 2)) l (.int .i64 2) w fun bc w=>X1 bc (fieldAddr P T.n d 0 w fun a3 w=>Q2 P T.b a3 w fun g w=>Q4 P .eql T.b (.tmp 33) (.const (.string ⟨#[119,111,114,100]⟩)) g (.string ⟨#[119,111,114,100]⟩) w fun bd w=>X1 bd (Q0 a true w (fieldAddr P T.n d 2) fun ae w=>Q0 a true w (Q2 P T.b ae) fun ap w=>Q0 a true w (X5 P .len [T.b] T.e [false] [ap]) fun aw w=>Q0 a true w (Q4 P .leq T.e (.tmp 51) (.const (.int .i64 64)) aw (.int .i64 64)) fun a5 w=>pick P a a5 (.bool false) w fun j w=>Q0 j true w (fieldAddr P T.n d 2) fun ab w=>Q0 j true w (Q2 P T.b ab) fun a7 w=>Q0 j true w (Q1 P F.bk [a7]) fun H w=>pick P j H (.bool false) w fun C w=>lp (α:=Value×Value) (C,(.int .i64 0)) w fun f b d_ w=>fieldAddr P T.n d 2 w fun al w=>Q2 P T.b al w fun bb w=>X5 P .len [T.b] T.e [false] [bb] w fun aa w=>Q4 P .lss T.e (.tmp 59) (.tmp 62) b.2 aa w fun N w=>X1 N (Q0 b.1 true w (fieldAddr P T.n d 2) fun ag w=>Q0 b.1 true w (Q2 P T.b ag) fun a1 w=>Q0 b.1 true w (fun w J=>J b.2 w) fun ao w=>Q0 b.1 true w (E0 P T.b a1 ao) fun ai w=>Q0 b.1 true w (Q4 P .neq T.w (.tmp 71) (.const (.int .u8 10)) ai (.int .u8 10)) fun E w=>pick P b.1 E (.bool false) w fun ar w=>Q4 P .add T.e (.tmp 64) (.const (.int .i64 1)) b.2 (.int .i64 1) w fun a6 w=>f (ar,a6) w) (n b.1 w)) (Q4 P .eql T.b (.tmp 33) (.const (.string ⟨#[110,101,119]⟩)) g (.string ⟨#[110,101,119]⟩) w fun av w=>X1 av (Q0 a true w (fieldAddr P T.n d 2) fun a8 w=>Q0 a true w (Q2 P T.b a8) fun be w=>Q0 a true w (Q1 P F.e [be]) fun ah w=>pick P a ah (.bool false) w fun am w=>n am w) (jn (α:=Value) w (fun A w=>Q4 P .eql T.b (.tmp 33) (.const (.string ⟨#[105,115]⟩)) g (.string ⟨#[105,115]⟩) w fun q w=>X1 q (A q w) (Q4 P .eql T.b (.tmp 33) (.const (.string ⟨#[99,97,115,116]⟩)) g (.string ⟨#[99,97,115,116]⟩) w fun af w=>A af w)) fun ba d_ w=>X1 ba (Q0 a true w (fieldAddr P T.n d 2) fun ak w=>Q0 a true w (Q2 P T.b ak) fun M w=>Q0 a true w (Q1 P F.i [M]) fun az w=>pick P a az (.bool false) w fun e w=>Q0 e true w (fieldAddr P T.n d 2) fun ay w=>Q0 e true w (Q2 P T.b ay) fun D w=>Q0 e true w (Q1 P F.t [D]) fun L w=>Q0 e true w (Z8 P .not L) fun Q w=>pick P e Q (.bool false) w fun aj w=>n aj w) (Q4 P .eql T.b (.tmp 33) (.const (.string ⟨#[97,114,114,97,121]⟩)) g (.string ⟨#[97,114,114,97,121]⟩) w fun U w=>X1 U (Q0 a true w (fieldAddr P T.n d 2) fun t w=>Q0 a true w (Q2 P T.b t) fun z w=>Q0 a true w (Q1 P F.i [z]) fun u w=>pick P a u (.bool false) w fun c w=>Q0 c true w (fieldAddr P T.n d 2) fun r w=>Q0 c true w (Q2 P T.b r) fun v w=>Q0 c true w (Q1 P F.an [v]) fun y w=>Q0 c true w (Q4 P .lss T.e (.tmp 108) (.const (.int .i64 3)) y (.int .i64 3)) fun p w=>pick P c p (.bool false) w fun s w=>n s w) (fieldAddr P T.n d 2 w fun a9 w=>Q2 P T.b a9 w fun an w=>Q1 P F.bl [an] w fun m w=>ext P m 0 w fun bk w=>ext P m 1 w fun bj w=>ext P m 2 w fun ax w=>Q0 a true w (fun w J=>J ax w) fun a4 w=>pick P a a4 (.bool false) w fun R w=>n R w))))) (n a w)) fun z6 d_ w=>Z8 P .not z6 w fun o w=>X1 o (K (.int .i64 41) w) (K (.int .i64 0) w))
theorem Bn {a:Value} {w:World} {K:Value→World→Prop} (h:Wy a w K):Q1 P F.bj [a] w K:=X0 Bb Tryz.func221 rfl (by decide) (by kernel_rfl) h
def Pf:V4:=[none,none,none,some ([3],[2,3,4,5,6,7,8,9,10,11,12,13,14,15,16,17,18]),none,none,none,none,none,none,none]
def Nq (h:Value) (w:World) (K:Value→World→Prop):Prop:= lp (α:=Value) (.int .i64 0) w fun a e k w=>X5 P .len [T.l] T.e [false] [h] w fun j w=>Q4 P .lss T.e (.tmp 5) (.tmp 7) e j w fun i w=>X1 i (indexAddr P T.l h e w fun f w=>Q2 P T.n f w fun d w=>Q1 P F.bj [d] w fun b w=>Q4 P .neq T.r (.tmp 16) (.const (.int .i64 0)) b (.int .i64 0) w fun c w=>X1 c (K b w) (Q4 P .add T.e (.tmp 9) (.const (.int .i64 1)) e (.int .i64 1) w fun g w=>a g w)) (K (.int .i64 0) w)
theorem Pl {a:Value} {w:World} {K:Value→World→Prop} (h:Nq a w K):Q1 P F.aS [a] w K:=X0 Pf Tryz.func205 rfl (by decide) (by kernel_rfl) h
def Cc:V4:=[none,none,none,none,some ([3,4],[3,4,21,22,23,24,25,26,27,28,29,30,31,32,33,34,35,36]),none,none,none,none,none,none,none,none,none,some ([3,6],[3,6,7,60,61,62,63,64,65,66,67,68,69,70,71,72,73,74,75,76,77,78,79,80,81,82,83,84,85,86,87,88,89,90,91,92,93,94,95,96,97,98,99,100,101,102,103,104,105,106]),none,none,none,none,none]
def Vf (a0:Value) (w:World) (K:Value→World→Prop):Prop:= box P T.c a0 w fun d w=>fieldAddr P T.c d 0 w fun t8 w=>Q2 P T.b t8 w fun t9 w=>Q1 P F.r [t9] w fun g w=>Q0 g true w (fieldAddr P T.c d 2) fun bx w=>Q0 g true w (Q2 P T.b bx) fun aw w=>Q0 g true w (Q4 P .eql T.b (.tmp 13) (.const (.string ⟨#[]⟩)) aw (.string ⟨#[]⟩)) fun Y w=>Q0 g true w (fun w J=>J Y w) fun o w=>Q0 o false w (fieldAddr P T.c d 2) fun X w=>Q0 o false w (Q2 P T.b X) fun ak w=>Q0 o false w (Q1 P F.i [ak]) fun al w=>Q0 g true w (pick P o (.bool true) al) fun av w=>pick P g av (.bool false) w fun bi w=>lp (α:=Value×Value) (bi,(.int .i64 0)) w fun p e d_ w=>fieldAddr P T.c d 1 w fun af w=>Q2 P T.d af w fun bk w=>X5 P .len [T.d] T.e [false] [bk] w fun ab w=>Q4 P .lss T.e (.tmp 21) (.tmp 24) e.2 ab w fun an w=>X1 an (Q0 e.1 true w (fieldAddr P T.c d 1) fun bj w=>Q0 e.1 true w (Q2 P T.d bj) fun bs w=>Q0 e.1 true w (fun w J=>J e.2 w) fun bl w=>Q0 e.1 true w (indexAddr P T.d bs bl) fun bf w=>Q0 e.1 true w (Q2 P T.b bf) fun ba w=>Q0 e.1 true w (Q1 P F.i [ba]) fun bq w=>pick P e.1 bq (.bool false) w fun a8 w=>Q4 P .add T.e (.tmp 26) (.const (.int .i64 1)) e.2 (.int .i64 1) w fun bc w=>p (a8,bc) w) (fieldAddr P T.c d 3 w fun a6 w=>Q2 P T.m a6 w fun bv w=>X1 bv (Q0 e.1 true w (fieldAddr P T.c d 4) fun ao w=>Q0 e.1 true w (Q2 P T.e ao) fun bz w=>Q0 e.1 true w (Q4 P .eql T.e (.tmp 42) (.const (.int .i64 0)) bz (.int .i64 0)) fun bm w=>pick P e.1 bm (.bool false) w fun k w=>Q0 k true w (fieldAddr P T.c d 5) fun bu w=>Q0 k true w (Q2 P T.l bu) fun U w=>Q0 k true w (X5 P .len [T.l] T.e [false] [U]) fun aq w=>Q0 k true w (Q4 P .eql T.e (.tmp 48) (.const (.int .i64 0)) aq (.int .i64 0)) fun ax w=>pick P k ax (.bool false) w fun m w=>Q0 m true w (fieldAddr P T.c d 6) fun bn w=>Q0 m true w (Q2 P T.o bn) fun ae w=>Q0 m true w (X5 P .len [T.o] T.e [false] [ae]) fun ag w=>Q0 m true w (Q4 P .eql T.e (.tmp 54) (.const (.int .i64 0)) ag (.int .i64 0)) fun ar w=>pick P m ar (.bool false) w fun bp w=>K bp w) (fieldAddr P T.c d 5 w fun Z w=>Q2 P T.l Z w fun V w=>X5 P .len [T.l] T.e [false] [V] w fun r w=>lp (α:=Value×Value) (e.1,(.int .i64 0)) w fun i b d_ w=>fieldAddr P T.c d 6 w fun br w=>Q2 P T.o br w fun ap w=>X5 P .len [T.o] T.e [false] [ap] w fun ad w=>Q4 P .lss T.e (.tmp 60) (.tmp 63) b.2 ad w fun bo w=>X1 bo (fieldAddr P T.c d 6 w fun am w=>Q2 P T.o am w fun az w=>indexAddr P T.o az b.2 w fun bb w=>Q2 P T.p bb w fun a3 w=>W6 P T.p w fun q w=>Z4 P T.p q a3 w fun _u w=>Q0 b.1 true w (fieldAddr P T.p q 0) fun ah w=>Q0 b.1 true w (Q2 P T.e ah) fun be w=>Q0 b.1 true w (Q4 P .geq T.e (.tmp 75) (.const (.int .i64 0)) be (.int .i64 0)) fun a2 w=>pick P b.1 a2 (.bool false) w fun h w=>Q0 h true w (fieldAddr P T.p q 0) fun bw w=>Q0 h true w (Q2 P T.e bw) fun a1 w=>Q0 h true w (fieldAddr P T.p q 1) fun a7 w=>Q0 h true w (Q2 P T.e a7) fun bd w=>Q0 h true w (Q4 P .lss T.e (.tmp 80) (.tmp 82) a1 bd) fun aj w=>pick P h aj (.bool false) w fun l w=>Q0 l true w (fieldAddr P T.p q 1) fun ay w=>Q0 l true w (Q2 P T.e ay) fun a4 w=>Q0 l true w (fun w J=>J r w) fun ac w=>Q0 l true w (Q4 P .leq T.e (.tmp 87) (.tmp 88) a4 ac) fun bh w=>pick P l bh (.bool false) w fun n w=>Q0 n true w (fieldAddr P T.p q 2) fun bg w=>Q0 n true w (Q2 P T.e bg) fun W w=>Q0 n true w (Q4 P .geq T.e (.tmp 93) (.const (.int .i64 0)) W (.int .i64 0)) fun aa w=>pick P n aa (.bool false) w fun j w=>Q0 j true w (fieldAddr P T.p q 2) fun b0 w=>Q0 j true w (Q2 P T.e b0) fun ai w=>Q0 j true w (fun w J=>J r w) fun a9 w=>Q0 j true w (Q4 P .lss T.e (.tmp 98) (.tmp 99) ai a9) fun R w=>pick P j R (.bool false) w fun f w=>Q0 f true w (fieldAddr P T.p q 3) fun H w=>Q0 f true w (Q2 P T.b H) fun E w=>Q0 f true w (Q1 P F.e [E]) fun A w=>pick P f A (.bool false) w fun v w=>Q4 P .add T.e (.tmp 65) (.const (.int .i64 1)) b.2 (.int .i64 1) w fun a5 w=>i (v,a5) w) (Q0 b.1 true w (fun w J=>J r w) fun u w=>Q0 b.1 true w (Q4 P .gtr T.e (.tmp 109) (.const (.int .i64 0)) u (.int .i64 0)) fun y w=>pick P b.1 y (.bool false) w fun a w=>Q0 a true w (fieldAddr P T.c d 4) fun t w=>Q0 a true w (Q2 P T.e t) fun s w=>Q0 a true w (fieldAddr P T.c d 1) fun B w=>Q0 a true w (Q2 P T.d B) fun Q w=>Q0 a true w (X5 P .len [T.d] T.e [false] [Q]) fun O w=>Q0 a true w (Q4 P .gtr T.e (.tmp 114) (.tmp 117) s O) fun C w=>pick P a C (.bool false) w fun c w=>Q0 c true w (fieldAddr P T.c d 5) fun D w=>Q0 c true w (Q2 P T.l D) fun z w=>Q0 c true w (Q1 P F.aS [z]) fun L w=>Q0 c true w (Q4 P .eql T.r (.tmp 123) (.const (.int .i64 0)) L (.int .i64 0)) fun N w=>pick P c N (.bool false) w fun M w=>K M w)))
theorem Cv {a:Value} {w:World} {K:Value→World→Prop} (h:Vf a w K):Q1 P F.x [a] w K:=X0 Cc Tryz.func172 rfl (by decide) (by kernel_rfl) h
def Fs:V4:=[none,none,none,none,some ([3,4],[3,4,5,26,27,28,29,30,31,32,33,34,35,36,37,38,39,40,41,42,43,44,45,46,47,48,49,50,51,52,53,54,55,56,57,58,59,60,61,62,63,64,65,66,67,68,69,70]),none,none,none,none,none,some ([3,5],[3,5,52,53,54,55,56,57,58,59,60,61,62,63,64,65,66,67,68,69,70]),none,none,none,none,none,some ([3,6],[3,6,7,71,72,73,74,75,76,77,78,79,80,81,82,83,84,85,86,87,88,89,90,91,92,93,94,95,96,97,98,99,100,101,102,103,104,105,106,107,108,109,110,111,112,113,114,115,116,117,118,119,120,121,122]),none,none,none,none,none,some ([3,7],[3,7,102,103,104,105,106,107,108,109,110,111,112,113,114,115,116,117,118,119,120,121,122]),none,none,none,none,none,some ([3,8],[3,8,9,10,123,124,125,126,127,128,129,130,131,132,133,134,135,136,137,138,139,140,141,142,143,144,145,146,147,148,149,150,151,152,153,154,155,156,157,158,159,160,161,162,163,164,165,166,167,168,169,170,171,172,173,174]),none,none,none,none,none,none,some ([3,10],[3,10,158,159,160,161,162,163,164,165,166,167,168,169,170,171,172,173,174]),none,none,none,none]
def Vs (a0:Value) (w:World) (K:Value→World→Prop):Prop:= box P T.a a0 w fun i w=>fieldAddr P T.a i 0 w fun ez w=>Q2 P T.b ez w fun e9 w=>Q1 P F.e [e9] w fun ba w=>Q0 ba true w (fieldAddr P T.a i 1) fun d5 w=>Q0 ba true w (Q2 P T.b d5) fun d1 w=>Q0 ba true w (Q1 P F.e [d1]) fun d6 w=>pick P ba d6 (.bool false) w fun ah w=>Q0 ah true w (fieldAddr P T.a i 0) fun e5 w=>Q0 ah true w (Q2 P T.b e5) fun ew w=>Q0 ah true w (fieldAddr P T.a i 1) fun eo w=>Q0 ah true w (Q2 P T.b eo) fun ef w=>Q0 ah true w (Q4 P .neq T.b (.tmp 21) (.tmp 23) ew ef) fun em w=>pick P ah em (.bool false) w fun eu w=>lp (α:=Value×Value) (eu,(.int .i64 0)) w fun bl U d_ w=>fieldAddr P T.a i 2 w fun ea w=>Q2 P T.d ea w fun et w=>X5 P .len [T.d] T.e [false] [et] w fun d2 w=>Q4 P .lss T.e (.tmp 26) (.tmp 29) U.2 d2 w fun e6 w=>X1 e6 (dr w fun a b=>Q7 a (fun bn=> ∀w,b w→Q0 U.1 true w (fieldAddr P T.a i 2) (dk a bn w)) fun bn=>Q7 a (fun a2=> ∀w,b w→Q0 U.1 true w (fun w J=>J U.2 w) (dk a a2 w)) fun a2=>Q7 a (fun b4=> ∀b1 w,b w→bn b1 w→Q0 U.1 true w (Q2 P T.d b1) (dk a b4 w)) fun b4=>Q7 a (fun a3=> ∀bd bv w,b w→b4 bd w→a2 bv w→Q0 U.1 true w (indexAddr P T.d bd bv) (dk a a3 w)) fun a3=>Q7 a (fun bi=> ∀b3 w,b w→a3 b3 w→Q0 U.1 true w (Q2 P T.b b3) (dk a bi w)) fun bi=>Q7 a (fun ax=> ∀b0 w,b w→bi b0 w→Q0 U.1 true w (Q1 P F.e [b0]) (dk a ax w)) fun ax=>Q7 a (fun j=> ∀bz w,b w→ax bz w→pick P U.1 bz (.bool false) w (dk a j w)) fun j=>Q7 a (fun a6=> ∀c w,b w→j c w→Q0 c true w (fieldAddr P T.a i 2) (dk a a6 w)) fun a6=>Q7 a (fun bs=> ∀c w,b w→j c w→Q0 c true w (fun w J=>J U.2 w) (dk a bs w)) fun bs=>Q7 a (fun bf=> ∀c w,b w→j c w→Q0 c true w (fieldAddr P T.a i 0) (dk a bf w)) fun bf=>Q7 a (fun bq=> ∀c bg w,b w→j c w→a6 bg w→Q0 c true w (Q2 P T.d bg) (dk a bq w)) fun bq=>Q7 a (fun be=> ∀c bp bo w,b w→j c w→bq bp w→bs bo w→Q0 c true w (indexAddr P T.d bp bo) (dk a be w)) fun be=>Q7 a (fun ca=> ∀c b2 w,b w→j c w→be b2 w→Q0 c true w (Q2 P T.b b2) (dk a ca w)) fun ca=>Q7 a (fun b9=> ∀c a8 w,b w→j c w→bf a8 w→Q0 c true w (Q2 P T.b a8) (dk a b9 w)) fun b9=>∀b1 bv bd b3 b0 bz c bg bo a8 bp b2 c5 ck w,b w→bn b1 w→a2 bv w→b4 bd w→a3 b3 w→bi b0 w→ax bz w→j c w→a6 bg w→bs bo w→bf a8 w→bq bp w→be b2 w→ca c5 w→b9 ck w→ Q0 c true w (Q4 P .neq T.b (.tmp 47) (.tmp 49) c5 ck) fun e2 w=>pick P c e2 (.bool false) w fun ed w=>lp (α:=Value×Value) (ed,(.int .i64 0)) w fun av e d_ w=>Q4 P .lss T.e (.tmp 52) (.tmp 53) e.2 U.2 w fun ep w=>X1 ep (dr w fun a b=>Q7 a (fun bm=> ∀w,b w→Q0 e.1 true w (fieldAddr P T.a i 2) (dk a bm w)) fun bm=>Q7 a (fun bx=> ∀w,b w→Q0 e.1 true w (fun w J=>J e.2 w) (dk a bx w)) fun bx=>Q7 a (fun a1=> ∀w,b w→Q0 e.1 true w (fieldAddr P T.a i 2) (dk a a1 w)) fun a1=>Q7 a (fun bw=> ∀w,b w→Q0 e.1 true w (fun w J=>J U.2 w) (dk a bw w)) fun bw=>Q7 a (fun a4=> ∀ay w,b w→bm ay w→Q0 e.1 true w (Q2 P T.d ay) (dk a a4 w)) fun a4=>Q7 a (fun br=> ∀bc bk w,b w→a4 bc w→bx bk w→Q0 e.1 true w (indexAddr P T.d bc bk) (dk a br w)) fun br=>Q7 a (fun cb=> ∀a7 w,b w→br a7 w→Q0 e.1 true w (Q2 P T.b a7) (dk a cb w)) fun cb=>Q7 a (fun a9=> ∀bj w,b w→a1 bj w→Q0 e.1 true w (Q2 P T.d bj) (dk a a9 w)) fun a9=>Q7 a (fun az=> ∀bh bu w,b w→a9 bh w→bw bu w→Q0 e.1 true w (indexAddr P T.d bh bu) (dk a az w)) fun az=>Q7 a (fun cc=> ∀a5 w,b w→az a5 w→Q0 e.1 true w (Q2 P T.b a5) (dk a cc w)) fun cc=>∀ay bk bj bu bc a7 cg bh a5 cl w,b w→bm ay w→bx bk w→a1 bj w→bw bu w→a4 bc w→br a7 w→cb cg w→a9 bh w→az a5 w→cc cl w→ Q0 e.1 true w (Q4 P .neq T.b (.tmp 63) (.tmp 68) cg cl) fun e7 w=>pick P e.1 e7 (.bool false) w fun d9 w=>Q4 P .add T.e (.tmp 55) (.const (.int .i64 1)) e.2 (.int .i64 1) w fun e8 w=>av (d9,e8) w) (Q4 P .add T.e (.tmp 31) (.const (.int .i64 1)) U.2 (.int .i64 1) w fun eg w=>bl (e.1,eg) w)) (lp (α:=Value×Value) (U.1,(.int .i64 0)) w fun ai f d_ w=>fieldAddr P T.a i 6 w fun ej w=>Q2 P T.i ej w fun e3 w=>X5 P .len [T.i] T.e [false] [e3] w fun eq w=>Q4 P .lss T.e (.tmp 71) (.tmp 74) f.2 eq w fun ec w=>X1 ec (Q0 f.1 true w (fieldAddr P T.a i 6) fun ey w=>Q0 f.1 true w (Q2 P T.i ey) fun e0 w=>Q0 f.1 true w (fun w J=>J f.2 w) fun eb w=>Q0 f.1 true w (indexAddr P T.i e0 eb) fun es w=>Q0 f.1 true w (fieldAddr P T.k es 0) fun d8 w=>Q0 f.1 true w (Q2 P T.b d8) fun d7 w=>Q0 f.1 true w (Q1 P F.r [d7]) fun ex w=>pick P f.1 ex (.bool false) w fun o w=>Q0 o true w (fieldAddr P T.a i 6) fun ee w=>Q0 o true w (Q2 P T.i ee) fun ek w=>Q0 o true w (fun w J=>J f.2 w) fun er w=>Q0 o true w (indexAddr P T.i ek er) fun e4 w=>Q0 o true w (fieldAddr P T.k e4 1) fun ei w=>Q0 o true w (Q2 P T.b ei) fun el w=>Q0 o true w (Q1 P F.i [el]) fun d3 w=>pick P o d3 (.bool false) w fun bb w=>Q0 bb true w (fieldAddr P T.a i 3) fun d4 w=>Q0 bb true w (Q2 P T.m d4) fun e1 w=>Q0 bb true w (Z8 P .not e1) fun d0 w=>pick P bb d0 (.bool false) w fun cs w=>lp (α:=Value×Value) (cs,(.int .i64 0)) w fun al d d_ w=>Q4 P .lss T.e (.tmp 102) (.tmp 103) d.2 f.2 w fun ds w=>X1 ds (dr w fun a b=>Q7 a (fun ae=> ∀w,b w→Q0 d.1 true w (fieldAddr P T.a i 6) (dk a ae w)) fun ae=>Q7 a (fun Z=> ∀w,b w→Q0 d.1 true w (fun w J=>J d.2 w) (dk a Z w)) fun Z=>Q7 a (fun aa=> ∀w,b w→Q0 d.1 true w (fieldAddr P T.a i 6) (dk a aa w)) fun aa=>Q7 a (fun C=> ∀w,b w→Q0 d.1 true w (fun w J=>J f.2 w) (dk a C w)) fun C=>Q7 a (fun p=> ∀s w,b w→ae s w→Q0 d.1 true w (Q2 P T.i s) (dk a p w)) fun p=>Q7 a (fun W=> ∀v E w,b w→p v w→Z E w→Q0 d.1 true w (indexAddr P T.i v E) (dk a W w)) fun W=>Q7 a (fun af=> ∀V w,b w→W V w→Q0 d.1 true w (fieldAddr P T.k V 0) (dk a af w)) fun af=>Q7 a (fun aw=> ∀r w,b w→af r w→Q0 d.1 true w (Q2 P T.b r) (dk a aw w)) fun aw=>Q7 a (fun D=> ∀ab w,b w→aa ab w→Q0 d.1 true w (Q2 P T.i ab) (dk a D w)) fun D=>Q7 a (fun Y=> ∀R O w,b w→D R w→C O w→Q0 d.1 true w (indexAddr P T.i R O) (dk a Y w)) fun Y=>Q7 a (fun M=> ∀ac w,b w→Y ac w→Q0 d.1 true w (fieldAddr P T.k ac 0) (dk a M w)) fun M=>Q7 a (fun am=> ∀H w,b w→M H w→Q0 d.1 true w (Q2 P T.b H) (dk a am w)) fun am=>∀s E ab O v V r b5 R ac H b7 w,b w→ae s w→Z E w→aa ab w→C O w→p v w→W V w→af r w→aw b5 w→D R w→Y ac w→M H w→am b7 w→ Q0 d.1 true w (Q4 P .neq T.b (.tmp 114) (.tmp 120) b5 b7) fun ct w=>pick P d.1 ct (.bool false) w fun ci w=>Q4 P .add T.e (.tmp 105) (.const (.int .i64 1)) d.2 (.int .i64 1) w fun dc w=>al (ci,dc) w) (Q4 P .add T.e (.tmp 76) (.const (.int .i64 1)) f.2 (.int .i64 1) w fun eh w=>ai (d.1,eh) w)) (lp (α:=Value×Value) (f.1,(.int .i64 0)) w fun ak h d_ w=>fieldAddr P T.a i 7 w fun c0 w=>Q2 P T.g c0 w fun dt w=>X5 P .len [T.g] T.e [false] [dt] w fun c1 w=>Q4 P .lss T.e (.tmp 123) (.tmp 126) h.2 c1 w fun cm w=>X1 cm (fieldAddr P T.a i 7 w fun c8 w=>Q2 P T.g c8 w fun dl w=>indexAddr P T.g dl h.2 w fun dg w=>Q2 P T.c dg w fun cf w=>W6 P T.c w fun t9 w=>Z4 P T.c t9 cf w fun _u w=>Q0 h.1 true w (Q2 P T.c t9) fun cp w=>Q0 h.1 true w (Q1 P F.x [cp]) fun dw w=>pick P h.1 dw (.bool false) w fun k w=>Q0 k true w (fieldAddr P T.c t9 3) fun cj w=>Q0 k true w (Q2 P T.m cj) fun c7 w=>Q0 k true w (Z8 P .not c7) fun cx w=>Q0 k true w (fun w J=>J cx w) fun ar w=>Q0 ar false w (fieldAddr P T.a i 4) fun dv w=>Q0 ar false w (Q2 P T.m dv) fun cn w=>Q0 k true w (pick P ar (.bool true) cn) fun df w=>pick P k df (.bool false) w fun l w=>Q0 l true w (fieldAddr P T.a i 3) fun cw w=>Q0 l true w (Q2 P T.m cw) fun cq w=>Q0 l true w (Z8 P .not cq) fun dj w=>Q0 l true w (fun w J=>J dj w) fun aj w=>Q0 aj false w (fieldAddr P T.c t9 3) fun dn w=>Q0 aj false w (Q2 P T.m dn) fun du w=>Q0 l true w (pick P aj (.bool true) du) fun c3 w=>pick P l c3 (.bool false) w fun cz w=>lp (α:=Value×Value) (cz,(.int .i64 0)) w fun an g d_ w=>Q4 P .lss T.e (.tmp 158) (.tmp 159) g.2 h.2 w fun c4 w=>X1 c4 (dr w fun a b=>Q7 a (fun z=> ∀w,b w→Q0 g.1 true w (fieldAddr P T.a i 7) (dk a z w)) fun z=>Q7 a (fun q=> ∀w,b w→Q0 g.1 true w (fun w J=>J g.2 w) (dk a q w)) fun q=>Q7 a (fun ad=> ∀w,b w→Q0 g.1 true w (fieldAddr P T.c t9 0) (dk a ad w)) fun ad=>Q7 a (fun L=> ∀N w,b w→z N w→Q0 g.1 true w (Q2 P T.g N) (dk a L w)) fun L=>Q7 a (fun A=> ∀B u w,b w→L B w→q u w→Q0 g.1 true w (indexAddr P T.g B u) (dk a A w)) fun A=>Q7 a (fun t=> ∀y w,b w→A y w→Q0 g.1 true w (fieldAddr P T.c y 0) (dk a t w)) fun t=>Q7 a (fun aq=> ∀X w,b w→t X w→Q0 g.1 true w (Q2 P T.b X) (dk a aq w)) fun aq=>Q7 a (fun ap=> ∀Q w,b w→ad Q w→Q0 g.1 true w (Q2 P T.b Q) (dk a ap w)) fun ap=>∀N u Q B y X b6 b8 w,b w→z N w→q u w→ad Q w→L B w→A y w→t X w→aq b6 w→ap b8 w→ Q0 g.1 true w (Q4 P .neq T.b (.tmp 170) (.tmp 172) b6 b8) fun c2 w=>pick P g.1 c2 (.bool false) w fun dx w=>Q4 P .add T.e (.tmp 161) (.const (.int .i64 1)) g.2 (.int .i64 1) w fun dd w=>an (dx,dd) w) (Q4 P .add T.e (.tmp 128) (.const (.int .i64 1)) h.2 (.int .i64 1) w fun c6 w=>ak (g.1,c6) w)) (Q0 h.1 true w (fieldAddr P T.a i 3) fun db w=>Q0 h.1 true w (Q2 P T.m db) fun cd w=>Q0 h.1 true w (Z8 P .not cd) fun c9 w=>Q0 h.1 true w (fun w J=>J c9 w) fun n w=>Q0 n false w (fieldAddr P T.a i 4) fun dy w=>Q0 n false w (Q2 P T.m dy) fun cv w=>Q0 n false w (fun w J=>J cv w) fun ag w=>Q0 ag true w (fieldAddr P T.a i 1) fun dm w=>Q0 ag true w (Q2 P T.b dm) fun co w=>Q0 ag true w (Q4 P .eql T.b (.tmp 185) (.const (.string ⟨#[79,98,106,101,99,116]⟩)) co (.string ⟨#[79,98,106,101,99,116]⟩)) fun ch w=>Q0 n false w (pick P ag ch (.bool false)) fun cr w=>Q0 h.1 true w (pick P n (.bool true) cr) fun de w=>pick P h.1 de (.bool false) w fun m w=>Q0 m true w (fieldAddr P T.a i 4) fun cu w=>Q0 m true w (Q2 P T.m cu) fun di w=>Q0 m true w (fun w J=>J di w) fun ao w=>Q0 ao true w (fieldAddr P T.a i 5) fun ce w=>Q0 ao true w (Q2 P T.m ce) fun dz w=>Q0 m true w (pick P ao dz (.bool false)) fun dh w=>Q0 m true w (Z8 P .not dh) fun dp w=>pick P m dp (.bool false) w fun dq w=>K dq w)))
theorem Bj {a:Value} {w:World} {K:Value→World→Prop} (h:Vs a w K):Q1 P F.be [a] w K:=X0 Fs Tryz.func113 rfl (by decide) (by kernel_rfl) h
def Vz (c:Value) (w:World) (K:Value→World→Prop):Prop:= box P T.a c w fun a w=>Q2 P T.a a w fun d w=>Q1 P F.bo [d] w fun b w=>X1 b (K (.int .i64 51) w) (Q2 P T.a a w fun f w=>Q1 P F.be [f] w fun e w=>Z8 P .not e w fun g w=>X1 g (K (.int .i64 50) w) (K (.int .i64 0) w))
theorem Fa {a:Value} {w:World} {K:Value→World→Prop} (h:Vz a w K):Q1 P F.bb [a] w K:=X0 (List.replicate 8 none) Tryz.func53 rfl (by decide) (by kernel_rfl) h
def Kj:V4:=[none,none,none,some ([5],[4,5,6,7,8,9,10,11,12,13,14,15,16,17,18,19]),none,none,none,none,none,none]
def Lv (h j:Value) (w:World) (K:Value→World→Prop):Prop:= lp (α:=Value) (.int .i64 0) w fun a b l w=>X5 P .len [T.h] T.e [false] [h] w fun i w=>Q4 P .lss T.e (.tmp 6) (.tmp 8) b i w fun k w=>X1 k (indexAddr P T.h h b w fun d w=>fieldAddr P T.a d 0 w fun g w=>Q2 P T.b g w fun c w=>Q4 P .eql T.b (.tmp 16) (.tmp 17) c j w fun e w=>X1 e (K b w) (Q4 P .add T.e (.tmp 10) (.const (.int .i64 1)) b (.int .i64 1) w fun f w=>a f w)) (K (.int .i64 (-1)) w)
theorem Kp {a b:Value} {w:World} {K:Value→World→Prop} (h:Lv a b w K):Q1 P F.c [a,b] w K:=X0 Kj Tryz.func54 rfl (by decide) (by kernel_rfl) h
def Sz:V4:=[none,none,none,none,none,none,none,some ([6],[4,6,7,28,29,30,31,32,33,34,35,36,37,38,39,40,41,42,43,44,45,46,47,48,49,50,51]),none,none,none,none,none,none,none]
def Vh (g W:Value) (w:World) (K:Value→World→Prop):Prop:= box P T.a W w fun a w=>fieldAddr P T.a a 1 w fun V w=>Q2 P T.b V w fun A w=>Q1 P F.c [g,A] w fun f w=>Q4 P .lss T.e (.tmp 12) (.const (.int .i64 0)) f (.int .i64 0) w fun d w=>Q0 d false w (fun w J=>J g w) fun u w=>Q0 d false w (fun w J=>J f w) fun l w=>Q0 d false w (indexAddr P T.h u l) fun z w=>Q0 d false w (fieldAddr P T.a z 3) fun y w=>Q0 d false w (Q2 P T.m y) fun M w=>pick P d (.bool true) M w fun c w=>Q0 c false w (fun w J=>J g w) fun r w=>Q0 c false w (fun w J=>J f w) fun B w=>Q0 c false w (indexAddr P T.h r B) fun o w=>Q0 c false w (fieldAddr P T.a o 5) fun D w=>Q0 c false w (Q2 P T.m D) fun i w=>pick P c (.bool true) i w fun q w=>X1 q (K (.int .i64 61) w) (lp (α:=Value) (.int .i64 0) w fun e H X w=>fieldAddr P T.a a 2 w fun m w=>Q2 P T.d m w fun v w=>X5 P .len [T.d] T.e [false] [v] w fun O w=>Q4 P .lss T.e (.tmp 28) (.tmp 31) H O w fun C w=>X1 C (fieldAddr P T.a a 2 w fun U w=>Q2 P T.d U w fun R w=>indexAddr P T.d R H w fun E w=>Q2 P T.b E w fun t w=>Q1 P F.c [g,t] w fun h w=>Q4 P .lss T.e (.tmp 42) (.const (.int .i64 0)) h (.int .i64 0) w fun b w=>Q0 b false w (fun w J=>J g w) fun p w=>Q0 b false w (fun w J=>J h w) fun Q w=>Q0 b false w (indexAddr P T.h p Q) fun j w=>Q0 b false w (fieldAddr P T.a j 3) fun L w=>Q0 b false w (Q2 P T.m L) fun N w=>Q0 b false w (Z8 P .not N) fun n w=>pick P b (.bool true) n w fun s w=>X1 s (K (.int .i64 62) w) (Q4 P .add T.e (.tmp 33) (.const (.int .i64 1)) H (.int .i64 1) w fun k w=>e k w)) (K (.int .i64 0) w))
theorem Co {a b:Value} {w:World} {K:Value→World→Prop} (h:Vh a b w K):Q1 P F.b1 [a,b] w K:=X0 Sz Tryz.func55 rfl (by decide) (by kernel_rfl) h
def Bw:V4:=[none,none,none,none,some ([3,4],[3,4,5,6,7,8,13,14,15,16,17,18,19,20,21,22,23,24,25,26,27,28,29,30,31,32,33,34,35,36,37,38,39,40,41,42,43,44,45,46,47,48,49,50,51,52,53,54]),none,none,none,none,none,none,none,some ([7],[7,8,34,35,36,37,38,39,40,41,42,43,44,45,46,47,48,49,50]),none,none,some ([],[8,40,41,42,43,44,45,46,47,48,49,50]),none,none,none,none,some ([9],[9,10,11,55,56,57,58,59,60,61,62,63,64,65,66,67,68,69,70,71,72,73,74,75,76,77,78,79,80,81,82,83,84,85,86,87,88,89,90,91,92,93,94,95,96,97,98,99,100,101,102,103]),none,none,none,none,some ([10],[10,11,61,62,63,64,65,66,67,68,69,70,71,72,73,74,75,76,77,78,79,80,81,82,83,84,85,86,87,88,89,90,91,92,93,94,95,96,97,98,99,100,101,102,103]),none,none,none,none,some ([11],[11,67,68,69,70,71,72,73,74,75,76,77,78,79,80,81,82,83,84,85,86,87,88,89,90,91,92,93,94,95,96,97,98,99,100,101,102,103]),none,none,none,none]
def We (a0:Value) (w:World) (K:Value→World→Prop):Prop:= buildSlice P T.a1 0 [] w fun b3 w=>lp (α:=Value×Value) (b3,(.int .i64 0)) w fun ay r d_ w=>X5 P .len [T.h] T.e [false] [a0] w fun bp w=>Q4 P .lss T.e (.tmp 13) (.tmp 15) r.2 bp w fun bj w=>X1 bj (X5 P .len [T.h] T.e [false] [a0] w fun bc w=>Nb P T.z bc bc w fun a8 w=>dr w fun b d=>Q7 b (fun Y=> ∀w,d w→indexAddr P T.h a0 r.2 w (dk b Y w)) fun Y=>Q7 b (fun Z=> ∀y w,d w→Y y w→fieldAddr P T.a y 1 w (dk b Z w)) fun Z=>Q7 b (fun ax=> ∀w,d w→indexAddr P T.h a0 r.2 w (dk b ax w)) fun ax=>Q7 b (fun ae=> ∀am w,d w→ax am w→fieldAddr P T.a am 2 w (dk b ae w)) fun ae=>Q7 b (fun an=> ∀L w,d w→Z L w→Q2 P T.b L w (dk b an w)) fun an=>Q7 b (fun a2=> ∀s w,d w→an s w→buildSlice P T.d 1 [(0,s)] w (dk b a2 w)) fun a2=>Q7 b (fun a4=> ∀aq w,d w→ae aq w→Q2 P T.d aq w (dk b a4 w)) fun a4=>∀y L am aq s ba bf w,d w→Y y w→Z L w→ax am w→ae aq w→an s w→a2 ba w→a4 bf w→ X5 P .append [T.d,T.d] T.d [false,false] [ba,bf] w fun bb w=>lp (α:=Value) (.int .i64 0) w fun p a5 d_ w=>X5 P .len [T.d] T.e [false] [bb] w fun bv w=>Q4 P .lss T.e (.tmp 34) (.tmp 36) a5 bv w fun bs w=>X1 bs (jn (α:=Unit) w (fun a6 w=>indexAddr P T.d bb a5 w fun b0 w=>Q2 P T.b b0 w fun bn w=>Q1 P F.c [a0,bn] w fun a7 w=>Q4 P .geq T.e (.tmp 46) (.const (.int .i64 0)) a7 (.int .i64 0) w fun bg w=>X1 bg (indexAddr P T.z a8 a7 w fun bx w=>Z4 P T.m bx (.bool true) w fun _u w=>a6 () w) (a6 () w)) fun b4 d_ w=>Q4 P .add T.e (.tmp 38) (.const (.int .i64 1)) a5 (.int .i64 1) w fun b1 w=>p b1 w) (buildSlice P T.a1 1 [(0,a8)] w fun bm w=>X5 P .append [T.a1,T.a1] T.a1 [false,false] [r.1,bm] w fun bo w=>Q4 P .add T.e (.tmp 17) (.const (.int .i64 1)) r.2 (.int .i64 1) w fun bq w=>ay (bo,bq) w)) (lp (α:=Value) (.int .i64 0) w fun m X d_ w=>X5 P .len [T.h] T.e [false] [a0] w fun bk w=>Q4 P .lss T.e (.tmp 55) (.tmp 57) X bk w fun bh w=>X1 bh (lp (α:=Value) (.int .i64 0) w fun o l d_ w=>X5 P .len [T.h] T.e [false] [a0] w fun bl w=>Q4 P .lss T.e (.tmp 61) (.tmp 63) l bl w fun b2 w=>X1 b2 (lp (α:=Value) (.int .i64 0) w fun q n d_ w=>X5 P .len [T.h] T.e [false] [a0] w fun bz w=>Q4 P .lss T.e (.tmp 67) (.tmp 69) n bz w fun bw w=>X1 bw (dr w fun b d=>Q7 b (fun M=> ∀w,d w→indexAddr P T.a1 r.1 l w (dk b M w)) fun M=>Q7 b (fun ai=> ∀w,d w→indexAddr P T.a1 r.1 l w (dk b ai w)) fun ai=>Q7 b (fun a3=> ∀af w,d w→M af w→Q2 P T.z af w (dk b a3 w)) fun a3=>Q7 b (fun t=> ∀O w,d w→ai O w→Q2 P T.z O w (dk b t w)) fun t=>Q7 b (fun A=> ∀V w,d w→t V w→indexAddr P T.z V n w (dk b A w)) fun A=>Q7 b (fun e=> ∀E w,d w→A E w→Q2 P T.m E w (dk b e w)) fun e=>Q7 b (fun ag=> ∀a w,d w→e a w→Q0 a false w (fun w J=>J r.1 w) (dk b ag w)) fun ag=>Q7 b (fun ap=> ∀a w,d w→e a w→Q0 a false w (fun w J=>J l w) (dk b ap w)) fun ap=>Q7 b (fun ak=> ∀a N U w,d w→e a w→ag N w→ap U w→Q0 a false w (indexAddr P T.a1 N U) (dk b ak w)) fun ak=>Q7 b (fun ad=> ∀a w,d w→e a w→Q0 a false w (fun w J=>J X w) (dk b ad w)) fun ad=>Q7 b (fun aa=> ∀a z w,d w→e a w→ak z w→Q0 a false w (Q2 P T.z z) (dk b aa w)) fun aa=>Q7 b (fun ac=> ∀a aj u w,d w→e a w→aa aj w→ad u w→Q0 a false w (indexAddr P T.z aj u) (dk b ac w)) fun ac=>Q7 b (fun H=> ∀a C w,d w→e a w→ac C w→Q0 a false w (Q2 P T.m C) (dk b H w)) fun H=>Q7 b (fun f=> ∀a ah w,d w→e a w→H ah w→Q0 a false w (fun w J=>J ah w) (dk b f w)) fun f=>Q7 b (fun Q=> ∀c w,d w→f c w→Q0 c true w (fun w J=>J r.1 w) (dk b Q w)) fun Q=>Q7 b (fun aw=> ∀c w,d w→f c w→Q0 c true w (fun w J=>J X w) (dk b aw w)) fun aw=>Q7 b (fun ao=> ∀c v B w,d w→f c w→Q v w→aw B w→Q0 c true w (indexAddr P T.a1 v B) (dk b ao w)) fun ao=>Q7 b (fun ar=> ∀c w,d w→f c w→Q0 c true w (fun w J=>J n w) (dk b ar w)) fun ar=>Q7 b (fun ab=> ∀c R w,d w→f c w→ao R w→Q0 c true w (Q2 P T.z R) (dk b ab w)) fun ab=>Q7 b (fun al=> ∀c av D w,d w→f c w→ab av w→ar D w→Q0 c true w (indexAddr P T.z av D) (dk b al w)) fun al=>Q7 b (fun g=> ∀c W w,d w→f c w→al W w→Q0 c true w (Q2 P T.m W) (dk b g w)) fun g=>Q7 b (fun i=> ∀a c j w,d w→e a w→f c w→g j w→Q0 a false w (pick P c j (.bool false)) (dk b i w)) fun i=>Q7 b (fun k=> ∀a h w,d w→e a w→i h w→pick P a (.bool true) h w (dk b k w)) fun k=>∀af O a9 V E a N U z u aj C ah c v B R D av W j h a1 w,d w→M af w→ai O w→a3 a9 w→t V w→A E w→e a w→ag N w→ap U w→ak z w→ad u w→aa aj w→ac C w→H ah w→f c w→Q v w→aw B w→ao R w→ar D w→ab av w→al W w→g j w→i h w→k a1 w→ indexAddr P T.z a9 n w fun be w=>Z4 P T.m be a1 w fun _u w=>Q4 P .add T.e (.tmp 71) (.const (.int .i64 1)) n (.int .i64 1) w fun bi w=>q bi w) (Q4 P .add T.e (.tmp 65) (.const (.int .i64 1)) l (.int .i64 1) w fun br w=>o br w)) (Q4 P .add T.e (.tmp 59) (.const (.int .i64 1)) X (.int .i64 1) w fun bu w=>m bu w)) (K r.1 w))
theorem Gv {a:Value} {w:World} {K:Value→World→Prop} (h:We a w K):Q1 P F.ag [a] w K:=X0 Bw Tryz.func56 rfl (by decide) (by kernel_rfl) h
def Ah:V4:=[none,none,none,none,none,none,some ([9],[8,9,16,17,18,19,20,21,22,23,24,25,26,27,28]),none,none,none,none,none,none,none,none,some ([1,11],[1,11,41,42,43,44,45,46,47,48,49,50,51,52,53,54,55,56]),none,none,none,none]
def Nu (y u X v:Value) (w:World) (K:Value→World→Prop):Prop:= Q4 P .lss T.e (.tmp 12) (.tmp 13) v X w fun z w=>X1 z (K u w) (lp (α:=Value) (.int .i64 0) w fun e J Y w=>X5 P .len [T.a0] T.e [false] [u] w fun L w=>Q4 P .lss T.e (.tmp 16) (.tmp 18) J L w fun R w=>X1 R (indexAddr P T.a0 u J w fun B w=>Q2 P T.e B w fun N w=>Q4 P .eql T.e (.tmp 25) (.tmp 26) N v w fun C w=>X1 C (K u w) (Q4 P .add T.e (.tmp 20) (.const (.int .i64 1)) J (.int .i64 1) w fun U w=>e U w)) (dr w fun a o=>Q7 a (fun d=> ∀w,o w→indexAddr P T.h y v w (dk a d w)) fun d=>Q7 a (fun j=> ∀k w,o w→d k w→fieldAddr P T.a k 1 w (dk a j w)) fun j=>Q7 a (fun f=> ∀w,o w→indexAddr P T.h y v w (dk a f w)) fun f=>Q7 a (fun h=> ∀n w,o w→f n w→fieldAddr P T.a n 2 w (dk a h w)) fun h=>Q7 a (fun l=> ∀i w,o w→j i w→Q2 P T.b i w (dk a l w)) fun l=>Q7 a (fun p=> ∀g w,o w→l g w→buildSlice P T.d 1 [(0,g)] w (dk a p w)) fun p=>Q7 a (fun q=> ∀m w,o w→h m w→Q2 P T.d m w (dk a q w)) fun q=>∀k i n m g r t w,o w→d k w→j i w→f n w→h m w→l g w→p r w→q t w→ X5 P .append [T.d,T.d] T.d [false,false] [r,t] w fun s w=>lp (α:=Value×Value) (u,(.int .i64 0)) w fun b c Y w=>X5 P .len [T.d] T.e [false] [s] w fun M w=>Q4 P .lss T.e (.tmp 41) (.tmp 43) c.2 M w fun E w=>X1 E (indexAddr P T.d s c.2 w fun D w=>Q2 P T.b D w fun H w=>Q1 P F.c [y,H] w fun Q w=>Q1 P F.aQ [y,c.1,X,Q] w fun O w=>Q4 P .add T.e (.tmp 45) (.const (.int .i64 1)) c.2 (.int .i64 1) w fun V w=>b (O,V) w) (buildSlice P T.a0 1 [(0,v)] w fun A w=>X5 P .append [T.a0,T.a0] T.a0 [false,false] [c.1,A] w fun W w=>K W w)))
theorem Ae {a c b d:Value} {w:World} {K:Value→World→Prop} (h:Nu a c b d w K):Q1 P F.aQ [a,c,b,d] w K:=X0 Ah Tryz.func57 rfl (by decide) (by kernel_rfl) h
end Go.Proofs.YtfppjenblllfaaaGreatDoor

set_option maxRecDepth 100000
namespace Go.Proofs.YtfppjenblllfaaaGreatDoor
open Go.Emb
def Qg (u A:Value) (w:World) (K:Value→World→Prop):Prop:= Q1 P F.c [u,A] w fun v w=>Q4 P .lss T.e (.tmp 9) (.const (.int .i64 0)) v (.int .i64 0) w fun y w=>X1 y (K (.slice none 0 0) w) (dr w fun a b=>Q7 a (fun g=> ∀w,b w→indexAddr P T.h u v w (dk a g w)) fun g=>Q7 a (fun m=> ∀i w,b w→g i w→fieldAddr P T.a i 1 w (dk a m w)) fun m=>Q7 a (fun c=> ∀w,b w→indexAddr P T.h u v w (dk a c w)) fun c=>Q7 a (fun n=> ∀f w,b w→c f w→fieldAddr P T.a f 6 w (dk a n w)) fun n=>Q7 a (fun h=> ∀w,b w→buildSlice P T.i 0 [] w (dk a h w)) fun h=>Q7 a (fun p=> ∀e w,b w→m e w→Q2 P T.b e w (dk a p w)) fun p=>Q7 a (fun d=> ∀j w,b w→p j w→Q1 P F.y [u,j] w (dk a d w)) fun d=>Q7 a (fun r=> ∀o k w,b w→h o w→d k w→X5 P .append [T.i,T.i] T.i [false,false] [o,k] w (dk a r w)) fun r=>Q7 a (fun q=> ∀l w,b w→n l w→Q2 P T.i l w (dk a q w)) fun q=>∀i e f l o j k t s w,b w→g i w→m e w→c f w→n l w→h o w→p j w→d k w→r t w→q s w→ X5 P .append [T.i,T.i] T.i [false,false] [t,s] w fun z w=>K z w)
theorem Uq {a b:Value} {w:World} {K:Value→World→Prop} (h:Qg a b w K):Q1 P F.y [a,b] w K:=X0 (List.replicate 6 none) Tryz.func173 rfl (by decide) (by kernel_rfl) h
def Fg:V4:=[none,none,none,none,some ([8],[6,8,12,13,14,15,16,17,18,19,20,21,22,23,24,25]),none,none,none,none,none,none]
def Vw (k l m:Value) (w:World) (K:Value→World→Prop):Prop:= Q1 P F.y [k,l] w fun b w=>lp (α:=Value) (.int .i64 0) w fun a c n w=>X5 P .len [T.i] T.e [false] [b] w fun e w=>Q4 P .lss T.e (.tmp 12) (.tmp 14) c e w fun g w=>X1 g (indexAddr P T.i b c w fun i w=>fieldAddr P T.k i 0 w fun f w=>Q2 P T.b f w fun j w=>Q4 P .eql T.b (.tmp 22) (.tmp 23) j m w fun h w=>X1 h (K c w) (Q4 P .add T.e (.tmp 16) (.const (.int .i64 1)) c (.int .i64 1) w fun d w=>a d w)) (K (.int .i64 (-1)) w)
theorem Gt {a c b:Value} {w:World} {K:Value→World→Prop} (h:Vw a c b w K):Q1 P F.bf [a,c,b] w K:=X0 Fg Tryz.func114 rfl (by decide) (by kernel_rfl) h
def Mh (a:Value) (w:World) (K:Value→World→Prop):Prop:= X5 P .len [T.b] T.e [false] [a] w fun e w=>Q1 P F.an [a] w fun f w=>Q4 P .mul T.e (.const (.int .i64 2)) (.tmp 7) (.int .i64 2) f w fun c w=>Q4 P .sub T.e (.tmp 5) (.tmp 8) e c w fun d w=>H4 P T.b a none (some d) none w fun b w=>K b w
theorem Ks {a:Value} {w:World} {K:Value→World→Prop} (h:Mh a w K):Q1 P F.aI [a] w K:=X0 (List.replicate 2 none) Tryz.func121 rfl (by decide) (by kernel_rfl) h
def Lu (q d:Value) (w:World) (K:Value→World→Prop):Prop:= Q4 P .eql T.b (.tmp 5) (.const (.string ⟨#[110,117,108,108]⟩)) d (.string ⟨#[110,117,108,108]⟩) w fun c w=>Q0 c false w (fun w J=>J d w) fun p w=>Q0 c false w (Q1 P F.i [p]) fun r w=>Q0 c false w (fun w J=>J r w) fun b w=>Q0 b true w (fun w J=>J d w) fun o w=>Q0 b true w (Q1 P F.aI [o]) fun n w=>Q0 b true w (Q1 P F.t [n]) fun l w=>Q0 b true w (fun w J=>J l w) fun a w=>Q0 a false w (fun w J=>J q w) fun g w=>Q0 a false w (fun w J=>J d w) fun e w=>Q0 a false w (Q1 P F.aI [e]) fun i w=>Q0 a false w (Q1 P F.c [g,i]) fun j w=>Q0 a false w (Q4 P .geq T.e (.tmp 18) (.const (.int .i64 0)) j (.int .i64 0)) fun k w=>Q0 b true w (pick P a (.bool true) k) fun h w=>Q0 c false w (pick P b h (.bool false)) fun m w=>pick P c (.bool true) m w fun f w=>K f w
theorem Km {a b:Value} {w:World} {K:Value→World→Prop} (h:Lu a b w K):Q1 P F.a8 [a,b] w K:=X0 (List.replicate 2 none) Tryz.func61 rfl (by decide) (by kernel_rfl) h
def Vv (f d:Value) (w:World) (K:Value→World→Prop):Prop:= Q4 P .neq T.b (.tmp 5) (.const (.string ⟨#[110,117,108,108]⟩)) d (.string ⟨#[110,117,108,108]⟩) w fun a w=>Q0 a true w (fun w J=>J f w) fun e w=>Q0 a true w (fun w J=>J d w) fun g w=>Q0 a true w (Q1 P F.a8 [e,g]) fun c w=>pick P a c (.bool false) w fun b w=>K b w
theorem Gi {a b:Value} {w:World} {K:Value→World→Prop} (h:Vv a b w K):Q1 P F.bg [a,b] w K:=X0 (List.replicate 2 none) Tryz.func115 rfl (by decide) (by kernel_rfl) h
def Kr:V4:=[none,none,none,none,some ([3,4],[3,4,5,6,7,8,9,10,11,12,13,14,15,16,17,18,19,20,21,22]),none,none,none,some ([3],[3,12,13,14,15]),none,none]
def Lp (r:Value) (w:World) (K:Value→World→Prop):Prop:= box P T.c r w fun a w=>lp (α:=Value×Value) ((.string ⟨#[40]⟩),(.int .i64 0)) w fun b c v w=>fieldAddr P T.c a 1 w fun y w=>Q2 P T.d y w fun t w=>X5 P .len [T.d] T.e [false] [t] w fun q w=>Q4 P .lss T.e (.tmp 5) (.tmp 8) c.2 q w fun u w=>X1 u (jn (α:=Value) w (fun p w=>Q4 P .gtr T.e (.tmp 12) (.const (.int .i64 0)) c.2 (.int .i64 0) w fun n w=>X1 n (Q4 P .add T.b (.tmp 14) (.const (.string ⟨#[44]⟩)) c.1 (.string ⟨#[44]⟩) w fun h w=>p h w) (p c.1 w)) fun s v w=>fieldAddr P T.c a 1 w fun j w=>Q2 P T.d j w fun k w=>indexAddr P T.d k c.2 w fun i w=>Q2 P T.b i w fun m w=>Q4 P .add T.b (.tmp 16) (.tmp 21) s m w fun g w=>Q4 P .add T.e (.tmp 10) (.const (.int .i64 1)) c.2 (.int .i64 1) w fun o w=>b (g,o) w) (Q4 P .add T.b (.tmp 23) (.const (.string ⟨#[41]⟩)) c.1 (.string ⟨#[41]⟩) w fun e w=>fieldAddr P T.c a 2 w fun l w=>Q2 P T.b l w fun d w=>Q4 P .add T.b (.tmp 24) (.tmp 26) e d w fun f w=>K f w)
theorem Iv {a:Value} {w:World} {K:Value→World→Prop} (h:Lp a w K):Q1 P F.aH [a] w K:=X0 Kr Tryz.func116 rfl (by decide) (by kernel_rfl) h
def Aj:V4:=[none,none,none,some ([5],[4,5,6,7,8,9,10,11,12,13,14,15,16,17,18,19,20,21]),none,none,none,none,none,none]
def Nv (m p:Value) (w:World) (K:Value→World→Prop):Prop:= box P T.a m w fun a w=>lp (α:=Value) (.int .i64 0) w fun b c q w=>fieldAddr P T.a a 7 w fun n w=>Q2 P T.g n w fun l w=>X5 P .len [T.g] T.e [false] [l] w fun o w=>Q4 P .lss T.e (.tmp 6) (.tmp 9) c o w fun i w=>X1 i (fieldAddr P T.a a 7 w fun j w=>Q2 P T.g j w fun e w=>indexAddr P T.g e c w fun d w=>fieldAddr P T.c d 0 w fun g w=>Q2 P T.b g w fun h w=>Q4 P .eql T.b (.tmp 18) (.tmp 19) h p w fun f w=>X1 f (K c w) (Q4 P .add T.e (.tmp 11) (.const (.int .i64 1)) c (.int .i64 1) w fun k w=>b k w)) (K (.int .i64 (-1)) w)
theorem Pe {a b:Value} {w:World} {K:Value→World→Prop} (h:Nv a b w K):Q1 P F.aR [a,b] w K:=X0 Aj Tryz.func174 rfl (by decide) (by kernel_rfl) h
def Bp:V4:=[none,none,none,some ([9],[6,8,9,10,11,12,13,14,15,16,17,18,19,20,21,22,23,24,25,26,27,28,29,30,31,32,33,34,35,36,37,38,39,40,41,42,43,44,45,46,47,48,49,50,51,52,53,54]),none,none,none,none,none,none,none,none,none,none,none,none]
def Wj (A a1 a2:Value) (w:World) (K:Value→World→Prop):Prop:= box P T.a a1 w fun d w=>W6 P T.c w fun s w=>lp (α:=Value) (.int .i64 0) w fun g C d_ w=>fieldAddr P T.a d 2 w fun B w=>Q2 P T.d B w fun O w=>X5 P .len [T.d] T.e [false] [O] w fun M w=>Q4 P .lss T.e (.tmp 15) (.tmp 18) C M w fun V w=>X1 V (fieldAddr P T.a d 2 w fun H w=>Q2 P T.d H w fun U w=>indexAddr P T.d U C w fun J w=>Q2 P T.b J w fun R w=>Q1 P F.c [A,R] w fun D w=>indexAddr P T.h A D w fun N w=>Q2 P T.a N w fun Z w=>W6 P T.a w fun a w=>Z4 P T.a a Z w fun _u w=>Q2 P T.a a w fun Q w=>Q1 P F.aR [Q,a2] w fun t w=>Q4 P .geq T.e (.tmp 35) (.const (.int .i64 0)) t (.int .i64 0) w fun ab w=>X1 ab (dr w fun b e=>Q7 b (fun i=> ∀w,e w→fieldAddr P T.a a 0 w (dk b i w)) fun i=>Q7 b (fun j=> ∀w,e w→fieldAddr P T.a a 7 w (dk b j w)) fun j=>Q7 b (fun p=> ∀m w,e w→i m w→Q2 P T.b m w (dk b p w)) fun p=>Q7 b (fun f=> ∀k w,e w→j k w→Q2 P T.g k w (dk b f w)) fun f=>Q7 b (fun n=> ∀h w,e w→f h w→indexAddr P T.g h t w (dk b n w)) fun n=>Q7 b (fun q=> ∀l w,e w→n l w→Q2 P T.c l w (dk b q w)) fun q=>∀m k z h l v w,e w→i m w→j k w→p z w→f h w→n l w→q v w→ Z4 P T.c s v w fun _u w=>V7 P T.c s w fun y=>K (.tuple #[z,y,(.bool true)]) w) (Q2 P T.a a w fun aa w=>Q1 P F.aD [A,aa,a2] w fun r w=>ext P r 0 w fun Y w=>ext P r 1 w fun E w=>ext P r 2 w fun L w=>W6 P T.c w fun c w=>Z4 P T.c c E w fun _u w=>X1 L (dr w fun b e=>Q7 b (fun o=> ∀w,e w→Q2 P T.c c w (dk b o w)) fun o=>∀u w,e w→o u w→ Z4 P T.c s u w fun _u w=>V7 P T.c s w fun y=>K (.tuple #[Y,y,(.bool true)]) w) (Q4 P .add T.e (.tmp 20) (.const (.int .i64 1)) C (.int .i64 1) w fun W w=>g W w))) (O5 P T.c [] w fun X w=>Z4 P T.c s X w fun _u w=>V7 P T.c s w fun y=>K (.tuple #[(.string ⟨#[]⟩),y,(.bool false)]) w)
theorem Fw {a c b:Value} {w:World} {K:Value→World→Prop} (h:Wj a c b w K):Q1 P F.aD [a,c,b] w K:=X0 Bp Tryz.func175 rfl (by decide) (by kernel_rfl) h
def Ca:V4:=[none,none,none,some ([9],[6,8,9,10,18,19,20,21,22,23,24,25,26,27,28,29,30,31,32,33,34,35,36,37,38,39,40,41,42,43,44,45,46,47]),none,none,none,none,none,none,none,none,some ([11],[6,8,11,12,13,14,51,52,53,54,55,56,57,58,59,60,61,62,63,64,65,66,67,68,69,70,71,72,73]),none,none,none,none,none,none,none]
def Ve (c a1 a2:Value) (w:World) (K:Value→World→Prop):Prop:= W6 P T.c w fun y w=>Q1 P F.c [c,a1] w fun Y w=>lp (α:=Value) Y w fun f A d_ w=>Q4 P .geq T.e (.tmp 18) (.const (.int .i64 0)) A (.int .i64 0) w fun ag w=>X1 ag (indexAddr P T.h c A w fun O w=>Q2 P T.a O w fun X w=>Q1 P F.aR [X,a2] w fun C w=>Q4 P .geq T.e (.tmp 33) (.const (.int .i64 0)) C (.int .i64 0) w fun M w=>X1 M (dr w fun a b=>Q7 a (fun i=> ∀w,b w→indexAddr P T.h c A w (dk a i w)) fun i=>Q7 a (fun j=> ∀p w,b w→i p w→fieldAddr P T.a p 0 w (dk a j w)) fun j=>Q7 a (fun q=> ∀w,b w→indexAddr P T.h c A w (dk a q w)) fun q=>Q7 a (fun l=> ∀o w,b w→q o w→fieldAddr P T.a o 7 w (dk a l w)) fun l=>Q7 a (fun u=> ∀n w,b w→j n w→Q2 P T.b n w (dk a u w)) fun u=>Q7 a (fun h=> ∀k w,b w→l k w→Q2 P T.g k w (dk a h w)) fun h=>Q7 a (fun e=> ∀g w,b w→h g w→indexAddr P T.g g C w (dk a e w)) fun e=>Q7 a (fun r=> ∀m w,b w→e m w→Q2 P T.c m w (dk a r w)) fun r=>∀p n o k E g m z w,b w→i p w→j n w→q o w→l k w→u E w→h g w→e m w→r z w→ Z4 P T.c y z w fun _u w=>V7 P T.c y w fun D=>K (.tuple #[E,D,(.bool true)]) w) (indexAddr P T.h c A w fun aa w=>fieldAddr P T.a aa 1 w fun V w=>Q2 P T.b V w fun ac w=>Q1 P F.c [c,ac] w fun J w=>f J w)) (Q1 P F.c [c,a1] w fun Q w=>lp (α:=Value) Q w fun d s d_ w=>Q4 P .geq T.e (.tmp 51) (.const (.int .i64 0)) s (.int .i64 0) w fun ab w=>X1 ab (indexAddr P T.h c s w fun af w=>Q2 P T.a af w fun ad w=>Q1 P F.aD [c,ad,a2] w fun t w=>ext P t 0 w fun ah w=>ext P t 1 w fun Z w=>ext P t 2 w fun N w=>W6 P T.c w fun H w=>Z4 P T.c H Z w fun _u w=>X1 N (dr w fun a b=>Q7 a (fun v=> ∀w,b w→Q2 P T.c H w (dk a v w)) fun v=>∀B w,b w→v B w→ Z4 P T.c y B w fun _u w=>V7 P T.c y w fun D=>K (.tuple #[ah,D,(.bool true)]) w) (indexAddr P T.h c s w fun ae w=>fieldAddr P T.a ae 1 w fun R w=>Q2 P T.b R w fun L w=>Q1 P F.c [c,L] w fun U w=>d U w)) (O5 P T.c [] w fun W w=>Z4 P T.c y W w fun _u w=>V7 P T.c y w fun D=>K (.tuple #[(.string ⟨#[]⟩),D,(.bool false)]) w))
theorem Sn {a c b:Value} {w:World} {K:Value→World→Prop} (h:Ve a c b w K):Q1 P F.b3 [a,c,b] w K:=X0 Ca Tryz.func117 rfl (by decide) (by kernel_rfl) h
def Sh:V4:=[none,none,none,none,some ([6],[4,6,24,25,26,27,28,29,30,31,32,33,34,35,36,37,38,39,40,41]),none,none,none,none,none,none,none,none,some ([7,8],[7,8,43,44,45,46,47,48,49,50,51,52,53,54,55,56,57,58]),none,none,none,none,none,some ([7,9],[7,9,59,60,61,62,63,64,65,66,67,68,69,70,71,72,73,74,75,76,77,78,79,80,81,82,83,84,85,86,87,88,89]),none,none,some ([7],[7,66,67,68,69,70,71,72,73,74,75,76,77,78,79,80,81,82,83,84,85,86,87,88,89]),none,none,none,none,some ([10],[4,10,90,91,92,93,94,95,96,97,98,99,100,101,102]),none,none,none,none,none,none,none,none,none,some ([12,13],[12,13,106,107,108,109,110,111,112,113,114,115,116,117,118,119,120,121,122,123,124,125,126,127,128,129,130]),none,none,some ([12],[12,112,113,114,115,116,117,118,119,120,121,122,123,124,125,126,127,128,129,130]),none,none,none,some ([14],[4,14,15,131,132,133,134,135,136,137,138,139,140,141,142,143,144,145,146,147,148,149,150,151,152,153,154,155,156,157,158,159,160,161,162,163,164,165]),none,none,none,none,some ([15],[4,15,137,138,139,140,141,142,143,144,145,146,147,148,149,150,151,152,153,154,155,156,157,158,159,160,161,162,163,164,165]),none,none,none,none,none,none,none,some ([16],[4,16,17,18,19,166,167,168,169,170,171,172,173,174,175,176,177,178,179,180,181,182,183,184,185,186,187,188,189,190,191,192,193,194,195]),none,none,none,none,none,none,none]
def Jz (a0 a1:Value) (w:World) (K:Value→World→Prop):Prop:= indexAddr P T.h a0 a1 w fun dy w=>Q2 P T.a dy w fun dg w=>W6 P T.a w fun t5 w=>Z4 P T.a t5 dg w fun _u w=>lp (α:=Value) (.int .i64 0) w fun a7 x4 d_ w=>fieldAddr P T.a t5 6 w fun d5 w=>Q2 P T.i d5 w fun cx w=>X5 P .len [T.i] T.e [false] [cx] w fun db w=>Q4 P .lss T.e (.tmp 24) (.tmp 27) x4 db w fun d4 w=>X1 d4 (dr w fun b c=>Q7 b (fun bb=> ∀w,c w→fieldAddr P T.a t5 1 w (dk b bb w)) fun bb=>Q7 b (fun ba=> ∀w,c w→fieldAddr P T.a t5 6 w (dk b ba w)) fun ba=>Q7 b (fun bm=> ∀a6 w,c w→bb a6 w→Q2 P T.b a6 w (dk b bm w)) fun bm=>Q7 b (fun a9=> ∀a4 w,c w→ba a4 w→Q2 P T.i a4 w (dk b a9 w)) fun a9=>Q7 b (fun a2=> ∀be w,c w→a9 be w→indexAddr P T.i be x4 w (dk b a2 w)) fun a2=>Q7 b (fun a3=> ∀bd w,c w→a2 bd w→fieldAddr P T.k bd 0 w (dk b a3 w)) fun a3=>Q7 b (fun bl=> ∀bf w,c w→a3 bf w→Q2 P T.b bf w (dk b bl w)) fun bl=>∀a6 a4 co be bd bf cr w,c w→bb a6 w→ba a4 w→bm co w→a9 be w→a2 bd w→a3 bf w→bl cr w→ Q1 P F.bf [a0,co,cr] w fun ec w=>Q4 P .geq T.e (.tmp 40) (.const (.int .i64 0)) ec (.int .i64 0) w fun c2 w=>X1 c2 (K (.int .i64 64) w) (Q4 P .add T.e (.tmp 29) (.const (.int .i64 1)) x4 (.int .i64 1) w fun ee w=>a7 ee w)) (buildSlice P T.d 0 [] w fun dp w=>lp (α:=Value×Value) (dp,(.int .i64 0)) w fun ap ai d_ w=>fieldAddr P T.a t5 6 w fun dz w=>Q2 P T.i dz w fun dx w=>X5 P .len [T.i] T.e [false] [dx] w fun eh w=>Q4 P .lss T.e (.tmp 43) (.tmp 46) ai.2 eh w fun dq w=>X1 dq (fieldAddr P T.a t5 6 w fun de w=>Q2 P T.i de w fun dh w=>indexAddr P T.i dh ai.2 w fun d0 w=>fieldAddr P T.k d0 1 w fun d6 w=>Q2 P T.b d6 w fun ef w=>buildSlice P T.d 1 [(0,ef)] w fun cy w=>X5 P .append [T.d,T.d] T.d [false,false] [ai.1,cy] w fun ds w=>Q4 P .add T.e (.tmp 48) (.const (.int .i64 1)) ai.2 (.int .i64 1) w fun c5 w=>ap (ds,c5) w) (lp (α:=Value×Value) (ai.1,(.int .i64 0)) w fun av j d_ w=>fieldAddr P T.a t5 7 w fun c9 w=>Q2 P T.g c9 w fun dl w=>X5 P .len [T.g] T.e [false] [dl] w fun c3 w=>Q4 P .lss T.e (.tmp 59) (.tmp 62) j.2 c3 w fun cz w=>X1 cz (jn (α:=Value) w (fun cm w=>fieldAddr P T.a t5 7 w fun c1 w=>Q2 P T.g c1 w fun c6 w=>indexAddr P T.g c6 j.2 w fun da w=>fieldAddr P T.c da 1 w fun c8 w=>Q2 P T.d c8 w fun dv w=>X5 P .append [T.d,T.d] T.d [false,false] [j.1,dv] w fun cl w=>fieldAddr P T.a t5 7 w fun d1 w=>Q2 P T.g d1 w fun dd w=>indexAddr P T.g dd j.2 w fun dj w=>fieldAddr P T.c dj 2 w fun eg w=>Q2 P T.b eg w fun dn w=>Q4 P .neq T.b (.tmp 79) (.const (.string ⟨#[]⟩)) dn (.string ⟨#[]⟩) w fun d8 w=>X1 d8 (fieldAddr P T.a t5 7 w fun dc w=>Q2 P T.g dc w fun d2 w=>indexAddr P T.g d2 j.2 w fun c4 w=>fieldAddr P T.c c4 2 w fun d7 w=>Q2 P T.b d7 w fun d9 w=>buildSlice P T.d 1 [(0,d9)] w fun dw w=>X5 P .append [T.d,T.d] T.d [false,false] [cl,dw] w fun df w=>cm df w) (cm cl w)) fun c7 d_ w=>Q4 P .add T.e (.tmp 64) (.const (.int .i64 1)) j.2 (.int .i64 1) w fun di w=>av (c7,di) w) (lp (α:=Value) (.int .i64 0) w fun ax bn d_ w=>X5 P .len [T.d] T.e [false] [j.1] w fun ed w=>Q4 P .lss T.e (.tmp 90) (.tmp 92) bn ed w fun dt w=>X1 dt (indexAddr P T.d j.1 bn w fun ea w=>Q2 P T.b ea w fun cw w=>Q1 P F.bg [a0,cw] w fun b4 w=>Z8 P .not b4 w fun ct w=>X1 ct (K (.int .i64 65) w) (Q4 P .add T.e (.tmp 94) (.const (.int .i64 1)) bn (.int .i64 1) w fun c0 w=>ax c0 w)) (Q1 P F.ag [a0] w fun cp w=>buildSlice P T.g 0 [] w fun bw w=>lp (α:=Value×Value) (bw,(.int .i64 0)) w fun ak f d_ w=>X5 P .len [T.h] T.e [false] [a0] w fun cs w=>Q4 P .lss T.e (.tmp 106) (.tmp 108) f.2 cs w fun bq w=>X1 bq (jn (α:=Value) w (fun cq w=>Q4 P .eql T.e (.tmp 112) (.tmp 113) f.2 a1 w fun g w=>Q0 g false w (fun w J=>J cp w) fun cc w=>Q0 g false w (fun w J=>J a1 w) fun b9 w=>Q0 g false w (indexAddr P T.a1 cc b9) fun ck w=>Q0 g false w (Q2 P T.z ck) fun b3 w=>Q0 g false w (fun w J=>J f.2 w) fun cj w=>Q0 g false w (indexAddr P T.z b3 cj) fun b5 w=>Q0 g false w (Q2 P T.m b5) fun bs w=>pick P g (.bool true) bs w fun b6 w=>X1 b6 (indexAddr P T.h a0 f.2 w fun bx w=>fieldAddr P T.a bx 7 w fun bz w=>Q2 P T.g bz w fun cd w=>X5 P .append [T.g,T.g] T.g [false,false] [f.1,cd] w fun cf w=>cq cf w) (cq f.1 w)) fun d3 d_ w=>Q4 P .add T.e (.tmp 110) (.const (.int .i64 1)) f.2 (.int .i64 1) w fun b1 w=>ak (d3,b1) w) (lp (α:=Value) (.int .i64 0) w fun ay az d_ w=>X5 P .len [T.g] T.e [false] [f.1] w fun ch w=>Q4 P .lss T.e (.tmp 131) (.tmp 133) az ch w fun bp w=>X1 bp (lp (α:=Value) (.int .i64 0) w fun an bc d_ w=>Q4 P .lss T.e (.tmp 137) (.tmp 138) bc az w fun br w=>X1 br (dr w fun b c=>Q7 b (fun ac=> ∀w,c w→indexAddr P T.g f.1 az w (dk b ac w)) fun ac=>Q7 b (fun E=> ∀W w,c w→ac W w→fieldAddr P T.c W 0 w (dk b E w)) fun E=>Q7 b (fun p=> ∀w,c w→indexAddr P T.g f.1 bc w (dk b p w)) fun p=>Q7 b (fun Z=> ∀l w,c w→p l w→fieldAddr P T.c l 0 w (dk b Z w)) fun Z=>Q7 b (fun q=> ∀af w,c w→E af w→Q2 P T.b af w (dk b q w)) fun q=>Q7 b (fun A=> ∀C w,c w→Z C w→Q2 P T.b C w (dk b A w)) fun A=>Q7 b (fun d=> ∀t v w,c w→q t w→A v w→Q4 P .eql T.b (.tmp 146) (.tmp 151) t v w (dk b d w)) fun d=>Q7 b (fun s=> ∀a w,c w→d a w→Q0 a true w (fun w J=>J f.1 w) (dk b s w)) fun s=>Q7 b (fun z=> ∀a w,c w→d a w→Q0 a true w (fun w J=>J az w) (dk b z w)) fun z=>Q7 b (fun D=> ∀a ab ae w,c w→d a w→s ab w→z ae w→Q0 a true w (indexAddr P T.g ab ae) (dk b D w)) fun D=>Q7 b (fun U=> ∀a w,c w→d a w→Q0 a true w (fun w J=>J f.1 w) (dk b U w)) fun U=>Q7 b (fun Q=> ∀a w,c w→d a w→Q0 a true w (fun w J=>J bc w) (dk b Q w)) fun Q=>Q7 b (fun o=> ∀a y M w,c w→d a w→U y w→Q M w→Q0 a true w (indexAddr P T.g y M) (dk b o w)) fun o=>Q7 b (fun X=> ∀a L w,c w→d a w→D L w→Q0 a true w (Q2 P T.c L) (dk b X w)) fun X=>Q7 b (fun aw=> ∀a H w,c w→d a w→X H w→Q0 a true w (Q1 P F.aH [H]) (dk b aw w)) fun aw=>Q7 b (fun aq=> ∀a B w,c w→d a w→o B w→Q0 a true w (Q2 P T.c B) (dk b aq w)) fun aq=>∀W af l C t v a ab ae L y M B H bg bh w,c w→ac W w→E af w→p l w→Z C w→q t w→A v w→d a w→s ab w→z ae w→D L w→U y w→Q M w→o B w→X H w→aw bg w→aq bh w→ Q0 a true w (Q1 P F.aH [bh]) fun cg w=>Q0 a true w (Q4 P .neq T.b (.tmp 158) (.tmp 163) bg cg) fun b0 w=>pick P a b0 (.bool false) w fun b7 w=>X1 b7 (K (.int .i64 66) w) (Q4 P .add T.e (.tmp 140) (.const (.int .i64 1)) bc (.int .i64 1) w fun bu w=>an bu w)) (Q4 P .add T.e (.tmp 135) (.const (.int .i64 1)) az (.int .i64 1) w fun ce w=>ay ce w)) (lp (α:=Value) (.int .i64 0) w fun aj bk d_ w=>X5 P .len [T.g] T.e [false] [f.1] w fun bv w=>Q4 P .lss T.e (.tmp 166) (.tmp 168) bk bv w fun Y w=>Q0 Y true w (fieldAddr P T.a t5 4) fun cb w=>Q0 Y true w (Q2 P T.m cb) fun cn w=>Q0 Y true w (Z8 P .not cn) fun ca w=>pick P Y ca (.bool false) w fun cu w=>X1 cu (dr w fun b c=>Q7 b (fun ad=> ∀w,c w→fieldAddr P T.a t5 0 w (dk b ad w)) fun ad=>Q7 b (fun m=> ∀w,c w→indexAddr P T.g f.1 bk w (dk b m w)) fun m=>Q7 b (fun N=> ∀ag w,c w→m ag w→fieldAddr P T.c ag 0 w (dk b N w)) fun N=>Q7 b (fun n=> ∀R w,c w→ad R w→Q2 P T.b R w (dk b n w)) fun n=>Q7 b (fun V=> ∀aa w,c w→N aa w→Q2 P T.b aa w (dk b V w)) fun V=>Q7 b (fun h=> ∀r u w,c w→n r w→V u w→Q1 P F.b3 [a0,r,u] w (dk b h w)) fun h=>Q7 b (fun ar=> ∀e w,c w→h e w→ext P e 0 w (dk b ar w)) fun ar=>Q7 b (fun O=> ∀e w,c w→h e w→ext P e 1 w (dk b O w)) fun O=>Q7 b (fun al=> ∀e w,c w→h e w→ext P e 2 w (dk b al w)) fun al=>Q7 b (fun a8=> ∀w,c w→W6 P T.c w (dk b a8 w)) fun a8=>Q1g b (fun am=> ∀k i w,c w→a8 k w→O i w→Z4 P T.c k i w (dk b (am [k,i]) w)) fun am=>∀R ag aa r u e b2 i bi k eb w,c w→ad R w→m ag w→N aa w→n r w→V u w→h e w→ar b2 w→O i w→al bi w→a8 k w→am [k,i] eb w→ Z8 P .not bi w fun ao w=>Q0 ao false w (fieldAddr P T.c k 3) fun b8 w=>Q0 ao false w (Q2 P T.m b8) fun bo w=>pick P ao (.bool true) bo w fun cv w=>X1 cv (K (.int .i64 67) w) (Q4 P .add T.e (.tmp 175) (.const (.int .i64 1)) bk (.int .i64 1) w fun ci w=>aj ci w)) (K (.int .i64 0) w)))))))
theorem Si {a b:Value} {w:World} {K:Value→World→Prop} (h:Jz a b w K):Q1 P F.aW [a,b] w K:=X0 Sh Tryz.func58 rfl (by decide) (by kernel_rfl) h
def Tw:V4:=[none,none,none,none,none,some ([5,7],[2,3,4,5,7,8,21,22,23,24,25,26,27,28,29,30,31,32,33,34,35,36,37,38,39,40,41,42]),none,none,none,none,none,none,none,none,none,some ([9],[2,3,4,9,43,44,45,46,47,48,49,50,51,52,53,54,55,56,57,58,59,60]),none,none,none,none,none,none,none,some ([10],[2,3,4,10,11,61,62,63,64,65,66,67,68,69,70,71,72,73,74,75,76]),none,none,none,none,none,none,none,none,none,some ([13],[2,3,4,13,79,80,81,82,83,84,85,86,87,88,89,90,91,92,93,94,95,96]),none,none,none,none,none,none,none,none,some ([14,15],[14,15,98,99,100,101,102,103,104,105,106,107,108,109,110]),none,none,none,none,none,some ([16],[2,3,4,16,17,111,112,113,114,115,116,117,118,119,120,121,122,123,124,125,126,127,128,129,130,131]),none,none,none,none,none,none,none]
def Nx (l:Value) (w:World) (K:Value→World→Prop):Prop:= Q1 P F.ba [] w fun A w=>X5 P .len [T.h] T.e [false] [A] w fun b w=>lp (α:=Value×Value) (A,(.int .i64 0)) w fun m c B w=>X5 P .len [T.h] T.e [false] [l] w fun am w=>Q4 P .lss T.e (.tmp 21) (.tmp 23) c.2 am w fun Z w=>X1 Z (indexAddr P T.h l c.2 w fun V w=>Q2 P T.a V w fun al w=>Q1 P F.bb [al] w fun H w=>Q4 P .neq T.r (.tmp 32) (.const (.int .i64 0)) H (.int .i64 0) w fun ah w=>X1 ah (K (.tuple #[(.slice none 0 0),c.2,H]) w) (indexAddr P T.h l c.2 w fun ap w=>Q2 P T.a ap w fun ag w=>buildSlice P T.h 1 [(0,ag)] w fun ao w=>X5 P .append [T.h,T.h] T.h [false,false] [c.1,ao] w fun a1 w=>Q4 P .add T.e (.tmp 25) (.const (.int .i64 1)) c.2 (.int .i64 1) w fun O w=>m (a1,O) w)) (lp (α:=Value) (.int .i64 0) w fun f g B w=>X5 P .len [T.h] T.e [false] [l] w fun ab w=>Q4 P .lss T.e (.tmp 43) (.tmp 45) g ab w fun ay w=>X1 ay (indexAddr P T.h l g w fun an w=>fieldAddr P T.a an 0 w fun ae w=>Q2 P T.b ae w fun ai w=>Q1 P F.c [c.1,ai] w fun av w=>Q4 P .add T.e (.tmp 56) (.tmp 57) b g w fun Q w=>Q4 P .neq T.e (.tmp 55) (.tmp 58) av Q w fun W w=>X1 W (K (.tuple #[(.slice none 0 0),g,(.int .i64 60)]) w) (Q4 P .add T.e (.tmp 47) (.const (.int .i64 1)) g (.int .i64 1) w fun ar w=>f ar w)) (lp (α:=Value) (.int .i64 0) w fun k n B w=>X5 P .len [T.h] T.e [false] [l] w fun ad w=>Q4 P .lss T.e (.tmp 61) (.tmp 63) n ad w fun aq w=>X1 aq (indexAddr P T.h l n w fun U w=>Q2 P T.a U w fun az w=>Q1 P F.b1 [c.1,az] w fun r w=>Q4 P .neq T.r (.tmp 73) (.const (.int .i64 0)) r (.int .i64 0) w fun aj w=>X1 aj (K (.tuple #[(.slice none 0 0),n,r]) w) (Q4 P .add T.e (.tmp 65) (.const (.int .i64 1)) n (.int .i64 1) w fun a2 w=>k a2 w)) (Q1 P F.ag [c.1] w fun aw w=>lp (α:=Value) (.int .i64 0) w fun h d B w=>X5 P .len [T.h] T.e [false] [l] w fun a4 w=>Q4 P .lss T.e (.tmp 79) (.tmp 81) d a4 w fun ac w=>X1 ac (Q4 P .add T.e (.tmp 86) (.tmp 87) b d w fun aa w=>indexAddr P T.a1 aw aa w fun ak w=>Q2 P T.z ak w fun X w=>Q4 P .add T.e (.tmp 91) (.tmp 92) b d w fun R w=>indexAddr P T.z X R w fun Y w=>Q2 P T.m Y w fun af w=>X1 af (K (.tuple #[(.slice none 0 0),d,(.int .i64 63)]) w) (Q4 P .add T.e (.tmp 83) (.const (.int .i64 1)) d (.int .i64 1) w fun ax w=>h ax w)) (buildSlice P T.a0 0 [] w fun a3 w=>lp (α:=Value×Value) (a3,(.int .i64 0)) w fun e a B w=>X5 P .len [T.h] T.e [false] [l] w fun M w=>Q4 P .lss T.e (.tmp 98) (.tmp 100) a.2 M w fun u w=>X1 u (Q4 P .add T.e (.tmp 107) (.tmp 108) b a.2 w fun z w=>Q1 P F.aQ [c.1,a.1,b,z] w fun D w=>Q4 P .add T.e (.tmp 102) (.const (.int .i64 1)) a.2 (.int .i64 1) w fun C w=>e (D,C) w) (lp (α:=Value) (.int .i64 0) w fun j o B w=>X5 P .len [T.a0] T.e [false] [a.1] w fun v w=>Q4 P .lss T.e (.tmp 111) (.tmp 113) o v w fun t w=>X1 t (indexAddr P T.a0 a.1 o w fun N w=>Q2 P T.e N w fun y w=>Q1 P F.aW [c.1,y] w fun p w=>Q4 P .neq T.r (.tmp 123) (.const (.int .i64 0)) p (.int .i64 0) w fun E w=>X1 E (dr w fun Tr Br=>Q7 Tr (fun i=> ∀w,Br w→indexAddr P T.a0 a.1 o w (dk Tr i w)) fun i=>∀q w,Br w→i q w→ Q2 P T.e q w fun L w=>Q4 P .sub T.e (.tmp 128) (.tmp 129) L b w fun s w=>K (.tuple #[(.slice none 0 0),s,p]) w) (Q4 P .add T.e (.tmp 115) (.const (.int .i64 1)) o (.int .i64 1) w fun J w=>j J w)) (K (.tuple #[c.1,(.int .i64 0),(.int .i64 0)]) w))))))
theorem Po {a:Value} {w:World} {K:Value→World→Prop} (h:Nx a w K):Q1 P F.bu [a] w K:=X0 Tw Tryz.func27 rfl (by decide) (by kernel_rfl) h
def Uu (w:World) (K:Value→World→Prop):Prop:= Q1 P F.ax [] w fun o w=>Q1 P F.cG [o] w fun b w=>ext P b 0 w fun e w=>ext P b 1 w fun q w=>ext P b 2 w fun n w=>Q1 P F.ax [] w fun i w=>Q1 P F.bu [i] w fun a w=>ext P a 0 w fun j w=>ext P a 1 w fun p w=>ext P a 2 w fun m w=>Q4 P .neq T.r (.tmp 20) (.const (.int .i64 0)) n (.int .i64 0) w fun d w=>Q0 d false w (fun w J=>J m w) fun k w=>Q0 d false w (Q4 P .neq T.r (.tmp 23) (.const (.int .i64 0)) k (.int .i64 0)) fun g w=>pick P d (.bool true) g w fun c w=>Q0 c false w (fun w J=>J e w) fun h w=>Q0 c false w (Q4 P .eql T.s (.tmp 27) (.const (.pointer none)) h (.pointer none)) fun l w=>pick P c (.bool true) l w fun f w=>X1 f (K (.tuple #[(.pointer none),(.slice none 0 0)]) w) (K (.tuple #[e,j]) w)
theorem Cq {w:World} {K:Value→World→Prop} (h:Uu w K):Q1 P F.az [] w K:=X0 (List.replicate 7 none) Tryz.func10 rfl (by decide) (by kernel_rfl) h
def Ii (u:Value) (w:World) (K:Value→World→Prop):Prop:= box P T.f u w fun a w=>W6 P T.f w fun q w=>dr w fun b c=>Q7 b (fun g=> ∀w,c w→fieldAddr P T.f a 1 w (dk b g w)) fun g=>Q7 b (fun d=> ∀w,c w→fieldAddr P T.f a 2 w (dk b d w)) fun d=>Q7 b (fun f=> ∀h w,c w→g h w→Q2 P T.d h w (dk b f w)) fun f=>Q7 b (fun o=> ∀i w,c w→f i w→Q1 P F.b [i] w (dk b o w)) fun o=>Q7 b (fun k=> ∀j w,c w→d j w→Q2 P T.d j w (dk b k w)) fun k=>Q7 b (fun n=> ∀w,c w→fieldAddr P T.f a 1 w (dk b n w)) fun n=>Q7 b (fun l=> ∀e w,c w→k e w→Q1 P F.b [e] w (dk b l w)) fun l=>∀h j i t e s r w,c w→g h w→d j w→f i w→o t w→k e w→n s w→l r w→ Z4 P T.d s t w fun _u w=>fieldAddr P T.f a 2 w fun m w=>Z4 P T.d m r w fun _u w=>Q2 P T.f a w fun p w=>Z4 P T.f q p w fun _u w=>V7 P T.f q w fun v=>K v w
theorem Q3u {a:Value} {w:World} {K:Value→World→Prop} (h:Ii a w K):Q1 P F.bJ [a] w K:=X0 (List.replicate 3 none) Tryz.func28 rfl (by decide) (by kernel_rfl) h
def Jc (a f:Value) (w:World) (K:Value→World→Prop):Prop:= Q1 P F.a7 [a,f] w fun g w=>Z8 P .not g w fun h w=>X1 h (K (.tuple #[a,(.bool false)]) w) (X5 P .len [T.b] T.e [false] [a] w fun e w=>X5 P .len [T.b] T.e [false] [f] w fun d w=>Q4 P .sub T.e (.tmp 13) (.tmp 15) e d w fun c w=>H4 P T.b a none (some c) none w fun b w=>K (.tuple #[b,(.bool true)]) w)
theorem Hj {a b:Value} {w:World} {K:Value→World→Prop} (h:Jc a b w K):Q1 P F.bQ [a,b] w K:=X0 (List.replicate 5 none) Tryz.func206 rfl (by decide) (by kernel_rfl) h
def Mg (c d:Value) (w:World) (K:Value→World→Prop):Prop:= Q1 P F.bQ [c,d] w fun b w=>ext P b 0 w fun e w=>ext P b 1 w fun a w=>K (.tuple #[e,a]) w
theorem Kl {a b:Value} {w:World} {K:Value→World→Prop} (h:Mg a b w K):Q1 P F.br [a,b] w K:=X0 (List.replicate 2 none) Tryz.func176 rfl (by decide) (by kernel_rfl) h
def Q0M (f:Value) (w:World) (K:Value→World→Prop):Prop:= Q1 P F.br [f,(.string ⟨#[91,93]⟩)] w fun g w=>ext P g 0 w fun h w=>ext P g 1 w fun i w=>Z8 P .not i w fun a w=>Q0 a false w (fun w J=>J f w) fun d w=>Q0 a false w (Q1 P F.a2 [d]) fun c w=>Q0 a false w (Z8 P .not c) fun e w=>pick P a (.bool true) e w fun b w=>X1 b (K (.string ⟨#[]⟩) w) (K h w)
theorem Q5M {a:Value} {w:World} {K:Value→World→Prop} (h:Q0M a w K):Q1 P F.cC [a] w K:=X0 (List.replicate 6 none) Tryz.func118 rfl (by decide) (by kernel_rfl) h
def Wk (c g:Value) (w:World) (K:Value→World→Prop):Prop:= box P T.a c w fun a w=>fieldAddr P T.a a 0 w fun b w=>Q2 P T.b b w fun e w=>Q2 P T.b g w fun d w=>Q4 P .eql T.b (.tmp 5) (.tmp 6) e d w fun f w=>K f w
theorem Gu {a b:Value} {w:World} {K:Value→World→Prop} (h:Wk a b w K):Q1 P F.bh [a,b] w K:=X0 (List.replicate 2 none) Tryz.func119 rfl (by decide) (by kernel_rfl) h
def Od (g d z:Value) (w:World) (K:Value→World→Prop):Prop:= box P T.b z w fun a w=>Q1 P F.w [g,d] w fun o w=>Z8 P .not o w fun b w=>Q0 b false w (fun w J=>J g w) fun s w=>Q0 b false w (Q2 P T.b a) fun i w=>Q0 b false w (Q1 P F.w [s,i]) fun l w=>Q0 b false w (Z8 P .not l) fun h w=>pick P b (.bool true) h w fun n w=>X1 n (K (.bool false) w) (Q2 P T.b a w fun m w=>Q4 P .eql T.b (.tmp 19) (.tmp 20) d m w fun r w=>X1 r (K (.bool true) w) (Q1 P F.af [d] w fun c w=>Q0 c false w (Q2 P T.b a) fun e w=>Q0 c false w (Q1 P F.af [e]) fun j w=>pick P c (.bool true) j w fun p w=>X1 p (K (.bool false) w) (Q4 P .eql T.b (.tmp 30) (.const (.string ⟨#[110,117,108,108]⟩)) d (.string ⟨#[110,117,108,108]⟩) w fun u w=>X1 u (K (.bool true) w) (Q1 P F.cC [d] w fun f w=>Q4 P .neq T.b (.tmp 34) (.const (.string ⟨#[]⟩)) f (.string ⟨#[]⟩) w fun t w=>X1 t (Q2 P T.b a w fun y w=>Q4 P .eql T.b (.tmp 36) (.const (.string ⟨#[79,98,106,101,99,116]⟩)) y (.string ⟨#[79,98,106,101,99,116]⟩) w fun v w=>K v w) (M6 P (.func F.bh) [] [a] w fun k w=>Q1 P F.u [g,d,k] w fun q w=>K q w)))))
theorem Aq {a c b:Value} {w:World} {K:Value→World→Prop} (h:Od a c b w K):Q1 P F.ac [a,c,b] w K:=X0 (List.replicate 13 none) Tryz.func59 rfl (by decide) (by kernel_rfl) h
def Kc:V4:=[none,none,none,none,none,none,none,none,none,none,some ([7],[6,7,40,41,42,43,44,45,46,47,48,49,50,51]),none,none,none,none,none,none]
def Lt (e h g:Value) (w:World) (K:Value→World→Prop):Prop:= Q1 P F.ac [e,h,g] w fun u w=>X1 u (K g w) (Q1 P F.ac [e,g,h] w fun o w=>X1 o (K h w) (Q1 P F.w [e,h] w fun p w=>Z8 P .not p w fun a w=>Q0 a false w (fun w J=>J e w) fun i w=>Q0 a false w (fun w J=>J g w) fun m w=>Q0 a false w (Q1 P F.w [i,m]) fun r w=>Q0 a false w (Z8 P .not r) fun j w=>pick P a (.bool true) j w fun f w=>Q0 f false w (fun w J=>J h w) fun q w=>Q0 f false w (Q1 P F.af [q]) fun n w=>pick P f (.bool true) n w fun d w=>Q0 d false w (fun w J=>J g w) fun z w=>Q0 d false w (Q1 P F.af [z]) fun y w=>pick P d (.bool true) y w fun t w=>X1 t (K (.string ⟨#[]⟩) w) (lp (α:=Value) h w fun b c A w=>Q1 P F.k [e,c] w fun v w=>X1 v (Q1 P F.ac [e,g,c] w fun k w=>X1 k (K c w) (Q1 P F.h [e,c] w fun l w=>Vn P T.a l 1 w fun s w=>b s w)) (K (.string ⟨#[79,98,106,101,99,116]⟩) w))))
theorem Kh {a c b:Value} {w:World} {K:Value→World→Prop} (h:Lt a c b w K):Q1 P F.aF [a,c,b] w K:=X0 Kc Tryz.func29 rfl (by decide) (by kernel_rfl) h
def Q43:V4:=[none,none,none,none,none,none,none,none,none,none,none,some ([49],[7,9,10,11,49,50,51,52,53,54,55,56,57,58,59,60,61,62,63,64,65,66,67,68,69,70,71]),none,none,none,none,none,none,none,none,none,none,some ([75],[12,13,14,75,76,77,78,79,80,81,82,83,84,85,86,87,88,89,90,91,92,93,94,95,96,97,98,99,100,101,102,103,104]),none,none,none,none,none,some ([14],[14,80,81,82,83,84,85,86,87,88,89,90,91,92,93,94,95,96,97]),none,none]
def Tp (a0 a1 a2:Value) (w:World) (K:Value→World→Prop):Prop:= box P T.f a1 w fun k w=>box P T.f a2 w fun i w=>W6 P T.f w fun f w=>fieldAddr P T.f k 0 w fun A w=>Q2 P T.m A w fun X w=>Z8 P .not X w fun Y w=>X1 Y (Q2 P T.f i w fun ae w=>Q1 P F.bJ [ae] w fun a3 w=>Z4 P T.f f a3 w fun _u w=>V7 P T.f f w fun g=>K (.tuple #[g,(.int .i64 0)]) w) (fieldAddr P T.f i 0 w fun O w=>Q2 P T.m O w fun a6 w=>Z8 P .not a6 w fun E w=>X1 E (Q2 P T.f k w fun aa w=>Q1 P F.bJ [aa] w fun v w=>Z4 P T.f f v w fun _u w=>V7 P T.f f w fun g=>K (.tuple #[g,(.int .i64 0)]) w) (fieldAddr P T.f k 1 w fun Z w=>Q2 P T.d Z w fun B w=>X5 P .len [T.d] T.e [false] [B] w fun a4 w=>fieldAddr P T.f i 1 w fun bg w=>Q2 P T.d bg w fun a8 w=>X5 P .len [T.d] T.e [false] [a8] w fun ax w=>Q4 P .neq T.e (.tmp 30) (.tmp 33) a4 ax w fun a w=>Q0 a false w (fieldAddr P T.f k 2) fun ap w=>Q0 a false w (Q2 P T.d ap) fun an w=>Q0 a false w (X5 P .len [T.d] T.e [false] [an]) fun bi w=>Q0 a false w (fieldAddr P T.f i 2) fun bc w=>Q0 a false w (Q2 P T.d bc) fun aw w=>Q0 a false w (X5 P .len [T.d] T.e [false] [aw]) fun ab w=>Q0 a false w (Q4 P .neq T.e (.tmp 38) (.tmp 41) bi ab) fun bj w=>pick P a (.bool true) bj w fun a9 w=>X1 a9 (O5 P T.f [] w fun R w=>Z4 P T.f f R w fun _u w=>V7 P T.f f w fun g=>K (.tuple #[g,(.int .i64 75)]) w) (O5 P T.f [(0,(.bool true))] w fun L w=>W6 P T.f w fun j w=>Z4 P T.f j L w fun _u w=>fieldAddr P T.f k 1 w fun bh w=>Q2 P T.d bh w fun l w=>X5 P .len [T.d] T.e [false] [l] w fun ad w=>lp (α:=Value) (.int .i64 0) w fun e h d_ w=>Q4 P .lss T.e (.tmp 49) (.tmp 48) h ad w fun av w=>X1 av (indexAddr P T.d l h w fun ba w=>Q2 P T.b ba w fun N w=>fieldAddr P T.f i 1 w fun bd w=>Q2 P T.d bd w fun D w=>indexAddr P T.d D h w fun C w=>Q2 P T.b C w fun ao w=>Q1 P F.aF [a0,N,ao] w fun s w=>Q4 P .eql T.b (.tmp 62) (.const (.string ⟨#[]⟩)) s (.string ⟨#[]⟩) w fun M w=>X1 M (O5 P T.f [] w fun be w=>Z4 P T.f f be w fun _u w=>V7 P T.f f w fun g=>K (.tuple #[g,(.int .i64 75)]) w) (fieldAddr P T.f j 1 w fun bb w=>Q2 P T.d bb w fun al w=>buildSlice P T.d 1 [(0,s)] w fun ah w=>X5 P .append [T.d,T.d] T.d [false,false] [al,ah] w fun a5 w=>fieldAddr P T.f j 1 w fun ar w=>Z4 P T.d ar a5 w fun _u w=>Q4 P .add T.e (.tmp 49) (.const (.int .i64 1)) h (.int .i64 1) w fun aj w=>e aj w)) (fieldAddr P T.f k 2 w fun z w=>Q2 P T.d z w fun n w=>X5 P .len [T.d] T.e [false] [n] w fun U w=>lp (α:=Value) (.int .i64 0) w fun d c d_ w=>Q4 P .lss T.e (.tmp 75) (.tmp 74) c U w fun ai w=>X1 ai (indexAddr P T.d n c w fun bf w=>Q2 P T.b bf w fun u w=>jn (α:=Value) w (fun q w=>Q4 P .neq T.b (.tmp 80) (.const (.string ⟨#[]⟩)) u (.string ⟨#[]⟩) w fun b w=>Q0 b true w (fieldAddr P T.f i 2) fun W w=>Q0 b true w (Q2 P T.d W) fun af w=>Q0 b true w (fun w J=>J c w) fun ac w=>Q0 b true w (indexAddr P T.d af ac) fun ag w=>Q0 b true w (Q2 P T.b ag) fun am w=>Q0 b true w (Q4 P .neq T.b (.tmp 87) (.const (.string ⟨#[]⟩)) am (.string ⟨#[]⟩)) fun H w=>pick P b H (.bool false) w fun az w=>X1 az (fieldAddr P T.f i 2 w fun ay w=>Q2 P T.d ay w fun y w=>indexAddr P T.d y c w fun Q w=>Q2 P T.b Q w fun ak w=>Q1 P F.aF [a0,u,ak] w fun bk w=>q bk w) (q (.string ⟨#[]⟩) w)) fun a7 d_ w=>fieldAddr P T.f j 2 w fun V w=>Q2 P T.d V w fun aq w=>buildSlice P T.d 1 [(0,a7)] w fun o w=>X5 P .append [T.d,T.d] T.d [false,false] [aq,o] w fun t w=>fieldAddr P T.f j 2 w fun r w=>Z4 P T.d r t w fun _u w=>Q4 P .add T.e (.tmp 75) (.const (.int .i64 1)) c (.int .i64 1) w fun p w=>d p w) (Q2 P T.f j w fun m w=>Z4 P T.f f m w fun _u w=>V7 P T.f f w fun g=>K (.tuple #[g,(.int .i64 0)]) w)))))
theorem Q4D {a c b:Value} {w:World} {K:Value→World→Prop} (h:Tp a c b w K):Q1 P F.aU [a,c,b] w K:=X0 Q43 Tryz.func13 rfl (by decide) (by kernel_rfl) h
def Kq:V4:=[none,none,none,none,none,none,some ([5],[4,5,11,12,13,14,15,16,17,18,19,20,21,22,23,24,25]),none,none,none,none,none,none]
def Mf (m s:Value) (w:World) (K:Value→World→Prop):Prop:= X5 P .len [T.d] T.e [false] [m] w fun t w=>X5 P .len [T.d] T.e [false] [s] w fun u w=>Q4 P .neq T.e (.tmp 7) (.tmp 9) t u w fun p w=>X1 p (K (.bool false) w) (lp (α:=Value) (.int .i64 0) w fun b l v w=>X5 P .len [T.d] T.e [false] [m] w fun r w=>Q4 P .lss T.e (.tmp 11) (.tmp 13) l r w fun o w=>X1 o (dr w fun f i=>Q7 f (fun a=> ∀w,i w→indexAddr P T.d m l w (dk f a w)) fun a=>Q7 f (fun e=> ∀w,i w→indexAddr P T.d s l w (dk f e w)) fun e=>Q7 f (fun h=> ∀d w,i w→a d w→Q2 P T.b d w (dk f h w)) fun h=>Q7 f (fun g=> ∀c w,i w→e c w→Q2 P T.b c w (dk f g w)) fun g=>∀d c k j w,i w→a d w→e c w→h k w→g j w→ Q4 P .neq T.b (.tmp 20) (.tmp 24) k j w fun q w=>X1 q (K (.bool false) w) (Q4 P .add T.e (.tmp 15) (.const (.int .i64 1)) l (.int .i64 1) w fun n w=>b n w)) (K (.bool true) w))
theorem Kx {a b:Value} {w:World} {K:Value→World→Prop} (h:Mf a b w K):Q1 P F.aG [a,b] w K:=X0 Kq Tryz.func31 rfl (by decide) (by kernel_rfl) h
def Ls (q t:Value) (w:World) (K:Value→World→Prop):Prop:= box P T.f q w fun b w=>box P T.f t w fun a w=>fieldAddr P T.f b 0 w fun s w=>Q2 P T.m s w fun u w=>fieldAddr P T.f a 0 w fun r w=>Q2 P T.m r w fun p w=>Q4 P .eql T.m (.tmp 6) (.tmp 8) u p w fun d w=>Q0 d true w (fieldAddr P T.f b 1) fun o w=>Q0 d true w (Q2 P T.d o) fun n w=>Q0 d true w (fieldAddr P T.f a 1) fun l w=>Q0 d true w (Q2 P T.d l) fun e w=>Q0 d true w (Q1 P F.aG [n,e]) fun g w=>pick P d g (.bool false) w fun c w=>Q0 c true w (fieldAddr P T.f b 2) fun i w=>Q0 c true w (Q2 P T.d i) fun k w=>Q0 c true w (fieldAddr P T.f a 2) fun h w=>Q0 c true w (Q2 P T.d h) fun m w=>Q0 c true w (Q1 P F.aG [k,m]) fun f w=>pick P c f (.bool false) w fun j w=>K j w
theorem Kn {a b:Value} {w:World} {K:Value→World→Prop} (h:Ls a b w K):Q1 P F.aE [a,b] w K:=X0 (List.replicate 2 none) Tryz.func15 rfl (by decide) (by kernel_rfl) h
def Wv:V4:=[none,none,none,none,none,none,some ([13],[4,5,13,14,15,16,17,18,19,20,21,22,23,24,25]),none,none,none,none,none,none,none]
def K9 (m s:Value) (w:World) (K:Value→World→Prop):Prop:= X5 P .len [T.d] T.e [false] [m] w fun t w=>X5 P .len [T.d] T.e [false] [s] w fun u w=>Q4 P .neq T.e (.tmp 7) (.tmp 9) t u w fun p w=>X1 p (K (.bool false) w) (X5 P .len [T.d] T.e [false] [m] w fun r w=>lp (α:=Value) (.int .i64 0) w fun d l v w=>Q4 P .lss T.e (.tmp 13) (.tmp 12) l r w fun n w=>X1 n (dr w fun f i=>Q7 f (fun b=> ∀w,i w→indexAddr P T.d m l w (dk f b w)) fun b=>Q7 f (fun a=> ∀w,i w→indexAddr P T.d s l w (dk f a w)) fun a=>Q7 f (fun g=> ∀e w,i w→b e w→Q2 P T.b e w (dk f g w)) fun g=>Q7 f (fun h=> ∀c w,i w→a c w→Q2 P T.b c w (dk f h w)) fun h=>∀e c k j w,i w→b e w→a c w→g k w→h j w→ Q4 P .neq T.b (.tmp 19) (.tmp 23) k j w fun o w=>X1 o (K (.bool false) w) (Q4 P .add T.e (.tmp 13) (.const (.int .i64 1)) l (.int .i64 1) w fun q w=>d q w)) (K (.bool true) w))
theorem Lk {a b:Value} {w:World} {K:Value→World→Prop} (h:K9 a b w K):Q1 P F.a1 [a,b] w K:=X0 Wv Tryz.func32 rfl (by decide) (by kernel_rfl) h
def Q0H (q t:Value) (w:World) (K:Value→World→Prop):Prop:= box P T.f q w fun b w=>box P T.f t w fun a w=>fieldAddr P T.f b 0 w fun s w=>Q2 P T.m s w fun u w=>fieldAddr P T.f a 0 w fun r w=>Q2 P T.m r w fun p w=>Q4 P .eql T.m (.tmp 6) (.tmp 8) u p w fun d w=>Q0 d true w (fieldAddr P T.f b 1) fun o w=>Q0 d true w (Q2 P T.d o) fun n w=>Q0 d true w (fieldAddr P T.f a 1) fun l w=>Q0 d true w (Q2 P T.d l) fun e w=>Q0 d true w (Q1 P F.a1 [n,e]) fun g w=>pick P d g (.bool false) w fun c w=>Q0 c true w (fieldAddr P T.f b 2) fun i w=>Q0 c true w (Q2 P T.d i) fun k w=>Q0 c true w (fieldAddr P T.f a 2) fun h w=>Q0 c true w (Q2 P T.d h) fun m w=>Q0 c true w (Q1 P F.a1 [k,m]) fun f w=>pick P c f (.bool false) w fun j w=>K j w
theorem Q5C {a b:Value} {w:World} {K:Value→World→Prop} (h:Q0H a b w K):Q1 P F.cB [a,b] w K:=X0 (List.replicate 2 none) Tryz.func16 rfl (by decide) (by kernel_rfl) h
def Ol (a n:Value) (w:World) (K:Value→World→Prop):Prop:= nilCheck P a w fun l w=>fieldAddr P T.t l 4 w fun k w=>Q2 P T.r k w fun m w=>Q4 P .eql T.r (.tmp 7) (.const (.int .i64 0)) m (.int .i64 0) w fun j w=>X1 j (nilCheck P a w fun f w=>fieldAddr P T.t f 3 w fun c w=>fieldAddr P T.f c 1 w fun h w=>Q2 P T.d h w fun e w=>X5 P .append [T.d,T.d] T.d [false,false] [e,n] w fun d w=>nilCheck P a w fun b w=>fieldAddr P T.t b 3 w fun i w=>fieldAddr P T.f i 1 w fun g w=>Z4 P T.d g d w fun _u w=>K (.tuple #[]) w) (K (.tuple #[]) w)
theorem Q0p {a b:Value} {w:World} {K:Value→World→Prop} (h:Ol a b w K):Q1 P F.bG [a,b] w K:=X0 (List.replicate 1 none) Tryz.func123 rfl (by decide) (by kernel_rfl) h
def Q0u (b:Value) (w:World) (K:Value→World→Prop):Prop:= box P T.b b w fun a w=>M6 P (.func F.cL) [] [a] w fun c w=>K c w
theorem Q5n {a:Value} {w:World} {K:Value→World→Prop} (h:Q0u a w K):Q1 P F.aT [a] w K:=X0 (List.replicate 2 none) Tryz.func64 rfl (by decide) (by kernel_rfl) h
def Kt:V4:=[none,some ([],[7,8,9,10,11,12,13,14,15,16,17,18,19]),none,none]
def Mo (b q p:Value) (w:World) (K:Value→World→Prop):Prop:= jn (α:=Unit) w (fun o w=>Z8 P .not q w fun a w=>Q0 a true w (fun w J=>J b w) fun h w=>Q0 a true w (nilCheck P h) fun n w=>Q0 a true w (fieldAddr P T.t n 4) fun m w=>Q0 a true w (Q2 P T.r m) fun k w=>Q0 a true w (Q4 P .eql T.r (.tmp 13) (.const (.int .i64 0)) k (.int .i64 0)) fun c w=>pick P a c (.bool false) w fun f w=>X1 f (nilCheck P b w fun g w=>fieldAddr P T.t g 4 w fun j w=>Z4 P T.r j p w fun _u w=>o () w) (o () w)) fun s r w=>nilCheck P b w fun l w=>fieldAddr P T.t l 4 w fun e w=>Q2 P T.r e w fun i w=>Q4 P .eql T.r (.tmp 23) (.const (.int .i64 0)) i (.int .i64 0) w fun d w=>K d w
theorem Kz {a c b:Value} {w:World} {K:Value→World→Prop} (h:Mo a c b w K):Q1 P F.am [a,c,b] w K:=X0 Kt Tryz.func37 rfl (by decide) (by kernel_rfl) h
end Go.Proofs.YtfppjenblllfaaaGreatDoor

set_option maxRecDepth 100000
namespace Go.Proofs.YtfppjenblllfaaaGreatDoor
open Go.Emb
def Ob (b c:Value) (w:World) (K:Value→World→Prop):Prop:= nilCheck P b w fun J w=>fieldAddr P T.t J 3 w fun p w=>fieldAddr P T.f p 1 w fun H w=>Q2 P T.d H w fun E w=>X5 P .len [T.d] T.e [false] [E] w fun y w=>Q4 P .geq T.e (.tmp 13) (.tmp 14) y c w fun m w=>Q1 P F.am [b,m,(.int .i64 72)] w fun f w=>Z8 P .not f w fun o w=>X1 o (Nb P T.d c c w fun v w=>K v w) (nilCheck P b w fun z w=>fieldAddr P T.t z 3 w fun j w=>fieldAddr P T.f j 1 w fun q w=>Q2 P T.d q w fun h w=>X5 P .len [T.d] T.e [false] [h] w fun s w=>Q4 P .sub T.e (.tmp 25) (.tmp 26) s c w fun a w=>nilCheck P b w fun g w=>fieldAddr P T.t g 3 w fun n w=>fieldAddr P T.f n 1 w fun B w=>Q2 P T.d B w fun r w=>H4 P T.d r (some a) none none w fun e w=>Q1 P F.b [e] w fun A w=>nilCheck P b w fun C w=>fieldAddr P T.t C 3 w fun u w=>fieldAddr P T.f u 1 w fun l w=>Q2 P T.d l w fun t w=>H4 P T.d t none (some a) (some a) w fun k w=>nilCheck P b w fun i w=>fieldAddr P T.t i 3 w fun D w=>fieldAddr P T.f D 1 w fun d w=>Z4 P T.d d k w fun _u w=>K A w)
theorem Ap {a b:Value} {w:World} {K:Value→World→Prop} (h:Ob a b w K):Q1 P F.bw [a,b] w K:=X0 (List.replicate 8 none) Tryz.func70 rfl (by decide) (by kernel_rfl) h
def Mk (c f g:Value) (w:World) (K:Value→World→Prop):Prop:= nilCheck P c w fun d w=>fieldAddr P T.t d 0 w fun h w=>Q2 P T.s h w fun a w=>Q1 P F.ac [a,f,g] w fun b w=>Q1 P F.am [c,b,(.int .i64 73)] w fun e w=>K (.tuple #[]) w
theorem Ka {a c b:Value} {w:World} {K:Value→World→Prop} (h:Mk a c b w K):Q1 P F.bp [a,c,b] w K:=X0 [] Tryz.func132 rfl (by decide) (by kernel_rfl) h
def Q0k:V4:=[none,none,none,some ([7],[7,15,16,17,18,19,20,21,22,23,24,25,26,27,28]),none,none,none,none]
def On (n y v:Value) (w:World) (K:Value→World→Prop):Prop:= X5 P .len [T.d] T.e [false] [v] w fun t w=>Q1 P F.bw [n,t] w fun l w=>X5 P .len [T.d] T.e [false] [l] w fun u w=>Q4 P .sub T.e (.tmp 13) (.const (.int .i64 1)) u (.int .i64 1) w fun p w=>lp (α:=Value) p w fun d m B w=>Q4 P .geq T.e (.tmp 15) (.const (.int .i64 0)) m (.int .i64 0) w fun o w=>X1 o (dr w fun f i=>Q7 f (fun a=> ∀w,i w→indexAddr P T.d l m w (dk f a w)) fun a=>Q7 f (fun e=> ∀w,i w→indexAddr P T.d v m w (dk f e w)) fun e=>Q7 f (fun h=> ∀c w,i w→a c w→Q2 P T.b c w (dk f h w)) fun h=>Q7 f (fun g=> ∀b w,i w→e b w→Q2 P T.b b w (dk f g w)) fun g=>∀c b k j w,i w→a c w→e b w→h k w→g j w→ Q1 P F.bp [n,k,j] w fun A w=>Q4 P .sub T.e (.tmp 17) (.const (.int .i64 1)) m (.int .i64 1) w fun s w=>d s w) (Q4 P .neq T.b (.tmp 29) (.const (.string ⟨#[]⟩)) y (.string ⟨#[]⟩) w fun r w=>X1 r (buildSlice P T.d 1 [(0,y)] w fun q w=>Q1 P F.bG [n,q] w fun z w=>K (.tuple #[]) w) (K (.tuple #[]) w))
theorem Q0l {a c b:Value} {w:World} {K:Value→World→Prop} (h:On a c b w K):Q1 P F.a6 [a,c,b] w K:=X0 Q0k Tryz.func126 rfl (by decide) (by kernel_rfl) h
def St (a e d:Value) (w:World) (K:Value→World→Prop):Prop:= Q2 P T.b e w fun c w=>Q2 P T.d d w fun b w=>Q1 P F.a6 [a,c,b] w fun f w=>K (.tuple #[]) w
theorem Q27 {a c b:Value} {w:World} {K:Value→World→Prop} (h:St a c b w K):Q1 P F.c7 [a,c,b] w K:=X0 [] Tryz.func125 rfl (by decide) (by kernel_rfl) h
def Af (c e:Value) (w:World) (K:Value→World→Prop):Prop:= box P T.b c w fun b w=>box P T.d e w fun a w=>M6 P (.func F.c7) [] [b,a] w fun d w=>K d w
theorem Q4l {a b:Value} {w:World} {K:Value→World→Prop} (h:Af a b w K):Q1 P F.a3 [a,b] w K:=X0 (List.replicate 2 none) Tryz.func71 rfl (by decide) (by kernel_rfl) h
def Up (a:Value) (w:World) (K:Value→World→Prop):Prop:= buildSlice P T.d 2 [(0,(.string ⟨#[105,110,116]⟩)),(1,(.string ⟨#[105,110,116]⟩))] w fun b w=>Q1 P F.a6 [a,(.string ⟨#[98,111,111,108]⟩),b] w fun c w=>K (.tuple #[]) w
theorem Ss {a:Value} {w:World} {K:Value→World→Prop} (h:Up a w K):Q1 P F.aA [a] w K:=X0 [] Tryz.func72 rfl (by decide) (by kernel_rfl) h
def Lj (a:Value) (w:World) (K:Value→World→Prop):Prop:= buildSlice P T.d 2 [(0,(.string ⟨#[105,110,116]⟩)),(1,(.string ⟨#[105,110,116]⟩))] w fun b w=>Q1 P F.a6 [a,(.string ⟨#[105,110,116]⟩),b] w fun c w=>K (.tuple #[]) w
theorem Fm {a:Value} {w:World} {K:Value→World→Prop} (h:Lj a w K):Q1 P F.bc [a] w K:=X0 [] Tryz.func86 rfl (by decide) (by kernel_rfl) h
def Q3O:V4:=[none,none,none,none,some ([26],[3,26,27,28,29,30,31]),none,none,none,none,none]
def Aa (w:World) (K:Value→World→Prop):Prop:= Rb P T.j none w fun a w=>Q1 P F.aT [(.string ⟨#[105,110,116]⟩)] w fun A w=>mapUpdate P T.j a (.string ⟨#[105,110,116]⟩) A w fun _u w=>Q1 P F.aT [(.string ⟨#[98,111,111,108]⟩)] w fun B w=>mapUpdate P T.j a (.string ⟨#[116,114,117,101]⟩) B w fun _u w=>Q1 P F.aT [(.string ⟨#[98,111,111,108]⟩)] w fun y w=>mapUpdate P T.j a (.string ⟨#[102,97,108,115,101]⟩) y w fun _u w=>Q1 P F.aT [(.string ⟨#[116,101,120,116]⟩)] w fun v w=>mapUpdate P T.j a (.string ⟨#[119,111,114,100]⟩) v w fun _u w=>Q1 P F.aT [(.string ⟨#[110,117,108,108]⟩)] w fun z w=>mapUpdate P T.j a (.string ⟨#[110,117,108,108]⟩) z w fun _u w=>mapUpdate P T.j a (.string ⟨#[108,111,97,100]⟩) (.func (.func F.cf) #[] #[]) w fun _u w=>mapUpdate P T.j a (.string ⟨#[115,116,111,114,101]⟩) (.func (.func F.c8) #[] #[]) w fun _u w=>mapUpdate P T.j a (.string ⟨#[100,117,112]⟩) (.func (.func F.cr) #[] #[]) w fun _u w=>mapUpdate P T.j a (.string ⟨#[115,119,97,112]⟩) (.func (.func F.cg) #[] #[]) w fun _u w=>mapUpdate P T.j a (.string ⟨#[112,111,112]⟩) (.func (.func F.cH) #[] #[]) w fun _u w=>buildSlice P T.d 1 [(0,(.string ⟨#[105,110,116]⟩))] w fun l w=>Q1 P F.a3 [(.string ⟨#[105,110,116]⟩),l] w fun u w=>mapUpdate P T.j a (.string ⟨#[110,101,103]⟩) u w fun _u w=>buildSlice P T.d 1 [(0,(.string ⟨#[98,111,111,108]⟩))] w fun t w=>Q1 P F.a3 [(.string ⟨#[98,111,111,108]⟩),t] w fun q w=>mapUpdate P T.j a (.string ⟨#[110,111,116]⟩) q w fun _u w=>buildSlice P T.d 2 [(0,(.string ⟨#[98,111,111,108]⟩)),(1,(.string ⟨#[98,111,111,108]⟩))] w fun e w=>Q1 P F.a3 [(.string ⟨#[98,111,111,108]⟩),e] w fun h w=>mapUpdate P T.j a (.string ⟨#[98,111,116,104]⟩) h w fun _u w=>buildSlice P T.d 2 [(0,(.string ⟨#[116,101,120,116]⟩)),(1,(.string ⟨#[116,101,120,116]⟩))] w fun d w=>Q1 P F.a3 [(.string ⟨#[116,101,120,116]⟩),d] w fun j w=>mapUpdate P T.j a (.string ⟨#[106,111,105,110]⟩) j w fun _u w=>mapUpdate P T.j a (.string ⟨#[108,101,115,115]⟩) (.func (.func F.aA) #[] #[]) w fun _u w=>mapUpdate P T.j a (.string ⟨#[115,97,109,101]⟩) (.func (.func F.aA) #[] #[]) w fun _u w=>mapUpdate P T.j a (.string ⟨#[115,105,122,101]⟩) (.func (.func F.ch) #[] #[]) w fun _u w=>mapUpdate P T.j a (.string ⟨#[106,117,109,112]⟩) (.func (.func F.cI) #[] #[]) w fun _u w=>buildSlice P T.d 1 [(0,(.string ⟨#[98,111,111,108]⟩))] w fun k w=>Q1 P F.a3 [(.string ⟨#[]⟩),k] w fun p w=>mapUpdate P T.j a (.string ⟨#[98,114,97,110,99,104]⟩) p w fun _u w=>mapUpdate P T.j a (.string ⟨#[110,101,119]⟩) (.func (.func F.c5) #[] #[]) w fun _u w=>mapUpdate P T.j a (.string ⟨#[103,101,116]⟩) (.func (.func F.cs) #[] #[]) w fun _u w=>mapUpdate P T.j a (.string ⟨#[112,117,116]⟩) (.func (.func F.ci) #[] #[]) w fun _u w=>mapUpdate P T.j a (.string ⟨#[99,97,108,108]⟩) (.func (.func F.cj) #[] #[]) w fun _u w=>mapUpdate P T.j a (.string ⟨#[97,114,114,97,121]⟩) (.func (.func F.c9) #[] #[]) w fun _u w=>mapUpdate P T.j a (.string ⟨#[97,116]⟩) (.func (.func F.cz) #[] #[]) w fun _u w=>mapUpdate P T.j a (.string ⟨#[115,101,116]⟩) (.func (.func F.ct) #[] #[]) w fun _u w=>mapUpdate P T.j a (.string ⟨#[105,115]⟩) (.func (.func F.cA) #[] #[]) w fun _u w=>mapUpdate P T.j a (.string ⟨#[99,97,115,116]⟩) (.func (.func F.ck) #[] #[]) w fun _u w=>mapUpdate P T.j a (.string ⟨#[114,101,116,117,114,110]⟩) (.func (.func F.cl) #[] #[]) w fun _u w=>buildSlice P T.d 1 [(0,(.string ⟨#[70,97,117,108,116]⟩))] w fun i w=>Q1 P F.a3 [(.string ⟨#[]⟩),i] w fun r w=>mapUpdate P T.j a (.string ⟨#[116,104,114,111,119]⟩) r w fun _u w=>buildSlice P T.d 1 [(0,(.string ⟨#[105,110,116]⟩))] w fun g w=>Q1 P F.a3 [(.string ⟨#[]⟩),g] w fun m w=>mapUpdate P T.j a (.string ⟨#[111,117,116]⟩) m w fun _u w=>mapUpdate P T.j a (.string ⟨#[101,113,117,97,108]⟩) (.func (.func F.ca) #[] #[]) w fun _u w=>O5 P T.ah [(0,(.string ⟨#[97,100,100]⟩)),(1,(.string ⟨#[115,117,98]⟩)),(2,(.string ⟨#[109,117,108]⟩)),(3,(.string ⟨#[100,105,118]⟩)),(4,(.string ⟨#[114,101,109]⟩)),(5,(.string ⟨#[97,110,100]⟩)),(6,(.string ⟨#[111,114]⟩)),(7,(.string ⟨#[120,111,114]⟩)),(8,(.string ⟨#[115,104,108]⟩)),(9,(.string ⟨#[115,104,114]⟩))] w fun o w=>lp (α:=Value) (.int .i64 0) w fun b c C w=>Q4 P .lss T.e (.tmp 26) (.const (.int .i64 10)) c (.int .i64 10) w fun f w=>X1 f (E0 P T.ah o c w fun n w=>mapUpdate P T.j a n (.func (.func F.bc) #[] #[]) w fun _u w=>Q4 P .add T.e (.tmp 26) (.const (.int .i64 1)) c (.int .i64 1) w fun s w=>b s w) (K a w)
theorem Q4j {w:World} {K:Value→World→Prop} (h:Aa w K):Q1 P F.cp [] w K:=X0 Q3O Tryz.func36 rfl (by decide) (by kernel_rfl) h
def Q33 (a0 a1 a2 a3:Value) (w:World) (K:Value→World→Prop):Prop:= box P T.c a1 w fun V w=>box P T.n a2 w fun g w=>box P T.f a3 w fun f w=>W6 P T.f w fun W w=>dr w fun a b=>Q7 a (fun E=> ∀w,b w→fieldAddr P T.f f 1 w (dk a E w)) fun E=>Q7 a (fun o=> ∀w,b w→fieldAddr P T.f f 2 w (dk a o w)) fun o=>Q7 a (fun U=> ∀w,b w→Q2 P T.c V w (dk a U w)) fun U=>Q7 a (fun O=> ∀w,b w→Q2 P T.n g w (dk a O w)) fun O=>Q7 a (fun H=> ∀j w,b w→E j w→Q2 P T.d j w (dk a H w)) fun H=>Q7 a (fun i=> ∀s w,b w→H s w→Q1 P F.b [s] w (dk a i w)) fun i=>Q7 a (fun v=> ∀B w,b w→o B w→Q2 P T.d B w (dk a v w)) fun v=>Q7 a (fun u=> ∀r w,b w→v r w→Q1 P F.b [r] w (dk a u w)) fun u=>Q7 a (fun L=> ∀t C w,b w→i t w→u C w→O5 P T.f [(0,(.bool true)),(1,t),(2,C)] w (dk a L w)) fun L=>∀j B X aa s t r C Z w,b w→E j w→o B w→U X w→O aa w→H s w→i t w→v r w→u C w→L Z w→ O5 P T.t [(0,a0),(1,X),(2,aa),(3,Z)] w fun an w=>box P T.t an w fun d w=>dr w fun a b=>Q7 a (fun l=> ∀w,b w→fieldAddr P T.n g 0 w (dk a l w)) fun l=>Q7 a (fun z=> ∀w,b w→Q1 P F.cp [] w (dk a z w)) fun z=>Q7 a (fun q=> ∀m w,b w→l m w→Q2 P T.b m w (dk a q w)) fun q=>Q7 a (fun h=> ∀k y w,b w→z k w→q y w→lookup P T.j k y true w (dk a h w)) fun h=>Q7 a (fun R=> ∀c w,b w→h c w→ext P c 0 w (dk a R w)) fun R=>Q7 a (fun N=> ∀c w,b w→h c w→ext P c 1 w (dk a N w)) fun N=>∀m k y c ab ad w,b w→l m w→z k w→q y w→h c w→R ab w→N ad w→ Z8 P .not ad w fun am w=>X1 am (O5 P T.f [] w fun ae w=>Z4 P T.f W ae w fun _u w=>V7 P T.f W w fun Y=>K (.tuple #[Y,(.int .i64 76)]) w) (Z1 P ab [d] w fun a7 w=>nilCheck P d w fun al w=>fieldAddr P T.t al 3 w fun ap w=>fieldAddr P T.f ap 1 w fun av w=>Q2 P T.d av w fun ao w=>X5 P .len [T.d] T.e [false] [ao] w fun ak w=>Q4 P .leq T.e (.tmp 44) (.const (.int .i64 24)) ak (.int .i64 24) w fun ai w=>Q1 P F.am [d,ai,(.int .i64 72)] w fun a5 w=>nilCheck P d w fun aq w=>fieldAddr P T.t aq 4 w fun ar w=>Q2 P T.r ar w fun ag w=>Q4 P .neq T.r (.tmp 50) (.const (.int .i64 0)) ag (.int .i64 0) w fun aj w=>X1 aj (dr w fun a b=>Q7 a (fun n=> ∀w,b w→nilCheck P d w (dk a n w)) fun n=>Q7 a (fun D=> ∀p w,b w→n p w→fieldAddr P T.t p 4 w (dk a D w)) fun D=>Q7 a (fun J=> ∀w,b w→O5 P T.f [] w (dk a J w)) fun J=>Q7 a (fun Q=> ∀A w,b w→D A w→Q2 P T.r A w (dk a Q w)) fun Q=>Q1g a (fun M=> ∀e w,b w→J e w→Z4 P T.f W e w (dk a (M [e]) w)) fun M=>∀p A e ac u5 w,b w→n p w→D A w→J e w→Q ac w→M [e] u5 w→ V7 P T.f W w fun Y=>K (.tuple #[Y,ac]) w) (nilCheck P d w fun af w=>fieldAddr P T.t af 3 w fun ah w=>Q2 P T.f ah w fun aw w=>Z4 P T.f W aw w fun _u w=>V7 P T.f W w fun Y=>K (.tuple #[Y,(.int .i64 0)]) w))
theorem Q8t {a c b d:Value} {w:World} {K:Value→World→Prop} (h:Q33 a c b d w K):Q1 P F.cN [a,c,b,d] w K:=X0 (List.replicate 12 none) Tryz.func19 rfl (by decide) (by kernel_rfl) h
def Vt (w:World) (K:Value→World→Prop):Prop:= Q1 P F.az [] w fun t8 w=>ext P t8 0 w fun s w=>ext P t8 1 w fun B w=>Q4 P .eql T.s (.tmp 11) (.const (.pointer none)) s (.pointer none) w fun e w=>Q0 e false w (fun w J=>J B w) fun o w=>Q0 e false w (X5 P .len [T.h] T.e [false] [o]) fun v w=>Q0 e false w (Q4 P .eql T.e (.tmp 15) (.const (.int .i64 0)) v (.int .i64 0)) fun n w=>pick P e (.bool true) n w fun A w=>X1 A (K (.bool false) w) (O5 P T.c [] w fun y w=>O5 P T.n [(0,(.string ⟨#[97,100,100]⟩))] w fun Q w=>buildSlice P T.d 2 [(0,(.string ⟨#[105,110,116]⟩)),(1,(.string ⟨#[105,110,116]⟩))] w fun t w=>O5 P T.f [(0,(.bool true)),(1,t)] w fun C w=>Q1 P F.cN [s,y,Q,C] w fun h w=>ext P h 0 w fun H w=>ext P h 1 w fun j w=>W6 P T.f w fun a w=>Z4 P T.f a H w fun _u w=>buildSlice P T.d 1 [(0,(.string ⟨#[110,117,108,108]⟩))] w fun p w=>O5 P T.f [(0,(.bool true)),(1,p)] w fun z w=>buildSlice P T.d 1 [(0,(.string ⟨#[116,101,120,116,91,93]⟩))] w fun U w=>O5 P T.f [(0,(.bool true)),(1,U)] w fun D w=>Q1 P F.aU [s,z,D] w fun i w=>ext P i 0 w fun l w=>ext P i 1 w fun R w=>W6 P T.f w fun b w=>Z4 P T.f b l w fun _u w=>Q2 P T.f a w fun Z w=>buildSlice P T.d 1 [(0,(.string ⟨#[105,110,116]⟩))] w fun Y w=>O5 P T.f [(0,(.bool true)),(1,Y)] w fun V w=>Q1 P F.aE [Z,V] w fun f w=>Q0 f true w (fun w J=>J j w) fun L w=>Q0 f true w (Q4 P .eql T.r (.tmp 41) (.const (.int .i64 0)) L (.int .i64 0)) fun X w=>pick P f X (.bool false) w fun c w=>Q0 c true w (Q2 P T.f b) fun r w=>Q0 c true w (buildSlice P T.d 1 [(0,(.string ⟨#[116,101,120,116,91,93]⟩))]) fun W w=>Q0 c true w (O5 P T.f [(0,(.bool true)),(1,W)]) fun k w=>Q0 c true w (Q1 P F.aE [r,k]) fun N w=>pick P c N (.bool false) w fun g w=>Q0 g true w (fun w J=>J R w) fun u w=>Q0 g true w (Q4 P .eql T.r (.tmp 51) (.const (.int .i64 0)) u (.int .i64 0)) fun E w=>pick P g E (.bool false) w fun d w=>Q0 d true w (Q2 P T.f a) fun O w=>Q0 d true w (Q2 P T.f a) fun M w=>Q0 d true w (Q1 P F.cB [O,M]) fun q w=>pick P d q (.bool false) w fun m w=>K m w)
theorem Fe {w:World} {K:Value→World→Prop} (h:Vt w K):Q1 P F.ae [] w K:=X0 (List.replicate 8 none) Tryz.func11 rfl (by decide) (by kernel_rfl) h
def Pg:V4:=[none,none,none,none,none,none,some ([3],[2,3,15,16,17,18,19,20,21,22,23,24,25,26,27,28]),none,none,none,none,none,none,none,some ([4],[2,4,29,30,31,32,33,34,35,36,37,38,39,40,41,42]),none,none,none,none,none,none]
def Oa (N:Value) (w:World) (K:Value→World→Prop):Prop:= box P T.f N w fun a w=>fieldAddr P T.f a 1 w fun R w=>Q2 P T.d R w fun U w=>X5 P .len [T.d] T.e [false] [U] w fun O w=>Q4 P .gtr T.e (.tmp 7) (.const (.int .i64 40)) O (.int .i64 40) w fun e w=>Q0 e false w (fieldAddr P T.f a 2) fun q w=>Q0 e false w (Q2 P T.d q) fun J w=>Q0 e false w (X5 P .len [T.d] T.e [false] [J]) fun E w=>Q0 e false w (Q4 P .gtr T.e (.tmp 12) (.const (.int .i64 40)) E (.int .i64 40)) fun A w=>pick P e (.bool true) A w fun h w=>X1 h (K (.bool false) w) (lp (α:=Value) (.int .i64 0) w fun c m Q w=>fieldAddr P T.f a 1 w fun g w=>Q2 P T.d g w fun o w=>X5 P .len [T.d] T.e [false] [o] w fun p w=>Q4 P .lss T.e (.tmp 15) (.tmp 18) m p w fun z w=>X1 z (fieldAddr P T.f a 1 w fun j w=>Q2 P T.d j w fun r w=>indexAddr P T.d r m w fun u w=>Q2 P T.b u w fun f w=>X5 P .len [T.b] T.e [false] [f] w fun i w=>Q4 P .gtr T.e (.tmp 27) (.const (.int .i64 100)) i (.int .i64 100) w fun t w=>X1 t (K (.bool false) w) (Q4 P .add T.e (.tmp 20) (.const (.int .i64 1)) m (.int .i64 1) w fun B w=>c B w)) (lp (α:=Value) (.int .i64 0) w fun b d Q w=>fieldAddr P T.f a 2 w fun n w=>Q2 P T.d n w fun D w=>X5 P .len [T.d] T.e [false] [D] w fun s w=>Q4 P .lss T.e (.tmp 29) (.tmp 32) d s w fun l w=>X1 l (fieldAddr P T.f a 2 w fun M w=>Q2 P T.d M w fun L w=>indexAddr P T.d L d w fun y w=>Q2 P T.b y w fun k w=>X5 P .len [T.b] T.e [false] [k] w fun v w=>Q4 P .gtr T.e (.tmp 41) (.const (.int .i64 100)) v (.int .i64 100) w fun H w=>X1 H (K (.bool false) w) (Q4 P .add T.e (.tmp 34) (.const (.int .i64 1)) d (.int .i64 1) w fun C w=>b C w)) (K (.bool true) w)))
theorem Pj {a:Value} {w:World} {K:Value→World→Prop} (h:Oa a w K):Q1 P F.aO [a] w K:=X0 Pg Tryz.func12 rfl (by decide) (by kernel_rfl) h
def Nt (k i f:Value) (w:World) (K:Value→World→Prop):Prop:= Q1 P F.a8 [k,i] w fun ab w=>Z8 P .not ab w fun b w=>Q0 b false w (fun w J=>J k w) fun q w=>Q0 b false w (fun w J=>J f w) fun z w=>Q0 b false w (Q1 P F.a8 [q,z]) fun p w=>Q0 b false w (Z8 P .not p) fun C w=>pick P b (.bool true) C w fun d w=>Q0 d false w (fun w J=>J i w) fun A w=>Q0 d false w (fun w J=>J f w) fun U w=>Q0 d false w (Q4 P .eql T.b (.tmp 20) (.tmp 21) A U) fun v w=>pick P d (.bool true) v w fun E w=>X1 E (Q4 P .eql T.b (.tmp 24) (.tmp 25) i f w fun c w=>Q0 c true w (fun w J=>J k w) fun H w=>Q0 c true w (fun w J=>J i w) fun r w=>Q0 c true w (Q1 P F.a8 [H,r]) fun B w=>pick P c B (.bool false) w fun X w=>K X w) (Q1 P F.t [i] w fun e w=>Q0 e false w (fun w J=>J f w) fun V w=>Q0 e false w (Q1 P F.t [V]) fun ac w=>pick P e (.bool true) ac w fun j w=>Q0 j false w (fun w J=>J f w) fun O w=>Q0 j false w (Q4 P .eql T.b (.tmp 39) (.const (.string ⟨#[110,117,108,108]⟩)) O (.string ⟨#[110,117,108,108]⟩)) fun y w=>pick P j (.bool true) y w fun N w=>X1 N (K (.bool false) w) (Q4 P .eql T.b (.tmp 42) (.const (.string ⟨#[110,117,108,108]⟩)) i (.string ⟨#[110,117,108,108]⟩) w fun g w=>Q0 g false w (fun w J=>J f w) fun t w=>Q0 g false w (Q4 P .eql T.b (.tmp 45) (.const (.string ⟨#[79,98,106,101,99,116]⟩)) t (.string ⟨#[79,98,106,101,99,116]⟩)) fun Y w=>pick P g (.bool true) Y w fun n w=>X1 n (K (.bool true) w) (Q1 P F.c [k,i] w fun l w=>Q1 P F.c [k,f] w fun m w=>Q4 P .geq T.e (.tmp 54) (.const (.int .i64 0)) l (.int .i64 0) w fun h w=>Q0 h true w (fun w J=>J m w) fun s w=>Q0 h true w (Q4 P .geq T.e (.tmp 57) (.const (.int .i64 0)) s (.int .i64 0)) fun o w=>pick P h o (.bool false) w fun a w=>Q0 a true w (fun w J=>J k w) fun W w=>Q0 a true w (Q1 P F.ag [W]) fun Q w=>Q0 a true w (fun w J=>J l w) fun u w=>Q0 a true w (indexAddr P T.a1 Q u) fun R w=>Q0 a true w (Q2 P T.z R) fun M w=>Q0 a true w (fun w J=>J m w) fun aa w=>Q0 a true w (indexAddr P T.z M aa) fun L w=>Q0 a true w (Q2 P T.m L) fun Z w=>pick P a Z (.bool false) w fun D w=>K D w)))
theorem Te {a c b:Value} {w:World} {K:Value→World→Prop} (h:Nt a c b w K):Q1 P F.aP [a,c,b] w K:=X0 (List.replicate 12 none) Tryz.func33 rfl (by decide) (by kernel_rfl) h
end Go.Proofs.YtfppjenblllfaaaGreatDoor

set_option maxRecDepth 100000
namespace Go.Proofs.YtfppjenblllfaaaGreatDoor
open Go.Emb
def Fk:V4:=[none,none,none,none,none,none,some ([7],[6,7,25,26,27,28,29,30,31,32,33,34,35,36,37,38,39,40,41,42,43,44]),none,none,none,none,none,none,none,some ([8],[6,8,45,46,47,48,49,50,51,52,53,54,55,56,57,58,59,60,61,62,63,64,65,66,67,68,69,70,71,72]),none,none,none,none,none,none]
def Wx (a0 a1 a2:Value) (w:World) (K:Value→World→Prop):Prop:= box P T.f a1 w fun t4 w=>box P T.f a2 w fun t5 w=>fieldAddr P T.f t4 1 w fun t9 w=>Q2 P T.d t9 w fun a5 w=>X5 P .len [T.d] T.e [false] [a5] w fun bd w=>fieldAddr P T.f t5 1 w fun bm w=>Q2 P T.d bm w fun a8 w=>X5 P .len [T.d] T.e [false] [a8] w fun av w=>Q4 P .neq T.e (.tmp 11) (.tmp 14) bd av w fun e w=>Q0 e false w (fieldAddr P T.f t4 2) fun a3 w=>Q0 e false w (Q2 P T.d a3) fun a4 w=>Q0 e false w (X5 P .len [T.d] T.e [false] [a4]) fun a9 w=>Q0 e false w (fieldAddr P T.f t5 2) fun bh w=>Q0 e false w (Q2 P T.d bh) fun ba w=>Q0 e false w (X5 P .len [T.d] T.e [false] [ba]) fun ay w=>Q0 e false w (Q4 P .neq T.e (.tmp 19) (.tmp 22) a9 ay) fun bi w=>pick P e (.bool true) bi w fun ax w=>X1 ax (K (.bool false) w) (lp (α:=Value) (.int .i64 0) w fun k x6 d_ w=>fieldAddr P T.f t4 1 w fun ap w=>Q2 P T.d ap w fun bf w=>X5 P .len [T.d] T.e [false] [bf] w fun a6 w=>Q4 P .lss T.e (.tmp 25) (.tmp 28) x6 a6 w fun aw w=>X1 aw (dr w fun b d=>Q7 b (fun z=> ∀w,d w→fieldAddr P T.f t4 1 w (dk b z w)) fun z=>Q7 b (fun n=> ∀w,d w→fieldAddr P T.f t5 1 w (dk b n w)) fun n=>Q7 b (fun o=> ∀O w,d w→z O w→Q2 P T.d O w (dk b o w)) fun o=>Q7 b (fun ab=> ∀E w,d w→o E w→indexAddr P T.d E x6 w (dk b ab w)) fun ab=>Q7 b (fun ae=> ∀C w,d w→ab C w→Q2 P T.b C w (dk b ae w)) fun ae=>Q7 b (fun V=> ∀aa w,d w→n aa w→Q2 P T.d aa w (dk b V w)) fun V=>Q7 b (fun L=> ∀X w,d w→V X w→indexAddr P T.d X x6 w (dk b L w)) fun L=>Q7 b (fun ag=> ∀r w,d w→L r w→Q2 P T.b r w (dk b ag w)) fun ag=>∀O aa E C aj X r an w,d w→z O w→n aa w→o E w→ab C w→ae aj w→V X w→L r w→ag an w→ Q1 P F.aP [a0,aj,an] w fun bj w=>Z8 P .not bj w fun az w=>X1 az (K (.bool false) w) (Q4 P .add T.e (.tmp 30) (.const (.int .i64 1)) x6 (.int .i64 1) w fun bk w=>k bk w)) (lp (α:=Value) (.int .i64 0) w fun f g d_ w=>fieldAddr P T.f t4 2 w fun bl w=>Q2 P T.d bl w fun aq w=>X5 P .len [T.d] T.e [false] [aq] w fun a7 w=>Q4 P .lss T.e (.tmp 45) (.tmp 48) g a7 w fun bb w=>X1 bb (dr w fun b d=>Q7 b (fun D=> ∀w,d w→fieldAddr P T.f t5 2 w (dk b D w)) fun D=>Q7 b (fun M=> ∀R w,d w→D R w→Q2 P T.d R w (dk b M w)) fun M=>Q7 b (fun v=> ∀j w,d w→M j w→indexAddr P T.d j g w (dk b v w)) fun v=>Q7 b (fun Q=> ∀u w,d w→v u w→Q2 P T.b u w (dk b Q w)) fun Q=>Q7 b (fun c=> ∀Y w,d w→Q Y w→Q4 P .neq T.b (.tmp 56) (.const (.string ⟨#[]⟩)) Y (.string ⟨#[]⟩) w (dk b c w)) fun c=>Q7 b (fun ac=> ∀a w,d w→c a w→Q0 a true w (fun w J=>J a0 w) (dk b ac w)) fun ac=>Q7 b (fun p=> ∀a w,d w→c a w→Q0 a true w (fieldAddr P T.f t4 2) (dk b p w)) fun p=>Q7 b (fun m=> ∀a w,d w→c a w→Q0 a true w (fun w J=>J g w) (dk b m w)) fun m=>Q7 b (fun t=> ∀a w,d w→c a w→Q0 a true w (fieldAddr P T.f t5 2) (dk b t w)) fun t=>Q7 b (fun h=> ∀a w,d w→c a w→Q0 a true w (fun w J=>J g w) (dk b h w)) fun h=>Q7 b (fun N=> ∀a B w,d w→c a w→p B w→Q0 a true w (Q2 P T.d B) (dk b N w)) fun N=>Q7 b (fun W=> ∀a Z s w,d w→c a w→N Z w→m s w→Q0 a true w (indexAddr P T.d Z s) (dk b W w)) fun W=>Q7 b (fun ad=> ∀a i w,d w→c a w→W i w→Q0 a true w (Q2 P T.b i) (dk b ad w)) fun ad=>Q7 b (fun H=> ∀a U w,d w→c a w→t U w→Q0 a true w (Q2 P T.d U) (dk b H w)) fun H=>Q7 b (fun l=> ∀a A q w,d w→c a w→H A w→h q w→Q0 a true w (indexAddr P T.d A q) (dk b l w)) fun l=>Q7 b (fun af=> ∀a y w,d w→c a w→l y w→Q0 a true w (Q2 P T.b y) (dk b af w)) fun af=>∀R j u Y a ai B s U q Z i al A y ak w,d w→D R w→M j w→v u w→Q Y w→c a w→ac ai w→p B w→m s w→t U w→h q w→N Z w→W i w→ad al w→H A w→l y w→af ak w→ Q0 a true w (Q1 P F.aP [ai,al,ak]) fun be w=>Q0 a true w (Z8 P .not be) fun bc w=>pick P a bc (.bool false) w fun ar w=>X1 ar (K (.bool false) w) (Q4 P .add T.e (.tmp 50) (.const (.int .i64 1)) g (.int .i64 1) w fun bg w=>f bg w)) (K (.bool true) w)))
theorem Gk {a c b:Value} {w:World} {K:Value→World→Prop} (h:Wx a c b w K):Q1 P F.a4 [a,c,b] w K:=X0 Fk Tryz.func17 rfl (by decide) (by kernel_rfl) h
def Yt (a0 a1:Value) (w:World) (K:Value→World→Prop):Prop:= box P T.f a0 w fun j w=>box P T.f a1 w fun k w=>Q1 P F.az [] w fun p w=>ext P p 0 w fun n w=>ext P p 1 w fun g w=>Q1 P F.ae [] w fun O w=>Z8 P .not O w fun f w=>Q0 f false w (Q2 P T.f j) fun U w=>Q0 f false w (Q1 P F.aO [U]) fun af w=>Q0 f false w (Z8 P .not af) fun Q w=>pick P f (.bool true) Q w fun h w=>Q0 h false w (Q2 P T.f k) fun W w=>Q0 h false w (Q1 P F.aO [W]) fun y w=>Q0 h false w (Z8 P .not y) fun Z w=>pick P h (.bool true) Z w fun e w=>Q0 e false w (fieldAddr P T.f j 0) fun Y w=>Q0 e false w (Q2 P T.m Y) fun u w=>Q0 e false w (Z8 P .not u) fun R w=>pick P e (.bool true) R w fun i w=>Q0 i false w (fieldAddr P T.f k 0) fun M w=>Q0 i false w (Q2 P T.m M) fun r w=>Q0 i false w (Z8 P .not r) fun ag w=>pick P i (.bool true) ag w fun aq w=>X1 aq (Q1 P F.ae [] w fun an w=>K an w) (Q2 P T.f j w fun L w=>Q2 P T.f k w fun ab w=>Q1 P F.aU [n,L,ab] w fun q w=>ext P q 0 w fun X w=>ext P q 1 w fun m w=>W6 P T.f w fun z w=>Z4 P T.f z X w fun _u w=>Q2 P T.f k w fun s w=>Q2 P T.f j w fun ae w=>Q1 P F.aU [n,s,ae] w fun o w=>ext P o 0 w fun v w=>ext P o 1 w fun l w=>W6 P T.f w fun D w=>Z4 P T.f D v w fun _u w=>Q4 P .neq T.r (.tmp 52) (.const (.int .i64 0)) m (.int .i64 0) w fun E w=>X1 E (Q4 P .eql T.r (.tmp 54) (.tmp 55) l m w fun ac w=>K ac w) (Q4 P .eql T.r (.tmp 57) (.const (.int .i64 0)) l (.int .i64 0) w fun a w=>Q0 a true w (fun w J=>J g w) fun ao w=>Q0 a true w (Q2 P T.f j) fun ai w=>Q0 a true w (Q2 P T.f z) fun ad w=>Q0 a true w (Q1 P F.a4 [ao,ai,ad]) fun C w=>pick P a C (.bool false) w fun c w=>Q0 c true w (fun w J=>J g w) fun am w=>Q0 c true w (Q2 P T.f k) fun aa w=>Q0 c true w (Q2 P T.f z) fun aj w=>Q0 c true w (Q1 P F.a4 [am,aa,aj]) fun V w=>pick P c V (.bool false) w fun b w=>Q0 b true w (fun w J=>J g w) fun t w=>Q0 b true w (Q2 P T.f j) fun B w=>Q0 b true w (Q2 P T.f D) fun N w=>Q0 b true w (Q1 P F.a4 [t,B,N]) fun H w=>pick P b H (.bool false) w fun d w=>Q0 d true w (fun w J=>J g w) fun ah w=>Q0 d true w (Q2 P T.f k) fun al w=>Q0 d true w (Q2 P T.f D) fun ak w=>Q0 d true w (Q1 P F.a4 [ah,al,ak]) fun ap w=>pick P d ap (.bool false) w fun A w=>K A w))
theorem Dn {a b:Value} {w:World} {K:Value→World→Prop} (h:Yt a b w K):Q1 P F.bI [a,b] w K:=X0 (List.replicate 11 none) Tryz.func4 rfl (by decide) (by kernel_rfl) h
end Go.Proofs.YtfppjenblllfaaaGreatDoor


namespace Go.Emb
open Go.RowKit (Below)
variable {P : Program} {w w' : World} {K : Value → World → Prop}
theorem Y0 {s:Sem Value} {v:Value} (h:s.run P w= .ok v w'):op P (sv s) w K=K v w':=by
 rw[Xg];unfold T7 sv;simp[h]
theorem Mv {s:Sem Unit} (h:s.run P w= .ok () w'):op P (su s) w K=K undef w':=by
 rw[Xg];unfold T7 su;simp[h]
abbrev S (l:List UInt8):Value:= .string ⟨l.toArray⟩
abbrev I (n:Int):Value:= .int .i64 n
theorem Nz {b:Bool} {x y:Value}:pick P (.bool b) x y w K=K (if b then x else y) w:=by
 unfold pick;rw[Xg];unfold T7;cases b<;>simp[asBool]
theorem Ht {x y:Value}:pick P (.bool true) x y w K=K x w:=by rw[Nz];rfl
theorem Ou {x y:Value}:pick P (.bool false) x y w K=K y w:=by rw[Nz];rfl
theorem Q8H {a b:Bool} {u:Value}:pick P (.bool a) (if a=true then .bool b else u) (.bool false) w K=K (.bool (a&&b)) w:=by
 rw[Nz];cases a<;>rfl
theorem X0m {a b:Bool} {u:Value}:pick P (.bool a) (.bool true) (if a=false then .bool b else u) w K=K (.bool (a||b)) w:=by
 rw[Nz];cases a<;>rfl
theorem G9 {c:World→(Value→World→Prop)→Prop}:Q0 (.bool true) true w c K=c w K:=by rw[Np];simp[Wp]
theorem Vc {c:World→(Value→World→Prop)→Prop}:Q0 (.bool false) false w c K=c w K:=by rw[Np];simp[Wp]
theorem Ph {c:World→(Value→World→Prop)→Prop}:Q0 (.bool true) false w c K=K undef w:=by rw[Np];simp[Wp]
theorem Ju {c:World→(Value→World→Prop)→Prop}:Q0 (.bool false) true w c K=K undef w:=by rw[Np];simp[Wp]
theorem Tx {b:Bool} {c:World→(Value→World→Prop)→Prop}:Q0 undef b w c K=K undef w:=by rw[Np];rfl
theorem Q98 {a b:Bool} {v:Value}:Q0 (.bool a) b w (fun w J=>J v w) K=K (if a=b then v else undef) w:=by
 rw[Np];unfold Wp;by_cases h:a=b<;>simp[h]
theorem Q4H {b:Bool} {t e:Prop}:X1 (.bool b) t e=if b=true then t else e:=by rw[Q3M];cases b<;>rfl
theorem Mz {t e:Prop}:X1 (.bool true) t e=t:=by rw[Q4H];simp
theorem Uz {t e:Prop}:X1 (.bool false) t e=e:=by rw[Q4H];simp
section ints
variable {k : IntKind} {t : TypeId} {ox oy : Operand} {a b : Int}
theorem Cs:Q4 P .add t ox oy (.int k a) (.int k b) w K=K (.int k (k.wrap (a+b))) w:=Y0 (by simp[eqGuard,Go.binOp,Op.intArith])
theorem Q0d:Q4 P .sub t ox oy (.int k a) (.int k b) w K=K (.int k (k.wrap (a-b))) w:=Y0 (by simp[eqGuard,Go.binOp,Op.intArith])
theorem Q6j:Q4 P .mul t ox oy (.int k a) (.int k b) w K=K (.int k (k.wrap (a*b))) w:=Y0 (by simp[eqGuard,Go.binOp,Op.intArith])
theorem Q2s:Q4 P .lss t ox oy (.int k a) (.int k b) w K=K (.bool (decide (a<b))) w:=Y0 (by simp[eqGuard,Go.binOp,Op.intCmp])
theorem Q2t:Q4 P .leq t ox oy (.int k a) (.int k b) w K=K (.bool (decide (a≤b))) w:=Y0 (by simp[eqGuard,Go.binOp,Op.intCmp])
theorem Q2e:Q4 P .gtr t ox oy (.int k a) (.int k b) w K=K (.bool (decide (b<a))) w:=Y0 (by simp[eqGuard,Go.binOp,Op.intCmp])
theorem Q03:Q4 P .geq t ox oy (.int k a) (.int k b) w K=K (.bool (decide (b≤a))) w:=Y0 (by simp[eqGuard,Go.binOp,Op.intCmp])
theorem Q0h:Q4 P .eql t ox oy (.int k a) (.int k b) w K=K (.bool (decide (a=b))) w:=Y0 (by
 simp[eqGuard,Go.binOp,Op.intCmp];rfl)
theorem Q2g:Q4 P .neq t ox oy (.int k a) (.int k b) w K=K (.bool (!decide (a=b))) w:=Y0 (by
 simp[eqGuard,Go.binOp,Op.intCmp];rfl)
end ints
theorem Q2p {b:Bool}:Z8 P .not (.bool b) w K=K (.bool (!b)) w:=Y0 (by simp[Op.unary])
section bools
variable {t : TypeId} {ox oy : Operand} {a b : Bool}
theorem Q1b (d:Nat) (h:P.underlying t=some .bool):(Op.equalIn (d+1) t (.bool a) (.bool b)).run P w= .ok (a==b) w:=by
 simp[Op.equalIn,run_underlying h]
theorem Cr (h:P.underlying t=some .bool):(Op.equal t (.bool a) (.bool b)).run P w= .ok (a==b) w:=Q1b 9999 h
theorem Q4b (h:P.underlying t=some .bool):Q4 P .eql t ox oy (.bool a) (.bool b) w K=K (.bool (a==b)) w:=Y0 (by
 simp[eqGuard,Go.binOp,Cr h])
theorem Q4S (h:P.underlying t=some .bool):Q4 P .neq t ox oy (.bool a) (.bool b) w K=K (.bool (!(a==b))) w:=Y0 (by
 simp[eqGuard,Go.binOp,Cr h])
end bools
theorem Zn {vs:List Value} {i:Nat} {v:Value} (h:vs[i]? =some v):ext P (.tuple vs.toArray) i w K=K v w:=Y0 (by
 simp[Instr.extract,h])
theorem X1H {a b:Value}:ext P (.tuple #[a,b]) 0 w K=K a w:=Zn (vs:=[a,b]) rfl
theorem X1w {a b:Value}:ext P (.tuple #[a,b]) 1 w K=K b w:=Zn (vs:=[a,b]) rfl
theorem Q9E {a b c:Value}:ext P (.tuple #[a,b,c]) 0 w K=K a w:=Zn (vs:=[a,b,c]) rfl
theorem Q9V {a b c:Value}:ext P (.tuple #[a,b,c]) 1 w K=K b w:=Zn (vs:=[a,b,c]) rfl
theorem X08 {a b c:Value}:ext P (.tuple #[a,b,c]) 2 w K=K c w:=Zn (vs:=[a,b,c]) rfl
theorem F0 {n:Int} (c: -9223372036854775808≤n) (e:n≤9223372036854775807):IntKind.i64.wrap n=n:=by
 have d:n % 18446744073709551616=n∨n % 18446744073709551616=n+18446744073709551616:=by omega
 show (if (true&&decide (n % 18446744073709551616≥9223372036854775808))=true then n % 18446744073709551616-18446744073709551616 else n % 18446744073709551616)=n
 simp only[Bool.true_and,decide_eq_true_eq]
 split<;>omega
theorem w32 {n:Int} (c: -2147483648≤n) (d:n≤2147483647):IntKind.i32.wrap n=n:=by
 show (if (true&&decide (n % 4294967296≥2147483648))=true then n % 4294967296-4294967296 else n % 4294967296)=n
 simp only[Bool.true_and,decide_eq_true_eq]
 split<;>omega
section strs
variable {t : TypeId} {ox oy : Operand} {a b : List UInt8}
theorem Q2q (a b:List UInt8):(a==b)=decide (a=b):=by rw[Bool.eq_iff_iff];simp
theorem Sj:Q4 P .eql t ox oy (S a) (S b) w K=K (.bool (decide (a=b))) w:=Y0 (by
 simp[eqGuard,Go.binOp,Op.stringOp,Q2q])
theorem Sg:Q4 P .neq t ox oy (S a) (S b) w K=K (.bool (!decide (a=b))) w:=Y0 (by
 simp[eqGuard,Go.binOp,Op.stringOp,Q2q])
theorem C9 (l:List UInt8):(ByteArray.mk l.toArray).size=l.length:=by simp[ByteArray.size]
theorem Q86 (a b:List UInt8):ByteArray.mk a.toArray++ByteArray.mk b.toArray=ByteArray.mk (a++b).toArray:=by
 apply ByteArray.ext;simp
theorem X1T:IntKind.i64.max=9223372036854775807:=by decide
theorem Q5J (h:a.length+b.length≤9223372036854775807):Q4 P .add t ox oy (S a) (S b) w K=K (S (a++b)) w:=Y0 (by
 have c: ¬(((a.length+b.length:Nat):Int)>IntKind.i64.max):=by rw[X1T];omega
 simp only[eqGuard,Go.binOp,Op.stringOp,C9,Q86]
 simp only[if_neg c]
 simp)
theorem D5 {cs:List Bool} {r:TypeId} (c:P.underlying t=some .string):X5 P .len [t] r cs [S a] w K=K (I a.length) w:=by
 have h:(Builtin.len_ #[t] r #[S a]).run P w= .ok (I a.length) w:=by
  simp[Builtin.len_,run_underlying c,C9,goInt]
 exact Y0 h
theorem Qc {i:Int} (d:P.underlying t=some .string) (c:0≤i) (h:i.toNat<a.length):E0 P t (S a) (I i) w K=K (.int .u8 (a[i.toNat]'h).toNat) w:=Y0 (by
 simp only[Instr.index,asIntOf,Sem.run_bind,Sem.run_pure,Result.andThen_ok,run_underlying d,c,if_true]
 have:(ByteArray.mk a.toArray)[i.toNat]? =some (a[i.toNat]'h):=by
  rw[getElem?_pos _ _ (by rw[C9];exact h)]
  rfl
 rw[this];simp)
theorem Q1y (l:List UInt8) (i j:Nat):(ByteArray.mk l.toArray).extract i j=ByteArray.mk ((l.take j).drop i).toArray:=by
 apply ByteArray.ext
 apply Array.ext'
 simp[List.drop_take]
theorem Wl {i:Int} (d:P.underlying t=some .string) (c:0≤i) (h:i≤a.length):H4 P t (S a) (some (I i)) none none w K=K (S (a.drop i.toNat)) w:=Y0 (by
 simp[Instr.sliceAt,Instr.slice,Instr.sliceBounds,Instr.sliceBound,asIntOf,run_underlying d,c,h,C9,Q1y])
theorem K2 {i:Int} (d:P.underlying t=some .string) (c:0≤i) (h:i≤a.length):H4 P t (S a) none (some (I i)) none w K=K (S (a.take i.toNat)) w:=Y0 (by
 simp[Instr.sliceAt,Instr.slice,Instr.sliceBounds,Instr.sliceBound,asIntOf,run_underlying d,c,h,C9,Q1y])
end strs
theorem Q0U {s d:TypeId} {k j:IntKind} {n:Int} {ds:TypeDesc} (e:P.underlying s=some ds) (c:P.underlying d=some (.int k)):conv P s d (.int j n) w K=K (.int k (k.wrap n)) w:=Y0 (by
 simp[Go.convert,run_underlying e,run_underlying c,Conv.intToInt])
def Ai (w:World) (r:Nat) (o:Obj):World:={w with heap:=w.heap.setIfInBounds r o}
theorem Q3h {B r:Nat} {a w:World} {o:Obj} (h:Below B a w) (d:B≤r):Below B a (Ai w r o):=
 h.trans ⟨rfl,rfl,rfl,by simp[Ai],fun k c=>by simp only[Ai];rw[Array.getElem?_setIfInBounds_ne (by omega)]⟩
theorem Q6g {w:World} {r:Nat} {o:Obj} (h:r<w.heap.size):(Ai w r o).heap[r]? =some o:=by
 simp only[Ai];rw[Array.getElem?_setIfInBounds_self_of_lt h]
theorem X0y {t:TypeId} {a:List UInt8} (c:P.underlying t=some .string):rng P t (S a) w K=K (.pointer (some ⟨w.heap.size,0,none⟩)) (w.alloc (.stringIter ⟨a.toArray⟩ 0)):=Y0 (by
 simp[Instr.range,run_underlying c])
theorem X0o {t:TypeId} {r pos:Nat} {s:ByteArray} (h:w.heap[r]? =some (.stringIter s pos)) (e:pos<s.size):
 J7 P (.pointer (some ⟨r,0,none⟩)) true t w K=K (.tuple #[.bool true,I pos, .int .i32 (Utf8.decode s pos).1]) (Ai w r (.stringIter s (pos+(Utf8.decode s pos).2))):=Y0 (by
 have d: ∀(k:Obj→Sem Value),(getObj r>>=k).run P w=(k (.stringIter s pos)).run P w:=by
  intro k;rw[Sem.run_bind];simp[getObj,Sem.run,h]
 have c: ∀o,(setObj r o).run P w= .ok () (Ai w r o):=by intro o;simp[setObj,Sem.run,h,Ai]
 unfold Instr.next
 simp only[d,e,if_true]
 simp[c,goInt])
theorem Q56 {t:TypeId} {r pos:Nat} {s:ByteArray} (h:w.heap[r]? =some (.stringIter s pos)) (d: ¬pos<s.size):
 J7 P (.pointer (some ⟨r,0,none⟩)) true t w K=K (.tuple #[.bool false]) w:=Y0 (by
 have c: ∀(k:Obj→Sem Value),(getObj r>>=k).run P w=(k (.stringIter s pos)).run P w:=by
  intro k;rw[Sem.run_bind];simp[getObj,Sem.run,h]
 unfold Instr.next
 simp only[c,d,if_false]
 simp)
theorem Q9W {a:Value}:ext P (.tuple #[a]) 0 w K=K a w:=Zn (vs:=[a]) rfl
theorem Q6W {s:ByteArray} {i:Nat} (h:(s.get! i).toNat<128):Utf8.decode s i=((s.get! i).toNat,1):=by
 unfold Utf8.decode
 simp only[Nat.add_zero]
 rw[if_pos h]
theorem Q5H {s:ByteArray} {i:Nat} (h: ¬(s.get! i).toNat<128):128≤(Utf8.decode s i).1:=by
 unfold Utf8.decode
 simp only[Nat.add_zero]
 rw[if_neg h]
 repeat' split
 all_goals (simp only[Utf8.runeError] at*;try omega)
 all_goals (simp only[Bool.and_eq_true,decide_eq_true_eq,ge_iff_le] at*;omega)
theorem Q3P {s:ByteArray} {i:Nat}:1≤(Utf8.decode s i).2:=by
 unfold Utf8.decode
 simp only
 repeat' split
 all_goals simp
def Bk (p:Int→Bool) (s:ByteArray):Nat→Nat→Bool
 | 0,_=>true
 | n+1,i=>if i<s.size then p (Utf8.decode s i).1&&Bk p s n (i+(Utf8.decode s i).2) else true
theorem Q2j {a:List UInt8} {i:Nat} (h:i<a.length):(ByteArray.mk a.toArray).get! i=a[i]:=by
 show (ByteArray.mk a.toArray).data[i]! =a[i]
 simp[h]
theorem Q6z (p:Int→Bool) (f: ∀c:Int,128≤c→p c=false) (a:List UInt8): ∀(n i:Nat),a.length-i≤n→Bk p ⟨a.toArray⟩ n i=(a.drop i).all (fun b=>p b.toNat):=by
 intro n
 induction n with
 | zero=>intro i h;rw[List.drop_eq_nil_of_le (by omega)];rfl
 | succ n g=>
  intro i h
  simp only[Bk,C9]
  split
  ·rename_i d
   rw[List.drop_eq_getElem_cons d,List.all_cons]
   by_cases e:a[i].toNat<128
   ·rw[Q6W (by rw[Q2j d];exact e),Q2j d]
    simp only
    rw[g (i+1) (by omega)]
   ·have j:=Q5H (s:=⟨a.toArray⟩) (i:=i) (by rw[Q2j d];exact e)
    rw[f _ (by omega),f _ (by omega)];rfl
  ·rename_i d;rw[List.drop_eq_nil_of_le (by omega)];rfl
theorem V9 {α:Type} {A:(α→World→Prop)→World→Prop} {B:α→(Nat→Value)→World→Prop} (h:A (fun x w=> ∀d,B x d w) w):jn w A B:=Zt _ h (fun _ d _ c=>c d)
theorem X2 {d:World→World→Prop} {A c:(Value→World→Prop)→Prop} (V:Value) (h:A (fun v _=>v=V)) (e:c (fun v _=>v=V)):Q7 d A c:=
 W7 _ (fun _ _ _ h _=>h) h e
theorem Mx {w w0:World} {A:(World→World→Prop)→(World→Prop)→Prop} (d:Below w0.heap.size w0 w)
 (h:A (fun w w'=>Below w.heap.size w w') (fun w'=>Below w0.heap.size w0 w')):dr w A:=
 Q0c _ _ d.drew (fun _ _ c e=>c.trans (e.mono c.size)) h
theorem Q1I {w w':World} {v V:Value} (c:Below w.heap.size w w') (h:v=V):dk (fun w w'=>Below w.heap.size w w') (fun v _=>v=V) w v w':=⟨c,h⟩
theorem X6 {w:World} {v V:Value} (h:v=V):dk (fun w w'=>Below w.heap.size w w') (fun v _=>v=V) w v w:=⟨Below.refl _ _,h⟩
theorem Q5u {n:Nat} {fn:Func} {e:Array Value→Sem Value} {xs:List Value} {v:Value} (o:P.funcs[n]? =some fn) (m:(fn.name== "runtime.NumGoroutine")=false) (g:fn.body.isNone=true)
 (l:(Extern.findNext fn).isNone=true) (i:Extern.find fn=some e) (j:(e xs.toArray).run P w= .ok v w) (h:K v w):Q1 P n xs w K:=by
 have f:Extern.findNext fn=none:=by simpa using l
 have d: ¬fn.name= "runtime.NumGoroutine":=by simpa using m
 have c:fn.body=none:=by simpa using g
 unfold Q1
 rw[Xg]
 unfold T7 callFunc
 simp[o,d,c,f,i,j,h]
theorem Q1U {α:Type} (p:α→Bool) (c:Nat→Bool): ∀(l:List α),(∀i (h:i<l.length),c i=p l[i])→(List.range l.length).find? c=l.findIdx? p
 | [],_=>rfl
 | x::l,h=>by
  rw[List.length_cons,List.range_succ_eq_map,List.find?_cons,List.findIdx?_cons]
  have e:c 0=p x:=h 0 (by simp)
  rw[e]
  cases p x
  ·simp only[Bool.false_eq_true,if_false]
   rw[List.find?_map]
   have:=Q1U p (c ∘ Nat.succ) l (fun i d=>h (i+1) (by simpa using d))
   rw[this]
  ·rfl
def Mr:=And.intro @Ht <| And.intro @Ou <| And.intro @Tx <| And.intro @Cs <| And.intro @Q0d <| And.intro @Q6j <| And.intro @Q2s <| And.intro @Q2t <| And.intro @Q2e <| And.intro @Q03 <| And.intro @Q0h <| And.intro @Q2g <| And.intro @Q2p <| And.intro @Sj <| And.intro @Sg <| And.intro @X1H <| And.intro @X1w <| And.intro @Q9E <| And.intro @Q9V <| And.intro @X08 <| And.intro @Q9W <| And.intro @Q8H <| And.intro @X0m <| And.intro @G9 <| And.intro @Vc <| And.intro @Ph <| And.intro @Ju <| And.intro @Q98 <| And.intro @Mz <| @Uz
def Mp:=And.intro @Ht <| And.intro @Ou <| And.intro @Tx <| And.intro @Cs <| And.intro @Q0d <| And.intro @Q6j <| And.intro @Q2s <| And.intro @Q2t <| And.intro @Q2e <| And.intro @Q03 <| And.intro @Q0h <| And.intro @Q2g <| And.intro @Q2p <| And.intro @Sj <| And.intro @Sg <| And.intro @X1H <| And.intro @X1w <| And.intro @Q9E <| And.intro @Q9V <| And.intro @X08 <| And.intro @Q9W <| And.intro @G9 <| And.intro @Vc <| And.intro @Ph <| And.intro @Ju <| And.intro @Mz <| @Uz
def Mb:=And.intro @Bool.true_eq_false <| And.intro @Bool.false_eq_true <| And.intro @Bool.not_true <| And.intro @Bool.not_false <| And.intro @Bool.and_true <| And.intro @Bool.true_and <| And.intro @Bool.and_false <| And.intro @Bool.false_and <| And.intro @Bool.or_true <| And.intro @Bool.true_or <| And.intro @Bool.or_false <| @Bool.false_or
end Go.Emb

namespace Go.Kd
abbrev Q9:=List UInt8
def Qa (c:Int):Bool:=decide (65≤c)&&decide (c≤90)
def I7 (c:Int):Bool:=decide (97≤c)&&decide (c≤122)
def R6 (c:Int):Bool:=decide (48≤c)&&decide (c≤57)
def E2 (c:Int):Bool:=Qa c||I7 c||R6 c
def name (s:Q9):Bool:=match s with
 | []=>false
 | c::_=>decide (s.length≤32)&& !R6 c.toNat&&s.all (fun b=>E2 b.toNat)
def W8 (s:Q9):Bool:=match s with
 | []=>false
 | c::_=>name s&&Qa c.toNat
def L6 (s:Q9):Bool:=match s with
 | []=>false
 | c::_=>name s&&I7 c.toNat
def plain (s:Q9):Bool:=decide (s=[105,110,116])||decide (s=[98,111,111,108])||decide (s=[116,101,120,116])
def D3 (s:Q9):Bool:=decide (2≤s.length)&&decide (s.drop (s.length-2)=[91,93])
def cutA (s:Q9):Q9:=s.take (s.length-2)
def Xh:Nat→Q9→Q9×Nat
 | 0,s=>(s,0)
 | n+1,s=>if D3 s then ((Xh n (cutA s)).1,(Xh n (cutA s)).2+1) else (s,0)
def base (s:Q9):Q9×Nat:=Xh s.length s
def right (s:Q9):Bool:=decide ((base s).2≤3)&&(plain (base s).1||W8 (base s).1)
def elem (s:Q9):Q9:=if D3 s&&right s then cutA s else []
def Q19 (s:Q9):Nat:=if right s then (base s).2 else 0
def T1 (s:Q9):Q9×Q9×Bool:=match s with
 | []=>([],[],false)
 | c::r=>if c=46 then ([],r,true) else ((c::(T1 r).1),(T1 r).2.1,(T1 r).2.2)
def Xs (s:Q9):Bool:=(T1 s).2.2&&W8 (T1 s).1&&L6 (T1 s).2.1
def Q01 (c:UInt8) (s:Q9):Int:=match s.findIdx? (fun b=>decide (b=c)) with
 | some i=>i
 | none=> -1
def Q1E (s:Q9) (o:Option Nat):Q9×Q9×Bool:=match o with
 | some i=>(s.take i,s.drop (i+1),true)
 | none=>(s,[],false)
theorem Bg (s:Q9):T1 s=Q1E s (s.findIdx? (fun b=>decide (b=46))):=by
 induction s with
 | nil=>rfl
 | cons c r a=>
  rw[List.findIdx?_cons]
  simp only[T1]
  by_cases h:c=46
  ·simp[h,Q1E]
  ·simp only[h,if_false,decide_false,Bool.false_eq_true]
   rw[a]
   cases r.findIdx? (fun b=>decide (b=46)) with
   | none=>simp[Q1E]
   | some i=>simp[Q1E]
end Go.Kd

namespace Go.Proofs.YtfppjenblllfaaaGreatDoor
open Go.Emb Go.RowKit Go.Kd
variable {w : World} {K : Value → World → Prop}
theorem X7:P.underlying T.b=some .string:=by kernel_rfl
theorem X22:P.underlying T.e=some (.int .i64):=by kernel_rfl
theorem Pp:P.underlying T.m=some .bool:=by kernel_rfl
theorem Q2w:P.underlying T.w=some (.int .u8):=by kernel_rfl
theorem Q5S:P.underlying T.af=some (.int .i32):=by kernel_rfl
theorem Q5U (c:Int) (h:K (.bool (Qa c)) w):Q1 P F.bT [.int .i32 c] w K:=Q40 (by
 unfold Ac
 (try simp only[↓Mr,Mr,Mb,reduceIte])
 cases a:decide (65≤c)<;>simp only[a,↓Mr,Mr,Mb,reduceIte]<;>simpa [Qa,a] using h)
theorem Q62 (c:Int) (h:K (.bool (I7 c)) w):Q1 P F.bV [.int .i32 c] w K:=Q4h (by
 unfold Py
 (try simp only[↓Mr,Mr,Mb,reduceIte])
 cases a:decide (97≤c)<;>simp only[a,↓Mr,Mr,Mb,reduceIte]<;>simpa [I7,a] using h)
theorem X0M (c:Int) (h:K (.bool (E2 c)) w):Q1 P F.bO [.int .i32 c] w K:=Q3r (by
 unfold Ie
 refine Q5U c ?_
 cases a:Qa c
 ·(try simp only[↓Mr,Mr,Mb,reduceIte])
  refine Q62 c ?_
  cases b:I7 c
  ·(try simp only[↓Mr,Mr,Mb,reduceIte])
   cases d:decide (48≤c)
   ·(try simp only[↓Mr,Mr,Mb,reduceIte])
    simpa [E2,R6,a,b,d] using h
   ·(try simp only[↓Mr,Mr,Mb,reduceIte])
    simpa [E2,R6,a,b,d] using h
  ·(try simp only[↓Mr,Mr,Mb,reduceIte])
   simpa [E2,a,b] using h
 ·(try simp only[↓Mr,Mr,Mb,reduceIte])
  simpa [E2,a] using h)
theorem X26 (a:List UInt8) (f:Value) (p:Int→Bool) (l: ∀(c:Int) (w:World) (K:Value→World→Prop),K (.bool (p c)) w→Z1 P f [.int .i32 c] w K)
 (h: ∀w',Below w.heap.size w w'→K (.bool (Bk p ⟨a.toArray⟩ a.length 0)) w'):Q1 P F.cn [S a,f] w K:=Q74 (by
 unfold Q1Y
 rw[X0y X7]
 refine Zs (fun _ w'=> ∃pos n:Nat,a.length-pos≤n∧Bk p ⟨a.toArray⟩ a.length 0=Bk p ⟨a.toArray⟩ n pos∧Below w.heap.size w w'∧w'.heap[w.heap.size]? =some (.stringIter ⟨a.toArray⟩ pos))
  (fun _ w'=>match w'.heap[w.heap.size]? with | some (.stringIter _ pos)=>a.length-pos | _=>0) ⟨0,a.length,by omega,rfl,(Below.refl _ _).alloc (Nat.le_refl _) _,heap_alloc_new w _⟩ ?_
 rintro _ _ w1 ⟨pos,n,q,b,j,e⟩
 by_cases g:pos<a.length
 ·rw[X0o e (by rw[C9];exact g)]
  (try simp only[↓Mr,Mr,Mb,reduceIte])
  refine l _ _ _ ?_
  obtain ⟨n,rfl⟩: ∃m,n=m+1:=⟨n-1,by omega⟩
  simp only[Bk,C9,g,if_true] at b
  have r:=Q3P (s:=⟨a.toArray⟩) (i:=pos)
  have d:w.heap.size<w1.heap.size:=(Array.getElem?_eq_some_iff.1 e).1
  cases k:p (Utf8.decode ⟨a.toArray⟩ pos).1
  ·(try simp only[↓Mr,Mr,Mb,reduceIte])
   rw[k] at b
   have:=h _ (Q3h (o:= .stringIter ⟨a.toArray⟩ (pos+(Utf8.decode ⟨a.toArray⟩ pos).2)) j (Nat.le_refl _))
   rw[b] at this
   exact this
  ·(try simp only[↓Mr,Mr,Mb,reduceIte])
   rw[k] at b
   refine ⟨⟨_,n,?_,b,Q3h j (Nat.le_refl _),Q6g d⟩,?_⟩
   ·omega
   ·simp only[Q6g d,e];omega
 ·rw[Q56 e (by rw[C9];exact g)]
  (try simp only[↓Mr,Mr,Mb,reduceIte])
  have:Bk p ⟨a.toArray⟩ n pos=true:=by
   cases n with
   | zero=>rfl
   | succ n=>simp only[Bk,C9,g,if_false]
  rw[←this,←b]
  exact h _ j)
theorem Q7n (c:Int) (h:128≤c):E2 c=false:=by
 simp[E2,Qa,I7,R6];omega
theorem Q4z (a:List UInt8) (n:a.length≤140737488355328) (h: ∀w',Below w.heap.size w w'→K (.bool (name a)) w'):Q1 P F.bH [S a] w K:=Q5j (by
 unfold Q0C
 have e: ∀c r,a=c::r→(decide (a.length≤32)&& !R6 c.toNat)=true→Q1 P F.cn [S a,(.func (.func F.bO) #[] #[])] w K:=by
  intro c r m b
  refine X26 a _ E2 (fun c w K h=>Y9 (first:=[]) (caps:=[]) (X0M c h)) fun w' l=>?_
  rw[Q6z _ Q7n a _ _ (by omega)]
  have:=h w' l
  rw[m] at this b⊢
  simp only[name] at this
  rw[b,Bool.true_and] at this
  simpa using this
 cases a with
 | nil=>
  simp only[↓Mr,Mr,Mb,reduceIte,decide_true]
  exact h w (Below.refl _ _)
 | cons c r=>
  have g:decide (c::r=[])=false:=by simp
  simp only[↓Mr,Mr,Mb,reduceIte,g,D5 X7]
  by_cases j:(c::r).length≤32
  ·have d:r.length≤31:=by simpa using j
   have b:decide ((32:Int)<((c::r).length:Int))=false:=by simp only[decide_eq_false_iff_not];omega
   simp only[↓Mr,Mr,Mb,reduceIte,b]
   rw[Qc X7 (by omega) (by simp)]
   (try simp only[↓Mr,Mr,Mb,reduceIte])
   have i:(c::r)[(0:Int).toNat]'(by simp)=c:=rfl
   simp only[i]
   cases f:decide ((48:Int)≤(c.toNat:Int))
   ·(try simp only[↓Mr,Mr,Mb,reduceIte])
    exact e c r rfl (by simp[R6,d,f])
   ·(try simp only[↓Mr,Mr,Mb,reduceIte])
    rw[Qc X7 (by omega) (by simp)]
    simp only[↓Mr,Mr,Mb,reduceIte,i]
    cases k:decide ((c.toNat:Int)≤57)
    ·(try simp only[↓Mr,Mr,Mb,reduceIte])
     exact e c r rfl (by simp only[R6,f,k];simp[d])
    ·(try simp only[↓Mr,Mr,Mb,reduceIte])
     have:name (c::r)=false:=by simp only[name,R6,f,k];simp
     rw[←this];exact h w (Below.refl _ _)
  ·have b:decide ((32:Int)<((c::r).length:Int))=true:=by simp only[decide_eq_true_eq];omega
   simp only[↓Mr,Mr,Mb,reduceIte,b]
   have:name (c::r)=false:=by simp only[name];rw[decide_eq_false j];rfl
   rw[←this];exact h w (Below.refl _ _))
theorem Dl (a:List UInt8) (f:a.length≤140737488355328) (h: ∀w',Below w.heap.size w w'→K (.bool (W8 a)) w'):Q1 P F.ah [S a] w K:=Q54 (by
 unfold Ti
 refine Q4z a f fun w1 b=>?_
 cases a with
 | nil=>
  simp only[name,↓Mr,Mr,Mb,reduceIte]
  exact h w1 b
 | cons c r=>
  cases d:name (c::r)
  ·(try simp only[↓Mr,Mr,Mb,reduceIte])
   have:=h w1 b
   simp only[W8,d] at this
   simpa using this
  ·(try simp only[↓Mr,Mr,Mb,reduceIte])
   rw[Qc X7 (by omega) (by simp)]
   have e:(c::r)[(0:Int).toNat]'(by simp)=c:=rfl
   simp only[e]
   rw[Q0U Q2w Q5S,w32 (by omega) (by have:=c.toNat_lt;omega)]
   refine Q5U _ ?_
   (try simp only[↓Mr,Mr,Mb,reduceIte])
   have:=h w1 b
   simp only[W8,d] at this
   simpa using this)
theorem Vi (a:List UInt8) (h:K (.bool (plain a)) w):Q1 P F.af [S a] w K:=Q50 (by
 unfold Tk
 (try simp only[↓Mr,Mr,Mb,reduceIte])
 cases b:decide (a=[105,110,116])<;>(try simp only[↓Mr,Mr,Mb,reduceIte])
 ·cases c:decide (a=[98,111,111,108])<;>(try simp only[↓Mr,Mr,Mb,reduceIte])<;>simpa [plain,b,c] using h
 ·simpa [plain,b] using h)
def Zf (a b:List UInt8):Bool:=decide (b.length≤a.length)&&decide (a.drop (a.length-b.length)=b)
theorem Na (a b:List UInt8) (f:a.length≤140737488355328) (e:b.length≤140737488355328) (h:K (.bool (Zf a b)) w):Q1 P F.a7 [S a,S b] w K:=Hq (by
 unfold Je
 rw[D5 X7,D5 X7]
 (try simp only[↓Mr,Mr,Mb,reduceIte])
 by_cases d:b.length≤a.length
 ·have c:decide ((b.length:Int)≤a.length)=true:=by simp only[decide_eq_true_eq];omega
  simp only[↓Mr,Mr,Mb,reduceIte,c,D5 X7]
  rw[F0 (by omega) (by omega),Wl X7 (by omega) (by omega)]
  (try simp only[↓Mr,Mr,Mb,reduceIte])
  rw[show ((a.length:Int)-b.length).toNat=a.length-b.length from by omega]
  simpa [Zf,d] using h
 ·have c:decide ((b.length:Int)≤a.length)=false:=by simp only[decide_eq_false_iff_not];omega
  simp only[↓Mr,Mr,Mb,reduceIte,c]
  simpa [Zf,d] using h)
theorem Q5r (a b:List UInt8) (c:a.length≤140737488355328) (d:b.length≤140737488355328) (h:K (.bool (Zf a b)) w):Q1 P F.bq [S a,S b] w K:=Kb (by
 unfold Ml
 exact Na a b c d h)
def Ms (a b:List UInt8):List UInt8:=if Zf a b then a.take (a.length-b.length) else a
theorem Q34 {a b:List UInt8} (h:Zf a b=true):b.length≤a.length:=by
 simp only[Zf,Bool.and_eq_true,decide_eq_true_eq] at h;exact h.1
theorem Q4o (a b:List UInt8) (d:a.length≤140737488355328) (e:b.length≤140737488355328) (h:K (S (Ms a b)) w):Q1 P F.bi [S a,S b] w K:=Bh (by
 unfold Vo
 refine Hf ?_
 unfold Zk
 refine Na a b d e ?_
 cases c:Zf a b
 ·(try simp only[↓Mr,Mr,Mb,reduceIte])
  simpa [Ms,c] using h
 ·have f:=Q34 c
  simp only[↓Mr,Mr,Mb,reduceIte,D5 X7]
  rw[F0 (by omega) (by omega),K2 X7 (by omega) (by omega)]
  rw[show ((a.length:Int)-b.length).toNat=a.length-b.length from by omega]
  simpa [Ms,c] using h)
theorem Q5z (a b:List UInt8) (d:a.length≤140737488355328) (e:b.length≤140737488355328) (h:K (.tuple #[S (Ms a b), .bool (Zf a b)]) w):Q1 P F.br [S a,S b] w K:=Kl (by
 unfold Mg
 refine Hj ?_
 unfold Jc
 refine Na a b d e ?_
 cases c:Zf a b
 ·(try simp only[↓Mr,Mr,Mb,reduceIte])
  simpa [Ms,c] using h
 ·have f:=Q34 c
  simp only[↓Mr,Mr,Mb,reduceIte,D5 X7]
  rw[F0 (by omega) (by omega),K2 X7 (by omega) (by omega)]
  rw[show ((a.length:Int)-b.length).toNat=a.length-b.length from by omega]
  (try simp only[↓Mr,Mr,Mb,reduceIte])
  simpa [Ms,c] using h)
theorem Q1F (a:List UInt8):Zf a [91,93]=D3 a:=rfl
theorem Q0D (a:List UInt8):Ms a [91,93]=if D3 a then Kd.cutA a else a:=rfl
theorem B4 {a:List UInt8} (h:D3 a=true):(Kd.cutA a).length+2=a.length:=by
 simp only[D3,Bool.and_eq_true,decide_eq_true_eq] at h
 simp only[Kd.cutA,List.length_take];omega
theorem Q1C: ∀(n m:Nat) (a:List UInt8),a.length≤n→a.length≤m→Xh n a=Xh m a
 | 0,0,a,_,_=>rfl
 | 0,m+1,a,h,_=>by
  have:a=[]:=List.eq_nil_of_length_eq_zero (by omega)
  subst this;rfl
 | n+1,0,a,_,h=>by
  have:a=[]:=List.eq_nil_of_length_eq_zero (by omega)
  subst this;rfl
 | n+1,m+1,a,c,b=>by
  simp only[Xh]
  split
  ·rename_i h
   have:=B4 h
   rw[Q1C n m (Kd.cutA a) (by omega) (by omega)]
  ·rfl
theorem Xu (a:List UInt8):base a=if D3 a then ((base (Kd.cutA a)).1,(base (Kd.cutA a)).2+1) else (a,0):=by
 unfold base
 cases b:a.length with
 | zero=>
  have:a=[]:=List.eq_nil_of_length_eq_zero b
  subst this;rfl
 | succ n=>
  simp only[Xh]
  split
  ·rename_i h
   have:=B4 h
   rw[Q1C n (Kd.cutA a).length (Kd.cutA a) (by omega) (Nat.le_refl _)]
  ·rfl
theorem Q08 (a:List UInt8):(base a).1.length+2*(base a).2=a.length:=by
 have key: ∀n (a:List UInt8),(Xh n a).1.length+2*(Xh n a).2=a.length:=by
  intro n
  induction n with
  | zero=>intro a;simp[Xh]
  | succ n b=>
   intro a
   simp only[Xh]
   split
   ·rename_i h
    have:=B4 h
    have:=b (Kd.cutA a)
    simp only;omega
   ·simp
 exact key _ a
theorem Q7W (a:List UInt8) (g:a.length≤140737488355328) (h:K (.tuple #[S (base a).1,I (base a).2]) w):Q1 P F.c6 [S a] w K:=Q5N (by
 unfold Q0K
 refine Zs (fun x w'=>w'=w∧ ∃(b:List UInt8) (n:Nat),x=(S b,I n)∧b.length+2*n=a.length∧base a=((base b).1,(base b).2+n)) (fun x _=>match x.1 with | .string s=>s.size | _=>0)
  ⟨rfl,a,0,rfl,by omega,rfl⟩ ?_
 rintro _ _ _ ⟨rfl,b,n,rfl,e,d⟩
 refine Q5r b _ (by omega) (by simp) ?_
 rw[Q1F]
 cases c:D3 b
 ·(try simp only[↓Mr,Mr,Mb,reduceIte])
  rw[Xu b,c] at d
  simp only[Bool.false_eq_true,if_false,Nat.zero_add] at d
  rw[d] at h;exact h
 ·(try simp only[↓Mr,Mr,Mb,reduceIte])
  refine Q4o b _ (by omega) (by simp) ?_
  rw[Q0D,c]
  simp only[↓Mr,Mr,Mb,reduceIte,if_true]
  have f:=B4 c
  rw[F0 (by omega) (by omega)]
  refine ⟨⟨by first | rfl | trivial,Kd.cutA b,n+1,by simp,by omega,?_⟩,?_⟩
  ·rw[d,Xu b,c];simp;omega
  ·simp only[C9];omega)
theorem Zq (a:List UInt8) (g:a.length≤140737488355328) (h: ∀w',Below w.heap.size w w'→K (.bool (right a)) w'):Q1 P F.a2 [S a] w K:=Q4r (by
 unfold Pu
 have f:=Q08 a
 refine Q7W a g ?_
 (try simp only[↓Mr,Mr,Mb,reduceIte])
 by_cases b:(base a).2≤3
 ·have c:decide (((base a).2:Int)≤3)=true:=by simp only[decide_eq_true_eq];omega
  simp only[↓Mr,Mr,Mb,reduceIte,c]
  refine Vi _ ?_
  cases d:plain (base a).1
  ·(try simp only[↓Mr,Mr,Mb,reduceIte])
   refine Dl _ (by omega) fun w1 e=>?_
   (try simp only[↓Mr,Mr,Mb,reduceIte])
   have:=h w1 e
   simp only[right,b,d] at this
   simpa using this
  ·(try simp only[↓Mr,Mr,Mb,reduceIte])
   have:=h w (Below.refl _ _)
   simp only[right,b,d] at this
   simpa using this
 ·have c:decide (((base a).2:Int)≤3)=false:=by simp only[decide_eq_false_iff_not];omega
  simp only[↓Mr,Mr,Mb,reduceIte,c]
  have:=h w (Below.refl _ _)
  simp only[right,b] at this
  simpa using this)
theorem X1b (a:List UInt8) (d:a.length≤140737488355328) (h: ∀w',Below w.heap.size w w'→K (S (elem a)) w'):Q1 P F.cC [S a] w K:=Q5M (by
 unfold Q0M
 refine Q5z a _ d (by simp) ?_
 rw[Q1F,Q0D]
 (try simp only[↓Mr,Mr,Mb,reduceIte])
 cases b:D3 a
 ·(try simp only[↓Mr,Mr,Mb,reduceIte])
  have:=h w (Below.refl _ _)
  simp only[elem,b] at this
  exact this
 ·(try simp only[↓Mr,Mr,Mb,reduceIte])
  refine Zq a d fun w1 e=>?_
  have:=h w1 e
  cases c:right a
  ·(try simp only[↓Mr,Mr,Mb,reduceIte])
   simp only[elem,b,c] at this
   exact this
  ·simp only[↓Mr,Mr,Mb,reduceIte,if_true]
   simp only[elem,b,c] at this
   exact this)
theorem X12 (a:List UInt8) (b:a.length≤140737488355328) (h: ∀w',Below w.heap.size w w'→K (I (Q19 a)) w'):Q1 P F.cF [S a] w K:=Q5t (by
 unfold Q0I
 refine Q7W a b ?_
 (try simp only[↓Mr,Mr,Mb,reduceIte])
 refine Zq a b fun w1 c=>?_
 have:=h w1 c
 cases d:right a<;>(try simp only[↓Mr,Mr,Mb,reduceIte])<;>simpa [Q19,d] using this)
end Go.Proofs.YtfppjenblllfaaaGreatDoor

namespace Go.Proofs.YtfppjenblllfaaaGreatDoor
open Go.Emb Go.RowKit Go.Kd
variable {w : World} {K : Value → World → Prop}
theorem Q0r (a:List UInt8) (c:UInt8) (h:K (I (Q01 c a)) w):Q1 P F.bF [S a, .int .u8 c.toNat] w K:=by
 refine Q5u (e:=Extern.BytealgIndexByte.indexByte) Tryz.func235 (by decide) rfl (by kernel_rfl) (by kernel_rfl) ?_ h
 have d:((List.range (ByteArray.mk a.toArray).size).find? fun i=>(ByteArray.mk a.toArray)[i]! ==c)=a.findIdx? (fun b=>decide (b=c)):=by
  rw[C9]
  refine Q1U _ _ a fun i g=>?_
  have:(ByteArray.mk a.toArray)[i]! =a[i]:=by
   rw[getElem!_pos _ _ (by rw[C9];exact g)];rfl
  rw[this,Bool.eq_iff_iff];simp
 have f:((c.toNat:Int).toNat.toUInt8)=c:=by simp
 have:=run_indexByte_string (P:=P) ⟨a.toArray⟩ c.toNat w
 rw[f] at this
 refine this.trans ?_
 unfold firstIdx Q01
 rw[d]
 cases a.findIdx? (fun b=>decide (b=c))<;>rfl
theorem Q9m (a:List UInt8) (c:UInt8) (h:K (I (Q01 c a)) w):Q1 P F.bs [S a,S [c]] w K:=Iu (by
 unfold Md
 simp only[D5 X7]
 have f:decide ((([c]:List UInt8).length:Int)=0)=false:=rfl
 have i:decide ((([c]:List UInt8).length:Int)=1)=true:=rfl
 simp only[Q0h,f,i]
 simp only[↓Mr,Mr,Mb,reduceIte]
 have d:E0 P T.b (S [c]) (I 0) w fun b w=>Q1 P F.av [S a,b] w fun e w=>K e w:=by
  rw[Qc X7 (by omega) (by simp)]
  refine Hl ?_
  unfold Jf
  exact Q0r a c h
 cases g:decide ([c]=a)
 ·(try simp only[↓Mr,Mr,Mb,reduceIte])
  exact d
 ·(try simp only[↓Mr,Mr,Mb,reduceIte])
  have j:[c]=a:=by simpa using g
  have:Q01 c a=0:=by rw[←j];simp[Q01,List.findIdx?_cons]
  rw[this] at h;exact h)
theorem Q9q {c:UInt8} {a:List UInt8} {i:Nat} (h:a.findIdx? (fun b=>decide (b=c))=some i):i<a.length:=by
 have:=List.findIdx?_eq_some_iff_getElem.1 h
 exact this.1
theorem X1Q (a:List UInt8) (g:a.length≤140737488355328) (h: ∀w',Below w.heap.size w w'→K (.tuple #[S (T1 a).1,S (T1 a).2.1, .bool (T1 a).2.2]) w'):Q1 P F.ce [S a,S [46]] w K:=Q3n (by
 unfold Ik
 refine Q0m ?_
 unfold Om
 refine Q9m a 46 ?_
 rw[Bg] at h
 unfold Q01
 cases c:a.findIdx? (fun b=>decide (b=46)) with
 | none=>
  simp only[↓Mr,Mr,Mb,reduceIte,show decide ((0:Int)≤ -1)=false from rfl]
  have:=h w (Below.refl _ _)
  rw[c] at this;exact this
 | some i=>
  have f:=Q9q c
  have e:decide ((0:Int)≤(i:Int))=true:=by simp
  simp only[Q03,e]
  simp only[↓Mr,Mr,Mb,reduceIte]
  refine Mx (Below.refl _ w) ?_
  refine X2 (S (a.take i)) (fun w1 _=>?_) ?_
  ·rw[K2 X7 (by omega) (by omega)];exact X6 (by simp)
  refine X2 (I 1) (fun w1 _=>?_) ?_
  ·rw[D5 X7];exact X6 rfl
  refine X2 (I (i+1)) ?_ ?_
  ·rintro _ w1 _ rfl
   rw[Cs,F0 (by omega) (by omega)];exact X6 rfl
  refine X2 (S (a.drop (i+1))) ?_ ?_
  ·rintro _ w1 _ rfl
   rw[Wl X7 (by omega) (by omega)];exact X6 (by simp)
  rintro _ _ _ _ w1 d rfl rfl rfl rfl
  (try simp only[↓Mr,Mr,Mb,reduceIte])
  have:=h w1 d
  rw[c] at this;exact this)
theorem X0k (a:List UInt8) (y:a.length≤140737488355328) (h: ∀w',Below w.heap.size w w'→K (if Xs a then .tuple #[S (T1 a).1,S (T1 a).2.1,I 0] else .tuple #[S [],S [],I 30]) w'):Q1 P F.cv [S a] w K:=Q4J (by
 unfold Tj
 refine X1Q a y fun w1 e=>?_
 have o:(T1 a).1.length≤a.length∧(T1 a).2.1.length≤a.length:=by
  rw[Bg]
  cases a.findIdx? (fun b=>decide (b=46))<;>simp[Q1E]
  omega
 generalize z:(T1 a).1=p at h o
 generalize u:(T1 a).2.1=q at h o
 have k:Xs a=((T1 a).2.2&&W8 p&&L6 q):=by rw[Xs,z,u]
 cases m:(T1 a).2.2
 ·simp only[↓Mr,Mr,Mb,reduceIte]
  have:=h w1 e
  rw[k,m] at this;simpa using this
 ·simp only[↓Mr,Mr,Mb,reduceIte]
  refine Dl p (by omega) fun A n=>?_
  have d:=e.trans (n.mono e.size)
  cases s:W8 p
  ·(try simp only[↓Mr,Mr,Mb,reduceIte])
   have:=h A d
   rw[k,m,s] at this;simpa using this
  ·(try simp only[↓Mr,Mr,Mb,reduceIte])
   refine Q4z q (by omega) fun t g=>?_
   have f:=d.trans (g.mono d.size)
   have:=h t f
   rw[k,m,s] at this
   cases j:name q
   ·(try simp only[↓Mr,Mr,Mb,reduceIte])
    have l:L6 q=false:=by cases q with | nil=>rfl | cons c r=>simp[L6,j]
    rw[l] at this;simpa using this
   ·(try simp only[↓Mr,Mr,Mb,reduceIte])
    cases q with
    | nil=>simp[name] at j
    | cons c r=>
     rw[Qc X7 (by omega) (by simp)]
     have i:(c::r)[(0:Int).toNat]'(by simp)=c:=rfl
     (try simp only[↓Mr,Mr,Mb,reduceIte])
     rw[i,Q0U Q2w Q5S,w32 (by omega) (by have:=c.toNat_lt;omega)]
     refine Q62 _ ?_
     have l:L6 (c::r)=I7 c.toNat:=by simp[L6,j]
     rw[l] at this
     cases v:I7 c.toNat<;>(try simp only[↓Mr,Mr,Mb,reduceIte])<;>rw[v] at this<;>simpa using this)
theorem Oc (a:List UInt8) (h:K (.bool (plain a)) w):Q1 P F.t [S a] w K:=Fi (by
 unfold Vm
 refine V9 ?_
 (try simp only[↓Mr,Mr,Mb,reduceIte])
 cases b:decide (a=[105,110,116])
 ·cases c:decide (a=[98,111,111,108])
  ·cases d:decide (a=[116,101,120,116])<;>(try simp only[↓Mr,Mr,Mb,reduceIte])<;>intro _<;>(try simp only[↓Mr,Mr,Mb,reduceIte])<;>simpa [plain,b,c,d] using h
  ·(try simp only[↓Mr,Mr,Mb,reduceIte])
   intro _
   (try simp only[↓Mr,Mr,Mb,reduceIte])
   simpa [plain,b,c] using h
 ·(try simp only[↓Mr,Mr,Mb,reduceIte])
  intro _
  (try simp only[↓Mr,Mr,Mb,reduceIte])
  simpa [plain,b] using h)
def Q9L (a:List UInt8) (w:World) (x:Value) (w':World):Prop:=
 w=w'∧ ∃i:Nat,x=I i∧i≤a.length∧(0<i→(a.head?.map fun c=>R6 c.toNat)=some false)∧(a.take i).all (fun b=>E2 b.toNat)=true
def Q3z (a:List UInt8) (x:Value):Nat:=match x with | .int _ i=>a.length-i.toNat | _=>0
theorem Q4s (a:List UInt8) (Q:a.length≤140737488355328) (h:K (.bool (name a)) w):Q1 P F.aM [S a] w K:=Ko (by
 unfold Lz
 refine Zs (Q9L a w) (fun x _=>Q3z a x) ⟨rfl,0,rfl,by omega,by omega,by simp⟩ ?_
 rintro _ _ _ ⟨rfl,i,rfl,O,M,k⟩
 rw[D5 X7]
 (try simp only[↓Mr,Mr,Mb,reduceIte])
 by_cases m:i<a.length
 ·have H:decide ((i:Int)<a.length)=true:=by simp only[decide_eq_true_eq];omega
  simp only[H,↓Mr,Mr,Mb,reduceIte]
  have d: ∀D:Value→World→Prop,E0 P T.b (S a) (I i) w D=D (.int .u8 (a[i]'m).toNat) w:=fun D=>by
   rw[Qc X7 (by omega) (by simpa using m)];simp
  generalize q:a[i]=c at d
  have e:E2 c.toNat=false∨(i=0∧R6 c.toNat=true)→name a=false:=by
   intro t
   cases a with
   | nil=>rfl
   | cons L r=>
    simp only[name]
    rcases t with t | ⟨rfl,t⟩
    ·have:(L::r).all (fun b=>E2 b.toNat)=false:=by
      rw[List.all_eq_false]
      exact ⟨c,by rw[←q];exact List.getElem_mem _,by simp[t]⟩
     rw[this];simp
    ·simp only[List.getElem_cons_zero] at q
     rw[q,t];simp
  have f:E2 c.toNat=true→(i=0→R6 c.toNat=false)→Q9L a w (I (IntKind.i64.wrap ((i:Int)+1))) w∧Q3z a (I (IntKind.i64.wrap ((i:Int)+1)))<Q3z a (I i):=by
   intro C A
   rw[F0 (by omega) (by omega)]
   refine ⟨⟨rfl,i+1,by simp,by omega,fun _=>?_,?_⟩,by simp only[Q3z];omega⟩
   ·by_cases p:0<i
    ·exact M p
    ·obtain rfl:i=0:=by omega
     cases a with
     | nil=>simp at m
     | cons L r=>simp only[List.getElem_cons_zero] at q;subst q;simp[A rfl]
   ·rw[List.take_add_one,List.getElem?_eq_getElem m,q]
    simp[k,C]
  have E:=c.toNat_lt
  have u:decide ((i:Int)=0)=decide (i=0):=by rw[Bool.eq_iff_iff];simp
  by_cases o:97≤(c.toNat:Int)
  ·by_cases z:(c.toNat:Int)≤122
   ·simp only[d,decide_eq_true o,decide_eq_true z,↓Mr,Mr,Mb,reduceIte]
    exact f (by simp[E2,I7,o,z]) (fun _=>by simp[R6];omega)
   ·have n:(65:Int)≤c.toNat:=by omega
    have v: ¬(c.toNat:Int)≤90:=by omega
    have g: ¬(c.toNat:Int)<48:=by omega
    have j:(57:Int)<c.toNat:=by omega
    simp only[d,decide_eq_true o,decide_eq_false z,decide_eq_true n,decide_eq_false v,decide_eq_false g,decide_eq_true j,u,↓Mr,Mr,Mb,reduceIte]
    have l:=e (.inl (by simp[E2,Qa,I7,R6];omega))
    rw[l] at h
    cases decide (i=0)<;>(try simp only[d,decide_eq_false g,decide_eq_true j,↓Mr,Mr,Mb,reduceIte])<;>exact h
  ·by_cases n:(65:Int)≤c.toNat
   ·by_cases v:(c.toNat:Int)≤90
    ·simp only[d,decide_eq_false o,decide_eq_true n,decide_eq_true v,↓Mr,Mr,Mb,reduceIte]
     exact f (by simp[E2,Qa,n,v]) (fun _=>by simp[R6];omega)
    ·have g: ¬(c.toNat:Int)<48:=by omega
     have j:(57:Int)<c.toNat:=by omega
     simp only[d,decide_eq_false o,decide_eq_true n,decide_eq_false v,decide_eq_false g,decide_eq_true j,u,↓Mr,Mr,Mb,reduceIte]
     have l:=e (.inl (by simp[E2,Qa,I7,R6];omega))
     rw[l] at h
     cases decide (i=0)<;>(try simp only[d,decide_eq_false g,decide_eq_true j,↓Mr,Mr,Mb,reduceIte])<;>exact h
   ·by_cases g:(c.toNat:Int)<48
    ·simp only[d,decide_eq_false o,decide_eq_false n,decide_eq_true g,u,↓Mr,Mr,Mb,reduceIte]
     have l:=e (.inl (by simp[E2,Qa,I7,R6];omega))
     rw[l] at h
     cases decide (i=0)<;>(try simp only[d,decide_eq_true g,↓Mr,Mr,Mb,reduceIte])<;>exact h
    ·by_cases j:(57:Int)<c.toNat
     ·simp only[d,decide_eq_false o,decide_eq_false n,decide_eq_false g,decide_eq_true j,u,↓Mr,Mr,Mb,reduceIte]
      have l:=e (.inl (by simp[E2,Qa,I7,R6];omega))
      rw[l] at h
      cases decide (i=0)<;>(try simp only[d,decide_eq_false g,decide_eq_true j,↓Mr,Mr,Mb,reduceIte])<;>exact h
     ·have s:R6 c.toNat=true:=by simp[R6];omega
      simp only[d,decide_eq_false o,decide_eq_false n,decide_eq_false g,decide_eq_false j,u,↓Mr,Mr,Mb,reduceIte]
      by_cases p:i=0
      ·have l:=e (.inr ⟨p,s⟩)
       rw[l] at h
       simp only[decide_eq_true p,d,decide_eq_false g,decide_eq_false j,↓Mr,Mr,Mb,reduceIte]
       exact h
      ·simp only[decide_eq_false p,d,decide_eq_false g,decide_eq_false j,↓Mr,Mr,Mb,reduceIte]
       exact f (by simp[E2,s]) (fun h=>absurd h p)
 ·have H:decide ((i:Int)<a.length)=false:=by simp only[decide_eq_false_iff_not];omega
  obtain rfl:i=a.length:=by omega
  simp only[H,↓Mr,Mr,Mb,reduceIte]
  rw[D5 X7]
  cases a with
  | nil=>
   have B:decide ((1:Int)≤(([]:List UInt8).length:Int))=false:=rfl
   simp only[B,↓Mr,Mr,Mb,reduceIte];exact h
  | cons c r=>
   have B:decide ((1:Int)≤((c::r).length:Int))=true:=by simp only[decide_eq_true_eq,List.length_cons];omega
   have y:=M (by simp)
   simp only[List.head?_cons,Option.map_some,Option.some.injEq] at y
   simp only[List.take_length] at k
   have J:name (c::r)=decide ((c::r).length≤32):=by simp only[name,y,k];simp
   have N:decide (((c::r).length:Int)≤32)=decide ((c::r).length≤32):=by rw[Bool.eq_iff_iff];simp only[decide_eq_true_eq];omega
   simp only[B,D5 X7,N,↓Mr,Mr,Mb,reduceIte]
   rw[←J];exact h)
theorem Bu {c:UInt8} {r:List UInt8} (h:name (c::r)=true):E2 c.toNat=true∧R6 c.toNat=false:=by
 simp only[name,Bool.and_eq_true,List.all_cons,Bool.not_eq_true'] at h
 exact ⟨h.2.1,h.1.2⟩
theorem Qs (a:List UInt8) (e:a.length≤140737488355328) (h:K (.bool (W8 a)) w):Q1 P F.e [S a] w K:=Bx (by
 unfold Wm
 refine Q4s a e ?_
 cases a with
 | nil=>simp only[name,↓Mr,Mr,Mb,reduceIte];exact h
 | cons c r=>
  cases d:name (c::r)
  ·(try simp only[↓Mr,Mr,Mb,reduceIte])
   simpa [W8,d] using h
  ·(try simp only[↓Mr,Mr,Mb,reduceIte])
   rw[Qc X7 (by omega) (by simp)]
   have b:(c::r)[(0:Int).toNat]'(by simp)=c:=rfl
   (try simp only[↓Mr,Mr,Mb,reduceIte])
   rw[b]
   obtain ⟨g,f⟩:=Bu d
   have:decide ((c.toNat:Int)≤90)=Qa c.toNat:=by
    simp only[E2,Qa,I7,R6,Bool.or_eq_true,Bool.and_eq_true,Bool.and_eq_false_iff,decide_eq_true_eq,decide_eq_false_iff_not] at g f⊢
    rw[Bool.eq_iff_iff];simp only[Bool.and_eq_true,decide_eq_true_eq];omega
   rw[this]
   simpa [W8,d] using h)
theorem Ff (a:List UInt8) (e:a.length≤140737488355328) (h:K (.bool (L6 a)) w):Q1 P F.r [S a] w K:=Ck (by
 unfold Uv
 refine Q4s a e ?_
 cases a with
 | nil=>simp only[name,↓Mr,Mr,Mb,reduceIte];exact h
 | cons c r=>
  cases d:name (c::r)
  ·(try simp only[↓Mr,Mr,Mb,reduceIte])
   simpa [L6,d] using h
  ·(try simp only[↓Mr,Mr,Mb,reduceIte])
   rw[Qc X7 (by omega) (by simp)]
   have b:(c::r)[(0:Int).toNat]'(by simp)=c:=rfl
   (try simp only[↓Mr,Mr,Mb,reduceIte])
   rw[b]
   obtain ⟨g,f⟩:=Bu d
   have:decide ((97:Int)≤c.toNat)=I7 c.toNat:=by
    simp only[E2,Qa,I7,R6,Bool.or_eq_true,Bool.and_eq_true,Bool.and_eq_false_iff,decide_eq_true_eq,decide_eq_false_iff_not] at g f⊢
    rw[Bool.eq_iff_iff];simp only[Bool.and_eq_true,decide_eq_true_eq];omega
   rw[this]
   simpa [L6,d] using h)
def X2c (a:List UInt8) (w:World) (x:Value×Value) (w':World):Prop:=
 w=w'∧ ∃(b:List UInt8) (n:Nat),x=(S b,I n)∧b.length+2*n=a.length∧(base a).2=(base b).2+n
def Q9R (x:Value×Value):Nat:=match x.1 with | .string s=>s.size | _=>0
theorem Q13 (a:List UInt8) (k:a.length≤140737488355328) (h:K (I (base a).2) w):Q1 P F.an [S a] w K:=Ip (by
 unfold Mn
 refine Zs (X2c a w) (fun x _=>Q9R x) ⟨rfl,a,0,rfl,by omega,rfl⟩ ?_
 rintro _ _ _ ⟨rfl,b,n,rfl,j,c⟩
 rw[D5 X7]
 (try simp only[↓Mr,Mr,Mb,reduceIte])
 by_cases f:2≤b.length
 ·have e:decide ((2:Int)≤b.length)=true:=by simp only[decide_eq_true_eq];omega
  simp only[e,D5 X7,↓Mr,Mr,Mb,reduceIte]
  rw[F0 (by omega) (by omega),Wl X7 (by omega) (by omega)]
  rw[show ((b.length:Int)-2).toNat=b.length-2 from by omega]
  have i:decide (b.drop (b.length-2)=[91,93])=D3 b:=by simp[D3,f]
  simp only[i,↓Mr,Mr,Mb,reduceIte]
  cases d:D3 b
  ·(try simp only[↓Mr,Mr,Mb,reduceIte])
   rw[Xu b,d] at c
   simp only[Bool.false_eq_true,if_false,Nat.zero_add] at c
   rw[c] at h;exact h
  ·(try simp only[D5 X7,↓Mr,Mr,Mb,reduceIte])
   rw[K2 X7 (by omega) (by omega)]
   rw[show ((b.length:Int)-2).toNat=b.length-2 from by omega]
   have g:=B4 d
   refine ⟨⟨rfl,Kd.cutA b,n+1,?_,by omega,?_⟩,?_⟩
   ·simp only[Kd.cutA,Prod.mk.injEq,true_and]
    first | rfl | (rw[F0 (by omega) (by omega)];rfl)
   ·rw[c,Xu b,d];simp;omega
   ·simp only[Q9R,C9,List.length_take];omega
 ·have e:decide ((2:Int)≤b.length)=false:=by simp only[decide_eq_false_iff_not];omega
  simp only[e,↓Mr,Mr,Mb,reduceIte]
  have d:D3 b=false:=by simp[D3,f]
  rw[Xu b,d] at c
  simp only[Bool.false_eq_true,if_false,Nat.zero_add] at c
  rw[c] at h;exact h)
theorem Q2A (a:List UInt8):a.take (a.length-2*(base a).2)=(base a).1:=by
 have key: ∀n (a:List UInt8),a.take (a.length-2*(Xh n a).2)=(Xh n a).1:=by
  intro n
  induction n with
  | zero=>intro a;simp[Xh]
  | succ n b=>
   intro a
   simp only[Xh]
   split
   ·rename_i h
    have c:=B4 h
    simp only
    rw[←b (Kd.cutA a)]
    rw[Kd.cutA,List.take_take,List.length_take]
    congr 1
    omega
   ·simp
 exact key _ a
theorem Uw (a:List UInt8) (e:a.length≤140737488355328) (h:K (.bool (right a)) w):Q1 P F.i [S a] w K:=Gj (by
 unfold Vu
 have f:=Q08 a
 refine Q13 a e ?_
 rw[D5 X7]
 (try simp only[↓Mr,Mr,Mb,reduceIte])
 rw[F0 (n:=2*((base a).2:Int)) (by omega) (by omega),F0 (by omega) (by omega),K2 X7 (by omega) (by omega)]
 rw[show ((a.length:Int)-2*((base a).2:Int)).toNat=a.length-2*(base a).2 from by omega,Q2A]
 (try simp only[↓Mr,Mr,Mb,reduceIte])
 by_cases c:(base a).2≤3
 ·have b:decide (((base a).2:Int)≤3)=true:=by simp only[decide_eq_true_eq];omega
  simp only[b,↓Mr,Mr,Mb,reduceIte]
  refine Oc _ ?_
  cases d:plain (base a).1
  ·(try simp only[↓Mr,Mr,Mb,reduceIte])
   refine Qs _ (by omega) ?_
   (try simp only[↓Mr,Mr,Mb,reduceIte])
   simpa [right,c,d] using h
  ·(try simp only[↓Mr,Mr,Mb,reduceIte])
   simpa [right,c,d] using h
 ·have b:decide (((base a).2:Int)≤3)=false:=by simp only[decide_eq_false_iff_not];omega
  simp only[b,↓Mr,Mr,Mb,reduceIte]
  simpa [right,c] using h)
theorem X0B {a:List UInt8} (h:D3 a=true):2≤a.length:=by simp only[D3,Bool.and_eq_true,decide_eq_true_eq] at h;exact h.1
theorem Q85 {a:List UInt8} (h:D3 a=true) (c:right a=true):3≤a.length:=by
 have d:=X0B h
 refine Nat.lt_of_le_of_ne d fun e=>?_
 have f:=B4 h
 have b:Kd.cutA a=[]:=List.eq_nil_of_length_eq_zero (by omega)
 simp only[right,Xu a,h,if_true,b] at c
 revert c;decide
def X19 (a:List UInt8) (w:World) (x:Value) (w':World):Prop:=
 w=w'∧ ∃n:Nat,x=I n∧n≤a.length∧(∀i,(h:i<n)→(b:i<a.length)→a[i]≠46)
def Q7K (a:List UInt8) (x:Value):Nat:=match x with | .int _ n=>(a.length-n).toNat | _=>0
theorem Q2C (a:List UInt8) (M:a.length≤140737488355328) (h: ∀w',Below w.heap.size w w'→K (if (T1 a).2.2 then .tuple #[S (T1 a).1,S (T1 a).2.1, .bool (Xs a)] else .tuple #[S [],S [], .bool false]) w'):Q1 P F.bl [S a] w K:=Fc (by
 unfold Wu
 refine Zs (X19 a w) (fun x _=>Q7K a x) ⟨rfl,0,rfl,by omega,by omega⟩ ?_
 rintro _ _ _ ⟨rfl,n,rfl,L,u⟩
 rw[D5 X7]
 (try simp only[↓Mr,Mr,Mb,reduceIte])
 by_cases C:n<a.length
 ·have y:decide ((n:Int)<a.length)=true:=by simp only[decide_eq_true_eq];omega
  simp only[y,↓Mr,Mr,Mb,reduceIte]
  rw[Qc X7 (by omega) (by omega)]
  (try simp only[↓Mr,Mr,Mb,reduceIte])
  simp only[Int.toNat_natCast]
  have H:decide (((a[n]).toNat:Int)=46)=decide (a[n]=46):=by
   rw[Bool.eq_iff_iff];simp only[decide_eq_true_eq]
   constructor
   ·intro e;exact UInt8.toNat_inj.1 (by have:(46:UInt8).toNat=46:=rfl;omega)
   ·intro e;rw[e];rfl
  rw[H]
  by_cases l:a[n]=46
  ·simp only[l,decide_true,↓Mr,Mr,Mb,reduceIte]
   have m:T1 a=(a.take n,a.drop (n+1),true):=by
    have:a.findIdx? (fun b=>decide (b=46))=some n:=by
     rw[List.findIdx?_eq_some_iff_getElem]
     exact ⟨C,by simpa using l,fun j J=>by simpa using u j J (by omega)⟩
    rw[Bg,this];rfl
   have p:Xs a=(W8 (a.take n)&&L6 (a.drop (n+1))):=by simp[Xs,m]
   rw[m,p] at h
   have r:((n:Int)+1).toNat=n+1:=by omega
   have v:(a.take n).length≤140737488355328:=by simp only[List.length_take];omega
   have s:(a.drop (n+1)).length≤140737488355328:=by simp only[List.length_drop];omega
   have z: ∀{w:World} {K:Value→World→Prop},K (S (a.take n)) w→H4 P T.b (S a) none (some (I n)) none w K:=by
    intro w K h
    rw[K2 X7 (by omega) (by omega),show ((n:Int)).toNat=n from by omega];exact h
   have B: ∀{w:World} {K:Value→World→Prop},K (S (a.drop (n+1))) w→H4 P T.b (S a) (some (I (n+1))) none none w K:=by
    intro w K h
    rw[Wl X7 (by omega) (by omega),r];exact h
   refine Mx (Below.refl _ _) ?_
   refine X2 (S (a.take n)) (fun w c=>z (X6 rfl)) ?_
   refine X2 (I (n+1)) (fun w c=>X6 (by rw[F0 (by omega) (by omega)])) ?_
   refine X2 (S (a.drop (n+1))) (fun t w c e=>by rw[e];exact B (X6 rfl)) ?_
   refine X2 (S (a.take n)) (fun w c=>z (X6 rfl)) ?_
   refine X2 (.bool (W8 (a.take n))) (fun t w c e=>by rw[e];exact Qs _ v (X6 rfl)) ?_
   cases k:W8 (a.take n)
   ·refine X2 undef (fun t w c e=>by rw[e,Ju];exact X6 rfl) ?_
    refine X2 undef (fun t w c e=>by rw[e,Ju];exact X6 rfl) ?_
    refine X2 undef (fun t f w c e d=>by rw[e,Ju];exact X6 rfl) ?_
    refine X2 undef (fun t f q w c e d g=>by rw[e,Ju];exact X6 rfl) ?_
    refine X2 undef (fun t f w c e d=>by rw[e,Ju];exact X6 rfl) ?_
    refine X2 (.bool false) (fun t f w c e d=>by rw[e,Ou];exact X6 rfl) ?_
    rintro _ _ _ _ _ _ _ _ _ _ _ w1 c rfl rfl rfl rfl rfl rfl rfl rfl rfl rfl rfl
    rw[k] at h
    exact h w1 (by simpa using c)
   ·refine X2 (S a) (fun t w c e=>by rw[e,G9];exact X6 rfl) ?_
    refine X2 (I n) (fun t w c e=>by rw[e,G9];exact X6 rfl) ?_
    refine X2 (I (n+1)) (fun t f w c e d=>by rw[e,d,G9];simp only[↓Mr,Mr,Mb,reduceIte];exact X6 (by rw[F0 (by omega) (by omega)])) ?_
    refine X2 (S (a.drop (n+1))) (fun t f q w c e d g=>by rw[e,d,g,G9];exact B (X6 rfl)) ?_
    refine X2 (.bool (L6 (a.drop (n+1)))) (fun t f w c e d=>by rw[e,d,G9];exact Ff _ s (X6 rfl)) ?_
    refine X2 (.bool (L6 (a.drop (n+1)))) (fun t f w c e d=>by rw[e,d,Ht];exact X6 rfl) ?_
    rintro _ _ _ _ _ _ _ _ _ _ _ w1 c rfl rfl rfl rfl rfl rfl rfl rfl rfl rfl rfl
    rw[k] at h
    exact h w1 (by simpa using c)
  ·simp only[l,decide_false,↓Mr,Mr,Mb,reduceIte]
   rw[F0 (by omega) (by omega)]
   refine ⟨⟨rfl,n+1,rfl,by omega,fun i A E=>?_⟩,?_⟩
   ·by_cases o:i=n
    ·subst o;exact l
    ·exact u i (by omega) E
   ·simp only[Q7K];omega
 ·have y:decide ((n:Int)<a.length)=false:=by simp only[decide_eq_false_iff_not];omega
  simp only[y,↓Mr,Mr,Mb,reduceIte]
  have m:(T1 a).2.2=false∧(T1 a).1=a∧(T1 a).2.1=[]:=by
   have:a.findIdx? (fun b=>decide (b=46))=none:=by
    rw[List.findIdx?_eq_none_iff]
    intro x D
    obtain ⟨i,A,rfl⟩:=List.getElem_of_mem D
    simpa using u i (by omega) A
   rw[Bg,this];exact ⟨rfl,rfl,rfl⟩
  rw[m.1] at h
  exact h w (Below.refl _ _))
end Go.Proofs.YtfppjenblllfaaaGreatDoor

namespace Go.Emb
open Go.RowKit
class TZ (P : Program) (t : TypeId) (sz b : outParam Nat) (z : outParam Value) : Prop where
  h : (P.info? t).map (fun i => (i.size, i.bytes, i.zero)) = some (sz, b, some z)
def Q8l:Option TypeDesc→Bool
 | some (.struct _)=>true
 | some (.array _ _)=>true
 | none=>true
 | _=>false
class TG (P : Program) (t : TypeId) (g : outParam Bool) : Prop where
  h : (Q8l (P.underlying t), (P.underlying t).isSome) = (g, true)
class TS (P : Program) (t : TypeId) (e : outParam TypeId) : Prop where
  h : P.underlying t = some (.slice e)
class TA (P : Program) (t : TypeId) (n : outParam Nat) (e : outParam TypeId) : Prop where
  h : P.underlying t = some (.array n e)
class TM (P : Program) (t : TypeId) (k e : outParam TypeId) : Prop where
  h : P.underlying t = some (.map k e)
def Q2v (d:Option TypeDesc) (k:Nat):Option (Nat×TypeId):=match d with
 | some (.struct a)=>(a[k]?).map fun f=>(f.offset,f.type)
 | _=>none
class TF (P : Program) (t : TypeId) (k : Nat) (off : outParam Nat) (ft : outParam TypeId) : Prop where
  h : Q2v (P.underlying t) k = some (off, ft)
variable {P : Program} {w w0 w1 w' w'' : World} {K : Value → World → Prop}
theorem TZ.info {t:TypeId} {sz b:Nat} {z:Value} (h:TZ P t sz b z): ∃i,P.info? t=some i∧i.size=sz∧i.bytes=b∧i.zero=some z:=by
 obtain ⟨i,a,e⟩:=Option.map_eq_some_iff.1 h.h
 simp only[Prod.mk.injEq] at e
 exact ⟨i,a,e.1,e.2.1,e.2.2⟩
theorem W4 {t:TypeId} {sz b:Nat} {z:Value} (h:TZ P t sz b z) (w:World):(sizeOf t).run P w= .ok sz w:=by
 obtain ⟨i,a,rfl,_⟩:=h.info
 simp[sizeOf,typeInfo,a]
theorem Xv {t:TypeId} {sz b:Nat} {z:Value} (h:TZ P t sz b z) (w:World):(zeroValue t).run P w= .ok z w:=by
 obtain ⟨i,a,_,_,c⟩:=h.info
 simp[zeroValue,typeInfo,a,c]
theorem Za {t:TypeId} {g:Bool} (h:TG P t g) (w:World):(isAgg t).run P w= .ok g w:=by
 have hh:=h.h
 simp only[Prod.mk.injEq] at hh
 obtain ⟨c,b⟩:=hh
 cases a:P.underlying t with
 | none=>rw[a] at b;cases b
 | some d=>
  rw[a] at c
  have:=run_underlying (P:=P) (w:=w) a
  simp only[isAgg,Sem.run_bind,this,Result.andThen_ok]
  cases d<;>simp_all [Q8l]
theorem Sv (a:Addr) (i j:Nat):(a.add i).add j=a.add (i+j):=by
 unfold Addr.add
 by_cases c:i=0
 ·simp[c]
 ·by_cases b:j=0
  ·simp[b]
  ·simp[c,b,Nat.add_assoc]
theorem add_zero (a:Addr):a.add 0=a:=by simp[Addr.add]
theorem C2 (a:Addr) (i:Nat):(a.add i).block=a.block:=by unfold Addr.add;split<;>rfl
theorem Xp (a:Addr) (i:Nat):(a.add i).off=a.off+i:=by unfold Addr.add;split<;>simp_all
theorem I3 {a:Addr} (h:a.spot=none) (i:Nat):(a.add i).spot=none:=by unfold Addr.add;split<;>simp_all
abbrev Q5:=Nat→Option Obj
def X4 (w:World) (σ:Q5):Prop:= ∀b o,σ b=some o→w.heap[b]? =some o
structure Stp (w : World) (σ : Q5) (w' : World) (σ' : Q5) : Prop where
  bel : Below w.heap.size w w'
  sat : X4 w' σ'
  le : ∀ b o, σ b = some o → σ' b = some o
  old : ∀ b, b < w.heap.size → σ' b = σ b
theorem X4.lt {σ:Q5} (h:X4 w σ) {b:Nat} {o:Obj} (a:σ b=some o):b<w.heap.size:=(Array.getElem?_eq_some_iff.1 (h b o a)).1
theorem X4.below {σ:Q5} (h:X4 w σ) (a:Below w.heap.size w w'):X4 w' σ:=fun b o e=>(a.block b (h.lt e)).trans (h b o e)
theorem Stp.refl {σ:Q5} (h:X4 w σ):Stp w σ w σ:=⟨Below.refl _ _,h,fun _ _ e=>e,fun _ _=>rfl⟩
theorem Stp.trans {σ0 σ1 c:Q5} (h:Stp w σ0 w' σ1) (k:Stp w' σ1 w'' c):Stp w σ0 w'' c:=
 ⟨h.bel.trans (k.bel.mono h.bel.size),k.sat,fun b o e=>k.le b o (h.le b o e),fun b a=>(k.old b (Nat.lt_of_lt_of_le a h.bel.size)).trans (h.old b a)⟩
theorem Stp.of_below {σ:Q5} (h:X4 w σ) (a:Below w.heap.size w w'):Stp w σ w' σ:=⟨a,h.below a,fun _ _ e=>e,fun _ _=>rfl⟩
def Q5.put (σ:Q5) (b:Nat) (o:Obj):Q5:=fun k=>if k=b then some o else σ k
theorem X4.none {σ:Q5} (h:X4 w σ) {b:Nat} (a:w.heap.size≤b):σ b=none:=by
 cases e:σ b with
 | none=>rfl
 | some o=>have:=h.lt e;omega
theorem Stp.alloc {σ:Q5} (h:X4 w σ) (o:Obj):Stp w σ (w.alloc o) (σ.put w.heap.size o):=by
 refine ⟨(Below.refl _ _).alloc (Nat.le_refl _) o,?_,?_,?_⟩
 ·intro b p e
  by_cases a:b=w.heap.size
  ·subst a
   simp only[Q5.put,if_true] at e
   cases e
   exact heap_alloc_new w o
  ·simp only[Q5.put,if_neg a] at e
   rw[Below.heap_alloc w o b (h.lt e)];exact h b p e
 ·intro b p e
  have:=h.lt e
  simp only[Q5.put];rw[if_neg (by omega)];exact e
 ·intro b a
  simp only[Q5.put];rw[if_neg (by omega)]
theorem Stp.own {σ:Q5} (h:X4 w σ) (o:Obj):Stp w σ (w.alloc o) σ:=Stp.of_below h ((Below.refl _ _).alloc (Nat.le_refl _) o)
def Z2 (σ:Q5) (a:Addr) (cs:List Value):Prop:=a.spot=none∧ ∃D3 e b,σ a.block=some (.cells D3 e b)∧ ∀i v,cs[i]? =some v→D3[a.off+i]? =some v
theorem Z2.up {σ σ':Q5} {a:Addr} {cs:List Value} (h:Z2 σ a cs) (f:Stp w σ w' σ'):Z2 σ' a cs:=by
 obtain ⟨c,D3,e,g,d,b⟩:=h
 exact ⟨c,D3,e,g,f.le _ _ d,b⟩
theorem Z2.cell {σ:Q5} {a:Addr} {cs:List Value} (h:Z2 σ a cs) (f:X4 w σ) {i:Nat} {v:Value} (d:cs[i]? =some v):w.cell? (a.add i)=some v:=by
 obtain ⟨c,D3,e,j,g,b⟩:=h
 have:=f _ _ g
 unfold World.cell?
 rw[C2,this,Xp,I3 c]
 exact b i v d
def Z5 (σ:Q5) (w:World) (b:Nat) (cs:List Value):Prop:=σ b=none∧ ∃e,w.heap[b]? =some (.cells cs.toArray e (0,0))
theorem Z5.lt {σ:Q5} {b:Nat} {cs:List Value} (h:Z5 σ w b cs):b<w.heap.size:=by
 obtain ⟨_,e,h⟩:=h
 exact (Array.getElem?_eq_some_iff.1 h).1
theorem Z5.up {σ σ':Q5} {b:Nat} {cs:List Value} (h:Z5 σ w b cs) (c:Stp w σ w' σ'):Z5 σ' w' b cs:=by
 have a:=h.lt
 obtain ⟨f,e,d⟩:=h
 exact ⟨(c.old b a).trans f,e,(c.bel.block b a).trans d⟩
theorem Z5.cell {σ:Q5} {b:Nat} {cs:List Value} (h:Z5 σ w b cs) {i:Nat} {v:Value} (a:cs[i]? =some v):w.cell? ((⟨b,0,none⟩:Addr).add i)=some v:=by
 obtain ⟨_,e,c⟩:=h
 unfold World.cell?
 rw[C2,Xp,I3 rfl]
 simp only[c]
 simpa using a
theorem Z5.keep {σ σ0:Q5} {b:Nat} {cs:List Value} (h:Z5 σ w b cs) (d:Stp w0 σ0 w σ) (m:w0.heap.size≤b): ∃σ',Stp w0 σ0 w σ'∧Z2 σ' ⟨b,0,none⟩ cs∧(∀k o,σ k=some o→σ' k=some o)∧(∀k,k≠b→σ' k=σ k):=by
 obtain ⟨g,e,j⟩:=h
 refine ⟨σ.put b (.cells cs.toArray e (0,0)),⟨d.bel,?_,?_,?_⟩,⟨rfl,cs.toArray,e,(0,0),by simp[Q5.put],?_⟩,?_,?_⟩
 ·intro k o c
  by_cases a:k=b
  ·subst a;simp only[Q5.put,if_true] at c;cases c;exact j
  ·simp only[Q5.put,if_neg a] at c;exact d.sat k o c
 ·intro k o c
  by_cases a:k=b
  ·subst a;have:=d.le _ _ c;rw[g] at this;cases this
  ·simp only[Q5.put,if_neg a];exact d.le _ _ c
 ·intro k f
  simp only[Q5.put];rw[if_neg (by omega)];exact d.old k f
 ·intro i v l;simpa using l
 ·intro k o c
  by_cases a:k=b
  ·subst a;rw[g] at c;cases c
  ·simp only[Q5.put,if_neg a];exact c
 ·intro k a;simp only[Q5.put,if_neg a]
theorem Q5W (t:TypeId) (v:Value) (w:World):(Instr.box t v).run P w= .ok (.pointer (some ⟨w.heap.size,0,none⟩)) (w.alloc (.cells v.cells t)):=by
 simp[Instr.box,newVar,newRow]
theorem Q1J {σ:Q5} (a:X4 w σ) (cs:Array Value) (t:TypeId):Z5 σ (w.alloc (.cells cs t)) w.heap.size cs.toList:=
 ⟨a.none (Nat.le_refl _),t,by simpa using heap_alloc_new w (.cells cs t)⟩
theorem Q7g {σ:Q5} (cs:Array Value) (t:TypeId):Z2 (σ.put w.heap.size (.cells cs t)) ⟨w.heap.size,0,none⟩ cs.toList:=
 ⟨rfl,cs,t,(0,0),by simp[Q5.put],fun i v h=>by simpa using h⟩
theorem M9 {σ:Q5} {t:TypeId} {v:Value} (b:X4 w σ) (h: ∀a w' σ',Stp w σ w' σ'→Z2 σ' a v.cells.toList→K (.pointer (some a)) w'):box P t v w K:=by
 unfold box;rw[Y0 (Q5W t v w)]
 exact h _ _ _ (Stp.alloc b _) (Q7g _ t)
theorem Q95 {σ:Q5} {t:TypeId} {v:Value} (a:X4 w σ) (h: ∀b w',w.heap.size≤b→Stp w σ w' σ→Z5 σ w' b v.cells.toList→K (.pointer (some ⟨b,0,none⟩)) w'):box P t v w K:=by
 unfold box;rw[Y0 (Q5W t v w)]
 exact h _ _ (Nat.le_refl _) (Stp.own a _) (Q1J a _ t)
theorem Hi {σ:Q5} {t:TypeId} {sz by_:Nat} {z:Value} [tz:TZ P t sz by_ z] (a:X4 w σ) (h: ∀b w',w.heap.size≤b→Stp w σ w' σ→Z5 σ w' b z.cells.toList→K (.pointer (some ⟨b,0,none⟩)) w'):W6 P t w K:=by
 unfold W6
 have:(Instr.alloc t true (.tuple #[])).run P w= .ok (.pointer (some ⟨w.heap.size,0,none⟩)) (w.alloc (.cells z.cells t)):=by
  simp[Instr.alloc,Xv tz,newVar,newRow]
 rw[Y0 this]
 exact h _ _ (Nat.le_refl _) (Stp.own a _) (Q1J a _ t)
theorem Ql {t:TypeId} [tg:TG P t false] {a:Addr} {v:Value} (b:w.cell? a=some v) (h:K v w):Q2 P t (.pointer (some a)) w K:=by
 unfold Q2
 rw[Y0 (v:=v) (w':=w) (by simp[Instr.loadAt,Instr.sureAddr,loadVar,Za tg,b])]
 exact h
theorem Dt {t:TypeId} {sz by_:Nat} {z:Value} [tg:TG P t true] [tz:TZ P t sz by_ z] {a:Addr} {cs:List Value} (b:cs.length=sz) (c: ∀j v,cs[j]? =some v→w.cell? (a.add j)=some v) (h:K (.agg cs.toArray) w):Q2 P t (.pointer (some a)) w K:=by
 unfold Q2
 have:=run_loadCells_list (P:=P) w a cs c
 rw[b] at this
 rw[Y0 (v:= .agg cs.toArray) (w':=w) (by simp[Instr.loadAt,Instr.sureAddr,loadVar,Za tg,W4 tz,this])]
 exact h
theorem ld {σ:Q5} {t:TypeId} [TG P t false] {a:Addr} {cs:List Value} {i:Nat} {v:Value} (c:X4 w σ) (d:Z2 σ a cs) (b:cs[i]? =some v) (h:K v w):Q2 P t (.pointer (some (a.add i))) w K:=
 Ql (d.cell c b) h
theorem X8 {σ:Q5} {t:TypeId} [TG P t false] {a:Addr} {cs:List Value} {v:Value} (c:X4 w σ) (d:Z2 σ a cs) (b:cs[0]? =some v) (h:K v w):Q2 P t (.pointer (some a)) w K:=by
 have:=ld (P:=P) (t:=t) c d b h
 rwa [add_zero] at this
theorem Y7 {σ:Q5} {t:TypeId} {sz by_:Nat} {z:Value} [TG P t true] [TZ P t sz by_ z] {a:Addr} {cs:List Value} (d:X4 w σ) (f:Z2 σ a cs) (b:cs.length=sz) (h:K (.agg cs.toArray) w):Q2 P t (.pointer (some a)) w K:=
 Dt b (fun _ _ c=>f.cell d c) h
theorem Jx {σ:Q5} {t:TypeId} [TG P t false] {b:Nat} {cs:List Value} {i:Nat} {v:Value} (c:Z5 σ w b cs) (a:cs[i]? =some v) (h:K v w):Q2 P t (.pointer (some ((⟨b,0,none⟩:Addr).add i))) w K:=
 Ql (c.cell a) h
theorem Q9A {σ:Q5} {t:TypeId} [TG P t false] {b:Nat} {cs:List Value} {v:Value} (c:Z5 σ w b cs) (a:cs[0]? =some v) (h:K v w):Q2 P t (.pointer (some ⟨b,0,none⟩)) w K:=by
 have:=Jx (P:=P) (t:=t) c a h
 rwa [add_zero] at this
theorem Q6w {σ:Q5} {t:TypeId} {sz by_:Nat} {z:Value} [TG P t true] [TZ P t sz by_ z] {b:Nat} {cs:List Value} (d:Z5 σ w b cs) (a:cs.length=sz) (h:K (.agg cs.toArray) w):Q2 P t (.pointer (some ⟨b,0,none⟩)) w K:=
 Dt a (fun _ _ c=>d.cell c) h
theorem W2 {t:TypeId} {sz by_:Nat} {z:Value} [tg:TG P t true] [tz:TZ P t sz by_ z] {σ:Q5} {b:Nat} {cs:List Value} {K:Value→Prop} (d:Z5 σ w b cs) (a:cs.length=sz) (h:K (.agg cs.toArray)):V7 P t (.pointer (some ⟨b,0,none⟩)) w K:=by
 rw[Q1q]
 refine ⟨_,?_,h⟩
 have:=run_loadCells_list (P:=P) w ⟨b,0,none⟩ cs (fun _ _ c=>d.cell c)
 rw[a] at this
 simp[asAddr,loadVar,Za tg,W4 tz,this]
structure Upd (w : World) (b : Nat) (w' : World) : Prop where
  os : w'.os = w.os
  tape : w'.tape = w.tape
  output : w'.output = w.output
  size : w'.heap.size = w.heap.size
  block : ∀ k, k ≠ b → w'.heap[k]? = w.heap[k]?
theorem Upd.stp {σ0 σ:Q5} {b:Nat} (c:Upd w b w') (a:Stp w0 σ0 w σ) (h:w0.heap.size≤b) (g:σ b=none):Stp w0 σ0 w' σ:=by
 refine ⟨⟨c.os.trans a.bel.os,c.tape.trans a.bel.tape,c.output.trans a.bel.output,by rw[c.size];exact a.bel.size,fun k f=>(c.block k (by omega)).trans (a.bel.block k f)⟩,?_,a.le,a.old⟩
 intro k o d
 rw[c.block k (by intro e;subst e;rw[g] at d;cases d)]
 exact a.sat k o d
theorem Z5.upd {σ:Q5} {b k:Nat} {cs:List Value} (h:Z5 σ w k cs) (c:Upd w b w') (a:k≠b):Z5 σ w' k cs:=by
 obtain ⟨f,e,d⟩:=h
 exact ⟨f,e,(c.block k a).trans d⟩
theorem Oz {b:Nat} {cs:Array Value} {a:Array Value} {e:TypeId} (h:w.heap[b]? =some (.cells a e (0,0))):Upd w b (w.setRow b cs)∧(w.setRow b cs).heap[b]? =some (.cells cs e (0,0)):=by
 have c:=(Array.getElem?_eq_some_iff.1 h).1
 refine ⟨⟨rfl,rfl,rfl,by simp[World.setRow],fun k d=>?_⟩,?_⟩
 ·simp only[World.setRow,Array.getElem?_modify]
  rw[if_neg (by omega)]
 ·simp only[World.setRow,Array.getElem?_modify,if_true,h]
  rfl
theorem sta {t:TypeId} {sz by_:Nat} {z:Value} [tz:TZ P t sz by_ z] {σ:Q5} {b:Nat} {cs ds:List Value} (j:Z5 σ w b cs) (g:cs.length=sz) (d:ds.length=sz) (k:ds.toArray.all (·.oneCell')=true)
 (h: ∀w',Upd w b w'→Z5 σ w' b ds→K undef w'):Z4 P t (.pointer (some ⟨b,0,none⟩)) (.agg ds.toArray) w K:=by
 obtain ⟨m,e,c⟩:=j
 unfold Z4
 obtain ⟨i,f,a,_⟩:=tz.info
 have:=run_storeVar_row (P:=P) w b e t cs.toArray ds.toArray c (by simp[f,a,d]) (by simp[g,d]) k
 rw[Mv (w':=w.setRow b ds.toArray) (by simpa [Instr.storeAt,Instr.sureAddr] using this)]
 obtain ⟨l,hh⟩:=Oz (cs:=ds.toArray) c
 exact h _ l ⟨m,e,hh⟩
theorem X0Y {cs:List Value} {i:Nat} {v:Value} (a:i<cs.length):(cs.take i++[v]++cs.drop (i+1))=cs.set i v:=by
 rw[List.set_eq_take_append_cons_drop,if_pos a];simp
theorem Lx {t:TypeId} {by_:Nat} {z:Value} [tz:TZ P t 1 by_ z] {σ:Q5} {b i:Nat} {cs:List Value} {v:Value} (g:Z5 σ w b cs) (d:i<cs.length) (m:v.cells= #[v]) (j:v.oneCell'=true)
 (h: ∀w',Upd w b w'→Z5 σ w' b (cs.set i v)→K undef w'):Z4 P t (.pointer (some ((⟨b,0,none⟩:Addr).add i))) v w K:=by
 obtain ⟨l,e,c⟩:=g
 unfold Z4
 have a:(⟨b,0,none⟩:Addr).add i=⟨b,i,none⟩:=by unfold Addr.add;split<;>simp_all
 have:=run_storeCells_at P b i e [v] 0 cs.toArray w c (by simp;omega) (by simpa using j)
 simp only[Nat.add_zero] at this
 obtain ⟨k,hh⟩:=Oz (cs:=(cs.set i v).toArray) c
 have f:(List.take i cs.toArray.toList++[v]++List.drop (i+[v].length) cs.toArray.toList).toArray=(cs.set i v).toArray:=by
  rw[←X0Y d];simp
 rw[f] at this
 rw[Mv (w':=w.setRow b (cs.set i v).toArray) (by simp[Instr.storeAt,Instr.sureAddr,a,storeVar,W4 tz,m,this])]
 exact h _ k ⟨l,e,hh⟩
theorem st0 {t:TypeId} {by_:Nat} {z:Value} [tz:TZ P t 1 by_ z] {σ:Q5} {b:Nat} {cs:List Value} {v:Value} (d:Z5 σ w b cs) (c:0<cs.length) (a:v.cells= #[v]) (f:v.oneCell'=true)
 (h: ∀w',Upd w b w'→Z5 σ w' b (cs.set 0 v)→K undef w'):Z4 P t (.pointer (some ⟨b,0,none⟩)) v w K:=by
 have:=Lx (P:=P) (t:=t) d c a f h
 rwa [add_zero] at this
class NZ (n : Nat) : Prop where
  h : (n == 0) = false
instance (n:Nat):NZ (n+1):=⟨rfl⟩
theorem fa {t:TypeId} {k b:Nat} {c:TypeId} {sz by_:Nat} {z:Value} [tf:TF P t k b c] [tz:TZ P c sz by_ z] [nz:NZ sz] {a:Addr}:fieldAddr P t (.pointer (some a)) k w K=K (.pointer (some (a.add b))) w:=by
 unfold fieldAddr
 have hh:=tf.h
 unfold Q2v at hh
 split at hh
 ·rename_i n j
  obtain ⟨f,g,d⟩:=Option.map_eq_some_iff.1 hh
  simp only[Prod.mk.injEq] at d
  obtain ⟨m,i⟩:=d
  subst i m
  have l: ¬sz=0:=by simpa using nz.h
  exact Y0 (by simp[Instr.fieldAt,run_underlying j,g,Instr.sureAddr,fieldPlace,W4 tz,l])
 ·cases hh
theorem Cg {t e:TypeId} {sz by_:Nat} {z:Value} [ts:TS P t e] [tz:TZ P e sz by_ z] {a:Addr} {n b:Nat} {k:IntKind} {i:Int} (c:0≤i) (d:i<n):indexAddr P t (.slice (some a) n b) (.int k i) w K=K (.pointer (some (a.add (i.toNat*sz)))) w:=by
 unfold indexAddr
 exact Y0 (by simp[Instr.indexAt,run_underlying ts.h,asIntOf,W4 tz,c,d])
theorem Q89 {t e:TypeId} {n sz by_:Nat} {z:Value} [ta:TA P t n e] [tz:TZ P e sz by_ z] {a:Addr} {k:IntKind} {i:Int} (b:0≤i) (c:i<n):indexAddr P t (.pointer (some a)) (.int k i) w K=K (.pointer (some (a.add (i.toNat*sz)))) w:=by
 unfold indexAddr
 exact Y0 (by simp[Instr.indexAt,run_underlying ta.h,asIntOf,Instr.sureAddr,W4 tz,b,c])
theorem E9 {a:Addr}:nilCheck P (.pointer (some a)) w K=K (.pointer (some a)) w:=by
 unfold nilCheck
 rw[Xg];unfold T7
 simp[execOp]
class Rep {α : Type} (R : Q5 → α → List Value → Prop) : Prop where
  up : ∀ {σ σ' : Q5} {x : α} {cs : List Value}, (∀ b o, σ b = some o → σ' b = some o) → R σ x cs → R σ' x cs
  one : ∀ {σ : Q5} {x : α} {cs : List Value}, R σ x cs → ∀ u ∈ cs, u.oneCell' = true
def Sl {α:Type} (sz:Nat) (R:Q5→α→List Value→Prop) (σ:Q5) (v:Value) (xs:List α):Prop:=
 ∃a c,v= .slice a xs.length c∧xs.length≤c∧c≤maxLen∧(a=none→c=0)∧
  ∀b,a=some b→(0<xs.length→b.spot=none)∧ ∀i x,xs[i]? =some x→ ∃cs,Z2 σ (b.add (i*sz)) cs∧cs.length=sz∧R σ x cs
theorem Z2.le {σ σ':Q5} {a:Addr} {cs:List Value} (h:Z2 σ a cs) (g: ∀b o,σ b=some o→σ' b=some o):Z2 σ' a cs:=by
 obtain ⟨d,D3,e,i,f,c⟩:=h
 exact ⟨d,D3,e,i,g _ _ f,c⟩
section
variable {α : Type} {R : Q5 → α → List Value → Prop} {sz : Nat} {σ σ' : Q5} {v : Value} {xs : List α}
theorem Sl.le [hr:Rep R] (h:Sl sz R σ v xs) (g: ∀b o,σ b=some o→σ' b=some o):Sl sz R σ' v xs:=by
 obtain ⟨a,c,p,k,m,r,f⟩:=h
 refine ⟨a,c,p,k,m,r,fun b d=>⟨(f b d).1,fun i x l=>?_⟩⟩
 obtain ⟨cs,q,j,n⟩:=(f b d).2 i x l
 exact ⟨cs,q.le g,j,hr.up g n⟩
theorem Sl.up [Rep R] (h:Sl sz R σ v xs) (a:Stp w σ w' σ'):Sl sz R σ' v xs:=h.le a.le
theorem Sl.max (h:Sl sz R σ v xs):xs.length≤9223372036854775807:=by
 obtain ⟨a,c,g,f,b,d⟩:=h
 simp only[maxLen] at b;omega
theorem Sl.nil:Sl sz R σ (.slice none 0 0) ([]:List α):=⟨none,0,rfl,by simp,by simp,fun _=>rfl,fun b a=>by cases a⟩
theorem Q5X {c e t:TypeId} {cs:List Bool} [ts:TS P c e] {a:Option Addr} {n b:Nat}:X5 P .len [c] t cs [.slice a n b] w K=K (I n) w:=by
 have h:(Builtin.len_ #[c] t #[.slice a n b]).run P w= .ok (I n) w:=by
  simp[Builtin.len_,run_underlying ts.h,goInt]
 exact Y0 h
theorem X1y {b e t:TypeId} {cs:List Bool} [ts:TS P b e] (h:Sl sz R σ v xs):X5 P .len [b] t cs [v] w K=K (I xs.length) w:=by
 obtain ⟨a,c,rfl,_⟩:=h
 exact Q5X
theorem X1V {t e:TypeId} {by_:Nat} {z:Value} [TS P t e] [TZ P e sz by_ z] (h:Sl sz R σ v xs) {k:IntKind} {i:Int} (f:0≤i) (m:i.toNat<xs.length)
 (l: ∀a cs,Z2 σ a cs→cs.length=sz→R σ xs[i.toNat] cs→K (.pointer (some a)) w):indexAddr P t v (.int k i) w K:=by
 obtain ⟨a,c,rfl,p,q,o,g⟩:=h
 cases a with
 | none=>have:=o rfl;omega
 | some b=>
  rw[Cg f (by omega)]
  obtain ⟨cs,n,d,j⟩:=(g b rfl).2 i.toNat xs[i.toNat] (by simp[m])
  exact l _ cs n d j
end
theorem Stp.turn {σ0 σ:Q5} {row:Option Nat} (b:w.grownBy w' row) (a:Stp w0 σ0 w σ) (f: ∀k,row=some k→w0.heap.size≤k∧σ k=none):Stp w0 σ0 w' σ:=by
 refine ⟨⟨b.os.trans a.bel.os,b.tape.trans a.bel.tape,b.output.trans a.bel.output,Nat.le_trans a.bel.size b.size,fun k d=>?_⟩,?_,a.le,a.old⟩
 ·refine (b.block k (Nat.lt_of_lt_of_le d a.bel.size) ?_).trans (a.bel.block k d)
  intro e;have:=(f k e.symm).1;omega
 ·intro k o c
  refine (b.block k (a.sat.lt c) ?_).trans (a.sat k o c)
  intro e;rw[(f k e.symm).2] at c;cases c
def V6 {α:Type} (B:Nat) (e:TypeId) (sz:Nat) (R:Q5→α→List Value→Prop) (σ:Q5) (w:World) (v:Value) (xs:List α):Prop:=
 ∃cells,w.ownsRow B e sz v xs.length cells∧(∀k,v.ownBlock=some k→σ k=none)∧ ∀i x,xs[i]? =some x→R σ x ((cells.drop (i*sz)).take sz)
section
variable {α : Type} {R : Q5 → α → List Value → Prop} {B sz : Nat} {e : TypeId} {σ σ' : Q5} {v u : Value} {xs ys : List α}
theorem V6.nil:V6 B e sz R σ w (.slice none 0 0) ([]:List α):=⟨[],World.ownsRow_nil w B e sz,by intro k a;simp[Value.ownBlock] at a,by intro i x h;simp at h⟩
theorem V6.mem (h:V6 B e sz R σ w v xs): ∀k,v.ownBlock=some k→B≤k∧k<w.heap.size∧σ k=none:=by
 obtain ⟨cells,f,d,_⟩:=h
 intro k c
 obtain ⟨a,b⟩:=f.lt k c
 exact ⟨a,b,d k c⟩
theorem V6.up [hr:Rep R] (h:V6 B e sz R σ w v xs) (a:Stp w σ w' σ'):V6 B e sz R σ' w' v xs:=by
 obtain ⟨cells,c,j,d⟩:=h
 refine ⟨cells,c.kept ⟨a.bel.os,a.bel.tape,a.bel.output,a.bel.size,fun k f _=>a.bel.block k f⟩ (by cases b:v.ownBlock<;>simp) (row:=none),?_,fun i x g=>hr.up a.le (d i x g)⟩
 intro k b
 rw[a.old k (c.lt k b).2];exact j k b
theorem Sl.cells (h:Sl sz R σ v xs) (D:X4 w σ) [hr:Rep R]: ∃(a:Option Addr) (d:Nat) (c:List Value),v= .slice a xs.length d∧(a=none→d=0)∧c.length=xs.length*sz∧(∀b,a=some b→ ∀j u,c[j]? =some u→w.cell? (b.add j)=some u)∧(∀u∈c,u.oneCell'=true)∧
 ∀i x,xs[i]? =some x→R σ x ((c.drop (i*sz)).take sz):=by
 obtain ⟨a,d,rfl,M,N,q,z⟩:=h
 cases a with
 | none=>
  have L:=q rfl
  have f:xs=[]:=List.eq_nil_of_length_eq_zero (by omega)
  subst f
  exact ⟨none,d,[],rfl,q,by simp,fun b C=>(by cases C),by simp,by simp⟩
 | some b=>
  obtain ⟨H,n⟩:=z b rfl
  clear z
  have key: ∀(ys:List α) (k:Nat),(∀i x,ys[i]? =some x→ ∃cs,Z2 σ (b.add ((k+i)*sz)) cs∧cs.length=sz∧R σ x cs)→
   ∃c:List Value,c.length=ys.length*sz∧(∀j u,c[j]? =some u→w.cell? (b.add (k*sz+j))=some u)∧(∀u∈c,u.oneCell'=true)∧ ∀i x,ys[i]? =some x→R σ x ((c.drop (i*sz)).take sz):=by
   intro ys
   induction ys with
   | nil=>intro k _;exact ⟨[],by simp,by simp,by simp,by simp⟩
   | cons y r J=>
    intro k t
    obtain ⟨cs,E,s,A⟩:=t 0 y rfl
    obtain ⟨c,o,m,g,p⟩:=J (k+1) (fun i x f=>by
     have:=t (i+1) x (by simpa using f)
     rwa [show k+1+i=k+(i+1) by omega])
    refine ⟨cs++c,by simp[o,s,Nat.add_mul,Nat.add_comm],?_,?_,?_⟩
    ·intro j u hu
     by_cases Q:j<sz
     ·rw[List.getElem?_append_left (by omega)] at hu
      have:=E.cell D hu
      rwa [Sv,Nat.add_zero] at this
     ·rw[List.getElem?_append_right (by omega)] at hu
      have:=m _ _ hu
      rwa [s,show (k+1)*sz+(j-sz)=k*sz+j by rw[Nat.add_mul];omega] at this
    ·intro u hu
     rcases List.mem_append.1 hu with hu | hu
     ·exact hr.one A u hu
     ·exact g u hu
    ·intro i x f
     cases i with
     | zero=>
      simp at f;subst f
      simp only[Nat.zero_mul,List.drop_zero]
      rw[List.take_append_of_le_length (by omega),List.take_of_length_le (by omega)];exact A
     | succ i=>
      have:=p i x (by simpa using f)
      rw[show (i+1)*sz=cs.length+i*sz by rw[Nat.add_mul];omega,List.drop_append]
      simpa [List.drop_eq_nil_of_le] using this
  obtain ⟨c,o,m,g,p⟩:=key xs 0 (fun i x f=>by rw[Nat.zero_add];exact n i x f)
  refine ⟨some b,d,c,rfl,q,o,?_,g,p⟩
  intro O l j u hu
  cases l
  have:=m j u hu
  rwa [Nat.zero_mul,Nat.zero_add] at this
end
section
variable {α : Type} {R : Q5 → α → List Value → Prop} {sz : Nat} {e : TypeId} {σ σ0 : Q5} {v u : Value} {xs ys : List α}
theorem Du (cells a:List Value) (n i:Nat) (c:cells.length=n*sz) (b:i<n):((cells++a).drop (i*sz)).take sz=(cells.drop (i*sz)).take sz:=by
 have h:i*sz+sz≤n*sz:=by rw[←Nat.succ_mul];exact Nat.mul_le_mul_right _ b
 rw[List.drop_append_of_le_length (by omega),List.take_append_of_le_length (by simp only[List.length_drop];omega)]
theorem app {t y:TypeId} {by_:Nat} {z:Value} {cs:List Bool} [ts:TS P t e] [tz:TZ P e sz by_ z] [hr:Rep R] (A:Stp w0 σ0 w σ) (ha:V6 w0.heap.size e sz R σ w v xs) (V:Sl sz R σ u ys) (L:(z.cells.size==sz&&decide (0<sz))=true)
 (hb:(xs.length+ys.length)*by_≤140737488355328) (hm:xs.length+ys.length≤9223372036854775807)
 (h: ∀f w',w.grownBy w' v.ownBlock→Stp w0 σ0 w' σ→V6 w0.heap.size e sz R σ w' f (xs++ys)→(f.ownBlock=v.ownBlock∨ ∀k,f.ownBlock=some k→w.heap.size≤k)→K f w'):X5 P .append [t,t] y cs [v,u] w K:=by
 obtain ⟨cells,r,O,h3⟩:=ha
 obtain ⟨a,l,c,rfl,U,Q,X,n4,n5⟩:=V.cells A.sat
 obtain ⟨i,H,D,J,o⟩:=tz.info
 have q: ∀f w',(Builtin.append_ #[t,t] y #[v, .slice a ys.length l]).run P w= .ok f w'→w'.ownsRow w0.heap.size e sz f (xs.length+ys.length) (cells++c)→w.grownBy w' v.ownBlock→(f.ownBlock=v.ownBlock∨f.ownBlock=some w.heap.size)→X5 P .append [t,t] y cs [v, .slice a ys.length l] w K:=by
  intro f w' s d m hat
  have p:(builtin .append #[t,t] y cs.toArray #[v, .slice a ys.length l]).run P w= .ok (.value f) w':=by
   simp[builtin,s]
  unfold X5
  rw[Xg];unfold T7
  rw[p]
  refine h f w' m (Stp.turn m A fun k n=>⟨(r.lt k n).1,O k n⟩) ⟨cells++c,by rw[List.length_append];exact d,?_,?_⟩ ?_
  ·intro k n
   rcases hat with hat | hat
   ·exact O k (hat▸n)
   ·rw[hat] at n;cases n;exact A.sat.none (Nat.le_refl _)
  ·intro j x C
   by_cases W:j<xs.length
   ·rw[List.getElem?_append_left W] at C
    rw[Du cells c xs.length j r.1 W]
    exact h3 j x C
   ·rw[List.getElem?_append_right (by omega)] at C
    have:=n5 _ _ C
    rw[show j*sz=cells.length+(j-xs.length)*sz by rw[r.1,←Nat.add_mul];congr 1;omega,List.drop_append]
    simpa [List.drop_eq_nil_of_le] using this
  ·rcases hat with hat | hat
   ·exact .inl hat
   ·right;intro k n;rw[hat] at n;cases n;exact Nat.le_refl _
 simp only[Bool.and_eq_true,beq_iff_eq,decide_eq_true_eq] at L
 cases a with
 | some b=>
  obtain ⟨f,w',g1,Y,g3,_,Z⟩:=run_append_own_at (P:=P) w w0.heap.size t y e i z sz by_ ts.h H o D J L.1 L.2 v xs.length cells r b ys.length l c Q (X b rfl) n4 (by simp only[maxLen];omega) hb A.bel.size
  exact q f w' g1 Y g3 Z
 | none=>
  have hy:ys=[]:=List.eq_nil_of_length_eq_zero (by obtain ⟨a',N,e',q1,_,q3,_⟩:=V;injection e' with _ e2 e3;have:=U rfl;subst e3;omega)
  have M:=U rfl
  subst hy M
  have hn:c=[]:=List.eq_nil_of_length_eq_zero (by simpa using Q)
  subst hn
  have d:=r
  rcases r.2 with ⟨rfl,h0⟩ | ⟨g,l,am,rfl,al,hg,E,_⟩
  ·refine q (.slice none 0 0) w ?_ (by simpa using d) (World.grownBy.refl w _) (.inl rfl)
   simp[Builtin.append_,run_underlying ts.h,sizeOf,typeInfo,H,Builtin.lenOf,Builtin.firstCells]
  ·refine q _ w ?_ (by simpa using d) (World.grownBy.refl w _) (.inl rfl)
   simp[Builtin.append_,run_underlying ts.h,sizeOf,typeInfo,H,Builtin.lenOf,Builtin.firstCells,E,storeCells]
end
section
variable {α : Type} {R : Q5 → α → List Value → Prop} {sz : Nat} {e : TypeId} {σ σ0 : Q5} {v u : Value} {xs ys : List α}
theorem Q5.put_le {w:World} (d:X4 w σ) {b:Nat} (h:σ b=none) (o:Obj): ∀k p,σ k=some p→(σ.put b o) k=some p:=by
 intro k p c
 by_cases a:k=b
 ·subst a;rw[h] at c;cases c
 ·simp only[Q5.put,if_neg a];exact c
theorem Stp.put {b:Nat} {o:Obj} (c:Stp w0 σ0 w σ) (f:σ b=none) (h:w0.heap.size≤b) (g:w.heap[b]? =some o):Stp w0 σ0 w (σ.put b o):=by
 refine ⟨c.bel,?_,fun k p a=>Q5.put_le c.sat f o k p (c.le k p a),?_⟩
 ·intro k p a
  by_cases d:k=b
  ·subst d;simp only[Q5.put,if_true] at a;cases a;exact g
  ·simp only[Q5.put,if_neg d] at a;exact c.sat k p a
 ·intro k a
  simp only[Q5.put];rw[if_neg (by omega)];exact c.old k a
theorem V6.keep [hr:Rep R] (h:V6 w0.heap.size e sz R σ w v xs) (p:Stp w0 σ0 w σ): ∃σ',Stp w0 σ0 w σ'∧Sl sz R σ' v xs∧(∀k o,σ k=some o→σ' k=some o)∧(∀k,some k≠v.ownBlock→σ' k=σ k):=by
 obtain ⟨cells,s,A,H⟩:=h
 rcases s.2 with ⟨rfl,C⟩ | ⟨g,m,d,rfl,D,y,n,f,z,q⟩
 ·have:xs=[]:=List.eq_nil_of_length_eq_zero C
  subst this
  exact ⟨σ,p,Sl.nil,fun _ _ h=>h,fun _ _=>rfl⟩
 ·have t:=A g rfl
  have a:=Q5.put_le p.sat t (.cells d e (0,0))
  refine ⟨σ.put g (.cells d e (0,0)),p.put t D y,⟨_,m,rfl,n,f,by simp,?_⟩,a,?_⟩
  ·intro b l
   cases l
   refine ⟨fun _=>rfl,fun i x r=>⟨(cells.drop (i*sz)).take sz,⟨I3 rfl _,d,e,(0,0),by rw[C2];simp[Q5.put],?_⟩,?_,hr.up a (H i x r)⟩⟩
   ·intro j u c
    rw[Xp]
    rw[List.getElem?_take] at c
    split at c
    ·rw[List.getElem?_drop,←q,List.getElem?_take] at c
     split at c
     ·simpa using c
     ·cases c
    ·cases c
   ·have E:i<xs.length:=(List.getElem?_eq_some_iff.1 r).1
    have h:i*sz+sz≤xs.length*sz:=by rw[←Nat.succ_mul];exact Nat.mul_le_mul_right _ E
    rw[List.length_take,List.length_drop,s.1];omega
  ·intro k J
   have:k≠g:=by intro e;subst e;exact J rfl
   simp only[Q5.put,if_neg this]
theorem Sl.piece {a:Option Addr} {n d:Nat} (h:Sl sz R σ (.slice a n d) xs) (l m:Nat) (O:l+m≤xs.length):Sl sz R σ (.slice (if d=l then a else a.map (·.add (l*sz))) m (d-l)) ((xs.drop l).take m):=by
 obtain ⟨M,j,t,L,N,J,p⟩:=h
 injection t with r C E
 subst r C E
 have c:((xs.drop l).take m).length=m:=by simp;omega
 refine ⟨_,d-l,by rw[c],by rw[c];omega,by omega,?_,?_⟩
 ·intro k
  split at k
  ·omega
  ·cases a with
   | none=>have:=J rfl;omega
   | some b=>simp at k
 ·intro b f
  split at f
  ·rename_i A
   obtain ⟨o,q⟩:=p b f
   have D:m=0:=by omega
   subst D
   exact ⟨fun h=>by simp at h,by simp⟩
  ·cases a with
   | none=>simp at f
   | some y=>
    simp only[Option.map_some,Option.some.injEq] at f
    obtain ⟨o,q⟩:=p y rfl
    subst f
    refine ⟨fun h=>I3 (o (by rw[c] at h;omega)) _,fun i x g=>?_⟩
    rw[List.getElem?_take] at g
    split at g
    ·rw[List.getElem?_drop] at g
     obtain ⟨cs,H,s,z⟩:=q _ _ g
     refine ⟨cs,?_,s,z⟩
     rw[Sv,←Nat.add_mul];exact H
    ·cases g
theorem Sx {t:TypeId} {by_:Nat} {z:Value} [ts:TS P t e] [tz:TZ P e sz by_ z] (h:Sl sz R σ v xs) (c d:Option Value) (l m:Nat) (i:c=none∧l=0∨c=some (I l)) (g:d=none∧m=xs.length∨d=some (I m)) (f:l≤m) (y:m≤xs.length)
 (o: ∀j,Sl sz R σ j ((xs.drop l).take (m-l))→K j w):H4 P t v c d none w K:=by
 have k:=h
 obtain ⟨a,b,rfl,q,s,A,r⟩:=h
 have hh: ∀w:World,(Instr.sliceBounds true xs.length b c d none).run P w= .ok (l,m,b) w:=by
  intro w
  have C:(m:Int)≤b:=by omega
  have p:(l:Int)≤m:=by omega
  have n:m≤b:=by omega
  rcases i with ⟨rfl,rfl⟩ | rfl<;>rcases g with ⟨rfl,rfl⟩ | rfl<;>
   simp[Instr.sliceBounds,Instr.sliceBound,asIntOf,n,f]<;>intros<;>omega
 unfold H4
 have:(Instr.sliceAt t (.slice a xs.length b) c d none).run P w= .ok (.slice (if b=l then a else a.map (·.add (l*sz))) (m-l) (b-l)) w:=by
  simp[Instr.sliceAt,run_underlying ts.h,Instr.slice,hh,W4 tz]
 rw[Y0 this]
 exact o _ (k.piece l (m-l) (by omega))
def en:Nat→List Value→List (Nat×Value)
 | _,[]=>[]
 | i,v::r=>(i,v)::en (i+1) r
theorem Q7u (off:Nat): ∀(vs:List Value) (k:Nat) (cs:Array Value),off+k+vs.length≤cs.size→
 ((vs.zipIdx k).foldl (fun cs (p:Value×Nat)=>cs.setIfInBounds (off+p.2) p.1) cs).toList=cs.toList.take (off+k)++vs++cs.toList.drop (off+k+vs.length):=by
 intro vs
 induction vs with
 | nil=>intro k cs _;simp
 | cons v r ih=>
  intro k cs h
  simp only[List.length_cons] at h
  rw[List.zipIdx_cons,List.foldl_cons,ih (k+1) _ (by simp;omega)]
  simp only[Array.toList_setIfInBounds,List.length_cons]
  apply List.ext_getElem?
  intro i
  simp only[List.getElem?_append,List.length_take,List.length_set,Array.length_toList,List.getElem?_take,List.getElem?_drop,List.length_append,List.getElem?_set,List.length_cons]
  rcases Nat.lt_trichotomy i (off+k) with hi | hi | hi
  ·simp[show i<off+(k+1) by omega,hi,show i<min (off+(k+1)) cs.size by omega,show i<min (off+(k+1)) cs.size+r.length by omega,show i<min (off+k) cs.size by omega,show i<min (off+k) cs.size+(r.length+1) by omega,show off+k≠i by omega]
  ·subst hi
   simp[show off+k<off+(k+1) by omega,show off+k<min (off+(k+1)) cs.size by omega,show off+k<min (off+(k+1)) cs.size+r.length by omega,show¬off+k<min (off+k) cs.size by omega,show off+k<min (off+k) cs.size+(r.length+1) by omega,show off+k<cs.size by omega,show off+k-min (off+k) cs.size=0 by omega]
  ·by_cases h2:i<off+(k+1)+r.length
   ·simp[show¬i<min (off+(k+1)) cs.size by omega,show i<min (off+(k+1)) cs.size+r.length by omega,show¬i<min (off+k) cs.size by omega,show i<min (off+k) cs.size+(r.length+1) by omega,show i-min (off+k) cs.size=(i-min (off+(k+1)) cs.size)+1 by omega]
   ·simp only[show¬i<min (off+(k+1)) cs.size+r.length by omega,show¬i<min (off+k) cs.size+(r.length+1) by omega,if_false]
    rw[show off+(k+1)+r.length+(i-(min (off+(k+1)) cs.size+r.length))=i by omega,show off+k+(r.length+1)+(i-(min (off+k) cs.size+(r.length+1)))=i by omega,if_neg (by omega)]
theorem Q69 (sz:Nat): ∀(vs:List Value) (i:Nat) (cs:Array Value),(i+vs.length)*sz≤cs.size→(∀v∈vs,v.cells.size=sz)→
 ∃cs',Instr.fill (fun i=>some (i*sz,sz)) cs (en i vs)=some cs'∧cs'.toList=cs.toList.take (i*sz)++vs.flatMap (·.cells.toList)++cs.toList.drop ((i+vs.length)*sz):=by
 intro vs
 induction vs with
 | nil=>intro i cs _ _;exact ⟨cs,rfl,by simp⟩
 | cons v r ih=>
  intro i cs h hv
  have hv0:=hv v (by simp)
  simp only[List.length_cons] at h
  have h1:i*sz+sz≤cs.size:=by
   have:(i+1)*sz≤(i+(r.length+1))*sz:=Nat.mul_le_mul_right _ (by omega)
   rw[Nat.succ_mul] at this;omega
  have hset:=Q7u (i*sz) v.cells.toList 0 cs (by simp;omega)
  simp only[Nat.add_zero] at hset
  have e1:v.cells.zipIdx.foldl (fun cs (p:Value×Nat)=>cs.setIfInBounds (i*sz+p.2) p.1) cs=(v.cells.toList.zipIdx 0).foldl (fun cs (p:Value×Nat)=>cs.setIfInBounds (i*sz+p.2) p.1) cs:=by
   rw[←Array.foldl_toList,Array.toList_zipIdx]
  have hsz':((v.cells.toList.zipIdx 0).foldl (fun cs (p:Value×Nat)=>cs.setIfInBounds (i*sz+p.2) p.1) cs).size=cs.size:=by
   rw[←Array.length_toList,hset]
   simp;omega
  obtain ⟨cs',q1,q2⟩:=ih (i+1) _ (by rw[hsz'];rw[show i+1+r.length=i+(r.length+1) by omega];exact h) (fun u hu=>hv u (by simp[hu]))
  refine ⟨cs',?_,?_⟩
  ·simp only[en,Instr.fill]
   rw[if_neg (by simp[hv0];omega)]
   rw[e1];exact q1
  ·rw[q2,hset]
   simp only[List.flatMap_cons,List.length_cons,Array.length_toList,hv0]
   have e2:(i+1)*sz=i*sz+sz:=by rw[Nat.succ_mul]
   have e3:(i+(r.length+1))*sz=i*sz+sz+r.length*sz:=by rw[Nat.add_mul,Nat.succ_mul];omega
   have e4:(i+1+r.length)*sz=i*sz+sz+r.length*sz:=by rw[Nat.add_mul,Nat.succ_mul]
   rw[e2,e3,e4]
   have t1:(cs.toList.take (i*sz)).length=i*sz:=by simp;omega
   have t2:(cs.toList.take (i*sz)++v.cells.toList).length=i*sz+sz:=by rw[List.length_append,t1];simp[hv0]
   have k1: ∀C:List Value,(cs.toList.take (i*sz)++v.cells.toList++C).take (i*sz+sz)=cs.toList.take (i*sz)++v.cells.toList:=by
    intro C
    rw[List.take_append_of_le_length (by omega),List.take_of_length_le (by omega)]
   have k2: ∀(C:List Value) (n:Nat),(cs.toList.take (i*sz)++v.cells.toList++C).drop (i*sz+sz+n)=C.drop n:=by
    intro C n
    rw[List.drop_append,t2,List.drop_eq_nil_of_le (by omega),List.nil_append]
    congr 1;omega
   rw[k1,k2,List.drop_drop]
   simp only[List.append_assoc]
theorem Oo {t:TypeId} {by_:Nat} {z:Value} [ts:TS P t e] [tz:TZ P e sz by_ z] (vs:List Value) (hv: ∀v∈vs,v.cells.size=sz) (hsm:vs.length*sz≤16777216) (w:World):
 ∃cells:Array Value,(Instr.buildSlice t vs.length (en 0 vs).toArray).run P w= .ok (.slice (some ⟨w.heap.size,0,none⟩) vs.length vs.length) (w.alloc (.cells cells e))∧cells.toList=vs.flatMap (·.cells.toList):=by
 have h2: ¬vs.length*sz>2 ^ 24:=by omega
 by_cases h:vs.length*sz=0
 ·obtain ⟨cells,hf,hl⟩:=Q69 sz vs 0 ((Array.range (vs.length*sz)).map ((#[]:Array Value)[· % (#[]:Array Value).size]!)) (by simp) hv
  refine ⟨cells,?_,by rw[hl];simp⟩
  simp only[Instr.buildSlice,Sem.run_bind,run_underlying ts.h,Result.andThen_ok,W4 tz,if_neg h2,if_pos h,Sem.run_pure,hf]
  simp[newRow]
 ·obtain ⟨cells,hf,hl⟩:=Q69 sz vs 0 ((Array.range (vs.length*sz)).map (z.cells[· % z.cells.size]!)) (by simp) hv
  refine ⟨cells,?_,by rw[hl];simp⟩
  simp only[Instr.buildSlice,Sem.run_bind,run_underlying ts.h,Result.andThen_ok,W4 tz,if_neg h2,if_neg h,Sem.run_pure,Xv tz,hf]
  simp[newRow]
theorem Q70 {vs:List Value} (d: ∀v∈vs,v.cells.size=sz) (i:Nat) (v:Value) (h:vs[i]? =some v):((vs.flatMap (·.cells.toList)).drop (i*sz)).take sz=v.cells.toList:=by
 induction vs generalizing i with
 | nil=>simp at h
 | cons a r f=>
  have b:=d a (by simp)
  cases i with
  | zero=>
   simp at h;subst h
   rw[List.flatMap_cons,Nat.zero_mul,List.drop_zero,List.take_append_of_le_length (by simp[b]),List.take_of_length_le (by simp[b])]
  | succ i=>
   rw[List.flatMap_cons,Nat.succ_mul,List.drop_append,List.drop_eq_nil_of_le (by simp[b]),List.nil_append]
   rw[show i*sz+sz-a.cells.toList.length=i*sz by simp[b]]
   exact f (fun v c=>d v (by simp[c])) i (by simpa using h)
theorem Q0T {vs:List Value} (b: ∀v∈vs,v.cells.size=sz):(vs.flatMap (·.cells.toList)).length=vs.length*sz:=by
 induction vs with
 | nil=>simp
 | cons a r c=>
  rw[List.flatMap_cons,List.length_append,c (fun v h=>b v (by simp[h]))]
  simp[b a (by simp),Nat.succ_mul,Nat.add_comm]
def Pz (R:Q5→α→List Value→Prop) (σ:Q5):List Value→List α→Prop
 | [],[]=>True
 | v::vs,x::xs=>R σ x v.cells.toList∧Pz R σ vs xs
 | _,_=>False
theorem Pz.len {vs:List Value} (h:Pz R σ vs xs):vs.length=xs.length:=by
 induction vs generalizing xs with
 | nil=>cases xs with
  | nil=>rfl
  | cons=>exact h.elim
 | cons v r a=>cases xs with
  | nil=>exact h.elim
  | cons x y=>simp[a h.2]
theorem Pz.get {vs:List Value} (h:Pz R σ vs xs) {i:Nat} {x:α} (a:xs[i]? =some x): ∃v,vs[i]? =some v∧R σ x v.cells.toList:=by
 induction vs generalizing xs i with
 | nil=>cases xs with
  | nil=>simp at a
  | cons=>exact h.elim
 | cons v r b=>cases xs with
  | nil=>exact h.elim
  | cons y ys=>
   cases i with
   | zero=>simp at a;subst a;exact ⟨v,rfl,h.1⟩
   | succ i=>obtain ⟨u,d,c⟩:=b h.2 (i:=i) (by simpa using a);exact ⟨u,by simpa using d,c⟩
theorem Qb {t:TypeId} {by_:Nat} {z:Value} {n:Nat} {a:List (Nat×Value)} [ts:TS P t e] [tz:TZ P e sz by_ z] (j:Stp w0 σ0 w σ) (vs:List Value) (xs:List α) (o:n=vs.length) (s:a=en 0 vs) (c: ∀v∈vs,v.cells.size=sz) (b:(decide (0<sz)&&decide (vs.length*sz≤16777216))=true) (m:Pz R σ vs xs)
 (h: ∀v w',Stp w σ w' σ→V6 w0.heap.size e sz R σ w' v xs→(∀k,v.ownBlock=some k→w.heap.size≤k)→K v w'):buildSlice P t n a w K:=by
 subst o s
 simp only[Bool.and_eq_true,decide_eq_true_eq] at b
 obtain ⟨g,b⟩:=b
 obtain ⟨cells,y,d⟩:=Oo (P:=P) (t:=t) vs c b w
 unfold buildSlice
 rw[Y0 y]
 have f:=m.len
 refine h _ _ (Stp.own j.sat _) ⟨cells.toList,⟨by rw[d,Q0T c,f], .inr ⟨_,_,cells,by rw[f],j.bel.size,heap_alloc_new w _,by omega,?_,?_,?_⟩⟩,?_,?_⟩ ?_
 ·simp only[maxLen]
  have:vs.length*1≤vs.length*sz:=Nat.mul_le_mul_left _ g
  omega
 ·rw[←Array.length_toList,d,Q0T c,f]
 ·rw[List.take_of_length_le (by rw[d,Q0T c,f];exact Nat.le_refl _)]
 ·intro k l;cases l;exact j.sat.none (Nat.le_refl _)
 ·intro i x q
  obtain ⟨v,p,r⟩:=m.get q
  rw[d,Q70 c i v p];exact r
 ·intro k l;cases l;exact Nat.le_refl _
theorem E3 [Rep R] {t:TypeId} {by_:Nat} {z:Value} {n:Nat} {a:List (Nat×Value)} [ts:TS P t e] [tz:TZ P e sz by_ z] (j:X4 w σ) (vs:List Value) (xs:List α) (f:n=vs.length) (l:a=en 0 vs) (g: ∀v∈vs,v.cells.size=sz) (b:(decide (0<sz)&&decide (vs.length*sz≤16777216))=true) (d:Pz R σ vs xs)
 (h: ∀v w' σ',Stp w σ w' σ'→Sl sz R σ' v xs→K v w'):buildSlice P t n a w K:=by
 refine Qb (Stp.refl j) vs xs f l g b d fun v w' i k _=>?_
 obtain ⟨σ',m,c,_⟩:=k.keep i
 exact h v w' σ' m c
theorem X0T {t:TypeId} {k a:Nat} {b:TypeId} [tf:TF P t k a b] [tg:TG P b false] {cs:Array Value} {v:Value} (d:cs[a]? =some v):Vn P t (.agg cs) k w K=K v w:=by
 unfold Vn
 have hh:=tf.h
 unfold Q2v at hh
 split at hh
 ·rename_i m i
  obtain ⟨f,g,c⟩:=Option.map_eq_some_iff.1 hh
  simp only[Prod.mk.injEq] at c
  obtain ⟨l,j⟩:=c
  subst j l
  exact Y0 (by simp[Instr.field,run_underlying i,g,asAgg,part,Za tg,d])
 ·cases hh
theorem Qm {f:Fn} {first caps:List Value}:M6 P f first caps w K=K (.func f first.toArray caps.toArray) w:=Y0 (by simp[Instr.makeFunc])
theorem W1 {t:TypeId} {a:List (Nat×Value)} {cells:Array Value} (h:P.built t a=some cells) (b:K (.agg cells) w):O5 P t a w K:=by
 unfold O5
 rw[Y0 (run_build w t a.toArray cells h)];exact b
end
def N1 (o:Option Obj) (m:List (List UInt8×Value)):Prop:=
 ∃es a,o=some (.map es a)∧es.toList.map (fun e=>(e.key,e.val))=m.map (fun p=>(S p.1,p.2))∧(es.toList.map (·.born)).Pairwise (· < ·)∧ ∀e∈es.toList,e.born<a
def M0 (m:List (List UInt8×Value)) (k:List UInt8):Option Value:=match m with
 | []=>none
 | p::r=>if p.1=k then some p.2 else M0 r k
def Qz (m:List (List UInt8×Value)) (k:List UInt8) (v:Value):List (List UInt8×Value):=match m with
 | []=>[(k,v)]
 | p::r=>if p.1=k then (k,v)::r else p::Qz r k v
theorem Ri (a b:List UInt8):((⟨a.toArray⟩:ByteArray)==⟨b.toArray⟩)=decide (a=b):=by
 rw[←Q2q]
 show (a.toArray==b.toArray)=_
 simp
theorem Rp (k:List UInt8): ∀(es:List MapEntry) (m:List (List UInt8×Value)) (i:Nat),es.map (fun e=>(e.key,e.val))=m.map (fun p=>(S p.1,p.2))→
 ∃r,Instr.findNow .string (S k) es i=some r∧r.map (·.2)=M0 m k∧(∀j v,r=some (j,v)→i≤j∧(∃e,es[j-i]? =some e∧e.key=S k)∧ ∀u,(es.modify (j-i) fun e=>{e with key:=S k,val:=u}).map (fun e=>(e.key,e.val))=(Qz m k u).map (fun p=>(S p.1,p.2)))∧
  (r=none→ ∀u,Qz m k u=m++[(k,u)]):=by
 intro es
 induction es with
 | nil=>
  intro m i h
  cases m with
  | nil=>exact ⟨none,rfl,rfl,(by simp),fun _ u=>rfl⟩
  | cons=>simp at h
 | cons e r C=>
  intro m i h
  cases m with
  | nil=>simp at h
  | cons p q=>
   simp only[List.map_cons,List.cons.injEq,Prod.mk.injEq] at h
   obtain ⟨⟨c,f⟩,g⟩:=h
   simp only[Instr.findNow,c,Instr.sameNow,Ri]
   by_cases a:p.1=k
   ·have d:decide (k=p.1)=true:=by simp[a]
    simp only[d]
    refine ⟨_,rfl,by simp[M0,a,f],?_,by simp⟩
    intro j v b
    cases b
    refine ⟨Nat.le_refl _,⟨e,by simp,by rw[c,a]⟩,fun u=>?_⟩
    simp[Qz,a,g]
   ·have d:decide (k=p.1)=false:=by simp;exact fun e=>a e.symm
    simp only[d]
    obtain ⟨A,s,t,l,z⟩:=C q (i+1) g
    refine ⟨A,s,by simp[M0,a,t],?_,?_⟩
    ·intro j v b
     obtain ⟨D,n,y⟩:=l j v b
     refine ⟨by omega,by rw[show j-i=(j-(i+1))+1 by omega];simpa using n,fun u=>?_⟩
     have:=y u
     rw[show j-i=(j-(i+1))+1 by omega]
     simp[Qz,a,c,f,this]
    ·intro o u
     simp[Qz,a,z o u]
theorem B1 {t:TypeId} (a:P.underlying t=some .string) (b:Bool) (k:List UInt8) (w:World):(Instr.checkKey b 10000 t (S k)).run P w= .ok () w:=by
 unfold Instr.checkKey
 simp[run_underlying a]
theorem Q1f {t d g:TypeId} {sz by_:Nat} {z:Value} [tm:TM P t d g] [tz:TZ P g sz by_ z] (b:P.underlying d=some .string) {r:Nat} {m:List (List UInt8×Value)} (l:N1 (w.heap[r]?) m) (k:List UInt8):
 lookup P t (.map (some r)) (S k) true w K=K (match M0 m k with | some v=> .tuple #[v, .bool true] | none=> .tuple #[z, .bool false]) w:=by
 obtain ⟨es,a,n,j,s,A⟩:=l
 obtain ⟨o,f,c,q,y⟩:=Rp k es.toList m 0 j
 unfold lookup
 refine Y0 ?_
 simp only[Instr.lookup,Sem.run_bind,run_underlying tm.h,Result.andThen_ok,Instr.findKey,run_underlying b,f,B1 b]
 have i:(getObj r).run P w= .ok (.map es a) w:=by simp[getObj,Sem.run,n]
 simp only[i,Result.andThen_ok,Sem.run_bind,Sem.run_pure,B1 b,run_underlying b,f]
 cases o with
 | none=>simp at c;rw[←c];simp[Xv tz]
 | some p=>simp at c;rw[←c];simp
theorem Q2L {t c f:TypeId} {sz by_:Nat} {z:Value} [tm:TM P t c f] [tz:TZ P f sz by_ z] (d:P.underlying c=some .string) {r:Nat} {m:List (List UInt8×Value)} (l:N1 (w.heap[r]?) m) (k:List UInt8):
 lookup P t (.map (some r)) (S k) false w K=K ((M0 m k).getD z) w:=by
 obtain ⟨es,a,n,i,s,A⟩:=l
 obtain ⟨o,j,b,q,y⟩:=Rp k es.toList m 0 i
 unfold lookup
 refine Y0 ?_
 have g:(getObj r).run P w= .ok (.map es a) w:=by simp[getObj,Sem.run,n]
 simp only[Instr.lookup,Sem.run_bind,run_underlying tm.h,Result.andThen_ok,Instr.findKey,run_underlying d,j,B1 d,g,Sem.run_pure]
 cases o with
 | none=>simp at b;rw[←b];simp[Xv tz]
 | some p=>simp at b;rw[←b];simp
def E1 (σ:Q5) (w:World) (r:Nat) (m:List (List UInt8×Value)):Prop:=σ r=none∧N1 (w.heap[r]?) m
def I5 (σ:Q5) (r:Nat) (m:List (List UInt8×Value)):Prop:=N1 (σ r) m
theorem I5.is {σ:Q5} {r:Nat} {m:List (List UInt8×Value)} (h:I5 σ r m) (b:X4 w σ):N1 (w.heap[r]?) m:=by
 obtain ⟨es,a,d,c⟩:=h
 exact ⟨es,a,b _ _ d,c⟩
theorem I5.le {σ σ':Q5} {r:Nat} {m:List (List UInt8×Value)} (h:I5 σ r m) (c: ∀b o,σ b=some o→σ' b=some o):I5 σ' r m:=by
 obtain ⟨es,a,f,d⟩:=h
 exact ⟨es,a,c _ _ f,d⟩
theorem I5.up {σ σ':Q5} {r:Nat} {m:List (List UInt8×Value)} (h:I5 σ r m) (a:Stp w σ w' σ'):I5 σ' r m:=h.le a.le
theorem E1.lt {σ:Q5} {r:Nat} {m:List (List UInt8×Value)} (h:E1 σ w r m):r<w.heap.size:=by
 obtain ⟨_,es,a,b,_⟩:=h
 exact (Array.getElem?_eq_some_iff.1 b).1
theorem E1.up {σ σ':Q5} {r:Nat} {m:List (List UInt8×Value)} (h:E1 σ w r m) (b:Stp w σ w' σ'):E1 σ' w' r m:=by
 have a:=h.lt
 exact ⟨(b.old r a).trans h.1,(b.bel.block r a).symm▸h.2⟩
theorem Tq {t:TypeId} {σ:Q5} (a:X4 w σ) (h: ∀r w',w.heap.size≤r→Stp w σ w' σ→E1 σ w' r []→K (.map (some r)) w'):Rb P t none w K:=by
 unfold Rb
 rw[Y0 (v:= .map (some w.heap.size)) (w':=w.alloc (.map #[] 0)) (by simp[Instr.makeMap])]
 exact h _ _ (Nat.le_refl _) (Stp.own a _) ⟨a.none (Nat.le_refl _), #[],0,heap_alloc_new w _,rfl,by simp,by simp⟩
theorem E1.keep {σ σ0:Q5} {r:Nat} {m:List (List UInt8×Value)} (h:E1 σ w r m) (c:Stp w0 σ0 w σ) (g:w0.heap.size≤r): ∃σ',Stp w0 σ0 w σ'∧I5 σ' r m∧(∀k o,σ k=some o→σ' k=some o)∧(∀k,k≠r→σ' k=σ k):=by
 obtain ⟨b,es,a,i,f⟩:=h
 exact ⟨σ.put r (.map es a),c.put b g i,⟨es,a,by simp[Q5.put],f⟩,Q5.put_le c.sat b _,fun k d=>by simp only[Q5.put,if_neg d]⟩
theorem Ox {t N et:TypeId} [tm:TM P t N et] (z:P.underlying N=some .string) {σ:Q5} {r:Nat} {m:List (List UInt8×Value)} (hm:E1 σ w r m) (k:List UInt8) (v:Value)
 (h: ∀w',Upd w r w'→E1 σ w' r (Qz m k v)→K undef w'):mapUpdate P t (.map (some r)) (S k) v w K:=by
 obtain ⟨L,es,d,C,M,U,D⟩:=hm
 obtain ⟨r',O,q2,W,q4⟩:=Rp k es.toList m 0 M
 have J:(getObj r).run P w= .ok (.map es d) w:=by simp[getObj,Sem.run,C]
 have hl:=(Array.getElem?_eq_some_iff.1 C).1
 have l: ∀o,o=Obj.map es d∨True→(∀c e f,o≠ .cells c e f)→(setObj r o).run P w= .ok () {w with heap:=w.heap.setIfInBounds r o}:=by
  intro o _ _
  simp[setObj,Sem.run,C]
 have s: ∀o,Upd w r {w with heap:=w.heap.setIfInBounds r o}:=fun o=>⟨rfl,rfl,rfl,by simp,fun k z=>by simp only[Array.getElem?_setIfInBounds];rw[if_neg (by omega)]⟩
 have A: ∀o,({w with heap:=w.heap.setIfInBounds r o}:World).heap[r]? =some o:=fun o=>by simp[Array.getElem?_setIfInBounds,hl]
 unfold mapUpdate
 cases r' with
 | none=>
  rw[Mv (w':={w with heap:=w.heap.setIfInBounds r (.map (es.push {key:=S k,val:=v,born:=d}) (d+1))}) (by
   simp only[Instr.mapUpdate,Sem.run_bind,run_underlying tm.h,Result.andThen_ok,Instr.findKey,run_underlying z,O,B1 z,J,Sem.run_pure]
   exact l _ (.inr trivial) (by intros;simp))]
  refine h _ (s _) ⟨L,_,_,A _,?_,?_,?_⟩
  ·rw[q4 rfl];simp[M]
  ·simp only[Array.toList_push,List.map_append,List.map_cons,List.map_nil]
   rw[List.pairwise_append]
   refine ⟨U,by simp,?_⟩
   intro a ha b Q
   simp at Q;subst Q
   obtain ⟨e,q,rfl⟩:=List.mem_map.1 ha
   exact D e q
  ·intro e q
   simp at q
   rcases q with q | rfl
   ·have:=D e (by simpa using q);omega
   ·simp
 | some p=>
  obtain ⟨j,u⟩:=p
  obtain ⟨z1,X,V⟩:=W j u rfl
  obtain ⟨e,H,e2⟩:=X
  simp only[Nat.sub_zero] at H V
  have g:((es.modify j fun e=>{e with key:=S k,val:=v}).toList.map (·.born))=es.toList.map (·.born):=by
   apply List.ext_getElem?
   intro i
   simp only[Array.toList_modify,List.getElem?_map,List.getElem?_modify]
   by_cases E:j=i<;>cases es.toList[i]? <;>simp[E]
  have n:(Instr.keyThatStays (S k) (S k)).run P w= .ok (S k) w:=by
   simp[Instr.keyThatStays,Instr.sameBits,Ri]
  rw[Mv (w':={w with heap:=w.heap.setIfInBounds r (.map (es.modify j fun e=>{e with key:=S k,val:=v}) d)}) (by
   simp only[Instr.mapUpdate,Sem.run_bind,run_underlying tm.h,Result.andThen_ok,Instr.findKey,run_underlying z,O,B1 z,J,Sem.run_pure]
   rw[show ((es[j]?).map (·.key)).getD (S k)=S k by rw[←Array.getElem?_toList,H];simp[e2]]
   simp only[n,Result.andThen_ok]
   exact l _ (.inr trivial) (by intros;simp))]
  refine h _ (s _) ⟨L,_,_,A _,?_,?_,?_⟩
  ·simp only[Array.toList_modify];exact V v
  ·rw[g];exact U
  ·intro x Y
   have:x.born∈es.toList.map (·.born):=by rw[←g];exact List.mem_map.2 ⟨x,Y,rfl⟩
   obtain ⟨y,Z,e⟩:=List.mem_map.1 this
   rw[←e];exact D y Z
end Go.Emb

namespace Go.Emb
open Go.RowKit
variable {P : Program} {w w0 w1 w' w'' : World} {K : Value → World → Prop}
theorem Z3 {c b:Bool} {a:World→(Value→World→Prop)→Prop} (e:c=b→a w K) (d:c=(!b)→K undef w):Q0 (.bool c) b w a K:=by
 cases c<;>cases b
 ·rw[Vc];exact e rfl
 ·rw[Ju];exact d rfl
 ·rw[Ph];exact d rfl
 ·rw[G9];exact e rfl
theorem Q6 {c:Bool} {t e:Prop} (b:c=true→t) (a:c=false→e):X1 (.bool c) t e:=by
 cases c
 ·rw[Uz];exact a rfl
 ·rw[Mz];exact b rfl
theorem Q8 {α:Type} {R:Q5→α→List Value→Prop} {sz:Nat} {σ:Q5} {v:Value} {xs:List α} {a e t:TypeId} {cs:List Bool} [ts:TS P a e] (h:Sl sz R σ v xs) (b:K (I xs.length) w):X5 P .len [a] t cs [v] w K:=by
 rw[X1y h];exact b
structure Kpt (D : Nat → Prop) (w w' : World) : Prop where
  os : w'.os = w.os
  tape : w'.tape = w.tape
  output : w'.output = w.output
  size : w.heap.size ≤ w'.heap.size
  block : ∀ k, k < w.heap.size → ¬ D k → w'.heap[k]? = w.heap[k]?
theorem Kpt.refl {D:Nat→Prop}:Kpt D w w:=⟨rfl,rfl,rfl,Nat.le_refl _,fun _ _ _=>rfl⟩
theorem Kpt.trans {D:Nat→Prop} (h:Kpt D w w') (k:Kpt D w' w''):Kpt D w w'':=
 ⟨k.os.trans h.os,k.tape.trans h.tape,k.output.trans h.output,Nat.le_trans h.size k.size,fun i b a=>(k.block i (Nat.lt_of_lt_of_le b h.size) a).trans (h.block i b a)⟩
theorem Kpt.of_below {D:Nat→Prop} (h:Below w.heap.size w w'):Kpt D w w':=⟨h.os,h.tape,h.output,h.size,fun k a _=>h.block k a⟩
theorem Kpt.of_grown {D:Nat→Prop} {row:Option Nat} (h:w.grownBy w' row) (c: ∀k,row=some k→D k):Kpt D w w':=⟨h.os,h.tape,h.output,h.size,fun k b a=>h.block k b (fun e=>a (c k e.symm))⟩
theorem Kpt.of_upd {D:Nat→Prop} {b:Nat} (h:Upd w b w') (c:D b):Kpt D w w':=⟨h.os,h.tape,h.output,by rw[h.size];exact Nat.le_refl _,fun k d a=>h.block k (fun e=>a (e▸c))⟩
theorem Kpt.mono {D b:Nat→Prop} (h:Kpt D w w') (c: ∀k,k<w.heap.size→D k→b k):Kpt b w w':=⟨h.os,h.tape,h.output,h.size,fun k a d=>h.block k a (fun e=>d (c k a e))⟩
theorem Kpt.below {D:Nat→Prop} (h:Kpt D w w') (a: ∀k,¬D k):Below w.heap.size w w':=⟨h.os,h.tape,h.output,h.size,fun k b=>h.block k b (a k)⟩
theorem Stp.kp {σ0 σ:Q5} {D:Nat→Prop} (a:Stp w0 σ0 w σ) (b:Kpt D w w') (f: ∀k,D k→w0.heap.size≤k∧σ k=none):Stp w0 σ0 w' σ:=by
 refine ⟨⟨b.os.trans a.bel.os,b.tape.trans a.bel.tape,b.output.trans a.bel.output,Nat.le_trans a.bel.size b.size,fun k c=>?_⟩,?_,a.le,a.old⟩
 ·refine (b.block k (Nat.lt_of_lt_of_le c a.bel.size) ?_).trans (a.bel.block k c)
  intro e;have:=(f k e).1;omega
 ·intro k o d
  refine (b.block k (a.sat.lt d) ?_).trans (a.sat k o d)
  intro e;rw[(f k e).2] at d;cases d
theorem Z5.kp {σ:Q5} {D:Nat→Prop} {k:Nat} {cs:List Value} (h:Z5 σ w k cs) (c:Kpt D w w') (a: ¬D k):Z5 σ w' k cs:=by
 have b:=h.lt
 obtain ⟨f,e,d⟩:=h
 exact ⟨f,e,(c.block k b a).trans d⟩
theorem E1.kp {σ:Q5} {D:Nat→Prop} {r:Nat} {m:List (List UInt8×Value)} (h:E1 σ w r m) (b:Kpt D w w') (a: ¬D r):E1 σ w' r m:=
 ⟨h.1,(b.block r h.lt a).symm▸h.2⟩
theorem V6.kp {α:Type} {R:Q5→α→List Value→Prop} {B sz:Nat} {e:TypeId} {σ:Q5} {v:Value} {xs:List α} {D:Nat→Prop} (h:V6 B e sz R σ w v xs) (o:Kpt D w w') (c: ∀k,v.ownBlock=some k→ ¬D k):V6 B e sz R σ w' v xs:=by
 obtain ⟨cells,i,j,n⟩:=h
 refine ⟨cells,⟨i.1,?_⟩,j,n⟩
 rcases i.2 with l | ⟨g,b,d,rfl,m,f,a⟩
 ·exact .inl l
 ·refine .inr ⟨g,b,d,rfl,m,?_,a⟩
  rw[o.block g (Array.getElem?_eq_some_iff.1 f).1 (c g rfl)];exact f
theorem bt {w w1 a:World} (b:Below w.heap.size w w1) (c:Below w1.heap.size w1 a):Below w.heap.size w a:=b.trans (c.mono b.size)
abbrev Z9:Nat:=140737488351232
def Y1 (_:Q5) (s:List UInt8) (cs:List Value):Prop:=cs=[S s]∧s.length≤Z9
instance:Rep Y1:=⟨fun _ h=>h,fun h u hu=>by rw[h.1] at hu;simp at hu;subst hu;rfl⟩
def Ul (_:Q5) (n:Int) (cs:List Value):Prop:=cs=[I n]∧ -9223372036854775808≤n∧n≤9223372036854775807
instance:Rep Ul:=⟨fun _ h=>h,fun h u hu=>by rw[h.1] at hu;simp at hu;subst hu;rfl⟩
def Q1l (_:Q5) (b:Bool) (cs:List Value):Prop:=cs=[.bool b]
instance:Rep Q1l:=⟨fun _ h=>h,fun h u hu=>by rw[h] at hu;simp at hu;subst hu;rfl⟩
def UpI (N:Nat) (a:Nat→World→Prop) (x:Value) (w:World):Prop:= ∃n:Nat,x=I n∧n≤N∧a n w
def UpM (N:Nat) (x:Value):Nat:=match x with | .int _ n=>N-n.toNat | _=>0
theorem J0 {A:(Value→World→Prop)→Value→(Nat→Value)→World→Prop} (N:Nat) (a:Nat→World→Prop) (f:a 0 w)
 (b: ∀n w d,n≤N→a n w→A (fun y w'=>UpI N a y w'∧UpM N y<UpM N (I n)) (I n) d w):lp (α:=Value) (.int .i64 0) w A:=by
 refine Zs (UpI N a) (fun x _=>UpM N x) ⟨0,rfl,Nat.zero_le _,f⟩ ?_
 rintro _ d w' ⟨n,rfl,c,e⟩
 exact b n w' d c e
theorem Y2 {N n:Nat} {a:Nat→World→Prop} (d:N≤9223372036854775807) (b:n<N) (c:a (n+1) w):UpI N a (.int .i64 (IntKind.i64.wrap (n+1))) w∧UpM N (.int .i64 (IntKind.i64.wrap (n+1)))<UpM N (I n):=by
 rw[F0 (by omega) (by omega)]
 exact ⟨⟨n+1,rfl,b,c⟩,by simp only[UpM];omega⟩
def Rs {α:Type} (N:Nat) (a:Nat→α→World→Prop) (x:α×Value) (w:World):Prop:= ∃n:Nat,x.2=I n∧n≤N∧a n x.1 w
def Vx {α:Type} (N:Nat) (x:α×Value):Nat:=UpM N x.2
theorem D2 {α:Type} {A:(α×Value→World→Prop)→α×Value→(Nat→Value)→World→Prop} {a:α} (N:Nat) (b:Nat→α→World→Prop) (h:b 0 a w)
 (c: ∀n a w d,n≤N→b n a w→A (fun y w'=>Rs N b y w'∧Vx N y<Vx N (a,I n)) (a,I n) d w):lp (α:=α×Value) (a, .int .i64 0) w A:=by
 refine Zs (Rs N b) (fun x _=>Vx N x) ⟨0,rfl,Nat.zero_le _,h⟩ ?_
 rintro ⟨a,x⟩ d w' ⟨n,f,g,e⟩
 simp only at f e
 subst f
 exact c n a w' d g e
theorem Z6 {α:Type} {a c:α} {N n:Nat} {b:Nat→α→World→Prop} (f:N≤9223372036854775807) (d:n<N) (e:b (n+1) c w):Rs N b (c, .int .i64 (IntKind.i64.wrap (n+1))) w∧Vx N (c, .int .i64 (IntKind.i64.wrap (n+1)))<Vx N (a,I n):=by
 rw[F0 (by omega) (by omega)]
 exact ⟨⟨n+1,rfl,d,e⟩,by simp only[Vx,UpM];omega⟩
theorem L8 {α:Type} {R:Q5→α→List Value→Prop} {sz:Nat} {σ:Q5} {v:Value} {xs:List α} {t e:TypeId} {by_:Nat} {z:Value} [TS P t e] [TZ P e sz by_ z] (h:Sl sz R σ v xs) {n:Nat} (c:n<xs.length)
 (f: ∀a cs,Z2 σ a cs→cs.length=sz→R σ xs[n] cs→K (.pointer (some a)) w):indexAddr P t v (I n) w K:=
 X1V h (by omega) (by simpa using c) (fun a cs g b d=>f a cs g b (by simpa using d))
theorem Y5 {t:TypeId} {sz by_:Nat} {z:Value} {A:Value→Value→World→Prop} [tz:TZ P t sz by_ z] {σ:Q5} {cs:List Value} (m:X4 w σ) (j:z.cells.size=sz) (k:cs.length=sz) (n: ∀u∈cs,u.oneCell'=true)
 (h: ∀a w' d,Stp w σ w' d→Z2 d a cs→A (.pointer (some a)) undef w'):W6 P t w (fun p w=>Z4 P t p (.agg cs.toArray) w (fun u w=>A p u w)):=by
 refine Hi m fun b w1 e l f=>?_
 refine sta f (by simpa using j) k (by rw[List.all_toArray];exact List.all_eq_true.2 n) fun r q c=>?_
 have i:Stp w σ r σ:=q.stp l e f.1
 obtain ⟨d,o,g,_⟩:=c.keep i e
 exact h _ _ _ o g
theorem U0 {t:TypeId} {by_:Nat} {z:Value} {A:Value→Value→World→Prop} [tz:TZ P t 1 by_ z] {σ:Q5} {v:Value} (n:X4 w σ) (k:z.cells.size=1) (y:v.cells= #[v]) (o:v.oneCell'=true)
 (h: ∀a w' d,Stp w σ w' d→Z2 d a [v]→A (.pointer (some a)) undef w'):W6 P t w (fun p w=>Z4 P t p v w (fun u w=>A p u w)):=by
 refine Hi n fun b w1 f m g=>?_
 have l:z.cells.toList.length=1:=by simpa using k
 refine st0 g (by omega) y o fun s r c=>?_
 have j:Stp w σ s σ:=r.stp m f g.1
 have e:z.cells.toList.set 0 v=[v]:=by
  match hzl:z.cells.toList,l with
  | [x],_=>rfl
 rw[e] at c
 obtain ⟨d,q,i,_⟩:=c.keep j f
 exact h _ _ _ q i
theorem M3 {α:Type} {xs:List α} {p:α→Bool} {n:Nat} (h:n<xs.length):(xs.take (n+1)).any p=((xs.take n).any p||p xs[n]):=by
 rw[List.take_add_one,List.getElem?_eq_getElem h,List.any_append];simp
theorem C3 {α:Type} {xs:List α} {p:α→Bool} {n:Nat} (h:n<xs.length) (a:p xs[n]=true):xs.any p=true:=List.any_eq_true.2 ⟨_,List.getElem_mem h,a⟩
theorem D0 {α:Type} {xs:List α} {p:α→Bool} {n:Nat} (h: ¬n<xs.length):(xs.take n).any p=xs.any p:=by rw[List.take_of_length_le (by omega)]
end Go.Emb

namespace Go.Hm
open Go.Kd
structure Fld where
  name : Q9
  kind : Q9
  tr : Bool
deriving DecidableEq
structure Ins where
  op : Q9
  n : Int
  s : Q9
deriving DecidableEq
structure Cat where
  frm : Int
  to : Int
  at_ : Int
  cls : Q9
deriving DecidableEq
structure Met where
  name : Q9
  params : List Q9
  result : Q9
  abs : Bool
  locals : Int
  code : List Ins
  catches : List Cat
deriving DecidableEq
structure Cla where
  name : Q9
  super : Q9
  like : List Q9
  iface : Bool
  abs : Bool
  fin : Bool
  fields : List Fld
  methods : List Hm.Met
deriving DecidableEq
def Fld.zero:Fld:=⟨[],[],false⟩
def Met.zero:Hm.Met:=⟨[],[],[],false,0,[],[]⟩
def Cla.zero:Cla:=⟨[],[],[],false,false,false,[],[]⟩
end Go.Hm

namespace Go.Emb
open Go.RowKit Go.Hm
abbrev Q1i (n:Int):Prop:= -9223372036854775808≤n∧n≤9223372036854775807
def E6 (_:Q5) (f:Fld) (cs:List Value):Prop:=cs=[S f.name,S f.kind, .bool f.tr]∧f.name.length≤Z9∧f.kind.length≤Z9
def I8 (_:Q5) (i:Ins) (cs:List Value):Prop:=cs=[S i.op,I i.n,S i.s]∧i.op.length≤Z9∧Q1i i.n∧i.s.length≤Z9
def Ys (_:Q5) (c:Cat) (cs:List Value):Prop:=cs=[I c.frm,I c.to,I c.at_,S c.cls]∧Q1i c.frm∧Q1i c.to∧Q1i c.at_∧c.cls.length≤Z9
def M5 (σ:Q5) (m:Hm.Met) (cs:List Value):Prop:= ∃pv b a,cs=[S m.name,pv,S m.result, .bool m.abs,I m.locals,b,a]∧Sl 1 Y1 σ pv m.params∧Sl 3 I8 σ b m.code∧Sl 4 Ys σ a m.catches∧m.name.length≤Z9∧m.result.length≤Z9∧Q1i m.locals
def U4 (σ:Q5) (c:Cla) (cs:List Value):Prop:= ∃a b mv,cs=[S c.name,S c.super,a, .bool c.iface, .bool c.abs, .bool c.fin,b,mv]∧Sl 1 Y1 σ a c.like∧Sl 3 E6 σ b c.fields∧Sl 7 M5 σ mv c.methods∧c.name.length≤Z9∧c.super.length≤Z9
theorem G1 {α:Type} {sz:Nat} {R:Q5→α→List Value→Prop} {σ:Q5} {v:Value} {xs:List α} (h:Sl sz R σ v xs):v.oneCell'=true:=by
 obtain ⟨a,b,rfl,_⟩:=h;rfl
instance:Rep E6:=⟨fun _ h=>h,fun h u hu=>by rw[h.1] at hu;simp at hu;rcases hu with rfl | rfl | rfl<;>rfl⟩
instance:Rep I8:=⟨fun _ h=>h,fun h u hu=>by rw[h.1] at hu;simp at hu;rcases hu with rfl | rfl | rfl<;>rfl⟩
instance:Rep Ys:=⟨fun _ h=>h,fun h u hu=>by rw[h.1] at hu;simp at hu;rcases hu with rfl | rfl | rfl | rfl<;>rfl⟩
instance:Rep M5:=⟨fun hk ⟨pv,cv,hv,h1,h2,h3,h4,h5⟩=>⟨pv,cv,hv,h1,h2.le hk,h3.le hk,h4.le hk,h5⟩,fun ⟨pv,cv,hv,h1,h2,h3,h4,h5⟩ u hu=>by
 rw[h1] at hu;simp at hu;rcases hu with rfl | rfl | rfl | rfl | rfl | rfl | rfl
 ·rfl
 ·exact G1 h2
 ·rfl
 ·rfl
 ·rfl
 ·exact G1 h3
 ·exact G1 h4⟩
instance:Rep U4:=⟨fun hk ⟨pv,cv,hv,h1,h2,h3,h4,h5⟩=>⟨pv,cv,hv,h1,h2.le hk,h3.le hk,h4.le hk,h5⟩,fun ⟨pv,cv,hv,h1,h2,h3,h4,h5⟩ u hu=>by
 rw[h1] at hu;simp at hu;rcases hu with rfl | rfl | rfl | rfl | rfl | rfl | rfl | rfl
 ·rfl
 ·rfl
 ·exact G1 h2
 ·rfl
 ·rfl
 ·rfl
 ·exact G1 h3
 ·exact G1 h4⟩
end Go.Emb

namespace Go.Proofs.YtfppjenblllfaaaGreatDoor
open Go.Emb
instance z_x:TZ P T.x 1 0 (.tuple #[]):=⟨by kernel_rfl⟩
instance g_x:TG P T.x false:=⟨by kernel_rfl⟩
instance z_int64:TZ P T.al 1 8 (.int .i64 0):=⟨by kernel_rfl⟩
instance g_int64:TG P T.al false:=⟨by kernel_rfl⟩
instance z_int:TZ P T.e 1 8 (.int .i64 0):=⟨by kernel_rfl⟩
instance g_int:TG P T.e false:=⟨by kernel_rfl⟩
instance z_bool:TZ P T.m 1 1 (.bool false):=⟨by kernel_rfl⟩
instance g_bool:TG P T.m false:=⟨by kernel_rfl⟩
instance z_uint8:TZ P T.w 1 1 (.int .u8 0):=⟨by kernel_rfl⟩
instance g_uint8:TG P T.w false:=⟨by kernel_rfl⟩
instance z_string:TZ P T.b 1 16 (.string ⟨#[]⟩):=⟨by kernel_rfl⟩
instance g_string:TG P T.b false:=⟨by kernel_rfl⟩
instance z_uintptr:TZ P T.ao 1 8 (.int .u64 0):=⟨by kernel_rfl⟩
instance g_uintptr:TG P T.ao false:=⟨by kernel_rfl⟩
instance z_int32:TZ P T.af 1 4 (.int .i32 0):=⟨by kernel_rfl⟩
instance g_int32:TG P T.af false:=⟨by kernel_rfl⟩
instance z_S_string:TZ P T.d 1 24 (.slice none 0 0):=⟨by kernel_rfl⟩
instance g_S_string:TG P T.d false:=⟨by kernel_rfl⟩
instance s_S_string:TS P T.d 9:=⟨by kernel_rfl⟩
instance z_api_Shape:TZ P T.f 3 56 (.agg #[.bool false, .slice none 0 0, .slice none 0 0]):=⟨by kernel_rfl⟩
instance g_api_Shape:TG P T.f true:=⟨by kernel_rfl⟩
instance f_api_Shape_0:TF P T.f 0 0 4:=⟨by kernel_rfl⟩
instance f_api_Shape_1:TF P T.f 1 1 22:=⟨by kernel_rfl⟩
instance f_api_Shape_2:TF P T.f 2 2 22:=⟨by kernel_rfl⟩
instance z_P_hier_Table:TZ P T.s 1 8 (.pointer none):=⟨by kernel_rfl⟩
instance g_P_hier_Table:TG P T.s false:=⟨by kernel_rfl⟩
instance z_S_api_Class:TZ P T.h 1 24 (.slice none 0 0):=⟨by kernel_rfl⟩
instance g_S_api_Class:TG P T.h false:=⟨by kernel_rfl⟩
instance s_S_api_Class:TS P T.h 82:=⟨by kernel_rfl⟩
instance z_api_Errno:TZ P T.r 1 8 (.int .i64 0):=⟨by kernel_rfl⟩
instance g_api_Errno:TG P T.r false:=⟨by kernel_rfl⟩
instance z_S_api_Instr:TZ P T.l 1 24 (.slice none 0 0):=⟨by kernel_rfl⟩
instance g_S_api_Instr:TG P T.l false:=⟨by kernel_rfl⟩
instance s_S_api_Instr:TS P T.l 42:=⟨by kernel_rfl⟩
instance z_S_api_Catch:TZ P T.o 1 24 (.slice none 0 0):=⟨by kernel_rfl⟩
instance g_S_api_Catch:TG P T.o false:=⟨by kernel_rfl⟩
instance s_S_api_Catch:TS P T.o 159:=⟨by kernel_rfl⟩
instance z_api_Method:TZ P T.c 7 120 (.agg #[.string ⟨#[]⟩, .slice none 0 0, .string ⟨#[]⟩, .bool false, .int .i64 0, .slice none 0 0, .slice none 0 0]):=⟨by kernel_rfl⟩
instance g_api_Method:TG P T.c true:=⟨by kernel_rfl⟩
instance f_api_Method_0:TF P T.c 0 0 9:=⟨by kernel_rfl⟩
instance f_api_Method_1:TF P T.c 1 1 22:=⟨by kernel_rfl⟩
instance f_api_Method_2:TF P T.c 2 2 9:=⟨by kernel_rfl⟩
instance f_api_Method_3:TF P T.c 3 3 4:=⟨by kernel_rfl⟩
instance f_api_Method_4:TF P T.c 4 4 3:=⟨by kernel_rfl⟩
instance f_api_Method_5:TF P T.c 5 5 37:=⟨by kernel_rfl⟩
instance f_api_Method_6:TF P T.c 6 6 38:=⟨by kernel_rfl⟩
instance z_api_Instr:TZ P T.n 3 40 (.agg #[.string ⟨#[]⟩, .int .i64 0, .string ⟨#[]⟩]):=⟨by kernel_rfl⟩
instance g_api_Instr:TG P T.n true:=⟨by kernel_rfl⟩
instance f_api_Instr_0:TF P T.n 0 0 9:=⟨by kernel_rfl⟩
instance f_api_Instr_1:TF P T.n 1 1 2:=⟨by kernel_rfl⟩
instance f_api_Instr_2:TF P T.n 2 2 9:=⟨by kernel_rfl⟩
instance z_A2_api_Shape:TZ P T.ak 6 112 (.agg #[.bool false, .slice none 0 0, .slice none 0 0, .bool false, .slice none 0 0, .slice none 0 0]):=⟨by kernel_rfl⟩
instance g_A2_api_Shape:TG P T.ak true:=⟨by kernel_rfl⟩
instance a_A2_api_Shape:TA P T.ak 2 24:=⟨by kernel_rfl⟩
instance z_func_string_bool:TZ P T.y 1 8 .nilFunc:=⟨by kernel_rfl⟩
instance g_func_string_bool:TG P T.y false:=⟨by kernel_rfl⟩
instance z_S_int:TZ P T.a0 1 24 (.slice none 0 0):=⟨by kernel_rfl⟩
instance g_S_int:TG P T.a0 false:=⟨by kernel_rfl⟩
instance s_S_int:TS P T.a0 3:=⟨by kernel_rfl⟩
instance z_step_doer:TZ P T.t 15 232 (.agg #[.pointer none, .string ⟨#[]⟩, .slice none 0 0, .string ⟨#[]⟩, .bool false, .int .i64 0, .slice none 0 0, .slice none 0 0, .string ⟨#[]⟩, .int .i64 0, .string ⟨#[]⟩, .bool false, .slice none 0 0, .slice none 0 0, .int .i64 0]):=⟨by kernel_rfl⟩
instance g_step_doer:TG P T.t true:=⟨by kernel_rfl⟩
instance f_step_doer_0:TF P T.t 0 0 25:=⟨by kernel_rfl⟩
instance f_step_doer_1:TF P T.t 1 1 40:=⟨by kernel_rfl⟩
instance f_step_doer_2:TF P T.t 2 8 42:=⟨by kernel_rfl⟩
instance f_step_doer_3:TF P T.t 3 11 24:=⟨by kernel_rfl⟩
instance f_step_doer_4:TF P T.t 4 14 31:=⟨by kernel_rfl⟩
instance z_M_string_funcP_step_doer:TZ P T.j 1 8 (.map none):=⟨by kernel_rfl⟩
instance g_M_string_funcP_step_doer:TG P T.j false:=⟨by kernel_rfl⟩
instance m_M_string_funcP_step_doer:TM P T.j 9 69:=⟨by kernel_rfl⟩
instance z_M_string_int:TZ P T.v 1 8 (.map none):=⟨by kernel_rfl⟩
instance g_M_string_int:TG P T.v false:=⟨by kernel_rfl⟩
instance m_M_string_int:TM P T.v 9 3:=⟨by kernel_rfl⟩
instance z_hier_Table:TZ P T.u 2 32 (.agg #[.slice none 0 0, .map none]):=⟨by kernel_rfl⟩
instance g_hier_Table:TG P T.u true:=⟨by kernel_rfl⟩
instance f_hier_Table_0:TF P T.u 0 0 26:=⟨by kernel_rfl⟩
instance f_hier_Table_1:TF P T.u 1 1 76:=⟨by kernel_rfl⟩
instance z_S_api_Field:TZ P T.i 1 24 (.slice none 0 0):=⟨by kernel_rfl⟩
instance g_S_api_Field:TG P T.i false:=⟨by kernel_rfl⟩
instance s_S_api_Field:TS P T.i 89:=⟨by kernel_rfl⟩
instance z_S_api_Method:TZ P T.g 1 24 (.slice none 0 0):=⟨by kernel_rfl⟩
instance g_S_api_Method:TG P T.g false:=⟨by kernel_rfl⟩
instance s_S_api_Method:TS P T.g 40:=⟨by kernel_rfl⟩
instance z_api_Class:TZ P T.a 8 112 (.agg #[.string ⟨#[]⟩, .string ⟨#[]⟩, .slice none 0 0, .bool false, .bool false, .bool false, .slice none 0 0, .slice none 0 0]):=⟨by kernel_rfl⟩
instance g_api_Class:TG P T.a true:=⟨by kernel_rfl⟩
instance f_api_Class_0:TF P T.a 0 0 9:=⟨by kernel_rfl⟩
instance f_api_Class_1:TF P T.a 1 1 9:=⟨by kernel_rfl⟩
instance f_api_Class_2:TF P T.a 2 2 22:=⟨by kernel_rfl⟩
instance f_api_Class_3:TF P T.a 3 3 4:=⟨by kernel_rfl⟩
instance f_api_Class_4:TF P T.a 4 4 4:=⟨by kernel_rfl⟩
instance f_api_Class_5:TF P T.a 5 5 4:=⟨by kernel_rfl⟩
instance f_api_Class_6:TF P T.a 6 6 79:=⟨by kernel_rfl⟩
instance f_api_Class_7:TF P T.a 7 7 80:=⟨by kernel_rfl⟩
instance z_api_Field:TZ P T.k 3 40 (.agg #[.string ⟨#[]⟩, .string ⟨#[]⟩, .bool false]):=⟨by kernel_rfl⟩
instance g_api_Field:TG P T.k true:=⟨by kernel_rfl⟩
instance f_api_Field_0:TF P T.k 0 0 9:=⟨by kernel_rfl⟩
instance f_api_Field_1:TF P T.k 1 1 9:=⟨by kernel_rfl⟩
instance f_api_Field_2:TF P T.k 2 2 4:=⟨by kernel_rfl⟩
instance z_S_S_bool:TZ P T.a1 1 24 (.slice none 0 0):=⟨by kernel_rfl⟩
instance g_S_S_bool:TG P T.a1 false:=⟨by kernel_rfl⟩
instance s_S_S_bool:TS P T.a1 94:=⟨by kernel_rfl⟩
instance z_S_bool:TZ P T.z 1 24 (.slice none 0 0):=⟨by kernel_rfl⟩
instance g_S_bool:TG P T.z false:=⟨by kernel_rfl⟩
instance s_S_bool:TS P T.z 4:=⟨by kernel_rfl⟩
instance z_A10_string:TZ P T.ah 10 160 (.agg #[.string ⟨#[]⟩, .string ⟨#[]⟩, .string ⟨#[]⟩, .string ⟨#[]⟩, .string ⟨#[]⟩, .string ⟨#[]⟩, .string ⟨#[]⟩, .string ⟨#[]⟩, .string ⟨#[]⟩, .string ⟨#[]⟩]):=⟨by kernel_rfl⟩
instance g_A10_string:TG P T.ah true:=⟨by kernel_rfl⟩
instance a_A10_string:TA P T.ah 10 9:=⟨by kernel_rfl⟩
instance g_strings_asciiSet:TG P T.a4 true:=⟨by kernel_rfl⟩
instance a_strings_asciiSet:TA P T.a4 256 4:=⟨by kernel_rfl⟩
instance z_A6_string:TZ P T.ag 6 96 (.agg #[.string ⟨#[]⟩, .string ⟨#[]⟩, .string ⟨#[]⟩, .string ⟨#[]⟩, .string ⟨#[]⟩, .string ⟨#[]⟩]):=⟨by kernel_rfl⟩
instance g_A6_string:TG P T.ag true:=⟨by kernel_rfl⟩
instance a_A6_string:TA P T.ag 6 9:=⟨by kernel_rfl⟩
instance z_func_int:TZ P T.ai 1 8 .nilFunc:=⟨by kernel_rfl⟩
instance g_func_int:TG P T.ai false:=⟨by kernel_rfl⟩
instance z_M_string_string:TZ P T.q 1 8 (.map none):=⟨by kernel_rfl⟩
instance g_M_string_string:TG P T.q false:=⟨by kernel_rfl⟩
instance m_M_string_string:TM P T.q 9 9:=⟨by kernel_rfl⟩
instance z_func_api_Method_string:TZ P T.a2 1 8 .nilFunc:=⟨by kernel_rfl⟩
instance g_func_api_Method_string:TG P T.a2 false:=⟨by kernel_rfl⟩
instance z_func_api_Method_bool:TZ P T.a7 1 8 .nilFunc:=⟨by kernel_rfl⟩
instance g_func_api_Method_bool:TG P T.a7 false:=⟨by kernel_rfl⟩
instance z_func_string_string:TZ P T.a5 1 8 .nilFunc:=⟨by kernel_rfl⟩
instance g_func_string_string:TG P T.a5 false:=⟨by kernel_rfl⟩
instance z_func_api_Field_string:TZ P T.a3 1 8 .nilFunc:=⟨by kernel_rfl⟩
instance g_func_api_Field_string:TG P T.a3 false:=⟨by kernel_rfl⟩
instance z_func_api_Field_bool:TZ P T.a9 1 8 .nilFunc:=⟨by kernel_rfl⟩
instance g_func_api_Field_bool:TG P T.a9 false:=⟨by kernel_rfl⟩
instance z_api_Catch:TZ P T.p 4 40 (.agg #[.int .i64 0, .int .i64 0, .int .i64 0, .string ⟨#[]⟩]):=⟨by kernel_rfl⟩
instance g_api_Catch:TG P T.p true:=⟨by kernel_rfl⟩
instance f_api_Catch_0:TF P T.p 0 0 3:=⟨by kernel_rfl⟩
instance f_api_Catch_1:TF P T.p 1 1 3:=⟨by kernel_rfl⟩
instance f_api_Catch_2:TF P T.p 2 2 3:=⟨by kernel_rfl⟩
instance f_api_Catch_3:TF P T.p 3 3 9:=⟨by kernel_rfl⟩
instance z_func_api_Catch_bool:TZ P T.aa 1 8 .nilFunc:=⟨by kernel_rfl⟩
instance g_func_api_Catch_bool:TG P T.aa false:=⟨by kernel_rfl⟩
instance z_func_api_Instr_bool:TZ P T.ab 1 8 .nilFunc:=⟨by kernel_rfl⟩
instance g_func_api_Instr_bool:TG P T.ab false:=⟨by kernel_rfl⟩
instance z_S_uint8:TZ P T.am 1 24 (.slice none 0 0):=⟨by kernel_rfl⟩
instance g_S_uint8:TG P T.am false:=⟨by kernel_rfl⟩
instance s_S_uint8:TS P T.am 5:=⟨by kernel_rfl⟩
instance z_strings_Builder:TZ P T.ad 2 32 (.agg #[.pointer none, .slice none 0 0]):=⟨by kernel_rfl⟩
instance g_strings_Builder:TG P T.ad true:=⟨by kernel_rfl⟩
instance f_strings_Builder_0:TF P T.ad 0 0 185:=⟨by kernel_rfl⟩
instance f_strings_Builder_1:TF P T.ad 1 1 186:=⟨by kernel_rfl⟩
instance z_P_uint8:TZ P T.ap 1 8 (.pointer none):=⟨by kernel_rfl⟩
instance g_P_uint8:TG P T.ap false:=⟨by kernel_rfl⟩
instance g_A256_uint8:TG P T.an true:=⟨by kernel_rfl⟩
instance a_A256_uint8:TA P T.an 256 5:=⟨by kernel_rfl⟩
instance z_utf8_acceptRange:TZ P T.ac 2 2 (.agg #[.int .u8 0, .int .u8 0]):=⟨by kernel_rfl⟩
instance g_utf8_acceptRange:TG P T.ac true:=⟨by kernel_rfl⟩
instance f_utf8_acceptRange_0:TF P T.ac 0 0 5:=⟨by kernel_rfl⟩
instance f_utf8_acceptRange_1:TF P T.ac 1 1 5:=⟨by kernel_rfl⟩
instance z_A16_utf8_acceptRange:TZ P T.ae 32 32 (.agg #[.int .u8 0, .int .u8 0, .int .u8 0, .int .u8 0, .int .u8 0, .int .u8 0, .int .u8 0, .int .u8 0, .int .u8 0, .int .u8 0, .int .u8 0, .int .u8 0, .int .u8 0, .int .u8 0, .int .u8 0, .int .u8 0, .int .u8 0, .int .u8 0, .int .u8 0, .int .u8 0, .int .u8 0, .int .u8 0, .int .u8 0, .int .u8 0, .int .u8 0, .int .u8 0, .int .u8 0, .int .u8 0, .int .u8 0, .int .u8 0, .int .u8 0, .int .u8 0]):=⟨by kernel_rfl⟩
instance g_A16_utf8_acceptRange:TG P T.ae true:=⟨by kernel_rfl⟩
instance a_A16_utf8_acceptRange:TA P T.ae 16 202:=⟨by kernel_rfl⟩
instance z_code_op:TZ P T.a6 3 24 (.agg #[.string ⟨#[]⟩, .bool false, .bool false]):=⟨by kernel_rfl⟩
instance g_code_op:TG P T.a6 true:=⟨by kernel_rfl⟩
instance f_code_op_0:TF P T.a6 0 0 9:=⟨by kernel_rfl⟩
instance f_code_op_1:TF P T.a6 1 1 4:=⟨by kernel_rfl⟩
instance f_code_op_2:TF P T.a6 2 2 4:=⟨by kernel_rfl⟩
instance g_A42_code_op:TG P T.a8 true:=⟨by kernel_rfl⟩
instance a_A42_code_op:TA P T.a8 42 206:=⟨by kernel_rfl⟩
instance z_S_code_op:TZ P T.aj 1 24 (.slice none 0 0):=⟨by kernel_rfl⟩
instance g_S_code_op:TG P T.aj false:=⟨by kernel_rfl⟩
instance s_S_code_op:TS P T.aj 206:=⟨by kernel_rfl⟩
instance z_uint32:TZ P T.aq 1 4 (.int .u32 0):=⟨by kernel_rfl⟩
instance g_uint32:TG P T.aq false:=⟨by kernel_rfl⟩
instance z_uint64:TZ P T.ar 1 8 (.int .u64 0):=⟨by kernel_rfl⟩
instance g_uint64:TG P T.ar false:=⟨by kernel_rfl⟩
end Go.Proofs.YtfppjenblllfaaaGreatDoor

namespace Go.Emb
theorem aS {p:Prop} (h:p:=by (first | assumption | exact Stp.sat (by assumption) | exact Hst.sat (by assumption))):p:=h
theorem aL {p:Prop} (h:p:=by (first | assumption | exact Sl.lift (by assumption) (by (repeat (first | exact SLe.refl _ | refine SLe.more ?_ (by assumption) | refine SLe.more ?_ (Nxt.le (by assumption)) | refine SLe.step ?_ (by assumption)))) | exact Z2.lift (by assumption) (by (repeat (first | exact SLe.refl _ | refine SLe.more ?_ (by assumption) | refine SLe.more ?_ (Nxt.le (by assumption)) | refine SLe.step ?_ (by assumption)))) | exact I5.lift (by assumption) (by (repeat (first | exact SLe.refl _ | refine SLe.more ?_ (by assumption) | refine SLe.more ?_ (Nxt.le (by assumption)) | refine SLe.step ?_ (by assumption)))) | exact RCl_lift (by assumption) (by (repeat (first | exact SLe.refl _ | refine SLe.more ?_ (by assumption) | refine SLe.more ?_ (Nxt.le (by assumption)) | refine SLe.step ?_ (by assumption)))) | exact RMe_lift (by assumption) (by (repeat (first | exact SLe.refl _ | refine SLe.more ?_ (by assumption) | refine SLe.more ?_ (Nxt.le (by assumption)) | refine SLe.step ?_ (by assumption)))) | exact Glb.lift (by assumption) (by (repeat (first | exact SLe.refl _ | refine SLe.more ?_ (by assumption) | refine SLe.more ?_ (Nxt.le (by assumption)) | refine SLe.step ?_ (by assumption)))) | exact Tab.lift (by assumption) (by (repeat (first | exact SLe.refl _ | refine SLe.more ?_ (by assumption) | refine SLe.more ?_ (Nxt.le (by assumption)) | refine SLe.step ?_ (by assumption)))) | exact RIn_any (by assumption) | exact RFd_any (by assumption) | exact RCa_any (by assumption))):p:=h
theorem aR {p:Prop} (h:p:=by with_unfolding_all rfl):p:=h
theorem aF {p:Prop} (a:p:=by (refine Eq.subst (motive:=fun b=>K b _) ?_ (h _ _ (by (repeat (first | exact Stp.refl (by (first | assumption | exact Stp.sat (by assumption) | exact Hst.sat (by assumption))) | assumption | refine Stp.trans ?_ (by first | assumption | exact Hst.stp (by assumption))))));clear h;(try clear hA);(try clear hB);(try clear hC);first | rfl | ((try simp only[Bool.not_eq_true',Bool.not_eq_false',Bool.not_true,Bool.not_false,Bool.not_eq_true] at*);simp only[*,Mb,reduceIte];done) | (simp[*];done) | simp_all)):p:=a
theorem au {p:Prop} (h:p:=by (first | assumption | (first | assumption | exact Stp.sat (by assumption) | exact Hst.sat (by assumption)) | (first | assumption | exact Sl.lift (by assumption) (by (repeat (first | exact SLe.refl _ | refine SLe.more ?_ (by assumption) | refine SLe.more ?_ (Nxt.le (by assumption)) | refine SLe.step ?_ (by assumption)))) | exact Z2.lift (by assumption) (by (repeat (first | exact SLe.refl _ | refine SLe.more ?_ (by assumption) | refine SLe.more ?_ (Nxt.le (by assumption)) | refine SLe.step ?_ (by assumption)))) | exact I5.lift (by assumption) (by (repeat (first | exact SLe.refl _ | refine SLe.more ?_ (by assumption) | refine SLe.more ?_ (Nxt.le (by assumption)) | refine SLe.step ?_ (by assumption)))) | exact RCl_lift (by assumption) (by (repeat (first | exact SLe.refl _ | refine SLe.more ?_ (by assumption) | refine SLe.more ?_ (Nxt.le (by assumption)) | refine SLe.step ?_ (by assumption)))) | exact RMe_lift (by assumption) (by (repeat (first | exact SLe.refl _ | refine SLe.more ?_ (by assumption) | refine SLe.more ?_ (Nxt.le (by assumption)) | refine SLe.step ?_ (by assumption)))) | exact Glb.lift (by assumption) (by (repeat (first | exact SLe.refl _ | refine SLe.more ?_ (by assumption) | refine SLe.more ?_ (Nxt.le (by assumption)) | refine SLe.step ?_ (by assumption)))) | exact Tab.lift (by assumption) (by (repeat (first | exact SLe.refl _ | refine SLe.more ?_ (by assumption) | refine SLe.more ?_ (Nxt.le (by assumption)) | refine SLe.step ?_ (by assumption)))) | exact RIn_any (by assumption) | exact RFd_any (by assumption) | exact RCa_any (by assumption)) | exact Nat.le_trans (by assumption) (by decide) | omega)):p:=h
end Go.Emb
namespace Go.Proofs.YtfppjenblllfaaaGreatDoor
open Go.Emb
theorem X1R {a:List UInt8} {cs:List Bool} {r:TypeId} {w:World} {K:Value→World→Prop}:X5 P .len [T.b] r cs [S a] w K=K (I a.length) w:=D5 X7
theorem Q6K {c d:Operand} {a b:Bool} {w:World} {K:Value→World→Prop}:Q4 P .eql T.m c d (.bool a) (.bool b) w K=K (.bool (a==b)) w:=Q4b Pp
theorem X23 {c d:Operand} {a b:Bool} {w:World} {K:Value→World→Prop}:Q4 P .neq T.m c d (.bool a) (.bool b) w K=K (.bool (!(a==b))) w:=Q4S Pp
def Mm:=And.intro @fa <| And.intro @E9 <| And.intro @Qm <| And.intro @X1R <| And.intro @Q6K @X23
def M1:=And.intro Mm Mr
def M2:=And.intro Mm Mp
end Go.Proofs.YtfppjenblllfaaaGreatDoor

namespace Go.Proofs.YtfppjenblllfaaaGreatDoor
open Go.Emb Go.RowKit Go.Kd Go.Hm
variable {w : World} {K : Value → World → Prop} {σ : Q5}
def Uf (m:Hm.Met):Bool:=decide (32<m.params.length)||decide (32<m.catches.length)||decide (200<m.code.length)||decide (64<m.locals)
def Xx (c:Cla):Bool:=c.methods.any Uf||decide (32<c.like.length)||decide (32<c.fields.length)||decide (32<c.methods.length)
theorem X1M {c : Cla} {cs : List Value} (hs : X4 w σ) (hc : U4 σ c cs) (h : ∀ w', Below w.heap.size w w' → K (.bool (Xx c)) w') : Q1 P F.cu [.agg cs.toArray] w K := Q4y (by
  obtain ⟨lv, fv, mv, rfl, hl, hf, hm, hn, hsu⟩ := hc
  unfold Ty
  refine M9 hs fun a w1 σ1 hk ha => ?_
  have hs := hk.sat
  replace hl := hl.up hk
  replace hf := hf.up hk
  replace hm := hm.up hk
  simp only [Value.cells] at ha
  ((try simp only [↓M1, M1, Mb, reduceIte]); repeat ((first | refine ld (by assumption) (by assumption) rfl ?_ | refine X8 (by assumption) (by assumption) rfl ?_ | refine Q8 (by assumption) ?_); (try simp only [↓M1, M1, Mb, reduceIte])))
  refine J0 c.methods.length (fun n w' => Below w1.heap.size w1 w' ∧ ((c.methods.take n).any Uf) = false) ⟨Below.refl _ _, by simp⟩ fun n w2 d hn hi => ?_
  obtain ⟨hb, hp⟩ := hi
  have hs2 := hs.below hb
  ((try simp only [↓M1, M1, Mb, reduceIte]); repeat ((first | refine ld (by assumption) (by assumption) rfl ?_ | refine X8 (by assumption) (by assumption) rfl ?_ | refine Q8 (by assumption) ?_); (try simp only [↓M1, M1, Mb, reduceIte])))
  refine Q6 (fun hc => ?_) (fun hc => ?_)
  · have hn' : n < c.methods.length := by simpa using hc
    refine L8 hm hn' fun p cs hl1 hlen hr => ?_
    refine Y7 hs2 hl1 hlen ?_
    refine Y5 hs2 (by rfl) hlen (Rep.one hr) fun q w3 σ3 hk3 hq => ?_
    obtain ⟨pv, cv, hv, rfl, g1, g2, g3, g4⟩ := hr
    have hs3 := hk3.sat
    replace g1 := g1.up hk3
    replace g2 := g2.up hk3
    replace g3 := g3.up hk3
    ((try simp only [↓M1, M1, Mb, reduceIte]); repeat ((first | refine ld (by assumption) (by assumption) rfl ?_ | refine X8 (by assumption) (by assumption) rfl ?_ | refine Q8 (by assumption) ?_); (try simp only [↓M1, M1, Mb, reduceIte])))
    (repeat' ((first | refine Z3 (fun hh => ?_) (fun hh => ?_) | refine Q6 (fun hh => ?_) (fun hh => ?_)) <;> (try simp only [hh, Bool.not_true, Bool.not_false, ↓M1, M1, Mb, reduceIte]) <;> ((try simp only [↓M1, M1, Mb, reduceIte]); repeat ((first | refine ld (by assumption) (by assumption) rfl ?_ | refine X8 (by assumption) (by assumption) rfl ?_ | refine Q8 (by assumption) ?_); (try simp only [↓M1, M1, Mb, reduceIte])))))
    all_goals first
      | refine Y2 hm.max hn' ⟨bt hb hk3.bel, ?_⟩
        rw [M3 hn', hp]; simp only [Uf]; (first | (simp only [decide_eq_true_eq, decide_eq_false_iff_not, Bool.not_true, Bool.not_false, Bool.not_eq_true', Bool.not_eq_false', Bool.or_eq_true, Bool.and_eq_true, Bool.or_eq_false_iff, Bool.and_eq_false_iff, Bool.false_or, Bool.true_and, Bool.or_false, Bool.and_true] at *; first | omega | (and_intros <;> omega)) | (rw [Bool.eq_iff_iff]; (simp only [decide_eq_true_eq, decide_eq_false_iff_not, Bool.not_true, Bool.not_false, Bool.not_eq_true', Bool.not_eq_false', Bool.or_eq_true, Bool.and_eq_true, Bool.or_eq_false_iff, Bool.and_eq_false_iff, Bool.false_or, Bool.true_and, Bool.or_false, Bool.and_true] at *; first | omega | (and_intros <;> omega))))
      | have e : Xx c = true := by
          have : Uf c.methods[n] = true := by simp only [Uf]; (first | (simp only [decide_eq_true_eq, decide_eq_false_iff_not, Bool.not_true, Bool.not_false, Bool.not_eq_true', Bool.not_eq_false', Bool.or_eq_true, Bool.and_eq_true, Bool.or_eq_false_iff, Bool.and_eq_false_iff, Bool.false_or, Bool.true_and, Bool.or_false, Bool.and_true] at *; first | omega | (and_intros <;> omega)) | (rw [Bool.eq_iff_iff]; (simp only [decide_eq_true_eq, decide_eq_false_iff_not, Bool.not_true, Bool.not_false, Bool.not_eq_true', Bool.not_eq_false', Bool.or_eq_true, Bool.and_eq_true, Bool.or_eq_false_iff, Bool.and_eq_false_iff, Bool.false_or, Bool.true_and, Bool.or_false, Bool.and_true] at *; first | omega | (and_intros <;> omega))))
          simp [Xx, C3 hn' this]
        rw [← e]; exact h _ (bt hk.bel (bt hb hk3.bel))
  · have hn' : ¬ n < c.methods.length := by simpa using hc
    rw [D0 hn'] at hp
    have h := h w2 (bt hk.bel hb)
    ((try simp only [↓M1, M1, Mb, reduceIte]); repeat ((first | refine ld (by assumption) (by assumption) rfl ?_ | refine X8 (by assumption) (by assumption) rfl ?_ | refine Q8 (by assumption) ?_); (try simp only [↓M1, M1, Mb, reduceIte])))
    (repeat' ((first | refine Z3 (fun hh => ?_) (fun hh => ?_) | refine Q6 (fun hh => ?_) (fun hh => ?_)) <;> (try simp only [hh, Bool.not_true, Bool.not_false, ↓M1, M1, Mb, reduceIte]) <;> ((try simp only [↓M1, M1, Mb, reduceIte]); repeat ((first | refine ld (by assumption) (by assumption) rfl ?_ | refine X8 (by assumption) (by assumption) rfl ?_ | refine Q8 (by assumption) ?_); (try simp only [↓M1, M1, Mb, reduceIte])))))
    all_goals
      refine Eq.subst (motive := fun b => K (.bool b) w2) ?_ h
      simp only [Xx, hp]
      (first | (simp only [decide_eq_true_eq, decide_eq_false_iff_not, Bool.not_true, Bool.not_false, Bool.not_eq_true', Bool.not_eq_false', Bool.or_eq_true, Bool.and_eq_true, Bool.or_eq_false_iff, Bool.and_eq_false_iff, Bool.false_or, Bool.true_and, Bool.or_false, Bool.and_true] at *; first | omega | (and_intros <;> omega)) | (rw [Bool.eq_iff_iff]; (simp only [decide_eq_true_eq, decide_eq_false_iff_not, Bool.not_true, Bool.not_false, Bool.not_eq_true', Bool.not_eq_false', Bool.or_eq_true, Bool.and_eq_true, Bool.or_eq_false_iff, Bool.and_eq_false_iff, Bool.false_or, Bool.true_and, Bool.or_false, Bool.and_true] at *; first | omega | (and_intros <;> omega)))))
end Go.Proofs.YtfppjenblllfaaaGreatDoor

namespace Go.Emb
open Go.RowKit Go.Hm
variable {H : Type} {enc : TypeId × Value → H} {P : Program} {W : World} {t : TypeId} {cs : List Value} {fuel : Nat} {x : DataW H × List MemPlace}
def Ug (W:World):Q5:=fun b=>W.heap[b]?
theorem Q8k:X4 W (Ug W):=fun b o h=>h
def Wt (P:Program) (t:TypeId) (d:DataW H):Prop:= ∀n∈d.weights P t,n≤reachBytes
theorem X0U {a:Addr} {n:Nat} (h:W.cells? 0 a n=some cs) (z:0<n):cs.length=n∧Z2 (Ug W) a cs:=by
 obtain ⟨_,m,s⟩:=World.cells?_some h
 refine ⟨m,?_⟩
 have key: ∀i v,cs[i]? =some v→ ∃D3 e f,W.heap[a.block]? =some (.cells D3 e f)∧(a.add i).spot=none∧D3[a.off+i]? =some v:=by
  intro i v g
  have A:i<cs.length:=(List.getElem?_eq_some_iff.1 g).1
  have b:=s i (by omega)
  rw[g] at b
  unfold World.cell? at b
  rw[C2,Xp] at b
  cases l:W.heap[a.block]? with
  | none=>rw[l] at b;cases b
  | some o=>
   rw[l] at b
   cases o with
   | cells D3 e f=>
    simp only at b
    split at b
    ·cases b
    ·rename_i w
     exact ⟨D3,e,f,rfl,by simpa using w,b⟩
   | _=>cases b
 cases j:cs with
 | nil=>subst j;simp at m;omega
 | cons c r=>
  obtain ⟨D3,e,f,p,q,C⟩:=key 0 c (by rw[j];rfl)
  refine ⟨by simpa [Addr.add] using q,D3,e,f,p,fun i v g=>?_⟩
  obtain ⟨k,B,y,d,D,u⟩:=key i v (by rw[j];exact g)
  rw[p] at d
  injection d with d
  injection d with d
  subst d
  exact u
theorem X1z (a:P.underlying t=some .string) (h:DataW.trod enc P W 0 (fun _=>true) true fuel t cs=some x) (b:Wt P t x.1): ∃s:Kd.Q9,cs=[S s]∧s.length≤Z9:=by
 obtain ⟨⟨⟨s⟩⟩,rfl,rfl,_⟩:=DataW.trod_string a h
 refine ⟨s,rfl,?_⟩
 have:=b s.length (by simp[DataW.weights])
 exact this
theorem X0i (c:P.underlying t=some .bool) (h:DataW.trod enc P W 0 (fun _=>true) true fuel t cs=some x): ∃b,cs=[.bool b]:=by
 obtain ⟨b,a,_⟩:=DataW.trod_bool c h;exact ⟨b,a⟩
theorem X0X {α:Type} {Q:Nat→α→Prop}: ∀(n:Nat),(∀i,i<n→ ∃y,Q i y)→ ∃xs:List α,xs.length=n∧ ∀i y,xs[i]? =some y→Q i y:=by
 intro n
 induction n with
 | zero=>intro _;exact ⟨[],rfl,by simp⟩
 | succ n d=>
  intro h
  obtain ⟨xs,f,c⟩:=d fun i b=>h i (by omega)
  obtain ⟨y,e⟩:=h n (by omega)
  refine ⟨xs++[y],by simp[f],fun i z a=>?_⟩
  by_cases b:i<xs.length
  ·rw[List.getElem?_append_left b] at a;exact c i z a
  ·rw[List.getElem?_append_right (by omega)] at a
   have:i-xs.length=0:=by
    have:=(List.getElem?_eq_some_iff.1 a).1
    simp at this;omega
   rw[this] at a
   simp at a
   subst a
   rw[show i=n by omega];exact e
theorem X18 {e:TypeId} {d:DataW H}: ∀{l:List (DataW H)},d∈l→ ∀n∈d.weights P e,n∈DataW.weightsAll P e l:=by
 intro l
 induction l with
 | nil=>intro h;simp at h
 | cons a r c=>
  intro h n b
  simp only[DataW.weightsAll,List.mem_append]
  rcases List.mem_cons.1 h with rfl | h
  ·exact .inl b
  ·exact .inr (c h n b)
theorem Q9N {α:Type} {R:Q5→α→List Value→Prop} {e:TypeId} {sz:Nat} (A:P.underlying t=some (.slice e)) (N:P.cellsOf e=sz) (J:0<sz)
 (q: ∀fuel cs (x:DataW H×List MemPlace),DataW.trod enc P W 0 (fun _=>true) true fuel e cs=some x→Wt P e x.1→ ∃y,R (Ug W) y cs)
 (h:DataW.trod enc P W 0 (fun _=>true) true fuel t cs=some x) (Q:Wt P t x.1): ∃v xs,cs=[v]∧Sl sz R (Ug W) v xs:=by
 rcases DataW.trod_slice A h with ⟨rfl,rfl⟩ | ⟨a,o,p,d,u,n,_,rfl,rfl,_,L,s,w,l,_⟩
 ·exact ⟨_,[],rfl,Sl.nil⟩
 subst N
 have step: ∀i,i<o→ ∃y,∃c,Z2 (Ug W) (a.add (i*P.cellsOf e)) c∧c.length=P.cellsOf e∧R (Ug W) y c:=by
  intro i E
  have z:=l i E
  have f:i<d.length:=by omega
  rw[List.getElem?_eq_getElem f] at z
  obtain ⟨c,B,M⟩:=Option.bind_eq_some_iff.1 z
  obtain ⟨O,r⟩:=X0U B J
  obtain ⟨y,g⟩:=q n c _ M (fun m s=>Q m (by
   simp only[DataW.weights,A,List.mem_cons,List.mem_append]
   exact .inr (.inl (X18 (List.mem_map.2 ⟨_,List.getElem_mem f,rfl⟩) m s))))
  exact ⟨y,c,r,O,g⟩
 obtain ⟨xs,j,k⟩:=X0X o step
 refine ⟨_,xs,rfl,some a,p,by rw[j],by rw[j];exact L,s,by simp,fun b D=>?_⟩
 cases D
 refine ⟨fun C=>?_,fun i y g=>k i y g⟩
 obtain ⟨y,g⟩: ∃y,xs[0]? =some y:=⟨xs[0],List.getElem?_eq_getElem C⟩
 obtain ⟨c,r,_,_⟩:=k 0 y g
 have:=r.1
 simpa [Addr.add] using this
theorem X0N: ∀{a:List TypeId} {l:List (DataW H)} {i:Nat} {u:TypeId} {d:DataW H},a[i]? =some u→l[i]? =some d→ ∀n∈d.weights P u,n∈DataW.weightsEach P a l:=
 fun e c n b=>DataW.weights_mem_each e c n b
theorem Q2c {c:Array Field} (e:P.underlying t=some (.struct c)) (h:DataW.trod enc P W 0 (fun _=>true) true fuel t cs=some x) (s:Wt P t x.1) (i:Nat) {o:Nat} {b:TypeId}
 (l:(c[i]?).map (fun f=>(f.type,f.offset))=some (b,o)) (r:P.cellsOf b=1): ∃n y,DataW.trod enc P W 0 (fun _=>true) true n b ((cs.drop o).take 1)=some y∧Wt P b y.1:=by
 obtain ⟨xs,n,_,rfl,v,j,p⟩:=DataW.trod_struct e h
 obtain ⟨f,a,k⟩:=Option.map_eq_some_iff.1 l
 cases k
 have g:=p i f a
 have d:i<xs.length:=by rw[j];exact (Array.getElem?_eq_some_iff.1 a).1
 rw[List.getElem?_eq_getElem d,r] at g
 refine ⟨n,_,g,fun m q=>s m ?_⟩
 simp only[DataW.weights,e]
 exact X0N (i:=i) (u:=f.type) (by rw[List.getElem?_map,Array.getElem?_toList,a];rfl) (by rw[List.getElem?_map,List.getElem?_eq_getElem d];rfl) m q
theorem X1x {d:Array Field} {k:Nat} (c:P.underlying t=some (.struct d)) (b:P.cellsOf t=k) (h:DataW.trod enc P W 0 (fun _=>true) true fuel t cs=some x):cs.length=k:=by
 obtain ⟨_,_,_,_,a,_,_⟩:=DataW.trod_struct c h
 rw[a,b]
theorem Q6m {α:Type} {l:List α} (h:l.length=3): ∃a b c,l=[a,b,c]:=by
 match l,h with
 | [a,b,c],_=>exact ⟨a,b,c,rfl⟩
end Go.Emb
namespace Go.Proofs.YtfppjenblllfaaaGreatDoor
open Go.Emb Go.RowKit Go.Kd Go.Hm
variable {H : Type} {enc : TypeId × Value → H} {W : World} {cs : List Value} {fuel : Nat} {x : DataW H × List MemPlace}
theorem Gf:P.cellsOf T.b=1:=by kernel_rfl
theorem Q8i:P.cellsOf T.m=1:=by kernel_rfl
theorem Q7U {t:TypeId} (a:P.underlying t=some .string) (h:DataW.trod enc P W 0 (fun _=>true) true fuel t cs=some x) (b:Wt P t x.1): ∃y,Y1 (Ug W) y cs:=by
 obtain ⟨s,q,r⟩:=X1z a h b;exact ⟨s,q,r⟩
theorem Q8E:P.underlying T.d=some (.slice T.b):=by kernel_rfl
end Go.Proofs.YtfppjenblllfaaaGreatDoor
