/- Parts of a proof about the given program: its functions as texts of their own, what each computes, plain laws of that. The conditions of each stand in its statement. -/
import Derived.Test.YtkllbfjojoncaaaGreatDoorB6
import Derived.Test.YtkllbfjojoncaaaGreatDoorB3
import Derived.ChangeKeysEq
import Derived.Test.YtkllbfjojoncaaaGreatDoorRows
import Derived.Test.YtkllbfjojoncaaaGreatDoorB4
import Derived.WalkKit
import Derived.ProofKit
import Derived.OpenShut
import Derived.ShutString
import Derived.ChangeOld
import Derived.Below
import Derived.SizedLaws
import Derived.Lay
import Derived.Carry
import Derived.MakeChecks
import Derived.PinnedBridge
set_option linter.unnecessarySimpa false
set_option linter.defProp false
set_option linter.unusedSectionVars false
set_option linter.unusedVariables false
set_option linter.unusedSimpArgs false
namespace Go.Hm
open Go.Kd
variable {ok ok' : X2 -> Bool} {l : List Cla} {cs : List Cel} {v : Val} {r i : Int}
theorem X78 (h:v.sort=4):Qd ok cs v=Qd ok' cs v:=by
 unfold Qd;have a: ¬v=⟨3,0,v.s,0⟩:=fun e=>by rw[e] at h;exact absurd h (by simp)
 rw[if_neg (fun e:v=⟨3,0,v.s,0⟩/\ok v.s=true=>a e.1),if_neg (fun e:v=⟨3,0,v.s,0⟩/\ok' v.s=true=>a e.1)]
theorem X5C (h:v.sort=4):H9 ok l cs r i v=H9 ok' l cs r i v:=by
 unfold H9 K3;rw[X78 (ok:=ok) (ok':=ok') h]
end Go.Hm
namespace Go.Proofs.Y
open Go.Emb Go.RowKit Go.Kd Go.Hm
variable {w w' w0 : World} {K : Value -> World -> Prop} {σ σ' σ0 : Q2} {ca cb ca' : List Cel} {ha hb ta tb : Value}
theorem HeapIs.shift {B:Nat} {D:Nat->Prop} {room:Int} (h:HeapIs B D σ w ha ta room ca) (m:SLe σ σ') (d: ∀k,D k->σ' k=none):HeapIs B D σ' w ha ta room ca:=by
 obtain ⟨b,n,E,rfl,hB,p,q,hE,hD⟩:=h.ex;obtain ⟨vs,o,j,c,a⟩:=q.ex;exact ⟨b,n,E,rfl,hB,⟨d b ((hD b).2 (.inl rfl)),p.2⟩,⟨vs,o.shiftR m fun k f=>d k ((hD k).2 (.inr ((a k).2 ⟨n,by simp,f⟩))),⟨j.1,fun i g e=>(j.2 i g e).shiftR m fun k f=>d k ((hD k).2 (.inr ((a k).2 ⟨vs[i],by simp[List.getElem_mem g],f⟩)))⟩,c,a⟩,hE,hD⟩
structure TwoH (w0 : World) (σ0 : Q2) (w : World) (σ : Q2) (ha ta hb tb : Value) (ca cb : List Cel) : Prop where
  stp : Stp w0 σ0 w σ
  ex : ∃ Da Db, HeapIs w0.heap.size Da σ w ha ta 50 ca /\ HeapIs w0.heap.size Db σ w hb tb 50 cb /\ ∀ k, Da k -> ¬ Db k
  ta : Tab σ ta (Q3 W8)
  tb : Tab σ tb (Q3 W8)
  ok : Ok (Q3 W8)
  ga : GoodH W4 (Q3 W8) 50 ca
  gb : GoodH W4 (Q3 W8) 50 cb
theorem TwoH.up (R:TwoH w0 σ0 w σ ha ta hb tb ca cb) (k:Stp w σ w' σ'):TwoH w0 σ0 w' σ' ha ta hb tb ca cb:=by
 obtain ⟨a,b,c,d,e⟩:=R.ex;exact ⟨R.stp.trans k,⟨a,b,c.up k,d.up k,e⟩,R.ta.lift ⟨k.le⟩,R.tb.lift ⟨k.le⟩,R.ok,R.ga,R.gb⟩
theorem TwoH.turnA {c f a:Nat->Prop} (R:TwoH w0 σ0 w σ ha ta hb tb ca cb) (o:HeapIs w0.heap.size c σ w ha ta 50 ca) (h:HeapIs w0.heap.size f σ w hb tb 50 cb) (m: ∀k,c k-> ¬f k) (N:Nxt c w σ w' σ') (n:HeapIs w0.heap.size a σ' w' ha ta 50 ca') (hD: ∀j,a j->c j\/w.heap.size<=j) (g:GoodH W4 (Q3 W8) 50 ca'):TwoH w0 σ0 w' σ' ha ta hb tb ca' cb:=
 ⟨N.stp' R.stp fun k b=>(o.mem b).1,⟨a,f,n,h.nx N fun k b e=>m k e b,fun k b e=>by
  rcases hD k b with d | d
  .exact m k d e
  .have:=(h.mem e).2.1;omega⟩,R.ta.lift N.le,R.tb.lift N.le,R.ok,g,R.gb⟩
theorem TwoH.swap (R:TwoH w0 σ0 w σ ha ta hb tb ca cb):TwoH w0 σ0 w σ hb tb ha ta cb ca:=by
 obtain ⟨a,b,c,d,f⟩:=R.ex;exact ⟨R.stp,⟨b,a,d,c,fun k h e=>f k e h⟩,R.tb,R.ta,R.ok,R.gb,R.ga⟩
theorem TwoH.obj (R:TwoH w0 σ0 w σ ha ta hb tb ca cb) (d:3<=D0 50 ca) (h: ∀w' σ',TwoH w0 σ0 w' σ' ha ta hb tb (ca++[Pa]) cb->K (.tuple #[I ca.length,I 0]) w'):Q0 P F.q [ha,S gA] w K:=by
 obtain ⟨j,m,b,e,f⟩:=R.ex;refine Q8J R.stp.sat R.stp.bel.size b R.ta R.ok (k:=gA) W3 Q5 W3 fun w1 σ1 g c a hD=>?_;have G:=GoodH.obj Q3U Q71 R.ga gA;rw[X8c d] at a G⊢;exact h w1 σ1 (R.turnA b e f c a hD G)
theorem TwoH.set {n i:Int} {a:List Cel} (R:TwoH w0 σ0 w σ ha ta hb tb ca cb) (k:Glb σ) (m:Xv i) (e:H9 (fun _=>true) (Q3 W8) ca n 1 (rV i)=(a,0)) (h: ∀w' σ',SLe σ σ'->TwoH w0 σ0 w' σ' ha ta hb tb a cb->K (I 0) w'):Q0 P F.u [ha,I n,I 1, .agg [I (rV i).sort,I (rV i).n,S (rV i).s,I (rV i).ref].toArray] w K:=by
 obtain ⟨p,q,d,f,g⟩:=R.ex;have e:H9 W4 (Q3 W8) ca n 1 (rV i)=(a,0):=(X5C rfl).trans e;refine X24 R.stp.sat k d R.ta R.ok R.ga.cells ⟨rfl,show Xv 4 by decide,show Xv 0 by decide,Nat.zero_le _,m⟩ fun w1 σ1 b c=>?_
 have G:=GoodH.set R.ga n 1 (rV i);rw[e] at c G⊢;exact h w1 σ1 b.le (R.turnA d f g b c (fun j o=> .inl o) G)
theorem TwoH.freeze (R:TwoH w0 σ0 w σ ha ta hb tb ca cb): ∃c,X7 w c/\SLe σ c/\O7 c ha ta 50 ca/\O7 c hb tb 50 cb:=by
 obtain ⟨q,s,j,d,m⟩:=R.ex;obtain ⟨σ1,n,a,g,of⟩:=j.freeze R.stp.sat;obtain ⟨p,o,b,h,_⟩:=(d.shift a fun k f=>(of k fun e=>m k e f).trans (d.mem f).2.2).freeze n;exact ⟨p,o,a.more b,g.lift b,h⟩
theorem X1o (g:GoodH W4 (Q3 W8) 50 ca):Fit ca:=X3K g W3
set_option maxRecDepth 9999 in
set_option maxHeartbeats 4000000 in
theorem X6k (hs:X7 w σ) (Z:Glb σ) (h: ∀w' σ',Stp w σ w' σ'->K (.bool true) w'):Q0 P F.aL [] w K:=Q1a (by
 unfold Ep;simp only[N0,D9];unfold X6 Y0 X4;refine Q75 hs Z W3 fun Q N D1 a3 w1 σ1 k1 W b t1 ok=>?_;rw[show (50 % 301:Int)=50 from rfl] at W b
 refine J8 (vs:=[_,_]) rfl ?_;refine J8 (vs:=[_,_]) rfl ?_;refine D3 k1.sat fun b2 w2 σ2 s k2 j=>?_;refine Vk j rfl (by obtain ⟨lv,cv,rfl,_⟩:=D6.out b;rfl) (by rw[List.all_toArray];exact List.all_eq_true.2 (Rep.one b)) fun w3 u3 ab=>?_
 have d:Stp w1 σ1 w3 σ2:=u3.stp k2 s j.1;have q:=k1.trans d;have V:=W.up d;have J:=t1.lift (⟨d.le⟩:SLe σ1 σ2);refine Q75 q.sat (Z.lift ⟨q.le⟩) W3 fun U O D4 a5 w4 σ4 k4 M c t4 _=>?_;rw[show (50 % 301:Int)=50 from rfl] at M c
 refine J8 (vs:=[_,_]) rfl ?_;refine J8 (vs:=[_,_]) rfl ?_;refine D3 k4.sat fun b5 w5 σ5 t k5 m=>?_;refine Vk m rfl (by obtain ⟨lv,cv,rfl,_⟩:=D6.out c;rfl) (by rw[List.all_toArray];exact List.all_eq_true.2 (Rep.one c)) fun w6 u6 ac=>?_
 have g:Stp w4 σ4 w6 σ5:=u6.stp k5 t m.1;have f:=k4.trans g;have S6:=q.trans f
 have R:TwoH w σ w6 σ5 (.pointer (some ⟨Q,0,none⟩)) (.pointer (some N)) (.pointer (some ⟨U,0,none⟩)) (.pointer (some O)) [] []:=
  ⟨S6,⟨D1,D4,V.up f,(M.up g).mono q.bel.size,fun k hk e=>by have:=(V.mem hk).2.1;have:=(M.mem e).1;omega⟩,J.lift ⟨f.le⟩,t4.lift ⟨g.le⟩,ok,GoodH.empty W3,GoodH.empty W3⟩
 have aa: ∀{w σ'' ca cb},TwoH w σ w σ'' (.pointer (some ⟨Q,0,none⟩)) (.pointer (some N)) (.pointer (some ⟨U,0,none⟩)) (.pointer (some O)) ca cb->True:=fun _=>trivial;clear aa k1 d k4 g f q S6 V W M b c t1 J t4 j ab m ac u3 u6 k2 k5 s t;have L: ∀{w' σ'},Stp w σ w' σ'->Glb σ':=fun k=>Z.lift ⟨k.le⟩;refine Q6x ?_
 (repeat refine Hd.h ?_)
 refine Q6x ?_
 (repeat refine Hd.h ?_)
 refine Z7 ?_;refine R.obj W3 fun w7 σ7 R=>?_;refine J8 (vs:=[_,_]) rfl ?_;refine J8 (vs:=[_,_]) rfl ?_;refine R.swap.obj W3 fun w8 σ8 R=>?_;refine J8 (vs:=[_,_]) rfl ?_;refine J8 (vs:=[_,_]) rfl ?_;refine R.obj W3 fun w9 σ9 R=>?_;have R:=R.swap;refine J8 (vs:=[_,_]) rfl ?_;refine J8 (vs:=[_,_]) rfl ?_;refine P8 ?_;rw[show (!decide ((0:Int)=0))=false from rfl]
 (repeat refine Hd.h ?_)
 refine P8 ?_;rw[show (!decide ((0:Int)=0))=false from rfl]
 (repeat refine Hd.h ?_)
 refine P8 ?_;rw[show (!decide ((0:Int)=0))=false from rfl]
 (repeat refine Hd.h ?_)
 refine Xs R.stp.sat fun bd b0 ae=>?_;have R:=R.up ae
 (repeat refine Hd.h ?_)
 refine R.set (L R.stp) W3 X6R fun be b3 _ R=>?_
 (repeat refine Hd.h ?_)
 refine P8 ?_;rw[show (!decide ((0:Int)=0))=false from rfl]
 (repeat refine Hd.h ?_)
 refine Xs R.stp.sat fun bf b6 af=>?_;have R:=R.up af
 (repeat refine Hd.h ?_)
 refine R.swap.set (L R.stp) W3 X6S fun bg b7 _ R=>?_
 (repeat refine Hd.h ?_)
 refine P8 ?_;rw[show (!decide ((0:Int)=0))=false from rfl]
 (repeat refine Hd.h ?_)
 refine Xs R.stp.sat fun bh b8 ag=>?_;have R:=R.up ag
 (repeat refine Hd.h ?_)
 refine R.set (L R.stp) W3 X6T fun bi b9 _ R=>?_
 (repeat refine Hd.h ?_)
 refine P8 ?_;rw[show (!decide ((0:Int)=0))=false from rfl]
 (repeat refine Hd.h ?_)
 refine Z7 ?_;refine R.obj W3 fun bj cc R=>?_;refine J8 (vs:=[_,_]) rfl ?_;refine J8 (vs:=[_,_]) rfl ?_;refine B1 ?_;rw[show decide ((0:Int)=0)=true from rfl]
 (repeat refine Hd.h ?_)
 refine Xs R.stp.sat fun bk cd ah=>?_;have R:=R.up ah
 (repeat refine Hd.h ?_)
 refine R.set (L R.stp) W3 X6U fun ak al _ R=>?_
 (repeat refine Hd.h ?_)
 refine B1 ?_;rw[show decide ((0:Int)=0)=true from rfl]
 (repeat refine Hd.h ?_)
 have R:TwoH w σ ak al (.pointer (some ⟨Q,0,none⟩)) (.pointer (some N)) (.pointer (some ⟨U,0,none⟩)) (.pointer (some O)) [Ul 0] gxB:=R.swap;obtain ⟨σf,sf,p,ha,hb⟩:=R.freeze;have ta:=R.ta.lift p;have tb:=R.tb.lift p;have fa:=X1o R.ga;have a:=X1o R.gb;have ok:=R.ok;refine Xs sf fun bl ce n=>?_
 (repeat refine Hd.h ?_)
 refine Xs n.sat fun bm cf y=>?_;have k:=n.trans y
 (repeat refine Hd.h ?_)
 refine Q6F (v:=rV 0) (u:=rV 2) k.sat (ha.lift ⟨k.le⟩) (hb.lift ⟨k.le⟩) (ta.lift ⟨k.le⟩) (tb.lift ⟨k.le⟩) ok fa.good a.good fa.len a.len fa.sz a.sz fun bn cg z=>?_;rw[X58];have k:=k.trans z;clear n y z
 (repeat refine Hd.h ?_)
 refine Xs k.sat fun bo ch o=>?_
 (repeat refine Hd.h ?_)
 refine Xs o.sat fun bp ci A=>?_;have k:=k.trans (o.trans A)
 (repeat refine Hd.h ?_)
 refine Q6F (v:=rV 0) (u:=rV 0) k.sat (ha.lift ⟨k.le⟩) (hb.lift ⟨k.le⟩) (ta.lift ⟨k.le⟩) (tb.lift ⟨k.le⟩) ok fa.good a.good fa.len a.len fa.sz a.sz fun bq cj B=>?_;rw[X8b];have k:=k.trans B;clear o A B
 (repeat refine Hd.h ?_)
 refine Xs k.sat fun br ck C=>?_;have k:=k.trans C
 (repeat refine Hd.h ?_)
 refine X6o (v:=rV 0) k.sat (hb.lift ⟨k.le⟩) (tb.lift ⟨k.le⟩) ok a.good a.len a.sz fun bs cl D=>?_;rw[X59];have k:=k.trans D;clear C D
 (repeat refine Hd.h ?_)
 refine Xs k.sat fun bu cm E=>?_;have k:=k.trans E
 (repeat refine Hd.h ?_)
 refine Q6H (v:=rV 0) k.sat (hb.lift ⟨k.le⟩) (tb.lift ⟨k.le⟩) ok a.good a.len a.sz fun bb bv cn H X=>?_;have k:=k.trans H;clear E H
 (repeat refine Hd.h ?_)
 refine Q7 X ?_;rw[show ((ints (L6 (Q3 W8) gxB (rV 0))).length:Int)=2 by rw[show (ints (L6 (Q3 W8) gxB (rV 0))).length=2 by simp[X5a]];rfl]
 (repeat refine Hd.h ?_)
 refine B1 ?_;rw[show decide ((2:Int)=2)=true from rfl]
 (repeat refine Hd.h ?_)
 refine X3g (r:=((0:Nat):Int)) k.sat (hb.lift ⟨k.le⟩) (tb.lift ⟨k.le⟩) ok a.good (a.sz _) fun bc bw co ai Y=>?_;have k:=k.trans ai
 (repeat refine Hd.h ?_)
 refine Q7 Y ?_;have e0:N1 (Q3 W8) gxB ((0:Nat):Int)=Pv (Q3 W8) (Ul 1):=Q3K W3;rw[show ((ints (N1 (Q3 W8) gxB ((0:Nat):Int))).length:Int)=2 by rw[e0,show (ints (Pv (Q3 W8) (Ul 1))).length=2 by simp[X6Q]];rfl]
 (repeat refine Hd.h ?_)
 refine B1 ?_;rw[show decide ((2:Int)=2)=true from rfl]
 (repeat refine Hd.h ?_)
 exact h _ _ (R.stp.trans (k.weak p.le)))
variable {cs : List Cel} {hp tv : Value} {q : Addr} {ds : List Value}
structure HS (σ : Q2) (hp tv : Value) (q : Addr) (ds : List Value) (cs : List Cel) : Prop where
  h : O7 σ hp tv 300 cs
  q : J7 σ q ds
  r : D6 σ (Q3 W8, 300, cs) ds
  t : Tab σ tv (Q3 W8)
theorem HS.lift (H:HS σ hp tv q ds cs) (a:SLe σ σ'):HS σ' hp tv q ds cs:=⟨H.h.lift a,H.q.lift a,U9 H.r a,H.t.lift a⟩
theorem HS.up (H:HS σ hp tv q ds cs) (k:Stp w σ w' σ'):HS σ' hp tv q ds cs:=H.lift ⟨k.le⟩
theorem X6h {xs:List ActH} {v:Value} {A:Value->Value->World->Prop} (p:X7 w σ) (n:Glb σ) (r:Sl 8 Gn σ v xs)
 (h: ∀a tv q ds w' σ',Stp w σ w' σ'->Ok (Q3 W8)->HS σ' (.pointer (some a)) tv q ds (Dw xs)->A (.pointer (some a)) (.pointer (some q)) w'):
 Q0 P F.ak [v] w fun b w=>ext P b 0 w fun e w=>ext P b 1 w fun f w=>G9 P T.a w fun j w=>J9 P T.a j f w fun _u w=>A e j w:=by
 refine X6m p n r fun a tv ds w1 σ1 g m d t ok=>?_;refine J8 (vs:=[_,_]) rfl ?_;refine J8 (vs:=[_,_]) rfl ?_;have s:=d;obtain ⟨B,z,rfl,_⟩:=D6.out d;refine J6 (sz:=3) g.sat rfl rfl (Rep.one s) fun q u y c o=>?_;exact h a tv q _ u y (g.trans c) ok ⟨m.lift ⟨c.le⟩,o,U9 d ⟨c.le⟩,t.lift ⟨c.le⟩⟩
theorem X9g {o:Operand} {a:Addr} {A:Value->World->Prop} (j:X7 w σ) (g:Glb σ) (h: ∀w' σ',Stp w σ w' σ'->A (.bool false) w'):
 Q0 P F.aL [] w fun c w=>W0 P .not c w fun b w=>Q1 b false w (fun w J=>J (.pointer (some a)) w) fun d w=>Q1 b false w (Z9 P .eql T.a1 o (.const (.pointer none)) d (.pointer none)) fun e w=>pick P b (.bool true) e w fun f w=>A f w:=by
 refine X6k j g fun w1 σ1 m=>?_;refine Zv ?_;rw[Bool.not_true]
 (repeat refine Hd.h ?_)
 refine Q6x ?_
 (repeat refine Hd.h ?_)
 exact h _ _ m
theorem Q81 {K:Value->World->Prop} (H:HS σ hp tv q ds cs) (d:X7 w σ) (h:K (I cs.length) w):fieldAddr P T.a (.pointer (some q)) 2 w fun a w=>Q6 P T.g a w fun b w=>V0 P .len [T.g] T.f [false] [b] w K:=by
 obtain ⟨f,e,rfl,_,c⟩:=D6.out H.r;refine J4 ?_;refine ld (i:=2) d H.q rfl ?_;exact Q7 c h
theorem X16 {b e:Value} {m:Addr} {c:List Value} {a:List Cel} {v u:Val} (j:X7 w σ) (ok:Ok (Q3 W8)) (H:HS σ hp tv q ds cs) (g:HS σ b e m c a) (f:Fit cs) (d:Fit a) (h: ∀w' σ',Stp w σ w' σ'->K (.bool (Xz (Q3 W8) cs a v u)) w'):
 Q0 P F.aG [hp, .agg [I v.sort,I v.n,S v.s,I v.ref].toArray,b, .agg [I u.sort,I u.n,S u.s,I u.ref].toArray] w K:=
 Q6F j H.h g.h H.t g.t ok f.good d.good f.len d.len f.sz d.sz h
theorem X5S {j:Addr} {d e:Value} {b:List Value} {a:List Cel} {v u:Val} (i:X7 w σ) (ok:Ok (Q3 W8)) (H:HS σ hp tv q ds cs) (g:HS σ d e j b a) (f:Fit cs) (c:Fit a) (h: ∀w' σ',Stp w σ w' σ'->K (.bool (Xz (Q3 W8) cs a v u)) w'):
 Q0 P F.am [.agg ds.toArray, .agg [I v.sort,I v.n,S v.s,I v.ref].toArray, .agg b.toArray, .agg [I u.sort,I u.n,S u.s,I u.ref].toArray] w K:=
 X2M i H.r g.r ok W3 f.good c.good f.len c.len f.sz c.sz (by rw[<-X35 f.refs c.refs];exact h)
theorem Q44 {K:Value->World->Prop} (a:X7 w σ) (H:HS σ hp tv q ds cs) (h:K (.agg ds.toArray) w):Q6 P T.a (.pointer (some q)) w K:=
 Y7 a H.q (by obtain ⟨c,b,rfl,_⟩:=D6.out H.r;rfl) h
set_option maxRecDepth 9999 in
set_option maxHeartbeats 4000000 in
theorem Q9k {v u:Value} {xs ys:List ActH} {x y:Val} {c e:List Value} (hs:X7 w σ) (hg:Glb σ) (hv:Sl 8 Gn σ v xs) (hu:Sl 8 Gn σ u ys) (hx:E4 σ x c) (hy:E4 σ y e) (h: ∀w' σ',Stp w σ w' σ'->K (.bool true) w'):Q0 P F.c9 [v,u, .agg (List.toArray (c++e))] w K:=Gc (by
 obtain ⟨rfl,x1,x2,x3,x4⟩:=hx;obtain ⟨rfl,y1,y2,y3,y4⟩:=hy;unfold Wh;simp only[Y3,X3,L9,N0,D9];unfold zhi Y1 V1 V3 X6 Y0 V5 X5;refine Z4 hs fun H wa σa ka Q=>?_;have ai:=hg.lift ⟨ka.le⟩;refine X6h ka.sat ai (hv.up ka) fun a1 a6 q1 J w1 σ1 k1 ok A=>?_;have o:=ka.trans k1;refine X6h k1.sat (hg.lift ⟨o.le⟩) (hu.up o) fun a2 a7 q2 L w2 σ2 Y _ E=>?_;have S2:=o.trans Y;have A:=A.up Y;have fa:=Q7y xs;have M:=Q7y ys;refine X9g Y.sat (hg.lift ⟨S2.le⟩) fun w3 σ3 Z=>?_;have B:=S2.trans Z;have A:=A.up Z;have E:=E.up Z;have C:=((Q.up k1).up Y).up Z;have R:J7 σ3 (H.add (0*4)) [I x.sort,I x.n,S x.s,I x.ref]:=Fp C 0 4;have W:J7 σ3 (H.add (1*4)) [I y.sort,I y.n,S y.s,I y.ref]:=Fp C 4 4;clear k1 Y Z S2 ka o Q C
 (repeat refine Hd.h ?_)
 refine Q6x ?_
 (repeat refine Hd.h ?_)
 refine Z7 ?_;generalize Dw xs=ca at*;generalize Dw ys=cb at*;have ar:=fa.len;have av:=M.len;refine Q44 B.sat A ?_;refine Pw (k:=0) W3 ?_;refine Y7 B.sat R rfl ?_;refine X5v B.sat A.r x3 fun w4 σ4 j=>?_;refine Qu (u:=[]) ?_;have al:X1 (.bool true) (K (.bool true) w4) (K (.bool true) w4):=Z3 (h _ _ (B.trans j));cases ex:decide (Qd W4 ca x=[]) with
 | true=>
  (repeat refine Hd.h ?_)
  exact Z3 (h _ _ (B.trans j))
 | false=>
 (repeat refine Hd.h ?_)
 refine Q44 j.sat (E.up j) ?_
 (repeat refine Hd.h ?_)
 refine Pw (k:=1) W3 ?_
 (repeat refine Hd.h ?_)
 refine Y7 j.sat (W.up j) rfl ?_
 (repeat refine Hd.h ?_)
 refine X5v j.sat (E.up j).r y3 fun w5 σ5 k5=>?_
 (repeat refine Hd.h ?_)
 refine Qu (u:=[]) ?_
 (repeat refine Hd.h ?_)
 have aa:=j.trans k5;cases ey:decide (Qd W4 cb y=[]) with
 | true=>exact Z3 (h _ _ (B.trans aa))
 | false=>
 refine Z7 ?_;clear al j k5;refine V7 ca.length (fun i w'=> ∃σ',Stp w3 σ3 w' σ') ⟨σ5,aa⟩ fun i w6 d hi g=>?_;obtain ⟨σ6,D⟩:=g;have p:=A.up D;have z:=E.up D;have s6:=D.sat;refine Q81 p s6 ?_;refine J0 ?_;refine Q4 (fun O=>?_) (fun O=>?_)
 case refine_2=>
  have U:=R.up D;have X:=W.up D;refine U8 s6 ?_;refine X0 (V:= .pointer (some (H.add (0*4)))) (fun w a=>Pw (k:=0) W3 (Q8 rfl)) ?_;refine X0 (V:= .pointer (some (H.add (1*4)))) (fun w a=>Pw (k:=1) W3 (Q8 rfl)) ?_;refine X0 (V:= .pointer (some (H.add (0*4)))) (fun w a=>Pw (k:=0) W3 (Q8 rfl)) ?_;refine X0 (V:= .pointer (some (H.add (1*4)))) (fun w a=>Pw (k:=1) W3 (Q8 rfl)) ?_;refine X0 (V:= .agg [I x.sort,I x.n,S x.s,I x.ref].toArray) (fun t w a f=>by subst f;exact Y7 a.sat (U.up a.stp) rfl (Q8 rfl)) ?_
  refine X0 (V:= .agg [I y.sort,I y.n,S y.s,I y.ref].toArray) (fun t w a f=>by subst f;exact Y7 a.sat (X.up a.stp) rfl (Q8 rfl)) ?_
  refine X0 (V:= .bool (Xz (Q3 W8) ca cb x y)) (fun t t2 w a f e2=>by
   subst f;subst e2;exact X16 a.sat ok (p.up a.stp) (z.up a.stp) fa M fun w' σ' b=>B5 b.bel rfl) ?_
  refine X0 (V:= .agg J.toArray) (fun w a=>Q44 a.sat (p.up a.stp) (Q8 rfl)) ?_;refine X0 (V:= .agg [I x.sort,I x.n,S x.s,I x.ref].toArray) (fun t w a f=>by subst f;exact Y7 a.sat (U.up a.stp) rfl (Q8 rfl)) ?_
  refine X0 (V:= .agg L.toArray) (fun w a=>Q44 a.sat (z.up a.stp) (Q8 rfl)) ?_;refine X0 (V:= .agg [I y.sort,I y.n,S y.s,I y.ref].toArray) (fun t w a f=>by subst f;exact Y7 a.sat (X.up a.stp) rfl (Q8 rfl)) ?_
  rintro _ _ _ _ _ _ _ _ _ _ _ w7 l rfl rfl rfl rfl rfl rfl rfl rfl rfl rfl rfl;refine X5S l.sat ok (p.up l.stp) (z.up l.stp) fa M fun w8 σ8 k8=>?_;rw[X6b];rw[show (Xz (Q3 W8) ca cb x y==Xz (Q3 W8) ca cb x y)=true by simp]
  exact h _ _ (((B.trans D).trans l.stp).trans k8)
 have aj:i<ca.length:=by simpa using O
 refine V7 cb.length (fun k w'=> ∃σ',Stp w3 σ3 w' σ') ⟨σ6,D⟩ fun k w7 d2 b g=>?_;obtain ⟨σ7,k7⟩:=g;have p:=A.up k7;have z:=E.up k7;have s7:=k7.sat;refine Q81 z s7 ?_;refine J0 ?_;refine Q4 (fun N=>?_) (fun N=>?_)
 case refine_2=>
  (try simp only[↓M1,M1,Mb,reduceIte])
  exact Z5 Q5 aj ⟨σ7,k7⟩
 have ak:k<cb.length:=by simpa using N
 refine U8 s7 ?_;refine X0 (V:= .agg [I (rV i).sort,I (rV i).n,S (rV i).s,I (rV i).ref].toArray) (fun w a=>Xs a.sat fun w' σ' b=>B5 b.bel rfl) ?_;refine X0 (V:= .agg [I (rV k).sort,I (rV k).n,S (rV k).s,I (rV k).ref].toArray) (fun w a=>Xs a.sat fun w' σ' b=>B5 b.bel rfl) ?_
 refine X0 (V:= .bool (Xz (Q3 W8) ca cb (rV i) (rV k))) (fun t t2 w a f e2=>by
  subst f;subst e2;exact X16 (v:=rV i) (u:=rV k) a.sat ok (p.up a.stp) (z.up a.stp) fa M fun w' σ' b=>B5 b.bel rfl) ?_
 refine X0 (V:= .agg J.toArray) (fun w a=>Q44 a.sat (p.up a.stp) (Q8 rfl)) ?_;refine X0 (V:= .agg [I (rV i).sort,I (rV i).n,S (rV i).s,I (rV i).ref].toArray) (fun w a=>Xs a.sat fun w' σ' b=>B5 b.bel rfl) ?_;refine X0 (V:= .agg L.toArray) (fun w a=>Q44 a.sat (z.up a.stp) (Q8 rfl)) ?_;refine X0 (V:= .agg [I (rV k).sort,I (rV k).n,S (rV k).s,I (rV k).ref].toArray) (fun w a=>Xs a.sat fun w' σ' b=>B5 b.bel rfl) ?_;rintro _ _ _ _ _ _ _ w8 m rfl rfl rfl rfl rfl rfl rfl;refine X5S (v:=rV i) (u:=rV k) m.sat ok (p.up m.stp) (z.up m.stp) fa M fun w9 σ9 k9=>?_;rw[X6c];rw[show (!(Xz (Q3 W8) ca cb (rV i) (rV k)==Xz (Q3 W8) ca cb (rV i) (rV k)))=false by simp]
 refine Z7 ?_
 (try simp only[↓M1,M1,Mb,reduceIte])
 exact Z5 Q5 ak ⟨σ9,(k7.trans m.stp).trans k9⟩)
end Go.Proofs.Y
namespace Go.Proofs.YtkllbfjojoncaaaGreatDoor.graphAlike
open Go.Proofs.Y Go.ChangeShapes Go.WideShapes Go.ChangeAt Go.RowKit Go.Emb
theorem own : ownKnob Tryz.prog.godebug = none := by kernel_rfl
theorem lay : laidOutB Tryz.prog = true := by kernel_rfl
set_option maxRecDepth 100000 in
theorem X8f (os : Os) (started : os.Started) (H : Type) (enc : TypeId × Value -> H) :
    ReturnsInHanded {} Tryz.checked os 3 .any (fun w args => (Rows.graphAlikeSpec.pre enc Tryz.prog Tryz.f3 [] false w args /\ laidMetH Tryz.prog laidAll w) /\ sizedMet enc Tryz.prog Tryz.f3 (OpenSpec.ofChange Rows.graphAlikeSpec) false w args) (Rows.graphAlikeSpec.post enc Tryz.prog Tryz.f3 false true false false) := by
  refine returnsInHanded_of_change_and (C := Tryz.checked) (X := fun w _ => laidMetH Tryz.prog laidAll w) (fun _ _ _ hh h => h.of_heap hh) own started (by kernel_rfl) Tryz.func3
    (ChangeSpec.witness_shaped (enc := enc) (C := Tryz.checked) (os := os) (X := fun w _ => laidMetH Tryz.prog laidAll w) false (World.laidAll Tryz.prog os laidAll) #[.slice none 0 0, .slice none 0 0, .agg #[.int .i64 0, .int .i64 0, .string ByteArray.empty, .int .i64 0, .int .i64 0, .int .i64 0, .string ByteArray.empty, .int .i64 0]] 8 (World.laidAll_os _ _ _)
      (World.shaped_of_ZipB (by kernel_rfl) (by kernel_rfl)) (by kernel_rfl) (by kernel_rfl) (by kernel_rfl) (by rw [MakeChecks.laidMetH_plain _ _ _ (by kernel_rfl)]; exact laidMet_laidAll _ (by kernel_rfl) (by kernel_rfl))) ?_
  intro W base args ds gs before hval0 hW _ hsz0 hL _
  have hsz : (DataW.weightsEach Tryz.prog (Tryz.f3.params.toList ++ Rows.graphAlikeSpec.plain.varTypes Tryz.prog) (ds ++ gs)).all (· <= reachBytes) = true := hsz0
  have hval : ∀ (j : Nat) t v, Tryz.f3.params[j]? = some t -> args[j]? = some v -> Value.okWide Tryz.prog W .any base t v := hval0
  have hW' := hW
  obtain ⟨p, q, hA0, hV, rfl, hfz, hnd⟩ := hW
  have hA : DataW.TrodAll enc Tryz.prog W 0 (fun _ => true) true Tryz.f3.params.toList args.toList ds p := hA0
  have hlt := DataW.TrodAll.lt hA
  rw [Tryz.params3] at hA hval hsz
  obtain ⟨v0, vs0, d0, ds0, p0, q0, hargs, rfl, rfl, h0, r0⟩ := trodAll_cons hA
  obtain ⟨v1, vs1, d1, ds1, p1, q1, rfl, rfl, rfl, h1, r1⟩ := trodAll_cons r0
  obtain ⟨v2, vs2, d2, ds2, p2, q2, rfl, rfl, rfl, h2, r2⟩ := trodAll_cons r1
  obtain ⟨rfl, rfl, rfl⟩ := trodAll_nil r2
  obtain rfl : args = #[v0, v1, v2] := by cases args; simp_all
  obtain ⟨rfl, rfl⟩ := trodVars_none hV
  have g0 : ∀ x ∈ p0, x.block < W.heap.size := fun x hx => hlt x (by simp [hx])
  have k0 := fun (W' : World) (bel : Below W.heap.size W W') => Below.trod lay (by kernel_rfl) (of_decide_eq_true (by kernel_rfl)) h0 bel g0
  obtain ⟨l0, e0⟩ := X1q (hval 0 22 v0 rfl rfl) h0 (X0f hsz (j := 0) (t := 22) rfl rfl)
  have g1 : ∀ x ∈ p1, x.block < W.heap.size := fun x hx => hlt x (by simp [hx])
  have k1 := fun (W' : World) (bel : Below W.heap.size W W') => Below.trod lay (by kernel_rfl) (of_decide_eq_true (by kernel_rfl)) h1 bel g1
  obtain ⟨l1, e1⟩ := X1q (hval 1 22 v1 rfl rfl) h1 (X0f hsz (j := 1) (t := 22) rfl rfl)
  have g2 : ∀ x ∈ p2, x.block < W.heap.size := fun x hx => hlt x (by simp [hx])
  have k2 := fun (W' : World) (bel : Below W.heap.size W W') => Below.trod lay (by kernel_rfl) (of_decide_eq_true (by kernel_rfl)) h2 bel g2
  obtain ⟨y2, z2, c2, f2, rfl, e2, m2⟩ := X6W (hval 2 25 v2 rfl rfl) h2 (X0f hsz (j := 2) (t := 25) rfl rfl)
  have hc : Q0 Tryz.prog 3 [v0, v1, .agg (List.toArray (c2 ++ f2))] W (fun e w' => e = .bool true /\ Below W.heap.size W w') := Q9k X4p (X8a hL) e0 e1 e2 m2 (fun w' σ' hb => ⟨rfl, hb.bel⟩)
  refine (Q6J Tryz.func3 (by kernel_rfl) (by kernel_rfl) hc).mono fun e W' he => ?_
  obtain ⟨v, rfl⟩ : ∃ v, e = .returned v := by cases e <;> first | exact ⟨_, rfl⟩ | exact he.elim
  obtain ⟨rfl, bel⟩ := he
  exact ⟨_, rfl, _, _, _, [], _, [], hW', trodAll_mk1 (shut_bool Tryz.underlying4 _), (trodAll_cons_mk (k0 W' bel) (trodAll_cons_mk (k1 W' bel) (trodAll_cons_mk (k2 W' bel) trodAll_mk0))), rfl, bel.frame _, fun h => by cases h⟩
theorem over : Rows.graphAlikeRow.holds Tryz.pinned (OpenSpec.ofChange Rows.graphAlikeSpec) :=
  OpenClaim.holds_of_wide 3 Tryz.f3 rfl rfl rfl rfl rfl rfl rfl ⟨rfl, rfl, rfl, rfl, rfl⟩ rfl rfl rfl rfl rfl (by kernel_rfl) Tryz.func3 (by kernel_rfl)
    (of_decide_eq_true (by kernel_rfl)) (by unfold Func.isWrapper; first | (rw [if_pos (by decide +kernel)]; kernel_rfl) | (rw [if_neg (by decide +kernel)]; exact ⟨rfl, rfl⟩))
    (fun os started H enc _ => X8f os started H enc)
end Go.Proofs.YtkllbfjojoncaaaGreatDoor.graphAlike
namespace Go.Proofs.YtkllbfjojoncaaaGreatDoor
open Go.Proofs.Y
theorem Q5f : Rows.GraphAlikeSaid := graphAlike.over
end Go.Proofs.YtkllbfjojoncaaaGreatDoor
