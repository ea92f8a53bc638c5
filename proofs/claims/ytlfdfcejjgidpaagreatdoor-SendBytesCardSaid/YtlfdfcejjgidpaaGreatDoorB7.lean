/- Parts of a proof about the given program: its functions as texts of their own, what each computes, plain laws of that. The conditions of each stand in its statement. -/
import Derived.Test.YtlfdfcejjgidpaaGreatDoorB6
import Derived.Test.YtlfdfcejjgidpaaGreatDoorRows
import Derived.Test.YtlfdfcejjgidpaaGreatDoorB4
import Derived.WalkKit
import Derived.ProofKit
import Derived.OpenShut
import Derived.ShutString
import Derived.ChangeOld
import Derived.Below
import Derived.SizedLaws
import Derived.Lay
import Derived.Carry
import Derived.MakeChecks
import Derived.PinnedBridge
set_option linter.unnecessarySimpa false
set_option linter.defProp false
set_option linter.unusedSectionVars false
set_option linter.unusedVariables false
set_option linter.unusedSimpArgs false
namespace Go.Emb
open Go.RowKit
variable {w w' : World} {σ : Q2}
theorem X8m {zs:List Value} {A a:(Value->World->Prop)->Prop} (h:A (fun v w'=> ∃b,v= .pointer (some ⟨b,0,none⟩)/\w.heap.size<=b/\Z7 σ w' b zs)) (g:a (fun v w'=> ∃b,v= .pointer (some ⟨b,0,none⟩)/\w.heap.size<=b/\Z7 σ w' b zs)):V2 (fun w w'=>Below w.heap.size w w') A a:=
 F4 _ (fun _ _ _ ⟨b,e,d,f⟩ c=>⟨b,e,d,f.kp (D:=fun _=>False) (.of_below c) id⟩) h g
end Go.Emb
namespace Go.Hm
open Go.Kd Go.Emb
theorem X0E {xs:List Q9} {k:Q9}:E1 (xs.findIdx? fun y=>decide (y=k))<0↔ ¬k∈xs:=by
 cases e:xs.findIdx? fun y=>decide (y=k) with
 | none=>
  rw[List.findIdx?_eq_none_iff] at e;refine ⟨fun _ h=>?_,fun _=>by decide⟩
  have:=e k h
  simp at this
 | some i=>
  obtain ⟨a,b,_⟩:=List.findIdx?_eq_some_iff_getElem.1 e;refine ⟨fun h=>?_,fun h=>absurd ((of_decide_eq_true b)▸List.getElem_mem a) h⟩
  simp[E1] at h
  omega
end Go.Hm
namespace Go.Proofs.Y
open Go.Emb Go.RowKit Go.Kd Go.Hm
variable {w w' : World} {K : Value -> World -> Prop} {σ σ' : Q2} {room : Int} {cs : List Cel} {ds : List Value} {l : List Cla} {refs : List Nat} {vs : List Val}
theorem Q85 {x:Nat} {v:Value} {cs:List Cel} (h:Sl 2 Xt σ v cs) (b:x<cs.length): ∃a,U0 σ (K4 2 v x) [S (Ed cs x),a]/\Sl 4 O6 σ a cs[x].vals/\(Ed cs x).length<=V4:=by
 obtain ⟨a,c,d,f⟩:=Sl.elO h b
 have e:Ed cs x=cs[x].kind:=by
  unfold Ed Xk;rw[List.getD_eq_getElem?_getD,List.getElem?_eq_getElem b];rfl
 exact ⟨a,by rw[e];exact c,d,by rw[e];exact f⟩
set_option maxHeartbeats 1000000 in
theorem Q7y {v:Value} (hs:X3 w σ) (hh:E0 σ (l,room,cs) ds) (ok:Ok l) (N:l.length<=1000) (M: ∀c∈cs,GoodC V8 l cs c) (hc:cs.length<=1048576) (hN: ∀r,Jm cs r<=1000000000000) (hv:Sl 4 O6 σ v vs)
 (h: ∀v' w' σ',Stp w σ w' σ'->Sl 1 O5 σ' v' (ints (L4 l cs vs))->K v' w'):Q0 P F.aT [.agg ds.toArray,v] w K:=Q2l (by
 have ai:=hh;obtain ⟨U,cv,rfl,_,_⟩:=E0.out hh;unfold Rh;simp only[Y5,X5];unfold J3 X4 X2 X1;refine Z6 hs fun q w1 σ1 k1 hq=>?_;refine Xu (R:=O5) (sz:=1) (Stp.refl k1.sat) [] [] rfl rfl V5 (by rfl) trivial fun v2 w2 k2 ae _=>?_
 refine O4 vs.length (fun i U w'=> ∃σ',Stp w1 σ1 w' σ'/\J7 w1.heap.size T.e 1 O5 σ' w' U (ints (L4 l cs (vs.take i)))) ⟨σ1,k2,J7.of_acc ae⟩ fun i la w3 d hi b=>?_;obtain ⟨σ3,E,Z⟩:=b;have D:=k1.trans E;have p:=hv.up D;refine Q6 p ?_;refine Y9 ?_;refine Q4 (fun C=>?_) (fun C=>?_)
 .have m:i<vs.length:=by simpa using C
  obtain ⟨p1,p2⟩:=Sl.elV p m;have O:=hq.up E;refine V3 E.sat ?_;refine Y3 (V:= .pointer (some (K4 4 v i))) (fun w H=>Y7 p m (X9 rfl)) ?_;refine Y3 (V:= .agg [U,I room,cv].toArray) (fun w H=>Z3 H.sat (O.up H.stp) rfl (X9 rfl)) ?_;refine Y3 (V:= .agg [I vs[i].sort,I vs[i].n,S vs[i].s,I vs[i].ref].toArray) (fun t w H e=>by subst e;exact Z3 H.sat (p1.up H.stp) rfl (X9 rfl)) ?_
  rintro _ _ _ w4 a rfl rfl rfl;have Q:=D.trans a.stp;refine X5V a.sat (W0 ai ⟨Q.le⟩) ok N M hc hN fun rv w5 σ5 k5 hX=>?_;have S5:=(E.trans a.stp).trans k5;have A5:=(Z.up a.stp).up k5;have ag: ∀j,(F0 (L4 l cs (vs.take i)) ((I6 l cs vs[i]).take j)).length<=cs.length:=fun j=>X36;have ad: ∀x∈I6 l cs vs[i],x<cs.length:=fun x hx=>Q2r hx;have a9:(I6 l cs vs[i]).length<=cs.length:=X1p;have et:=Q69 (l:=l) (cs:=cs) m;generalize I6 l cs vs[i]=X at*;have ab:(ints X).length=X.length:=by simp
  clear Z E D Q a k5 p1 p2 p O;refine O4 X.length (fun j U w'=> ∃σ',SLe σ5 σ'/\Stp w1 σ1 w' σ'/\J7 w1.heap.size T.e 1 O5 σ' w' U (ints (F0 (L4 l cs (vs.take i)) (X.take j)))) ⟨σ5,SLe.refl _,S5,by simpa [F0] using A5⟩ fun j lb w6 d2 hj b=>?_
  obtain ⟨σ6,g,A,J⟩:=b;refine Q6 (hX.lift g) ?_;rw[ab];refine Y9 ?_;refine Q4 (fun B=>?_) (fun B=>?_)
  .have f:j<X.length:=by simpa using B
   refine Qt (fun ar w'=> ∃σ',SLe σ5 σ'/\Stp w1 σ1 w' σ'/\J7 w1.heap.size T.e 1 O5 σ' w' ar (ints (F0 (L4 l cs (vs.take i)) (X.take (j+1))))) ?_ (fun z dd w7 hz=>?_)
   .have hl:=ag j
    have bd:=ad _ (List.getElem_mem f);rw[Aj f];generalize F0 (L4 l cs (vs.take i)) (X.take j)=Y at*;refine Ky A.sat (hX.lift g) f ?_;obtain ⟨σf,sf,bm,am,_⟩:=J.freeze A.sat;refine X1q sf am ?_;refine Y9 ?_
    have u:((X[j]:Nat):Int)∈ints Y↔X[j]∈Y:=⟨fun e=>by
     obtain ⟨y,hy,ey⟩:=List.mem_map.1 e;have ey:y=X[j]:=by omega
     exact ey▸hy,fun e=>List.mem_map.2 ⟨_,e,rfl⟩⟩
    by_cases o:X[j]∈Y
    .rw[decide_eq_false (fun e=>X0Y.1 e (u.2 o))]
     refine Z0 ?_;rw[Yb,if_pos o];exact ⟨σ6,g,A,J⟩
    .rw[decide_eq_true (X0Y.2 fun e=>o (u.1 e))]
     refine Z1 ?_;rw[Yb,if_neg o];refine Ky A.sat (hX.lift g) f ?_;refine C1 (R:=O5) (sz:=1) A.sat [I (X[j]:Nat)] [((X[j]:Nat):Int)] rfl rfl (by simp;rfl) rfl ⟨⟨rfl,by omega,by omega⟩,trivial⟩ fun v7 w7 W k7 al=>?_
     have L:=A.trans k7;have A7:=J.up k7;refine Il L.sat L.bel.size A7 al (by rfl) (by simp;omega) (by simp;omega) fun v8 w8 af aj ah ba=>?_
     have N8:Nxt (fun k=>Value.ownBlock (lb,I j).1=some k) w7 W w8 W:=⟨af.mono fun k _ e=>e.1,SLe.refl _,fun _ _=>rfl,aj⟩;exact ⟨W,g.more ⟨k7.le⟩,L.nx N8 fun k hk=>(A7.mem hk).1,by simpa using ah⟩
   .obtain ⟨W,aq,L,A7⟩:=hz
    (try simp only[↓M1,M1,Mb,reduceIte])
    exact Z8 Q5 f ⟨W,aq,L,A7⟩
  .have e:j=X.length:=by simp at B;omega
   subst e;rw[List.take_length,<-et] at J
   (try simp only[↓M1,M1,Mb,reduceIte])
   exact Z8 hv.max m ⟨σ6,A,J⟩
 .have e:i=vs.length:=by simp at C;omega
  subst e;rw[List.take_length] at Z;obtain ⟨σ4,S4,ak,_⟩:=Z.keep E;exact h la w3 σ4 (k1.trans S4) ak)
set_option maxHeartbeats 1000000 in
theorem X4q {v:Value} (hs:X3 w σ) (hh:E0 σ (l,room,cs) ds) (hc:cs.length<=1048576) (hv:Sl 1 O5 σ v (ints refs)) (hr: ∀x∈refs,x<cs.length) (hn:refs.length<=cs.length)
 (h: ∀v' w' σ',Stp w σ w' σ'->Sl 1 L1 σ' v' (U5 cs refs)->K v' w'):Q0 P F.bW [.agg ds.toArray,v] w K:=Q2k (by
 obtain ⟨E,D,rfl,_,Q⟩:=E0.out hh;unfold Rf;simp only[Y5,X5,N2];unfold X6 X4 X2 X1;have N:(ints refs).length=refs.length:=by simp
 refine Z6 hs fun q w1 σ1 k1 hq=>?_;refine Xu (R:=L1) (sz:=1) (Stp.refl k1.sat) [] [] rfl rfl V5 (by rfl) trivial fun v2 w2 k2 O _=>?_
 refine O4 refs.length (fun i E w'=> ∃σ',Stp w1 σ1 w' σ'/\J7 w1.heap.size T.b 1 L1 σ' w' E (U5 cs (refs.take i))) ⟨σ1,k2,J7.of_acc O⟩ fun i la w3 d hi y=>?_;obtain ⟨σ3,p,H⟩:=y;have B:=k1.trans p;have j:=hv.up B;refine Q6 j ?_;rw[N];refine Y9 ?_;refine Q4 (fun m=>?_) (fun m=>?_)
 .have f:i<refs.length:=by simpa using m
  refine Qt (fun E w'=> ∃σ',Stp w1 σ1 w' σ'/\J7 w1.heap.size T.b 1 L1 σ' w' E (U5 cs (refs.take (i+1)))) ?_ (fun z dd w6 hz=>?_)
  .have n:=hr _ (List.getElem_mem f)
   have aw:(U5 cs (refs.take i)).length<=refs.length:=Nat.le_trans Rn (by simp;omega)
   rw[Q66 f];have A:=hq.up p;have c:=Q.up B;obtain ⟨vv,c1,c2,c3⟩:=Q85 c n;have lX:=Q7b j f;have s:i<(ints refs).length:=by omega
   generalize U5 cs (refs.take i)=ks at*;generalize Ed cs refs[i]=k at*;refine V3 p.sat ?_;refine Y3 (V:= .pointer (some (q.add 2))) (fun w b=>U7 (X9 rfl)) ?_;refine Y3 (V:= .pointer (some (K4 1 v i))) (fun w b=>Y7 j s (X9 rfl)) ?_;refine Y3 (V:=D) (fun t w b e=>by subst e;exact ld (i:=2) b.sat (A.up b.stp) rfl (X9 rfl)) ?_
   refine Y3 (V:=I (refs[i]:Nat)) (fun t w b e=>by subst e;exact Y6 b.sat (lX.up b.stp) rfl (X9 rfl)) ?_
   rintro _ _ _ _ w4 a rfl rfl rfl rfl;have C:=p.trans a.stp;have J:=H.up a.stp;refine Y7 (c.up a.stp) n ?_;refine U7 ?_;refine ld (i:=0) a.sat (c1.up a.stp) rfl ?_;obtain ⟨σf,sf,a5,ab,_⟩:=J.freeze a.sat;refine Q9k sf ab ?_;refine Y9 ?_
   by_cases g:k∈ks
   .rw[decide_eq_false (fun e=>X0E.1 e g)]
    refine Z0 ?_;rw[Yb,if_pos g];exact ⟨σ3,C,J⟩
   .rw[decide_eq_true (X0E.2 g)]
    refine Z1 ?_;rw[Yb,if_neg g];have o:=j.up a.stp;have r:=c.up a.stp;have X:=A.up a.stp;have M:=c1.up a.stp;have ad:=lX.up a.stp;refine V3 a.sat ?_;refine Y3 (V:= .pointer (some (q.add 2))) (fun w b=>U7 (X9 rfl)) ?_;refine Y3 (V:= .pointer (some (K4 1 v i))) (fun w b=>Y7 o s (X9 rfl)) ?_;refine Y3 (V:=D) (fun t w b e=>by subst e;exact ld (i:=2) b.sat (X.up b.stp) rfl (X9 rfl)) ?_
    refine Y3 (V:=I (refs[i]:Nat)) (fun t w b e=>by subst e;exact Y6 b.sat (ad.up b.stp) rfl (X9 rfl)) ?_
    refine Y3 (V:= .pointer (some (K4 2 D refs[i]))) (fun t t2 w b e e2=>by subst e;subst e2;exact Y7 r n (X9 rfl)) ?_
    refine Y3 (V:= .pointer (some ((K4 2 D refs[i]).add 0))) (fun t w b e=>by subst e;exact U7 (X9 rfl)) ?_
    refine Y3 (V:=S k) (fun t w b e=>by subst e;exact ld (i:=0) b.sat (M.up b.stp) rfl (X9 rfl)) ?_
    refine Zq (w:=w4) (σ:=σ3) (Φ:=fun σ' t=>Sl 1 L1 σ' t [k]) (fun t w b e=>by
     subst e;exact C1 (R:=L1) (sz:=1) b.sat [S k] [k] rfl rfl (by simp;rfl) rfl ⟨⟨rfl,c3⟩,trivial⟩ fun v' w' σ' U aa=>Er b U aa) ?_
    rintro _ _ _ _ _ _ _ u w5 av rfl rfl rfl rfl rfl rfl rfl ⟨σ5,k5,hu⟩;have L:=C.trans k5;have A5:=J.up k5;refine Il L.sat L.bel.size A5 hu (by rfl) (by simp;omega) (by simp;omega) fun v8 w8 W Z Y ar=>?_
    have N8:Nxt (fun k=>Value.ownBlock (la,I i).1=some k) w5 σ5 w8 σ5:=⟨W.mono fun k _ e=>e.1,SLe.refl _,fun _ _=>rfl,Z⟩;exact ⟨σ5,L.nx N8 fun k U=>(A5.mem U).1,Y⟩
  .obtain ⟨σ6,S6,A6⟩:=hz
   (try simp only[↓M1,M1,Mb,reduceIte])
   exact Z8 Q5 f ⟨σ6,S6,A6⟩
 .have e:i=refs.length:=by simp at m;omega
  subst e;rw[List.take_length] at H;obtain ⟨σ4,C,o,_⟩:=H.keep p;exact h la w3 σ4 (k1.trans C) o)
set_option maxRecDepth 9999 in
set_option maxHeartbeats 4000000 in
theorem Q9j {v:Value} (hs:X3 w σ) (hh:E0 σ (l,room,cs) ds) (ok:Ok l) (ao:l.length<=1000) (al: ∀c∈cs,GoodC V8 l cs c) (hc:cs.length<=1048576) (hN: ∀r,Jm cs r<=1000000000000) (cn: ∀k,(E3 l k).length<=V4) (hv:Sl 4 O6 σ v vs)
 (a:(Nc (T9 (L4 l cs vs)) l cs vs (L4 l cs vs)).length<=1000000000)
 (h: ∀w' σ',Stp w σ w' σ'->K (S (Nc (T9 (L4 l cs vs)) l cs vs (L4 l cs vs))) w'):Q0 P F.b8 [.agg ds.toArray,v] w K:=Q3w (by
 have a3:=hh;obtain ⟨lv,cv,rfl,cl,ci⟩:=E0.out hh;unfold Cj;simp only[Y5,X5,N2];unfold X6 J3 X4 X2 J9 X1;have hr: ∀x∈L4 l cs vs,x<cs.length:=fun x hx=>Eg hx;have hn:(L4 l cs vs).length<=cs.length:=Q0R Fz hr;refine Z6 hs fun q w1 σ1 k1 hq=>?_;refine Z3 k1.sat hq rfl ?_;refine Q7y k1.sat (W0 a3 ⟨k1.le⟩) ok ao al hc hN (hv.up k1) fun rl w2 σ2 k2 a4=>?_;generalize L4 l cs vs=refs at*;have ay:(ints refs).length=refs.length:=by simp
 have dq:=Rn (cs:=cs) (rs:=refs);have ct:=hv.max;have eT:Nc (T9 refs) l cs vs refs=U6 (U5 cs refs).length++(U5 cs refs).flatMap (Zd l)++U6 refs.length++refs.flatMap (Yh cs (U5 cs refs))++refs.flatMap (fun r=>(N0 l cs r).flatMap (H3 (T9 refs)))++U6 vs.length++vs.flatMap (H3 (T9 refs)):=rfl;rw[eT] at a h;have ce:=a;rw[List.length_append] at a;have az:(U6 (U5 cs refs).length++(U5 cs refs).flatMap (Zd l)++U6 refs.length++refs.flatMap (Yh cs (U5 cs refs))++refs.flatMap (fun r=>(N0 l cs r).flatMap (H3 (T9 refs)))++U6 vs.length).length<=1000000000:=by omega
 rw[List.length_append] at a;have cd:(U6 (U5 cs refs).length++(U5 cs refs).flatMap (Zd l)++U6 refs.length++refs.flatMap (Yh cs (U5 cs refs))++refs.flatMap (fun r=>(N0 l cs r).flatMap (H3 (T9 refs)))).length<=1000000000:=by omega
 rw[List.length_append] at a;have cc:(U6 (U5 cs refs).length++(U5 cs refs).flatMap (Zd l)++U6 refs.length++refs.flatMap (Yh cs (U5 cs refs))).length<=1000000000:=by omega
 rw[List.length_append] at a;have cb:(U6 (U5 cs refs).length++(U5 cs refs).flatMap (Zd l)++U6 refs.length).length<=1000000000:=by omega
 rw[List.length_append] at a;have ca:(U6 (U5 cs refs).length++(U5 cs refs).flatMap (Zd l)).length<=1000000000:=by omega
 clear a eT;have ad: ∀n:Nat,n<=9223372036854775807->Wl (n:Int)=n:=fun n hn=>Q2u Q5;have a6:=k1.trans k2;have a2:=hq.up k2;refine Z3 k2.sat a2 rfl ?_;refine X4q k2.sat (W0 a3 ⟨a6.le⟩) hc a4 hr hn fun kv w3 σ3 k3 R=>?_;have S3:=a6.trans k3;have ag:=a2.up k3;have C:=a4.up k3;have bq:=hv.up S3;have bh:=cl.up S3;have am:=ci.up S3;clear k1 k2 k3 a6 hq a2 a4
 have dp: ∀k∈U5 cs refs,k.length<=V4:=fun k O=>by
  obtain ⟨i,hi,rfl⟩:=List.mem_iff_getElem.1 O;exact (R.elS hi).2
 generalize U5 cs refs=m at*;refine Q6 R ?_;refine Bd S3.sat fun w4 σ4 k4=>?_;rw[ad _ Q5];refine O4 m.length (fun i x w'=> ∃σ',x=S (U6 m.length++(m.take i).flatMap (Zd l))/\Stp w3 σ3 w' σ') ⟨σ4,by simp,k4⟩ fun i x w5 d hi y=>?_
 obtain ⟨σ5,rfl,k5⟩:=y;have Q:=R.up k5;have bm:=ag.up k5;refine Q6 Q ?_;refine Y9 ?_;refine Q4 (fun o=>?_) (fun o=>?_)
 .have g:i<m.length:=by simpa using o
  obtain ⟨p1,p2⟩:=Q.elS g;have bi:=bh.up k5;have B:=Yv (f:=Zd l) g ca;have U:=P2 (f:=Zd l) (xs:=U6 m.length) g;have cm:=cn m[i];have c7:(U6 m.length++(m.take i).flatMap (Zd l)).length+(M3 m[i]++M3 (E3 l m[i])).length<=1000000000:=by rw[<-List.length_append];exact B
  have ck:(M3 m[i]++M3 (E3 l m[i])).length<=1000000000:=by
   omega
  refine V3 k5.sat ?_;refine Y3 (V:= .pointer (some (K4 1 kv i))) (fun w a=>Y7 Q g (X9 rfl)) ?_;refine Y3 (V:= .pointer (some (q.add 0))) (fun w a=>U7 (X9 rfl)) ?_;refine Y3 (V:= .pointer (some (K4 1 kv i))) (fun w a=>Y7 Q g (X9 rfl)) ?_;refine Y3 (V:=S m[i]) (fun t w a e=>by subst e;exact Y6 a.sat (p1.up a.stp) rfl (X9 rfl)) ?_
  refine Y3 (V:=S (M3 m[i])) (fun t w a e=>by subst e;exact Q6B a.sat p2 fun w' σ' O=>F7 O.bel rfl) ?_
  refine Y3 (V:=lv) (fun t w a e=>by subst e;exact ld (i:=0) a.sat (bm.up a.stp) rfl (X9 rfl)) ?_
  refine Y3 (V:=S m[i]) (fun t w a e=>by subst e;exact Y6 a.sat (p1.up a.stp) rfl (X9 rfl)) ?_
  refine Y3 (V:=S (E3 l m[i])) (fun t t2 w a e e2=>by subst e;subst e2;exact X5U a.sat (bi.up a.stp) ok p2 fun w' σ' O=>F7 O.bel rfl) ?_
  refine Y3 (V:=S (M3 (E3 l m[i]))) (fun t w a e=>by subst e;exact Q6B a.sat cm fun w' σ' O=>F7 O.bel rfl) ?_
  refine Y3 (V:=S (M3 m[i]++M3 (E3 l m[i]))) (fun t t2 w a e e2=>by subst e;subst e2;exact H4 (by rw[List.length_append] at ck;omega) (X9 rfl)) ?_
  rintro _ _ _ _ _ _ _ _ _ _ w6 az rfl rfl rfl rfl rfl rfl rfl rfl rfl rfl;refine H4 Q5 ?_
  (try simp only[↓M1,M1,Mb,reduceIte])
  exact Z8 R.max g ⟨σ5,by rw[U];rfl,k5.trans az.stp⟩
 have ei:i=m.length:=by simp at o;omega
 subst ei;rw[List.take_length];clear Q bm k4;refine Q6 (C.up k5) ?_;rw[ay];refine Bd k5.sat fun w6 σ6 k6=>?_;rw[ad _ Q5];have bs:=k5.trans k6;refine H4 (by rw[List.length_append] at cb;omega) ?_
 clear k5 k6;refine O4 refs.length (fun i x w'=> ∃σ',x=S ((U6 m.length++m.flatMap (Zd l)++U6 refs.length)++(refs.take i).flatMap (Yh cs m))/\Stp w3 σ3 w' σ') ⟨σ6,by simp,bs⟩ fun i x w7 d hi y=>?_
 obtain ⟨σ7,rfl,k7⟩:=y;refine Q6 (C.up k7) ?_;rw[ay];refine Y9 ?_;refine Q4 (fun o=>?_) (fun o=>?_)
 .have g:i<refs.length:=by simpa using o
  refine Qt (fun x w'=> ∃σ',x=S ((U6 m.length++m.flatMap (Zd l)++U6 refs.length)++(refs.take (i+1)).flatMap (Yh cs m))/\Stp w3 σ3 w' σ') ?_ (fun z dd w8 hz=>?_)
  .have B:=Yv (f:=Yh cs m) g cc
   rw[P2 (f:=Yh cs m) g];have E:=hr _ (List.getElem_mem g);have cp:=ag.up k7;have aq:=C.up k7;have an:=am.up k7;have bf:=R.up k7;have ae:i<(ints refs).length:=by omega
   have lX:=Q7b aq g;obtain ⟨vv,c1,c2,c3⟩:=Q85 an E
   have b9:(Xk cs refs[i]).vals=cs[refs[i]].vals:=by
    unfold Xk;rw[List.getD_eq_getElem?_getD,List.getElem?_eq_getElem E];rfl
   have dn:=c2.max;generalize (U6 m.length++m.flatMap (Zd l)++U6 refs.length)++(refs.take i).flatMap (Yh cs m)=aa at*;unfold Yh at B⊢;rw[<-List.append_assoc,b9] at B⊢;generalize Ed cs refs[i]=k at*;refine V3 k7.sat ?_;refine Y3 (V:= .pointer (some (q.add 2))) (fun w a=>U7 (X9 rfl)) ?_;refine Y3 (V:= .pointer (some (K4 1 rl i))) (fun w a=>Y7 aq ae (X9 rfl)) ?_;refine Y3 (V:=cv) (fun t w a e=>by subst e;exact ld (i:=2) a.sat (cp.up a.stp) rfl (X9 rfl)) ?_
   refine Y3 (V:=I (refs[i]:Nat)) (fun t w a e=>by subst e;exact Y6 a.sat (lX.up a.stp) rfl (X9 rfl)) ?_
   refine Y3 (V:= .pointer (some (K4 2 cv refs[i]))) (fun t t2 w a e e2=>by subst e;subst e2;exact Y7 an E (X9 rfl)) ?_
   refine Y3 (V:= .agg [S k,vv].toArray) (fun t w a e=>by subst e;exact Z3 a.sat (c1.up a.stp) rfl (X9 rfl)) ?_
   refine X8m (w:=w7) (σ:=σ7) (zs:=[S [], .slice none 0 0]) (fun w a=>by
    refine Kj a.sat fun b w' ch O hm=>?_;exact ⟨O.bel,b,rfl,Nat.le_trans a.stp.bel.size ch,hm⟩) ?_
   rintro _ _ _ _ _ _ _ w8 cf rfl rfl rfl rfl rfl rfl ⟨b,rfl,cg,bk⟩;refine Ms (ds:=[S k,vv]) bk rfl rfl (by rw[List.all_toArray];obtain ⟨_,_,rfl,_⟩:=c2;rfl) fun w9 u9 bj=>?_
   have Z:Stp w7 σ7 w9 σ7:=u9.stp cf.stp cg bk.1;refine U7 ?_;refine Yj (i:=0) bj rfl ?_;refine Q9k Z.sat (bf.up Z) ?_;refine Bd Z.sat fun ak L A=>?_;have ap:=bj.up A;refine H4 (by rw[List.length_append,List.length_append] at B;omega) ?_
   refine U7 ?_;refine Yj (i:=0) ap rfl ?_;refine Q6A k (by unfold V4 at c3;omega) ?_
   refine Jb (u:=[]) ?_;have H:=(k7.trans Z).trans A
   by_cases ee:elem k=[]
   .rw[decide_eq_true ee,Bool.not_true]
    refine Z0 ?_;rw[if_pos ee,List.append_nil];exact ⟨L,rfl,H⟩
   .rw[decide_eq_false ee,Bool.not_false]
    refine Z1 ?_;rw[if_neg ee] at B⊢;refine U7 ?_;refine Yj (i:=1) ap rfl ?_;refine Q6 ((c2.up Z).up A) ?_;refine Bd A.sat fun bx M D=>?_;rw[ad _ Q5];refine H4 (by rw[List.length_append] at B;omega) ?_
    exact ⟨M,rfl,H.trans D⟩
  .obtain ⟨σ8,rfl,k8⟩:=hz
   (try simp only[↓M1,M1,Mb,reduceIte])
   exact Z8 Q5 g ⟨σ8,rfl,k8⟩
 have ei:i=refs.length:=by simp at o;omega
 subst ei;rw[List.take_length];clear bs;generalize U6 m.length++m.flatMap (Zd l)++U6 refs.length++refs.flatMap (Yh cs m)=aa at*;refine O4 refs.length (fun i x w'=> ∃σ',x=S (aa++(refs.take i).flatMap (fun r=>(N0 l cs r).flatMap (H3 (T9 refs))))/\Stp w3 σ3 w' σ') ⟨σ7,by simp,k7⟩ fun i x w8 d hi y=>?_
 obtain ⟨σ8,rfl,k8⟩:=y;refine Q6 (C.up k8) ?_;rw[ay];refine Y9 ?_;refine Q4 (fun o=>?_) (fun o=>?_)
 .have g:i<refs.length:=by simpa using o
  have B:=Yv (f:=fun (r:Nat)=>(N0 l cs r).flatMap (H3 (T9 refs))) g cd;have U:=P2 (f:=fun (r:Nat)=>(N0 l cs r).flatMap (H3 (T9 refs))) (xs:=aa) g;have E:=hr _ (List.getElem_mem g);have cq:=ag.up k8;have ar:=C.up k8;have ae:i<(ints refs).length:=by omega
  have lX:=Q7b ar g;refine V3 k8.sat ?_;refine Y3 (V:= .pointer (some (K4 1 rl i))) (fun w a=>Y7 ar ae (X9 rfl)) ?_;refine Y3 (V:= .agg [lv,I room,cv].toArray) (fun w a=>Z3 a.sat (cq.up a.stp) rfl (X9 rfl)) ?_;refine Y3 (V:=I (refs[i]:Nat)) (fun t w a e=>by subst e;exact Y6 a.sat (lX.up a.stp) rfl (X9 rfl)) ?_
  rintro _ _ _ w9 bd rfl rfl rfl;have ah:=k8.trans bd.stp;have S9:=S3.trans ah;refine X1s bd.sat (W0 a3 ⟨S9.le⟩) ok ao al (hN _) fun sv ak L A a5=>?_;have H:=ah.trans A;have eo:=X34 (l:=l) E;have bb:(ints (D3 l cs refs[i])).length=(D3 l cs refs[i]).length:=by simp
  have bo:=a5.max;rw[bb] at bo;generalize c9:aa++(refs.take i).flatMap (fun r=>(N0 l cs r).flatMap (H3 (T9 refs)))=av at*;refine O4 (D3 l cs refs[i]).length (fun j x w'=> ∃σ',x=S (av++((N0 l cs refs[i]).take j).flatMap (H3 (T9 refs)))/\Stp ak L w' σ') ⟨L,by simp,Stp.refl A.sat⟩ fun j x bx d2 hj y=>?_
  obtain ⟨M,rfl,D⟩:=y;refine Q6 (a5.up D) ?_;rw[bb];refine Y9 ?_;refine Q4 (fun a0=>?_) (fun a0=>?_)
  .have af:j<(D3 l cs refs[i]).length:=by simpa using a0
   have a1:j<(N0 l cs refs[i]).length:=by omega
   have bg:=Yv (f:=H3 (T9 refs)) a1 B;have bp:=P2 (f:=H3 (T9 refs)) (xs:=av) a1;have ea:=X5G (l:=l) E af a1;have bn:=Q5k E af;have Y:=H.trans D;have bl:=ag.up Y;have J:=C.up Y;have N:=am.up Y;have W:=a5.up D;have cj:j<(ints (D3 l cs refs[i])).length:=by omega
   have bv:=Q7b J g;have bu:=Q7b W af;obtain ⟨vv,c1,c2,c3⟩:=Q85 N E;obtain ⟨g1,g2⟩:=Sl.elV c2 bn;rw[<-ea] at g1 g2;generalize (N0 l cs refs[i])[j]=p at*;refine V3 D.sat ?_;refine Y3 (V:= .pointer (some (q.add 2))) (fun w a=>U7 (X9 rfl)) ?_;refine Y3 (V:= .pointer (some (K4 1 rl i))) (fun w a=>Y7 J ae (X9 rfl)) ?_;refine Y3 (V:= .pointer (some (K4 1 sv j))) (fun w a=>Y7 W cj (X9 rfl)) ?_;refine Y3 (V:=cv) (fun t w a e=>by subst e;exact ld (i:=2) a.sat (bl.up a.stp) rfl (X9 rfl)) ?_
   refine Y3 (V:=I (refs[i]:Nat)) (fun t w a e=>by subst e;exact Y6 a.sat (bv.up a.stp) rfl (X9 rfl)) ?_
   refine Y3 (V:= .pointer (some (K4 2 cv refs[i]))) (fun t t2 w a e e2=>by subst e;subst e2;exact Y7 N E (X9 rfl)) ?_
   refine Y3 (V:= .pointer (some ((K4 2 cv refs[i]).add 1))) (fun t w a e=>by subst e;exact U7 (X9 rfl)) ?_
   refine Y3 (V:=vv) (fun t w a e=>by subst e;exact ld (i:=1) a.sat (c1.up a.stp) rfl (X9 rfl)) ?_
   refine Y3 (V:=I ((D3 l cs refs[i])[j]:Nat)) (fun t w a e=>by subst e;exact Y6 a.sat (bu.up a.stp) rfl (X9 rfl)) ?_
   refine Y3 (V:= .pointer (some (K4 4 vv (D3 l cs refs[i])[j]))) (fun t t2 w a e e2=>by subst e;subst e2;exact Y7 c2 bn (X9 rfl)) ?_
   refine Y3 (V:= .agg [I p.sort,I p.n,S p.s,I p.ref].toArray) (fun t w a e=>by subst e;exact Z3 a.sat (g1.up a.stp) rfl (X9 rfl)) ?_
   refine Y3 (V:=S (H3 (T9 refs) p)) (fun t w a e=>by subst e;exact Q9m a.sat (J.up a.stp) g2.2 fun w' σ' O=>F7 O.bel rfl) ?_
   rintro _ _ _ _ _ _ _ _ _ _ _ _ dz bc rfl rfl rfl rfl rfl rfl rfl rfl rfl rfl rfl rfl;refine H4 (by rw[List.length_append] at bg;omega) ?_
   (try simp only[↓M1,M1,Mb,reduceIte])
   exact Z8 bo af ⟨M,by rw[bp],D.trans bc.stp⟩
  .have ej:j=(D3 l cs refs[i]).length:=by simp at a0;omega
   subst ej;rw[eo,List.take_length]
   (try simp only[↓M1,M1,Mb,reduceIte])
   exact Z8 Q5 g ⟨M,by rw[U],H.trans D⟩
 have ei:i=refs.length:=by simp at o;omega
 subst ei;rw[List.take_length];clear k7;refine Q6 (bq.up k8) ?_;refine Bd k8.sat fun w9 σ9 k9=>?_;rw[ad _ Q5];have ah:=k8.trans k9;refine H4 (by rw[List.length_append] at az;omega) ?_
 generalize aa++refs.flatMap (fun r=>(N0 l cs r).flatMap (H3 (T9 refs)))++U6 vs.length=aw at*;refine O4 vs.length (fun i x w'=> ∃σ',x=S (aw++(vs.take i).flatMap (H3 (T9 refs)))/\Stp w3 σ3 w' σ') ⟨σ9,by simp,ah⟩ fun i x ak d hi y=>?_
 obtain ⟨L,rfl,A⟩:=y;have X:=bq.up A;refine Q6 X ?_;refine Y9 ?_;refine Q4 (fun o=>?_) (fun o=>?_)
 .have g:i<vs.length:=by simpa using o
  have B:=Yv (f:=H3 (T9 refs)) g ce;have U:=P2 (f:=H3 (T9 refs)) (xs:=aw) g;obtain ⟨p1,p2⟩:=Sl.elV X g;refine Y7 X g ?_;refine Z3 A.sat p1 rfl ?_;refine Q9m A.sat (C.up A) p2.2 fun bx M D=>?_;refine H4 (by rw[List.length_append] at B;omega) ?_
  (try simp only[↓M1,M1,Mb,reduceIte])
  exact Z8 ct g ⟨M,by rw[U],A.trans D⟩
 have ei:i=vs.length:=by simp at o;omega
 subst ei;rw[List.take_length];exact h ak L (S3.trans A))
end Go.Proofs.Y
namespace Go.Hm
open Go.Kd Go.Emb
def Q7I (vs:List Val):Bool:=decide (vs.length<=80)&&vs.all fun v=>decide (v.s.length<=5000)
end Go.Hm
namespace Go.Proofs.Y
open Go.Emb Go.RowKit Go.Kd Go.Hm
variable {w w' : World} {K : Value -> World -> Prop} {σ : Q2} {vs : List Val} {v : Value}
theorem X8d (l:X3 w σ) (f:Sl 4 O6 σ v vs) (h:K (.bool (Q7I vs)) w):Q0 P F.bK [v] w K:=Q20 (by
 unfold Hk X6 V1 X4 X2 X1;unfold Q7I at h;refine Q6 f ?_;refine Vo ?_
 by_cases e:vs.length<=80
 .rw[decide_eq_false (by omega: ¬(80:Int)<(vs.length:Nat))]
  rw[decide_eq_true e,Bool.true_and] at h;refine Z0 ?_;refine V7 vs.length (fun i w'=>w'=w/\(vs.take i).all (fun v=>decide (v.s.length<=5000))=true) ⟨rfl,by simp⟩ fun i w1 d n c=>?_
  obtain ⟨rfl,a⟩:=c;refine Q6 f ?_;refine Y9 ?_;refine Q4 (fun g=>?_) (fun g=>?_)
  .have b:i<vs.length:=by simpa using g
   obtain ⟨m,o⟩:=Sl.elV f b;refine Y7 f b ?_;refine U7 ?_;refine ld (i:=2) l m rfl ?_;refine Oy Kb ?_;refine Vo ?_
   by_cases j:vs[i].s.length<=5000
   .rw[decide_eq_false (by omega: ¬(5000:Int)<(vs[i].s.length:Nat))]
    refine Z0 ?_
    (try simp only[↓M1,M1,Mb,reduceIte])
    refine Z4 f.max b ⟨rfl,?_⟩;rw[List.take_add_one,List.getElem?_eq_getElem b,Option.toList_some,List.all_append,a]
    simp[j]
   .rw[decide_eq_true (by omega:(5000:Int)<(vs[i].s.length:Nat))]
    refine Z1 ?_
    have:vs.all (fun v=>decide (v.s.length<=5000))=false:=by
     rw[List.all_eq_false];exact ⟨vs[i],List.getElem_mem b,by simpa using j⟩
    rw[this] at h;exact h
  .have k:i=vs.length:=by simp at g;omega
   subst k;rw[List.take_length] at a;rw[a] at h;exact h
 .rw[decide_eq_true (by omega:(80:Int)<(vs.length:Nat))]
  rw[decide_eq_false e,Bool.false_and] at h;exact Z1 h)
end Go.Proofs.Y
namespace Go.Hm
open Go.Kd Go.Emb
theorem X2F {ok:Q9->Bool} {l:List Cla} {cs:List Cel} {vs:List Val} {o b:Int}:((Xe ok l cs vs o b).1≠0/\(Xe ok l cs vs o b).2=[])\/((Xe ok l cs vs o b).1=0/\(Xe ok l cs vs o b).2=Nd l cs vs/\vs.length<=64/\El ok cs vs=false):=by
 unfold Xe
 split
 .exact .inl ⟨by decide,rfl⟩
 split
 .exact .inl ⟨by decide,rfl⟩
 split
 .exact .inl ⟨by decide,rfl⟩
 .rename_i h _ _
  refine .inr ⟨rfl,rfl,?_,?_⟩
  .exact Nat.le_of_not_lt fun e=>h (.inl e)
  .cases e:El ok cs vs with
   | false=>rfl
   | true=>exact absurd (.inr e) h
end Go.Hm
namespace Go.Proofs.Y
open Go.Emb Go.RowKit Go.Kd Go.Hm
variable {w w' : World} {K : Value -> World -> Prop} {σ σ' : Q2} {room : Int} {cs : List Cel} {q : Addr} {ds : List Value} {vs : List Val} {v : Value} {l : List Cla}
set_option maxHeartbeats 1000000 in
theorem X4p {o b:Int} (hs:X3 w σ) (hh:E0 σ (l,room,cs) ds) (m:SendOk l cs) (ai:Q07 cs) (z:l.length<=1000) (hv:Sl 4 O6 σ v vs)
 (h: ∀w' σ',Stp w σ w' σ'->K (I (Xe V8 l cs vs o b).1) w'):Q0 P F.bV [.agg ds.toArray,v, .agg [I o,I b].toArray] w K:=Q2j (by
 have ab:=hh;obtain ⟨lv,R,rfl,_,_⟩:=E0.out hh;unfold Re;simp only[Y5,X5];unfold V1 X4 X2 J9 X1;refine Z6 hs fun q w1 σ1 k1 hq=>?_;refine Z6 k1.sat fun ql w2 σ2 k2 aa=>?_;have y:=k1.trans k2;have Y:=hq.up k2;have N:=hv.up y;have L:=W0 ab ⟨y.le⟩
 have af: ∀x∈vs,VB x:=fun x hx=>by
  obtain ⟨i,hi,rfl⟩:=List.mem_iff_getElem.1 hx;exact (Sl.elV hv hi).2.2
 unfold Xe at h;refine Q6 N ?_;refine Vo ?_
 by_cases D:64<vs.length
 .rw[decide_eq_true (by omega:(64:Int)<(vs.length:Nat))]
  rw[if_pos (.inl D)] at h;refine Z1 ?_;exact h _ _ y
 rw[decide_eq_false (by omega: ¬(64:Int)<(vs.length:Nat))]
 refine Z0 ?_;refine V7 vs.length (fun i w'=> ∃σ',Stp w2 σ2 w' σ'/\El V8 cs (vs.take i)=false) ⟨σ2,Stp.refl k2.sat,rfl⟩ fun i w3 d hi H=>?_;obtain ⟨Q,r,c⟩:=H;have S3:=y.trans r;have k:=N.up r;have B:=Y.up r;refine Q6 k ?_;refine Y9 ?_;refine Q4 (fun W=>?_) (fun W=>?_)
 .have j:i<vs.length:=by simpa using W
  obtain ⟨p1,p2⟩:=Sl.elV k j;refine V3 r.sat ?_;refine Y3 (V:= .pointer (some (K4 4 v i))) (fun w a=>Y7 k j (X9 rfl)) ?_;refine Y3 (V:= .agg [lv,I room,R].toArray) (fun w a=>Z3 a.sat (B.up a.stp) rfl (X9 rfl)) ?_;refine Y3 (V:= .agg [I vs[i].sort,I vs[i].n,S vs[i].s,I vs[i].ref].toArray) (fun t w a e=>by subst e;exact Z3 a.sat (p1.up a.stp) rfl (X9 rfl)) ?_
  rintro _ _ _ w4 f rfl rfl rfl;have g:=r.trans f.stp;refine Y0b f.sat (W0 L ⟨g.le⟩) p2.2.2.2.1 fun w5 σ5 k5=>?_;refine K2 (u:=[]) ?_
  by_cases p:K5 V8 cs vs[i]=[]
  .rw[decide_eq_true p]
   have a:El V8 cs vs=true:=by
    unfold El;rw[List.any_eq_true];exact ⟨vs[i],List.getElem_mem j,by simpa using p⟩
   rw[if_pos (.inr a)] at h;refine Z1 ?_;exact h _ _ (y.trans (g.trans k5))
  .rw[decide_eq_false p]
   refine Z0 ?_
   (try simp only[↓M1,M1,Mb,reduceIte])
   refine Z4 hv.max j ⟨σ5,g.trans k5,?_⟩;unfold El at c⊢;rw[List.take_add_one,List.getElem?_eq_getElem j,Option.toList_some,List.any_append,c]
   simp[p]
 have ei:i=vs.length:=by simp at W;omega
 subst ei;rw[List.take_length] at c;rw[if_neg (by rw[c];rintro (e | e);exact D e;cases e)] at h
 have U:=m.b vs Q5 c af;have eP:=X1F (l:=l) ai c;have M:=W0 L (⟨r.le⟩:SLe σ2 Q);have A:=aa.up r;refine V3 r.sat ?_;refine Y3 (V:= .pointer (some (ql.add 0))) (fun w a=>U7 (X9 rfl)) ?_;refine Y3 (V:= .agg [lv,I room,R].toArray) (fun w a=>Z3 a.sat (B.up a.stp) rfl (X9 rfl)) ?_
 refine Zq (w:=w3) (σ:=Q) (Φ:=fun σ' t=>Sl 1 O5 σ' t (ints (L4 l cs vs))) (fun t w a e=>by
  subst e;exact Q7y a.sat (W0 M ⟨a.stp.le⟩) m.ok z m.good m.len m.sz (k.up a.stp) fun v' w' σ' X C=>Er a X C) ?_
 refine Y3 (V:=I ((L4 l cs vs).length:Nat)) (fun t w a e=>by
  obtain ⟨σ',k',C⟩:=e;refine Q6 C ?_;rw[show (ints (L4 l cs vs)).length=(L4 l cs vs).length by simp]
  exact X9 rfl) ?_
 refine Y3 (V:=I o) (fun t w a e=>by subst e;exact ld (i:=0) a.sat (A.up a.stp) rfl (X9 rfl)) ?_
 rintro _ _ _ _ _ w4 f rfl rfl _ rfl rfl;have g:=r.trans f.stp;have ac:=W0 M (⟨f.stp.le⟩:SLe Q Q);have ae:=k.up f.stp;have Z:=B.up f.stp;have J:=A.up f.stp;refine Vo ?_
 by_cases p:o<((L4 l cs vs).length:Int)
 .rw[decide_eq_true p]
  rw[if_pos p] at h;refine Z1 ?_;exact h _ _ (y.trans g)
 rw[decide_eq_false p];rw[if_neg p] at h;refine Z0 ?_;refine V3 f.sat ?_;refine Y3 (V:= .pointer (some (ql.add 1))) (fun w a=>U7 (X9 rfl)) ?_;refine Y3 (V:= .agg [lv,I room,R].toArray) (fun w a=>Z3 a.sat (Z.up a.stp) rfl (X9 rfl)) ?_
 refine Y3 (V:=S (Nd l cs vs)) (fun t w a e=>by
  subst e;refine Q9j a.sat (W0 ac ⟨a.stp.le⟩) m.ok z m.good m.len m.sz m.pr (ae.up a.stp) (by rw[eP];exact U) fun w' σ' X=>?_
  rw[eP];exact F7 X.bel rfl) ?_
 refine Y3 (V:=I ((Nd l cs vs).length:Nat)) (fun t w a e=>by subst e;exact Oy Kb (X9 rfl)) ?_
 refine Y3 (V:=I b) (fun t w a e=>by subst e;exact ld (i:=1) a.sat (J.up a.stp) rfl (X9 rfl)) ?_
 rintro _ _ _ _ _ w5 E rfl rfl rfl rfl rfl;refine Vo ?_
 by_cases O:b<((Nd l cs vs).length:Int)
 .rw[decide_eq_true O]
  rw[if_pos O] at h;refine Z1 ?_;exact h _ _ (y.trans (g.trans E.stp))
 rw[decide_eq_false O];rw[if_neg O] at h;refine Z0 ?_;exact h _ _ (y.trans (g.trans E.stp)))
set_option maxHeartbeats 4000000 in
theorem X2h {u:Value} {xs:List ActH} {o b:Int} (hs:X3 w σ) (hg:Glb σ) (hu:Sl 8 Ah σ u xs) (hv:Sl 4 O6 σ v vs) (bb:Qj o/\Qj b) (h: ∀w' σ',Stp w σ w' σ'->K (.bool true) w'):Q0 P F.cF [u,v, .agg [I o,I b].toArray] w K:=Pq (by
 unfold Lw;simp only[Y5,X5,N2,Jn,L9,D0];unfold X8 W9 X4 X2 X1;refine Z6 hs fun ql wa σa U O=>?_;have s:=hg.lift ⟨U.le⟩;refine Y1g U.sat s (hu.up U) fun a1 bf q1 Z w1 σ1 E ok H1=>?_;have f:=X5i xs;refine X99 E.sat (s.lift ⟨E.le⟩) fun w3 σ3 k3=>?_;have z:=E.trans k3;have H:=U.trans z;have L:=hg.lift ⟨H.le⟩;have X:=H1.up k3;have y:=hv.up H;have M:=O.up z;have s3:=H.sat;have m:=Q8w X.h (Q6M xs) L7 ok;have N:(Q3 W6).length<=1000:=by decide
 have ah: ∀x∈vs,VB x:=fun x hx=>by
  obtain ⟨i,hi,rfl⟩:=List.mem_iff_getElem.1 hx;exact (Sl.elV hv hi).2.2
 clear E k3 z U s O H1;generalize Bn xs=cs at*
 (repeat refine Hd.h ?_)
 refine X8d s3 y ?_
 (repeat refine Hd.h ?_)
 cases n:Q7I vs with
 | false=>
  rw[Bool.not_false];refine Z1 ?_;exact X2L s3 L fun w5 σ5 c=>h _ _ (H.trans c)
 | true=>
 rw[Bool.not_true];refine Z0 ?_
 have av:vs.length<=80:=by
  unfold Q7I at n;simp only[Bool.and_eq_true,decide_eq_true_eq] at n;exact n.1
 obtain ⟨C,eC⟩: ∃C,Xe V8 (Q3 W6) cs vs o b=C:=⟨_,rfl⟩;have d:=X2F (ok:=V8) (l:=Q3 W6) (cs:=cs) (vs:=vs) (o:=o) (b:=b);rw[eC] at d;refine V3 s3 ?_;refine Q11 (R:=O6) L7 ?_
 refine Q0f vs (fun t w a e=>by
  obtain ⟨E,a1,e1⟩:=e;exact X6c E a1 e1 (y.up a.stp) rfl Q5 Q5 fun B w' D ha=>Q3O a D ha) ?_
 refine Y3 (V:= .agg [I o,I b].toArray) (fun w a=>Z3 a.sat (M.up a.stp) rfl (X9 rfl)) ?_
 refine Zq (w:=w3) (σ:=σ3) (Φ:=fun σ' t=> ∃B,t= .tuple #[B,I C.1]/\Sl 1 Ys σ' B C.2) (fun t t2 w a e e'=>by
  obtain ⟨W,hA⟩:=e;subst e';obtain ⟨σ5,c,ai,_⟩:=hA.keep W;refine X9l c.sat (L.lift ⟨c.le⟩) (X.up c) m ai fun B w' al D g=>?_;rw[eC] at g⊢;exact ⟨D.bel,al,c.trans D,B,rfl,g⟩) ?_
 refine Zq (w:=w3) (σ:=σ3) (Φ:=fun σ' t=>Sl 1 Ys σ' t C.2) (fun t w a e=>by
  obtain ⟨σ',W,B,rfl,g⟩:=e;exact J5 (vs:=[_,_]) rfl ⟨Below.refl _ _,σ',W,g⟩) ?_
 refine Y3 (V:=I C.1) (fun t w a e=>by
  obtain ⟨σ',W,B,rfl,g⟩:=e;exact J5 (vs:=[_,_]) rfl (X9 rfl)) ?_
 rintro _ _ _ _ bv _ w4 a9 _ _ rfl _ ⟨σ4,A,hT⟩ rfl;have S4:=H.trans A;have Y:=X.up A;have af:=M.up A;have Q:=y.up A;refine X7F A.sat Y ?_;refine Z3 A.sat af rfl ?_;refine X4p A.sat Y.r m f.refs N Q fun w5 σ5 c=>?_;rw[eC];refine Lb ?_;have S5:=S4.trans c;have j:=hT.up c
 rcases d with ⟨k,p⟩ | ⟨k,p,ae,J⟩
 .rw[decide_eq_false k,Bool.not_false]
  refine Z1 ?_;rw[p] at j;refine Q6 j ?_;refine E7 ?_;rw[show decide ((([]:Q9).length:Int)=0)=true from rfl]
  (repeat refine Hd.h ?_)
  refine E7 ?_;rw[decide_eq_true rfl]
  (repeat refine Hd.h ?_)
  exact h _ _ S5
 .rw[decide_eq_true k,Bool.not_true]
  refine Z0 ?_;have H5:=Y.up c;have ag:=Q.up c;have ad:=m.b vs ae J ah;have eP:=X1F (l:=Q3 W6) f.refs J;rw[p] at j;refine V3 c.sat ?_;refine Y3 (V:= .bool true) (fun w a=>E7 (X9 (by rw[k];rfl))) ?_
  refine Y3 (V:=bv) (fun t w a e=>by subst e;(repeat refine Hd.h ?_);exact X9 rfl) ?_
  refine Y3 (V:=v) (fun t w a e=>by subst e;(repeat refine Hd.h ?_);exact X9 rfl) ?_
  refine Y3 (V:=S (Nd (Q3 W6) cs vs)) (fun t t2 w a e e2=>by subst e;subst e2;(repeat refine Hd.h ?_);exact Q9V X1M Kb a.sat (j.up a.stp) (X9 rfl)) ?_
  refine Y3 (V:= .agg Z.toArray) (fun t w a e=>by subst e;(repeat refine Hd.h ?_);exact X7F a.sat (H5.up a.stp) (X9 rfl)) ?_
  refine Y3 (V:=S (Nd (Q3 W6) cs vs)) (fun t t2 t3 w a e e2 e3=>by
   subst e;subst e2;subst e3
   (repeat refine Hd.h ?_)
   refine Q9j a.sat (H5.up a.stp).r m.ok N m.good m.len m.sz m.pr (ag.up a.stp) (by rw[eP];exact ad) fun w' σ' D=>?_
   rw[eP];exact F7 D.bel rfl) ?_
  rintro _ _ _ _ _ _ w6 ac rfl rfl rfl rfl rfl rfl
  (repeat refine Hd.h ?_)
  refine K2 ?_;rw[decide_eq_true rfl]
  (repeat refine Hd.h ?_)
  exact h _ _ (S5.trans ac.stp))
end Go.Proofs.Y
namespace Go.Proofs.YtlfdfcejjgidpaaGreatDoor.sendBytes
open Go.Proofs.Y Go.ChangeShapes Go.WideShapes Go.ChangeAt Go.RowKit Go.Emb
theorem own : ownKnob Tryz.prog.godebug = none := by kernel_rfl
theorem lay : laidOutB Tryz.prog = true := by kernel_rfl
set_option maxRecDepth 100000 in
theorem X9Z (os : Os) (started : os.Started) (H : Type) (enc : TypeId × Value -> H) :
    ReturnsInHanded {} Tryz.checked os 4 .any (fun w args => (Rows.sendBytesSpec.pre enc Tryz.prog Tryz.f4 [] false w args /\ laidMetH Tryz.prog laidAll w) /\ sizedMet enc Tryz.prog Tryz.f4 (OpenSpec.ofChange Rows.sendBytesSpec) false w args) (Rows.sendBytesSpec.post enc Tryz.prog Tryz.f4 false true false false) := by
  refine returnsInHanded_of_change_and (C := Tryz.checked) (X := fun w _ => laidMetH Tryz.prog laidAll w) (fun _ _ _ hh h => h.of_heap hh) own started (by kernel_rfl) Tryz.func4
    (ChangeSpec.witness_shaped (enc := enc) (C := Tryz.checked) (os := os) (X := fun w _ => laidMetH Tryz.prog laidAll w) false (World.laidAll Tryz.prog os laidAll) #[.slice none 0 0, .slice none 0 0, .agg #[.int .i64 0, .int .i64 0]] 8 (World.laidAll_os _ _ _)
      (World.shaped_of_ZipB (by kernel_rfl) (by kernel_rfl)) (by kernel_rfl) (by kernel_rfl) (by kernel_rfl) (by rw [MakeChecks.laidMetH_plain _ _ _ (by kernel_rfl)]; exact laidMet_laidAll _ (by kernel_rfl) (by kernel_rfl))) ?_
  intro W base args ds gs before hval0 hW _ hsz0 hL _
  have hsz : (DataW.weightsEach Tryz.prog (Tryz.f4.params.toList ++ Rows.sendBytesSpec.plain.varTypes Tryz.prog) (ds ++ gs)).all (· <= reachBytes) = true := hsz0
  have hval : ∀ (j : Nat) t v, Tryz.f4.params[j]? = some t -> args[j]? = some v -> Value.okWide Tryz.prog W .any base t v := hval0
  have hW' := hW
  obtain ⟨p, q, hA0, hV, rfl, hfz, hnd⟩ := hW
  have hA : DataW.TrodAll enc Tryz.prog W 0 (fun _ => true) true Tryz.f4.params.toList args.toList ds p := hA0
  have hlt := DataW.TrodAll.lt hA
  rw [Tryz.params4] at hA hval hsz
  obtain ⟨v0, vs0, d0, ds0, p0, q0, hargs, rfl, rfl, h0, r0⟩ := trodAll_cons hA
  obtain ⟨v1, vs1, d1, ds1, p1, q1, rfl, rfl, rfl, h1, r1⟩ := trodAll_cons r0
  obtain ⟨v2, vs2, d2, ds2, p2, q2, rfl, rfl, rfl, h2, r2⟩ := trodAll_cons r1
  obtain ⟨rfl, rfl, rfl⟩ := trodAll_nil r2
  obtain rfl : args = #[v0, v1, v2] := by cases args; simp_all
  obtain ⟨rfl, rfl⟩ := trodVars_none hV
  have g0 : ∀ x ∈ p0, x.block < W.heap.size := fun x hx => hlt x (by simp [hx])
  have k0 := fun (W' : World) (bel : Below W.heap.size W W') => Below.trod lay (by kernel_rfl) (of_decide_eq_true (by kernel_rfl)) h0 bel g0
  obtain ⟨l0, e0⟩ := X8D (hval 0 45 v0 rfl rfl) h0 (X1S hsz (j := 0) (t := 45) rfl rfl)
  have g1 : ∀ x ∈ p1, x.block < W.heap.size := fun x hx => hlt x (by simp [hx])
  have k1 := fun (W' : World) (bel : Below W.heap.size W W') => Below.trod lay (by kernel_rfl) (of_decide_eq_true (by kernel_rfl)) h1 bel g1
  obtain ⟨l1, e1⟩ := X8E (hval 1 46 v1 rfl rfl) h1 (X1S hsz (j := 1) (t := 46) rfl rfl)
  have g2 : ∀ x ∈ p2, x.block < W.heap.size := fun x hx => hlt x (by simp [hx])
  have k2 := fun (W' : World) (bel : Below W.heap.size W W') => Below.trod lay (by kernel_rfl) (of_decide_eq_true (by kernel_rfl)) h2 bel g2
  obtain ⟨o2, b2, rfl, e2⟩ := X9V (hval 2 39 v2 rfl rfl) h2 (X1S hsz (j := 2) (t := 39) rfl rfl)
  have hc : Q0 Tryz.prog 4 [v0, v1, .agg [I o2, I b2].toArray] W (fun e w' => e = .bool true /\ Below W.heap.size W w') := X2h X61 (X9T hL) e0 e1 e2 (fun w' σ' hb => ⟨rfl, hb.bel⟩)
  refine (Q84 Tryz.func4 (by kernel_rfl) (by kernel_rfl) hc).mono fun e W' he => ?_
  obtain ⟨v, rfl⟩ : ∃ v, e = .returned v := by cases e <;> first | exact ⟨_, rfl⟩ | exact he.elim
  obtain ⟨rfl, bel⟩ := he
  exact ⟨_, rfl, _, _, _, [], _, [], hW', trodAll_mk1 (shut_bool Tryz.underlying4 _), (trodAll_cons_mk (k0 W' bel) (trodAll_cons_mk (k1 W' bel) (trodAll_cons_mk (k2 W' bel) trodAll_mk0))), rfl, bel.frame _, fun h => by cases h⟩
theorem over : Rows.sendBytesRow.holds Tryz.pinned (OpenSpec.ofChange Rows.sendBytesSpec) :=
  OpenClaim.holds_of_wide 4 Tryz.f4 rfl rfl rfl rfl rfl rfl rfl ⟨rfl, rfl, rfl, rfl, rfl⟩ rfl rfl rfl rfl rfl (by kernel_rfl) Tryz.func4 (by kernel_rfl)
    (of_decide_eq_true (by kernel_rfl)) (by unfold Func.isWrapper; first | (rw [if_pos (by decide +kernel)]; kernel_rfl) | (rw [if_neg (by decide +kernel)]; exact ⟨rfl, rfl⟩))
    (fun os started H enc _ => X9Z os started H enc)
end Go.Proofs.YtlfdfcejjgidpaaGreatDoor.sendBytes
namespace Go.Proofs.YtlfdfcejjgidpaaGreatDoor
open Go.Proofs.Y
theorem Q7G : Rows.SendBytesSaid := sendBytes.over
end Go.Proofs.YtlfdfcejjgidpaaGreatDoor
