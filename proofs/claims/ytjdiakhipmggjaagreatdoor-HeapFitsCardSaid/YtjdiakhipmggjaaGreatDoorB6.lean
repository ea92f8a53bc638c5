/- Parts of a proof about the given program: its functions as texts of their own, what each computes, plain laws of that. The conditions of each stand in its statement. -/
import Derived.Test.YtjdiakhipmggjaaGreatDoorB5
import Derived.Test.YtjdiakhipmggjaaGreatDoorB3
import Derived.Test.YtjdiakhipmggjaaGreatDoorB4
import Derived.Test.YtjdiakhipmggjaaGreatDoorRows
import Derived.WalkKit
import Derived.ProofKit
import Derived.OpenShut
import Derived.ShutString
import Derived.ChangeOld
import Derived.Below
import Derived.SizedLaws
import Derived.Lay
import Derived.Carry
import Derived.MakeChecks
import Derived.PinnedBridge
set_option linter.unnecessarySimpa false
set_option linter.defProp false
set_option linter.unusedSectionVars false
set_option linter.unusedVariables false
set_option linter.unusedSimpArgs false
namespace Go.Hm
open Go.Kd
theorem Q8D {a:List Cla} {m:Nat} (b:m<a.length):Z1 a (Y2 a m)=some m↔Z1 (a.take m) (Y2 a m)=none:=by
 have f:Y2 a m=a[m].name:=by unfold Y2;rw[List.getD_eq_getElem?_getD,List.getElem?_eq_getElem b];rfl
 unfold Z1
 rw[List.findIdx?_eq_some_iff_getElem,List.findIdx?_eq_none_iff]
 constructor
 ·rintro ⟨k,i,g⟩ c e
  obtain ⟨j,d,rfl⟩:=List.mem_take_iff_getElem.1 e
  simpa using g j (by omega)
 ·intro h
  refine ⟨b,by simp[f],fun j d=>?_⟩
  simpa using h a[j] (List.mem_take_iff_getElem.2 ⟨j,by omega,rfl⟩)
theorem Q8F {a:List Cla} (d:T5 a) {m:Nat} (b:m<a.length):Xj a (Y2 a m) (Y2 a m)=P9 a a[m]:=by
 have c:Y2 a m=a[m].name:=by unfold Y2;rw[List.getD_eq_getElem?_getD,List.getElem?_eq_getElem b];rfl
 unfold Xj P9
 rw[Yh d b,List.getD_eq_getElem?_getD,List.getElem?_eq_getElem b]
 simp only[Option.getD_some,c]
end Go.Hm
namespace Go.Proofs.YtjdiakhipmggjaaGreatDoor
open Go.Emb Go.RowKit Go.Kd Go.Hm
variable {w : World} {K : Value → World → Prop} {σ : Q6} {l : List Cla}
theorem Q8Y: ∀c∈I0,Zu c=false:=by decide
theorem Q8i {c:Cla} (h:D0 c=0):Zu c=false:=by
 unfold D0 at h
 split at h
 ·cases h
 ·rename_i a;exact eq_false_of_ne_true a
set_option maxHeartbeats 4000000 in
theorem X2B {lv:Value} (hs:X2 w σ) (hl:Sl 8 V0 σ lv l) (cz:l.length≤900)
 (C: ∀i e w' t,Ce D0 l=some (i,e)→Stp w σ w' t→K (.tuple #[.slice none 0 0,I i,I e]) w')
 (h0: ∀v w' t,Ce D0 l=none→Stp w σ w' t→Sl 8 V0 t v (Q4 l)→Ok (Q4 l)→T5 (Q4 l)→K (.tuple #[v,I 0,I 0]) w'):Q1 P F.bN [lv] w K:=Q0F (by
 unfold Ep
 have A:I0.length=8:=rfl
 have du:(Q4 l).length=8+l.length:=by simp[Q4,A]
 refine Q99 hs fun x0 w1 σ1 bq bg=>?_
 refine Q8S bg ?_
 rw[A]
 refine E8 l.length (fun n x w'=> ∃t,Stp w σ w' t∧V6 w.heap.size T.b 8 V0 t w' x (I0++l.take n)∧O7 D0 l 0=O7 D0 (l.drop n) n)
  ⟨σ1,bq,by simpa using bg,rfl⟩ fun n x w4 d H f=>?_
 obtain ⟨σ4,ad,a2,E⟩:=f
 have Z:=hl.up ad
 refine Q8 Z ?_
 refine Z2 ?_
 refine Q7 (fun hh=>?_) (fun hh=>?_)
 ·have a:n<l.length:=by simpa using hh
  obtain ⟨b7,br,b6,p1,r1⟩:=Z.elC a
  refine Y3 Z a ?_
  refine Y4 ad.sat p1 rfl ?_
  refine Q3T ad.sat r1 fun w6 σ6 ab=>?_
  have bk:=ad.trans ab
  have N:=Wn a E
  refine Ut ?_
  refine Q7 (fun m=>?_) (fun m=>?_)
  ·have r: ¬D0 l[n]=0:=by simpa using m
   rw[if_neg r] at N
   refine C _ _ _ _ ?_ bk
   unfold Ce
   rw[N]
  ·have hz:D0 l[n]=0:=by simpa using m
   rw[if_pos hz] at N
   refine Y3 (Z.up ab) a ?_
   refine Y4 ab.sat (p1.up ab) rfl ?_
   have ct:=a2.up ab
   have r6:=RCl_lift r1 ⟨ab.le⟩
   refine Ug (R:=V0) (x:=l[n]) bk ct (by simpa [Value.cells] using r6) rfl rfl rfl (by simp[A];omega) (by simp[A];omega) fun s v' w9 σ9 dh p cp a1=>?_
   refine O4 ?_
   refine J5 Z.max a ⟨σ9,p,?_,N⟩
   rw[List.take_add_one,List.getElem?_eq_getElem a,←List.append_assoc]
   exact cp
 have a: ¬n<l.length:=by simpa using hh
 rw[List.take_of_length_le (by omega)] at a2
 rw[List.drop_eq_nil_of_le (by omega)] at E
 have E:O7 D0 l 0=none:=E
 have bo:=P8 E
 have bi: ∀c∈l,Qn c∧Nm c∧c.name≠[]:=fun c hc=>By (bo c hc)
 have q: ∀c∈Q4 l,Qn c:=fun c hc=>by
  rcases List.mem_append.1 hc with hc | hc
  ·exact (Uf c hc).1
  ·exact (bi c hc).1
 have a5: ∀c∈Q4 l,Nm c:=fun c hc=>by
  rcases List.mem_append.1 hc with hc | hc
  ·exact (Uf c hc).2.1
  ·exact (bi c hc).2.1
 have aa: ∀c∈Q4 l,Zu c=false:=fun c hc=>by
  rcases List.mem_append.1 hc with hc | hc
  ·exact Q8Y c hc
  ·exact Q8i (bo c hc)
 have ao:(Q4 l).length≤100000:=by omega
 unfold Ce at C h0
 rw[E] at C h0
 simp only at C h0
 obtain ⟨σ5,o,D,dw,cy⟩:=a2.keep ad
 change Sl 8 V0 σ5 x (Q4 l) at D
 clear a2 ad Z a hh H E bg bq
 have B: ∀{n:Nat} (H:n<l.length),∃(h:8+n<(Q4 l).length),(Q4 l)[8+n]=l[n]:=fun {n} H=>⟨by omega,by
  unfold Q4
  rw[List.getElem_append_right (by rw[A];omega)]
  congr 1
  rw[A];omega⟩
 have b9: ∀{n:Nat} (H:n<l.length),Y2 (Q4 l) (8+n)=l[n].name:=fun {n} H=>by
  obtain ⟨C,h2⟩:=B H
  rw[Ti C,h2]
 have cd: ∀j,j<8→(Z1 ((Q4 l).take j) (Y2 (Q4 l) j)).isSome=false:=by
  have hd: ∀j,j<8→(Z1 (I0.take j) (Y2 I0 j)).isSome=false:=by decide
  intro j hj
  have e1:(Q4 l).take j=I0.take j:=by unfold Q4;rw[List.take_append_of_le_length (by rw[A];omega)]
  have e2:Y2 (Q4 l) j=Y2 I0 j:=by
   unfold Y2 Q4;rw[List.getD_eq_getElem?_getD,List.getD_eq_getElem?_getD,List.getElem?_append_left (by rw[A];omega)]
  rw[e1,e2];exact hd j hj
 refine U3 l.length (fun n w'=>Stp w σ w' σ5∧ ∀j,j<8+n→(Z1 ((Q4 l).take j) (Y2 (Q4 l) j)).isSome=false) ⟨o,by simpa using cd⟩ fun n w5 d H f=>?_
 clear o
 obtain ⟨o,a4⟩:=f
 have ax:=hl.up o
 refine Q8 ax ?_
 refine Z2 ?_
 refine Q7 (fun hh=>?_) (fun hh=>?_)
 ·have a:n<l.length:=by simpa using hh
  obtain ⟨b7,br,b6,p1,r1⟩:=ax.elC a
  refine Y3 ax a ?_
  (try simp only[↓M1,M1,Mb,reduceIte])
  refine ld o.sat p1 rfl ?_
  refine K0 o.sat D ?_
  rw[F9 (by omega) (by omega)]
  refine Ut ?_
  obtain ⟨V,e8⟩:=B a
  rw[←b9 a]
  have b5:=Q8D V
  cases am:Z1 ((Q4 l).take (8+n)) (Y2 (Q4 l) (8+n)) with
  | none=>
   rw[b5.2 am]
   have e:decide (L6 (some (8+n))=(8:Nat)+(n:Int))=true:=by simp[L6]
   rw[e]
   (try simp only[↓M1,M1,Mb,reduceIte])
   refine Y5 ax.max a ⟨o,fun j hj=>?_⟩
   by_cases ej:j=8+n
   ·rw[ej,am];rfl
   ·exact a4 j (by omega)
  | some i=>
   have r:Z1 (Q4 l) (Y2 (Q4 l) (8+n))≠some (8+n):=fun e=>by rw[b5.1 e] at am;cases am
   have e:decide (L6 (Z1 (Q4 l) (Y2 (Q4 l) (8+n)))=(8:Nat)+(n:Int))=false:=by
    rw[decide_eq_false_iff_not]
    intro e
    cases hf:Z1 (Q4 l) (Y2 (Q4 l) (8+n)) with
    | none=>rw[hf] at e;simp only[L6] at e;omega
    | some k=>
     rw[hf] at e r
     simp only[L6] at e
     apply r
     congr 1;omega
   rw[e]
   (try simp only[↓M1,M1,Mb,reduceIte])
   have O:Cd (Q4 l)=some (8+n):=by
    unfold Cd
    rw[List.find?_range_eq_some]
    refine ⟨by rw[am];rfl,by simpa using V,fun j hj=>by rw[a4 j hj];rfl⟩
   refine C _ _ _ _ ?_ o
   rw[O]
   have:((8+n:Nat):Int)-8=n:=by omega
   simp only[this]
 have a: ¬n<l.length:=by simpa using hh
 have O:Cd (Q4 l)=none:=by
  unfold Cd
  rw[List.find?_eq_none]
  intro j hj
  rw[a4 j (by have:=List.mem_range.1 hj;omega)];simp
 rw[O] at C h0
 simp only at C h0
 have g:=Ii O
 clear a4 hh a H ax cd
 refine U3 l.length (fun n w'=> ∃t,Stp w σ w' t∧SLe σ5 t∧O7 (fun c=>(O8 (Q4 l) c:Int)) l 0=O7 (fun c=>(O8 (Q4 l) c:Int)) (l.drop n) n) ⟨σ5,o,SLe.refl _,rfl⟩ fun n w6 d H f=>?_
 obtain ⟨σ9,p,ar,ac⟩:=f
 have ai:=hl.up p
 refine Q8 ai ?_
 refine Z2 ?_
 refine Q7 (fun hh=>?_) (fun hh=>?_)
 ·have a:n<l.length:=by simpa using hh
  obtain ⟨b7,br,b6,p1,r1⟩:=ai.elC a
  refine Y3 ai a ?_
  refine Y4 p.sat p1 rfl ?_
  have U:=Wn a ac
  refine Q8Z p.sat (D.lift ar) r1 fun w8 cn aw=>?_
  refine Ut ?_
  refine Q7 (fun m=>?_) (fun m=>?_)
  ·have r: ¬(O8 (Q4 l) l[n]:Int)=0:=by simpa using m
   rw[if_neg r] at U
   refine C _ _ _ _ ?_ (p.trans aw)
   rw[U]
  ·have hz:(O8 (Q4 l) l[n]:Int)=0:=by simpa using m
   rw[if_pos hz] at U
   refine O4 ?_
   exact Y5 ai.max a ⟨cn,p.trans aw,ar.more ⟨aw.le⟩,U⟩
 have a: ¬n<l.length:=by simpa using hh
 rw[List.drop_eq_nil_of_le (by omega)] at ac
 have ac:O7 (fun c=>(O8 (Q4 l) c:Int)) l 0=none:=ac
 rw[ac] at C h0
 simp only at C h0
 have bu:=P8 ac
 clear hh a H o ai
 refine Q0U p.sat (D.lift ar) g (by omega) (by omega) q fun vb c9 cc ah ak=>?_
 have b:=p.trans ah
 have be:=ar.more ⟨ah.le⟩
 have az:(I3 (Q4 l)).length=(Q4 l).length:=by simp[I3]
 refine U3 l.length (fun n w'=>Stp w σ w' cc∧ ∀j (hj:j<l.length),j<n→P9 (Q4 l) l[j]=false) ⟨b,fun j _ h=>by omega⟩ fun n dc d H f=>?_
 clear b
 obtain ⟨b,a0⟩:=f
 have av:=hl.up b
 refine Q8 av ?_
 refine Z2 ?_
 refine Q7 (fun hh=>?_) (fun hh=>?_)
 ·have a:n<l.length:=by simpa using hh
  obtain ⟨V,e8⟩:=B a
  refine Xp ⟨by omega,by omega⟩ ?_
  have ec:((8:Nat):Int)+(n:Int)=((8+n:Nat):Int):=by omega
  rw[ec]
  obtain ⟨df,pb,_,rv,rfl,rb⟩:=ak.el (i:=8+n) (by rw[az];exact V)
  have bm:(I3 (Q4 l))[8+n]'(by rw[az];exact V)=(List.range (Q4 l).length).map fun j=>Xj (Q4 l) (Y2 (Q4 l) (8+n)) (Y2 (Q4 l) j):=by simp[I3]
  rw[bm] at rb
  obtain ⟨cu,bf,_,aq⟩:=rb.el (i:=8+n) (by simpa using V)
  have aq:cu=_:=aq
  subst aq
  simp only[List.getElem_map,List.getElem_range] at bf
  rw[Q8F g V,e8] at bf
  refine Y3 ak (by rw[az];exact V) ?_
  refine X7 b.sat pb rfl ?_
  refine Xp ⟨by omega,by omega⟩ ?_
  rw[ec]
  refine Y3 rb (by simpa using V) ?_
  refine X7 b.sat bf rfl ?_
  cases bp:P9 (Q4 l) l[n] with
  | true=>
   (try simp only[↓M1,M1,Mb,reduceIte])
   have bh:l.findIdx? (P9 (Q4 l))=some n:=by
    rw[List.findIdx?_eq_some_iff_getElem]
    exact ⟨a,bp,fun j hj=>by simpa using a0 j (by omega) hj⟩
   refine C _ _ _ _ ?_ b
   rw[bh]
  | false=>
   (try simp only[↓M1,M1,Mb,reduceIte])
   refine Y5 av.max a ⟨b,fun j hj dp=>?_⟩
   by_cases e:j=n
   ·subst e;exact bp
   ·exact a0 j hj (by omega)
 have a: ¬n<l.length:=by simpa using hh
 have ba: ∀c∈l,P9 (Q4 l) c=false:=fun c hc=>by
  obtain ⟨j,hj,rfl⟩:=List.getElem_of_mem hc
  exact a0 j hj (by omega)
 have bh:l.findIdx? (P9 (Q4 l))=none:=by
  rw[List.findIdx?_eq_none_iff];exact ba
 rw[bh] at C h0
 simp only at C h0
 clear a0 hh a H av ak ah p az
 have ae:=Q69 g (fun c hc=>(bi c hc).2.2) ba
 have ap:X0G (Q4 l):=fun c hc u hu=>by
  rcases List.mem_append.1 hc with hc | hc
  ·rw[(Uf c hc).2.2] at hu;simp at hu
  ·have:=bu c hc
   unfold O8 at this
   split at this
   ·simp at this
   ·split at this
    ·simp at this
    ·rename_i z
     have z:c.like.any (R5 (Q4 l))=false:=eq_false_of_ne_true z
     have:=List.any_eq_false.1 z u hu
     unfold R5 at this
     cases hd:lk (Q4 l) u with
     | none=>rw[hd] at this;simp at this
     | some d=>exact ⟨d,rfl⟩
 have b3:Ok (Q4 l):=⟨ae,ao,q,ap,a5⟩
 have b0: ∀i (hi:i<(Q4 l).length),8≤i→ ∀u∈U4 (Q4 l)[i],∃j,Z1 (Q4 l) u=some j:=fun i hi V u hu=>by
  have af:i-8<l.length:=by omega
  obtain ⟨c8,e8⟩:=B af
  have cl:(Q4 l)[i]=l[i-8]:=by rw[←e8];congr 1;omega
  rw[cl] at hu
  have a9:=List.getElem_mem af
  rcases List.mem_cons.1 hu with hu | hu
  ·have:=bu _ a9
   unfold O8 at this
   split at this
   ·simp at this
   ·rename_i z
    unfold Qt at z
    rw[←hu] at z
    cases hd:lk (Q4 l) u with
    | none=>rw[hd] at z;simp at z
    | some d=>obtain ⟨_,_,j,hj,_⟩:=V4 hd;exact ⟨j,hj⟩
  ·obtain ⟨d,hd⟩:=ap _ (List.mem_append_right _ a9) u hu
   obtain ⟨_,_,j,hj,_⟩:=V4 hd;exact ⟨j,hj⟩
 refine Et (R:=Wv) (e:=T.e) b (by decide) fun c5 da bc bd _=>?_
 refine E8 l.length (fun n x' w'=> ∃t J,Stp w σ w' t∧SLe σ5 t∧V6 w.heap.size T.e 1 Wv t w' x' (ints J)∧Few (Q4 l) J∧J=(((List.range (Q4 l).length).drop 8).take n).foldl (fun J i=>Xy (Q4 l) 8 J i) [])
  ⟨cc,[],b.trans bc,be,bd,⟨List.nodup_nil,by simp⟩,rfl⟩ fun n x' c6 d H f=>?_
 clear bd bc b be ar
 obtain ⟨dl,J,W,M,an,al,ay⟩:=f
 have aj:=hl.up W
 refine Q8 aj ?_
 refine Z2 ?_
 refine Q7 (fun hh=>?_) (fun hh=>?_)
 ·have a:n<l.length:=by simpa using hh
  obtain ⟨V,e8⟩:=B a
  refine Xp ⟨by omega,by omega⟩ ?_
  have ec:((8:Nat):Int)+(n:Int)=((8+n:Nat):Int):=by omega
  rw[ec]
  refine X2z ae g (by omega) q (by omega) b0 ((Q4 l).length+1) V (Nat.lt_succ_of_le (Q1s _ _)) al W (D.lift M) an fun db de ck bn cb bz=>?_
  refine O4 ?_
  refine J5 aj.max a ⟨ck,_,bn,M.more cb,bz,Ka ae g (by omega) _ _ _ V al,?_⟩
  rw[List.take_add_one,List.getElem?_drop,List.getElem?_range V,List.foldl_append,←ay]
  rfl
 have a: ¬n<l.length:=by simpa using hh
 have cv:n=l.length:=by omega
 subst cv
 have b2:J=V8 (Q4 l) 8:=by
  rw[ay,List.take_of_length_le (by rw[List.length_drop,List.length_range];omega)];rfl
 subst b2
 clear ay hh a H
 have dt:=al.len
 have cq:=X0L g
 obtain ⟨b4,b1,cg,a7,_⟩:=an.keep W
 have bw:=M.more ⟨a7⟩
 clear an W a7 M aj
 have af:(ints (V8 (Q4 l) 8)).length=(V8 (Q4 l) 8).length:=by simp
 refine U3 (V8 (Q4 l) 8).length (fun n w'=> ∃t,Stp w σ w' t∧SLe b4 t∧ ∀j∈(V8 (Q4 l) 8).take n,V7 (Q4 l) ((Q4 l).getD j Cla.zero)=0) ⟨b4,b1,SLe.refl _,by simp⟩ fun n dj d H f=>?_
 obtain ⟨c4,Q,Y,a3⟩:=f
 have X:=cg.lift Y
 refine Q8 X ?_
 rw[af]
 refine Z2 ?_
 refine Q7 (fun hh=>?_) (fun hh=>?_)
 ·have a:n<(V8 (Q4 l) 8).length:=by simpa using hh
  have bx:n<(ints (V8 (Q4 l) 8)).length:=by rw[af];exact a
  refine Y3 X bx ?_
  obtain ⟨cs,pc,_,cj⟩:=X.el bx
  obtain ⟨rfl,_⟩:=cj
  simp only[List.getElem_map] at pc
  refine X7 Q.sat pc rfl ?_
  have ch:=(cq _ (List.getElem_mem a)).2
  have a1:(Q4 l).getD (V8 (Q4 l) 8)[n] Cla.zero=(Q4 l)[(V8 (Q4 l) 8)[n]]:=by rw[List.getD_eq_getElem?_getD,List.getElem?_eq_getElem ch];rfl
  refine Q76 Q.sat (D.lift (bw.more Y)) b3 g (by omega) aa ch fun dq ca y=>?_
  have a6:=Q.trans y
  refine Ut ?_
  refine Q7 (fun m=>?_) (fun m=>?_)
  ·have r: ¬V7 (Q4 l) (Q4 l)[(V8 (Q4 l) 8)[n]]=0:=by simpa using m
   have c1:=X.up y
   have bl:=pc.up y
   refine U2 y.sat ?_
   (repeat refine J7 Xa ?_)
   (intros;(repeat (rename_i hx;subst hx));(try simp only[↓M2,M2,Mb,reduceIte]))
   rename_i cr a8
   refine X7 a8.sat bl rfl ?_
   refine Zg ⟨by omega,by omega⟩ ?_
   have L:(V8 (Q4 l) 8).find? (fun j=> !decide (V7 (Q4 l) ((Q4 l).getD j Cla.zero)=0))=some (V8 (Q4 l) 8)[n]:=by
    rw[List.find?_eq_some_iff_getElem]
    refine ⟨by rw[a1];simpa using r,n,a,rfl,fun j hj=>?_⟩
    have:=a3 _ (List.mem_take_iff_getElem.2 ⟨j,by omega,rfl⟩)
    rw[this];simp
   have:=C (((V8 (Q4 l) 8)[n]:Int)-8) (V7 (Q4 l) (Q4 l)[(V8 (Q4 l) 8)[n]]) cr ca (by rw[L];simp only[a1]) (a6.trans a8.stp)
   exact this
  ·have hz:V7 (Q4 l) (Q4 l)[(V8 (Q4 l) 8)[n]]=0:=by simpa using m
   refine O4 ?_
   refine Y5 (by omega) a ⟨ca,a6,Y.more ⟨y.le⟩,fun j hj=>?_⟩
   rw[List.take_add_one,List.getElem?_eq_getElem a] at hj
   rcases List.mem_append.1 hj with hj | hj
   ·exact a3 j hj
   ·simp at hj;subst hj;rw[a1];exact hz
 ·have a: ¬n<(V8 (Q4 l) 8).length:=by simpa using hh
  rw[List.take_of_length_le (by omega)] at a3
  have L:(V8 (Q4 l) 8).find? (fun j=> !decide (V7 (Q4 l) ((Q4 l).getD j Cla.zero)=0))=none:=by
   rw[List.find?_eq_none]
   intro j hj
   rw[a3 j hj];simp
  rw[L] at h0
  exact h0 _ _ _ rfl Q (D.lift (bw.more Y)) b3 g)
end Go.Proofs.YtjdiakhipmggjaaGreatDoor

namespace Go.Proofs.YtjdiakhipmggjaaGreatDoor
open Go.Emb Go.RowKit Go.Kd Go.Hm
variable {w : World} {K : Value → World → Prop} {σ : Q6} {l : List Cla} {v : Value}
theorem Q8y:(I3 l).length=l.length:=by simp[I3]
theorem Q91 {i:Nat} (a:i<(I3 l).length):(I3 l)[i]=(List.range l.length).map fun j=>Xj l (Y2 l i) (Y2 l j):=by simp[I3]
theorem Sl.elB {xs:List (List Bool)} {v:Value} (h:Sl 1 Q5t σ v xs) {i:Nat} (a:i<xs.length): ∃u,Z4 σ (Vs 1 v i) [u]∧Sl 1 Q38 σ u xs[i]:=by
 obtain ⟨cs,c,d,u,rfl,b⟩:=h.el a;exact ⟨u,c,b⟩
theorem Sl.elb {xs:List Bool} {v:Value} (h:Sl 1 Q38 σ v xs) {i:Nat} (b:i<xs.length):Z4 σ (Vs 1 v i) [.bool xs[i]]:=by
 obtain ⟨cs,c,d,a⟩:=h.el b
 have a:cs=_:=a
 subst a;exact c
theorem X1R {a b:X0} (n:X2 w σ) (p:Sl 8 V0 σ v (Q4 l)) (o:Wf l) (ok:Ok (Q4 l)) (D:(Q4 l).length≤1000) (Y:a.length≤U1) (hb:b.length≤U1) (h: ∀w' σ',Stp w σ w' σ'→K (.bool (Xr (Q4 l) a b)) w'):Q1 P F.bS [v,S a,S b] w K:=Q1b (by
 unfold Ew
 have t: ∀r,Xr (Q4 l) a b=r→K (.bool r) w:=fun r e=>by rw[←e];exact h _ _ (Stp.refl n)
 refine Dt n p Y ?_
 cases f:N1 (Q4 l) a with
 | false=>
  have O:Xr (Q4 l) a b=false:=by unfold Xr;simp[f]
  (try simp only[↓M1,M1,Mb,reduceIte])
  by_cases e:a=b
  ·have g:decide (a=b)=true:=by simpa using e
   simp only[g,↓M1,M1,Mb,reduceIte]
   refine Dt n p Y ?_
   rw[f]
   (try simp only[↓M1,M1,Mb,reduceIte])
   exact t _ O
  ·have g:decide (a=b)=false:=by simpa using e
   simp only[g,↓M1,M1,Mb,reduceIte]
   exact t _ O
 | true=>
 (try simp only[↓M1,M1,Mb,reduceIte])
 refine Dt n p hb ?_
 cases m:N1 (Q4 l) b with
 | false=>
  have O:Xr (Q4 l) a b=false:=by unfold Xr;simp[m]
  have g:decide (a=b)=false:=by
   rw[decide_eq_false_iff_not];rintro rfl;rw[f] at m;cases m
  simp only[g,↓M1,M1,Mb,reduceIte]
  exact t _ O
 | true=>
 (try simp only[↓M1,M1,Mb,reduceIte])
 by_cases e:a=b
 ·have g:decide (a=b)=true:=by simpa using e
  simp only[g,↓M1,M1,Mb,reduceIte]
  refine Dt n p Y ?_
  rw[f]
  (try simp only[↓M1,M1,Mb,reduceIte])
  exact t _ (o.sub_iff.2 ⟨f,m, .inl e⟩)
 have g:decide (a=b)=false:=by simpa using e
 simp only[g,↓M1,M1,Mb,reduceIte]
 refine El _ ?_
 have c:(∀(_:plain a=false∧plain b=false∧(a=H7∨(elem a≠[]∧b=U0)∨(lk (Q4 l) a≠none∧Hm.Reach (lk (Q4 l)) a b))),False)→K (.bool false) w:=fun hx=>t _ (eq_false_of_ne_true fun ht=>by
  obtain ⟨_,_,h3⟩:=o.sub_iff.1 ht
  rcases h3 with h3 | h3
  ·exact e h3
  ·exact hx h3)
 cases q:plain a with
 | true=>(try simp only[↓M1,M1,Mb,reduceIte]);exact c fun hx=>by rw[q] at hx;cases hx.1
 | false=>
 (try simp only[↓M1,M1,Mb,reduceIte])
 refine El _ ?_
 cases E:plain b with
 | true=>(try simp only[↓M1,M1,Mb,reduceIte]);exact c fun hx=>by rw[E] at hx;cases hx.2.1
 | false=>
 (try simp only[↓M1,M1,Mb,reduceIte])
 by_cases N:b=H7
 ·have g:decide (b=[110,117,108,108])=true:=by rw[decide_eq_true_eq];exact N
  simp only[g,↓M1,M1,Mb,reduceIte]
  refine c fun ⟨_,_,hx⟩=>?_
  rcases hx with hx | ⟨_,hx⟩ | ⟨_,hx⟩
  ·exact e (hx.trans N.symm)
  ·rw[N] at hx;exact absurd hx (by decide)
  ·obtain ⟨d,A⟩:=hx.right
   rw[N,o.none_null] at A;cases A
 have U:decide (b=[110,117,108,108])=false:=by rw[decide_eq_false_iff_not];exact N
 simp only[U,↓M1,M1,Mb,reduceIte]
 by_cases k:a=H7
 ·have g:decide (a=[110,117,108,108])=true:=by rw[decide_eq_true_eq];exact k
  simp only[g,↓M1,M1,Mb,reduceIte]
  exact t _ (o.sub_iff.2 ⟨f,m, .inr ⟨q,E, .inl k⟩⟩)
 have C:decide (a=[110,117,108,108])=false:=by rw[decide_eq_false_iff_not];exact k
 simp only[C,↓M1,M1,Mb,reduceIte]
 by_cases B:b=U0
 ·have g:decide (b=[79,98,106,101,99,116])=true:=by rw[decide_eq_true_eq];exact B
  simp only[g,↓M1,M1,Mb,reduceIte]
  exact t _ (by rw[B];exact o.sub_root f q)
 have Q:decide (b=[79,98,106,101,99,116])=false:=by rw[decide_eq_false_iff_not];exact B
 simp only[Q,↓M1,M1,Mb,reduceIte]
 refine K0 n p ?_
 refine K0 n p ?_
 refine P5 ?_
 rw[T7]
 cases z:Z1 (Q4 l) a with
 | none=>
  simp only[Option.isSome_none,↓M1,M1,Mb,reduceIte]
  refine c fun ⟨_,_,hx⟩=>?_
  rcases hx with hx | ⟨_,hx⟩ | ⟨hx,_⟩
  ·exact k hx
  ·exact B hx
  ·exact hx (by unfold lk;rw[z];rfl)
 | some i=>
 simp only[Option.isSome_some,↓M1,M1,Mb,reduceIte]
 cases M:Z1 (Q4 l) b with
 | none=>
  simp only[T7,Option.isSome_none,↓M1,M1,Mb,reduceIte]
  refine c fun ⟨_,_,hx⟩=>?_
  rcases hx with hx | ⟨_,hx⟩ | ⟨_,hx⟩
  ·exact k hx
  ·exact B hx
  ·obtain ⟨d,A⟩:=hx.right
   unfold lk at A;rw[M] at A;cases A
 | some j=>
 obtain ⟨hi,R⟩:=S5 z
 obtain ⟨Z,W⟩:=S5 M
 simp only[T7,Option.isSome_some,↓M1,M1,Mb,reduceIte]
 simp only[L6]
 refine Q0U n p o.own (by omega) D ok.sm fun v1 w1 σ1 s H=>?_
 have y:i<(I3 (Q4 l)).length:=by rw[Q8y];exact hi
 refine Y3 H y ?_
 obtain ⟨u,p1,V⟩:=Sl.elB H y
 refine X7 s.sat p1 rfl ?_
 rw[Q91 y] at V
 have J:j<((List.range (Q4 l).length).map fun j=>Xj (Q4 l) (Y2 (Q4 l) i) (Y2 (Q4 l) j)).length:=by simpa using Z
 refine Y3 V J ?_
 refine X7 s.sat (Sl.elb V J) rfl ?_
 (try simp only[↓M1,M1,Mb,reduceIte])
 simp only[List.getElem_map,List.getElem_range,R,W]
 have L:Xr (Q4 l) a b=Xj (Q4 l) a b:=by
  obtain ⟨ca,X,_⟩:=Zm z
  rw[Bool.eq_iff_iff,o.sub_class X,Ul,Q0X]
  constructor
  ·rintro (⟨hx,_⟩ | hx)
   ·exact absurd hx e
   ·exact hx
  ·exact .inr
 rw[←L]
 exact h _ _ s)
end Go.Proofs.YtjdiakhipmggjaaGreatDoor

namespace Go.Proofs.YtjdiakhipmggjaaGreatDoor
open Go.Emb Go.RowKit Go.Kd Go.Hm
variable {w : World} {K : Value → World → Prop} {σ : Q6} {l : List Cla} {v : Value}
end Go.Proofs.YtjdiakhipmggjaaGreatDoor

namespace Go.Emb
open Go.RowKit Go.Hm
def D1 (σ:Q6) (x:List Cla×Int×List Cel) (ds:List Value):Prop:= ∃a b,ds=[a,I x.2.1,b]∧Sl 8 V0 σ a x.1∧Sl 2 S2 σ b x.2.2
instance:Rep D1:=⟨fun hk ⟨lv,cv,h1,h2,h3⟩=>⟨lv,cv,h1,h2.le hk,h3.le hk⟩,fun ⟨lv,cv,h1,h2,h3⟩ u hu=>by
 rw[h1] at hu;simp at hu;rcases hu with rfl | rfl | rfl
 ·exact A6 h2
 ·rfl
 ·exact A6 h3⟩
theorem W7 {σ σ':Q6} {x:List Cla×Int×List Cel} {cs:List Value} (h:D1 σ x cs) (k:SLe σ σ'):D1 σ' x cs:=Rep.up k.le h
theorem D1.out {σ:Q6} {l:List Cla} {room:Int} {cs:List Cel} {ds:List Value} (h:D1 σ (l,room,cs) ds): ∃a b,ds=[a,I room,b]∧Sl 8 V0 σ a l∧Sl 2 S2 σ b cs:=h
end Go.Emb
namespace Go.Proofs.YtjdiakhipmggjaaGreatDoor
open Go.Emb Go.RowKit Go.Kd Go.Hm
variable {w w' : World} {K : Value → World → Prop} {σ σ' : Q6} {ds : List Value} {room : Int} {cs : List Cel} {l : List Cla}
theorem Q6j {k:X0} (O:X2 w σ) (h: ∀w' σ',Stp w σ w' σ'→K (.agg [I (L7 k).sort,I (L7 k).n,S (L7 k).s,I (L7 k).ref].toArray) w'):Q1 P F.aq [S k] w K:=Aa (by
 unfold Oe
 refine M8 O fun b w1 σ1 W t u=>?_
 have hB:=M9 W (Stp.refl O)
 refine W2 (cells:= #[I 0,I 0,S [],I 0]) (by kernel_rfl) ?_
 refine M8 t.sat fun B w2 C J v y=>?_
 have D:=t.trans v
 have j:=M9 J t
 have g:b≠B:=by have:=u.lt;omega
 refine Mj (ds:=[I 0,I 0,S [],I 0]) y rfl rfl (by rw[List.all_toArray];exact List.all_eq_true.2 Sy) fun V Q a=>?_
 have m:=Q.stp D j y.1
 have c:=(u.up v).upd Q g
 have o: ∀(n:Int) (e:World),Y1 C e B [I n,I 0,S [],I 0]→Y1 C e b [I 0,I 0,S [],I 0]→Stp w σ e C→(∀w' σ',Stp w σ w' σ'→K (.agg [I n,I 0,S [],I 0].toArray) w')→Q2 P T.f (.pointer (some ⟨B,0,none⟩)) e fun A w=>
  Y0 P T.f (.pointer (some ⟨b,0,none⟩)) A w fun _u w=>
  Y7 P T.f (.pointer (some ⟨b,0,none⟩)) w fun U=>K U w:=fun n e r p Z X=>
  Sc r rfl (G7 p Z hB rfl rfl Sy fun w5 L E=>V2 E rfl (X _ _ L.stp))
 have R:decide (k=[105,110,116])=decide (k=P7):=rfl
 have N:decide (k=[98,111,111,108])=decide (k=Je):=rfl
 have M:decide (k=[116,101,120,116])=decide (k=O9):=rfl
 unfold L7 at h
 refine U8 ?_
 refine K2 ?_
 rw[R]
 by_cases p:k=P7
 ·simp only[if_pos p] at h
  have Y:decide (k=Je)=false:=by subst p;decide
  have H:decide (k=O9)=false:=by subst p;decide
  rw[decide_eq_true p]
  refine J4 ?_
  refine W4 ?_
  refine Ud (i:=0) a (by simp) rfl rfl fun e q f=>?_
  intro d
  refine U8 ?_
  refine K2 ?_
  rw[N,Y]
  refine Z9 ?_
  intro d
  refine U8 ?_
  refine K2 ?_
  rw[M,H]
  refine Z9 ?_
  intro d
  exact o 1 e f (c.upd q g) (q.stp m j a.1) h
 simp only[if_neg p] at h
 rw[decide_eq_false p]
 refine Z9 ?_
 intro d
 refine U8 ?_
 refine K2 ?_
 rw[N]
 by_cases r:k=Je
 ·simp only[if_pos r] at h
  have H:decide (k=O9)=false:=by subst r;decide
  rw[decide_eq_true r]
  refine J4 ?_
  refine W4 ?_
  refine Ud (i:=0) a (by simp) rfl rfl fun e q f=>?_
  intro d
  refine U8 ?_
  refine K2 ?_
  rw[M,H]
  refine Z9 ?_
  intro d
  exact o 2 e f (c.upd q g) (q.stp m j a.1) h
 simp only[if_neg r] at h
 rw[decide_eq_false r]
 refine Z9 ?_
 intro d
 refine U8 ?_
 refine K2 ?_
 rw[M]
 by_cases z:k=O9
 ·simp only[if_pos z] at h
  rw[decide_eq_true z]
  refine J4 ?_
  refine W4 ?_
  refine Ud (i:=0) a (by simp) rfl rfl fun e q f=>?_
  intro d
  exact o 3 e f (c.upd q g) (q.stp m j a.1) h
 ·simp only[if_neg z] at h
  rw[decide_eq_false z]
  refine Z9 ?_
  intro d
  exact o 0 V a c m h)
theorem X00 (p:X2 w σ) (hh:D1 σ (l,room,cs) ds) (r:0≤W6 room cs) (E:room≤1048576) (h: ∀w' σ',Stp w σ w' σ'→K (I (W6 room cs)) w'):Q1 P F.aQ [.agg ds.toArray] w K:=Af (by
 obtain ⟨v,y,rfl,u,k⟩:=D1.out hh
 unfold Od
 refine Y9 p fun q w1 σ1 g j=>?_
 have c:=g.sat
 have b:=k.up g
 refine W4 ?_
 refine ld c j rfl ?_
 unfold W6 at h r
 refine E8 cs.length (fun n x w'=>w'=w1∧x=I (room-Z6 (cs.take n))) ⟨rfl,by simp[Z6]⟩ fun n x A d J i=>?_
 obtain ⟨rfl,rfl⟩:=i
 have e:Z6 cs=Z6 (cs.take n)+Z6 (cs.drop n):=by rw[←Qo,List.take_append_drop]
 have D:=D9 (cs.take n)
 have z:=D9 (cs.drop n)
 refine W4 ?_
 refine ld c j rfl ?_
 refine Q8 b ?_
 refine Z2 ?_
 refine Q7 (fun f=>?_) (fun f=>?_)
 ·have a:n<cs.length:=by simpa using f
  obtain ⟨B,o,m,s⟩:=Sl.elO b a
  refine W4 ?_
  refine ld c j rfl ?_
  refine Y3 b a ?_
  refine W4 ?_
  refine ld c o rfl ?_
  refine Q8 m ?_
  have C:Z6 (cs.drop n)=(1+(cs[n].vals.length:Int))+Z6 (cs.drop (n+1)):=by
   rw[List.drop_eq_getElem_cons a];simp only[Z6,List.map_cons,List.sum_cons]
  have t:=D9 (cs.drop (n+1))
  have H:Z6 (cs.take (n+1))=Z6 (cs.take n)+(1+(cs[n].vals.length:Int)):=by
   rw[List.take_add_one,List.getElem?_eq_getElem a,Qo];simp[Z6]
  refine Xp ⟨by omega,by omega⟩ ?_
  refine Zg ⟨by omega,by omega⟩ ?_
  refine O4 ?_
  refine J5 b.max a ⟨rfl,?_⟩
  congr 1;omega
 ·have a: ¬n<cs.length:=by simpa using f
  rw[List.take_of_length_le (by omega)]
  exact h _ _ g)
theorem Q9A {n:X0} {g:Value} (j:X2 w σ) (f:Sl 8 V0 σ g l) (h:K (.bool (A0 l n)) w):Q1 P F.b7 [g,S n] w K:=Fj (by
 unfold Vu
 refine K0 j f ?_
 refine P5 ?_
 rw[T7]
 unfold A0 at h
 cases b:lk l n with
 | none=>
  rw[b] at h
  rw[Q12 b]
  simp only[Option.isSome_none,↓M1,M1,Mb,reduceIte]
  exact h
 | some c=>
  rw[b] at h
  obtain ⟨_,_,i,m,d⟩:=V4 b
  obtain ⟨a,e⟩:=List.getElem?_eq_some_iff.1 d
  obtain ⟨q,o,p,k,_⟩:=f.elC a
  rw[e] at k
  rw[m]
  simp only[Option.isSome_some,L6,↓M1,M1,Mb,reduceIte]
  refine Y3 f a ?_
  (try simp only[↓M1,M1,Mb,reduceIte])
  refine ld j k rfl ?_
  (try simp only[↓M1,M1,Mb,reduceIte])
  exact h)
theorem Q7E {r i:Int} (v:X2 w σ) (hh:D1 σ (l,room,cs) ds) (h: ∀w' σ',Stp w σ w' σ'→K (I (E2 cs r i)) w'):Q1 P F.aL [.agg ds.toArray,I r,I i] w K:=Pa (by
 obtain ⟨z,A,rfl,y,c⟩:=D1.out hh
 unfold Nx
 refine Y9 v fun q w1 σ1 a o=>?_
 have d:=a.sat
 have k:=c.up a
 refine Z2 ?_
 unfold E2 at h
 have b:M0 cs r=false→K (I 92) w1:=fun e=>by
  have:=h _ _ a
  rw[e] at this
  exact this
 by_cases s:r<0
 ·rw[decide_eq_true s]
  (try simp only[↓M1,M1,Mb,reduceIte])
  exact b (by simp only[M0,Bool.and_eq_false_iff,decide_eq_false_iff_not];left;omega)
 rw[decide_eq_false s]
 (try simp only[↓M1,M1,Mb,reduceIte])
 refine ld d o rfl ?_
 refine Q8 k ?_
 refine P5 ?_
 (try simp only[↓M1,M1,Mb,reduceIte])
 by_cases n:(cs.length:Int)≤r
 ·rw[decide_eq_true n]
  refine J4 ?_
  exact b (by simp only[M0,Bool.and_eq_false_iff,decide_eq_false_iff_not];right;omega)
 rw[decide_eq_false n]
 refine Z9 ?_
 have m:M0 cs r=true:=by simp only[M0,Bool.and_eq_true,decide_eq_true_eq];omega
 obtain ⟨j,rfl,g⟩:=D7.1 m
 rw[m,L4 g] at h
 obtain ⟨B,u,t,_⟩:=Sl.elO k g
 by_cases p:i<0
 ·rw[decide_eq_true p]
  (try simp only[↓M1,M1,Mb,reduceIte])
  have:=h _ _ a
  rw[if_pos rfl,if_neg (by omega)] at this
  exact this
 ·rw[decide_eq_false p]
  (try simp only[↓M1,M1,Mb,reduceIte])
  refine ld d o rfl ?_
  refine Y3 k g ?_
  (try simp only[↓M1,M1,Mb,reduceIte])
  refine ld d u rfl ?_
  refine Q8 t ?_
  refine P5 ?_
  (try simp only[↓M1,M1,Mb,reduceIte])
  have f:=h _ _ a
  refine Q7 (fun c=>?_) (fun c=>?_)
  ·have c:(cs[j].vals.length:Int)≤i:=by simpa using c
   rw[if_pos rfl,if_neg (by omega)] at f
   exact f
  ·have c: ¬(cs[j].vals.length:Int)≤i:=by simpa using c
   rw[if_pos rfl,if_pos (by omega)] at f
   exact f)
theorem X3X {r i:Int} (O:X2 w σ) (hh:D1 σ (l,room,cs) ds) (h: ∀w' σ',Stp w σ w' σ'→K (.tuple #[.agg [I (Hj cs r i).sort,I (Hj cs r i).n,S (Hj cs r i).s,I (Hj cs r i).ref].toArray,I (E2 cs r i)]) w'):Q1 P F.bP [.agg ds.toArray,I r,I i] w K:=Q0y (by
 have C:=hh
 obtain ⟨W,X,rfl,V,J⟩:=D1.out hh
 unfold Ez
 refine Y9 O fun q w0 σ0 f D=>?_
 refine M8 f.sat fun b w1 σ1 N c z=>?_
 have u:=f.trans c
 have hB:=M9 N f
 have t:=D.up c
 refine Y4 c.sat t rfl ?_
 refine Q7E c.sat (W7 C ⟨u.le⟩) fun Z U a=>?_
 have g:=u.trans a
 have k:=a.sat
 have v:=z.up a
 have B:=t.up a
 refine Ut ?_
 unfold Hj at h
 by_cases p:E2 cs r i=0
 ·have e:decide (E2 cs r i=0)=true:=decide_eq_true p
  rw[if_pos p,p] at h
  simp only[e,Bool.not_true,↓M1,M1,Mb,reduceIte]
  obtain ⟨j,m,rfl,rfl,y,A⟩:=Lb p
  rw[L4 y,Int.toNat_natCast] at h
  have E:=J.up g
  obtain ⟨Y,L,H,_⟩:=Sl.elO E y
  obtain ⟨R,Q⟩:=Sl.elV H A
  refine ld k B rfl ?_
  refine Y3 E y ?_
  (try simp only[↓M1,M1,Mb,reduceIte])
  refine ld k L rfl ?_
  refine Y3 H A ?_
  refine Y4 k R rfl ?_
  refine G7 v g hB rfl rfl (Rep.one Q) fun M o d=>?_
  refine V2 d rfl ?_
  have e:cs[j].vals.getD m Val.zero=cs[j].vals[m]:=by rw[List.getD_eq_getElem?_getD,List.getElem?_eq_getElem A];rfl
  rw[e] at h
  exact h _ _ o.stp
 ·have e:decide (E2 cs r i=0)=false:=by simpa using p
  rw[if_neg p] at h
  simp only[e,Bool.not_false,↓M1,M1,Mb,reduceIte]
  refine W2 (cells:= #[I 0,I 0,S [],I 0]) (by kernel_rfl) ?_
  refine G7 (ds:=[I 0,I 0,S [],I 0]) v g hB rfl rfl Sy fun M o d=>?_
  refine V2 d rfl ?_
  exact h _ _ o.stp)
theorem X3t (u:X2 w σ) (hh:D1 σ (l,room,cs) ds) (ok:Ok l) (d:l.length≤1000) {k:X0} {t:Value} {i:Nat} (r:k.length≤U1) (j:elem k=[]→i<(Y6 l k).length)
 (h: ∀w' σ',Stp w σ w' σ'→K (S (Xk l k i)) w'):Q1 P F.bE [.agg ds.toArray, .agg [S k,t].toArray,I i] w K:=Tx (by
 obtain ⟨z,A,rfl,p,y⟩:=D1.out hh
 unfold Oi
 refine Y9 u fun v w0 σ0 c m=>?_
 refine Y9 c.sat fun q w1 σ1 a n=>?_
 have b:=c.trans a
 refine W4 ?_
 refine ld (i:=0) a.sat n rfl ?_
 refine X0y k (Nat.le_trans r (by decide)) ?_
 refine Wl ?_
 unfold Xk at h
 by_cases e:elem k=[]
 ·simp only[if_pos e] at h
  rw[decide_eq_true e]
  (try simp only[↓M1,M1,Mb,reduceIte])
  refine ld (i:=0) a.sat (m.up a) rfl ?_
  refine ld (i:=0) a.sat n rfl ?_
  refine Is a.sat (p.up b) ok.acy d ok.sm fun D B C f g=>?_
  refine Y3 g (j e) ?_
  obtain ⟨o,_⟩:=g.elF (j e)
  (try simp only[↓M1,M1,Mb,reduceIte])
  refine ld f.sat o rfl ?_
  have s:(Y6 l k).getD i Fld.zero=(Y6 l k)[i]'(j e):=by rw[List.getD_eq_getElem?_getD,List.getElem?_eq_getElem (j e)];rfl
  rw[s] at h
  exact h _ _ (b.trans f)
 ·simp only[if_neg e] at h
  rw[decide_eq_false e]
  (try simp only[↓M1,M1,Mb,reduceIte])
  exact h _ _ b)
theorem X45 {ok:X0→Bool} {b d:Int} {c:X0}:P2 ok cs ⟨0,b,c,d⟩=if b=0∧c=[]∧d=0 then H7 else []:=by
 simp[P2,Val.zero]
theorem X3I {ok:X0→Bool} {b d:Int} {c:X0}:P2 ok cs ⟨1,b,c,d⟩=if c=[]∧d=0 then P7 else []:=by
 simp[P2,Val.zero]
theorem X40 {ok:X0→Bool} {b d:Int} {c:X0}:P2 ok cs ⟨2,b,c,d⟩=if (c=[]∧d=0)∧(b=0∨b=1) then Je else []:=by
 simp[P2,Val.zero]
theorem X44 {ok:X0→Bool} {b d:Int} {c:X0}:P2 ok cs ⟨3,b,c,d⟩=if (b=0∧d=0)∧ok c=true then O9 else []:=by
 simp[P2,Val.zero]
theorem X4a {ok:X0→Bool} {b d:Int} {c:X0}:P2 ok cs ⟨4,b,c,d⟩=if b=0∧c=[] then D6 cs d else []:=by
 simp[P2,Val.zero]
theorem X47 {ok:X0→Bool} {a b d:Int} {c:X0} (i:a≠0) (h:a≠1) (e:a≠2) (g:a≠3) (f:a≠4):P2 ok cs ⟨a,b,c,d⟩=[]:=by
 simp[P2,Val.zero,i,h,e,g,f]
set_option maxHeartbeats 2000000 in
theorem X3a {v:Val} (hs:X2 w σ) (hh:D1 σ (l,room,cs) ds) (hb:v.s.length≤U1) (h: ∀w' σ',Stp w σ w' σ'→K (S (P2 W5 cs v)) w'):Q1 P F.b4 [.agg ds.toArray, .agg [I v.sort,I v.n,S v.s,I v.ref].toArray] w K:=Q20 (by
 obtain ⟨lv,cv,rfl,hl,hc⟩:=D1.out hh
 unfold Hn
 refine Y9 hs fun q0 w0 σ0 H B=>?_
 refine Y9 H.sat fun q w1 σ1 E t=>?_
 have f:=H.trans E
 have g:=E.sat
 have B:=B.up E
 have Q:=hc.up f
 have k: ∀{w2:World} {σ2:Q6} {x:X0},Stp w σ w2 σ2→P2 W5 cs v=x→K (S x) w2:=fun hS e=>by
  have:=h _ _ hS
  rw[e] at this
  exact this
 obtain ⟨a,b,c,d⟩:=v
 simp only at hb t
 have L: ∀r,M0 cs r=false→D6 cs r=[]:=fun r e=>by unfold D6;rw[e];rfl
 refine W4 ?_
 refine ld g t rfl ?_
 refine P3 ?_
 have z: ∀{A:Value→World→Prop},(∀p:Bool,p=(decide (d=0)&&decide (c=[]))→A (.bool p) w1)→Q0 (.bool (decide (d=0))) true w1 (fieldAddr P T.f (.pointer (some q)) 2) (fun R w=>
  Q0 (.bool (decide (d=0))) true w (Q2 P T.c R) fun aa w=>
  Q0 (.bool (decide (d=0))) true w (Q3 P .eql T.c (.tmp 11) (.const (.string ⟨#[]⟩)) aa (.string ⟨#[]⟩)) fun ab w=>
  pick P (.bool (decide (d=0))) ab (.bool false) w A):=fun {A} hA=>by
  cases hd:decide (d=0) with
  | false=>(try simp only[↓M1,M1,Mb,reduceIte]);exact hA false (by simp[hd])
  | true=>
   (try simp only[↓M1,M1,Mb,reduceIte])
   refine ld g t rfl ?_
   (try simp only[↓M1,M1,Mb,reduceIte])
   exact hA _ (by simp[hd])
 refine z fun p hp=>?_
 refine Ur (fun _ w'=>Stp w σ w' σ1∧P2 W5 cs ⟨a,b,c,d⟩=[]) ?_ (fun _ d' w' hz=>k hz.1 hz.2)
 refine W4 ?_
 refine ld (i:=0) g t rfl ?_
 refine P3 ?_
 have y:(p=true)↔(c=[]∧d=0):=by rw[hp];simp[and_comm]
 have D:p=false→ ¬(c=[]∧d=0):=fun e h=>by rw[y.2 h] at e;cases e
 by_cases U:a=0
 ·subst U
  rw[X45] at*
  rw[decide_eq_true rfl]
  refine J4 ?_
  cases o:p with
  | false=>
   (try simp only[↓M1,M1,Mb,reduceIte])
   exact ⟨f,if_neg fun e=>D o e.2⟩
  | true=>
   have u:=y.1 o
   (try simp only[↓M1,M1,Mb,reduceIte])
   refine ld g t rfl ?_
   (try simp only[↓M1,M1,Mb,reduceIte])
   by_cases m:b=0
   ·rw[decide_eq_true m]
    (try simp only[↓M1,M1,Mb,reduceIte])
    exact k f (if_pos ⟨m,u⟩)
   ·rw[decide_eq_false m]
    (try simp only[↓M1,M1,Mb,reduceIte])
    exact ⟨f,if_neg fun e=>m e.1⟩
 rw[decide_eq_false U]
 refine Z9 ?_
 refine P3 ?_
 by_cases V:a=1
 ·subst V
  rw[X3I] at*
  rw[decide_eq_true rfl]
  refine J4 ?_
  cases o:p with
  | false=>exact Z9 ⟨f,if_neg (D o)⟩
  | true=>exact J4 (k f (if_pos (y.1 o)))
 rw[decide_eq_false V]
 refine Z9 ?_
 refine P3 ?_
 by_cases Z:a=2
 ·subst Z
  rw[X40] at*
  rw[decide_eq_true rfl]
  refine J4 ?_
  cases o:p with
  | false=>
   (try simp only[↓M1,M1,Mb,reduceIte])
   exact ⟨f,if_neg fun e=>D o e.1⟩
  | true=>
   have u:=y.1 o
   (try simp only[↓M1,M1,Mb,reduceIte])
   refine ld g t rfl ?_
   (try simp only[↓M1,M1,Mb,reduceIte])
   by_cases m:b=0
   ·rw[decide_eq_true m]
    (try simp only[↓M1,M1,Mb,reduceIte])
    exact k f (if_pos ⟨u, .inl m⟩)
   ·rw[decide_eq_false m]
    (try simp only[↓M1,M1,Mb,reduceIte])
    refine ld g t rfl ?_
    (try simp only[↓M1,M1,Mb,reduceIte])
    by_cases M:b=1
    ·rw[decide_eq_true M]
     (try simp only[↓M1,M1,Mb,reduceIte])
     exact k f (if_pos ⟨u, .inr M⟩)
    ·rw[decide_eq_false M]
     (try simp only[↓M1,M1,Mb,reduceIte])
     exact ⟨f,if_neg fun e=>e.2.elim m M⟩
 rw[decide_eq_false Z]
 refine Z9 ?_
 refine P3 ?_
 by_cases W:a=3
 ·subst W
  rw[X44] at*
  rw[decide_eq_true rfl]
  refine J4 ?_
  refine W4 ?_
  refine ld g t rfl ?_
  refine P3 ?_
  by_cases m:b=0
  case neg=>
   rw[decide_eq_false m]
   (try simp only[↓M1,M1,Mb,reduceIte])
   exact ⟨f,if_neg fun e=>m e.1.1⟩
  rw[decide_eq_true m]
  (try simp only[↓M1,M1,Mb,reduceIte])
  refine ld g t rfl ?_
  (try simp only[↓M1,M1,Mb,reduceIte])
  by_cases C:d=0
  case neg=>
   rw[decide_eq_false C]
   (try simp only[↓M1,M1,Mb,reduceIte])
   exact ⟨f,if_neg fun e=>C e.1.2⟩
  rw[decide_eq_true C]
  (try simp only[↓M1,M1,Mb,reduceIte])
  refine ld g t rfl ?_
  refine Cg X8 ?_
  refine Q53 ?_
  by_cases c0:c.length≤4096
  case neg=>
   rw[decide_eq_false (show¬(c.length:Int)≤4096 by omega)]
   (try simp only[↓M1,M1,Mb,reduceIte])
   exact ⟨f,if_neg fun e=>c0 (by have:=e.2;simp only[W5,Bool.and_eq_true,decide_eq_true_eq] at this;exact this.1)⟩
  rw[decide_eq_true (show (c.length:Int)≤4096 by omega)]
  (try simp only[↓M1,M1,Mb,reduceIte])
  refine ld g t rfl ?_
  refine Q4l hb g fun w2 X=>?_
  have J:=f.trans (Stp.of_below g X)
  cases hv:Lib.validD c with
  | true=>
   (try simp only[↓M1,M1,Mb,reduceIte])
   exact k J (if_pos ⟨⟨m,C⟩,by simp[W5,hv,c0]⟩)
  | false=>
   (try simp only[↓M1,M1,Mb,reduceIte])
   exact ⟨J,if_neg fun e=>by have:=e.2;simp[W5,hv] at this⟩
 rw[decide_eq_false W]
 refine Z9 ?_
 refine P3 ?_
 by_cases Y:a=4
 case neg=>
  rw[decide_eq_false Y]
  exact Z9 ⟨f,X47 U V Z W Y⟩
 subst Y
 rw[X4a] at*
 rw[decide_eq_true rfl]
 refine J4 ?_
 refine W4 ?_
 refine ld g t rfl ?_
 refine P3 ?_
 by_cases m:b=0
 case neg=>
  rw[decide_eq_false m]
  (try simp only[↓M1,M1,Mb,reduceIte])
  exact ⟨f,if_neg fun e=>m e.1⟩
 rw[decide_eq_true m]
 (try simp only[↓M1,M1,Mb,reduceIte])
 refine ld g t rfl ?_
 (try simp only[↓M1,M1,Mb,reduceIte])
 by_cases c0:c=[]
 case neg=>
  rw[decide_eq_false c0]
  (try simp only[↓M1,M1,Mb,reduceIte])
  exact ⟨f,if_neg fun e=>c0 e.2⟩
 rw[decide_eq_true c0]
 (try simp only[↓M1,M1,Mb,reduceIte])
 refine ld g t rfl ?_
 refine P5 ?_
 rw[if_pos ⟨m,c0⟩] at*
 by_cases C:0≤d
 case neg=>
  rw[decide_eq_false C]
  (try simp only[↓M1,M1,Mb,reduceIte])
  exact ⟨f,L d (by simp[M0,C])⟩
 rw[decide_eq_true C]
 (try simp only[↓M1,M1,Mb,reduceIte])
 refine ld g t rfl ?_
 refine ld g B rfl ?_
 refine Q8 Q ?_
 refine Z2 ?_
 (try simp only[↓M1,M1,Mb,reduceIte])
 by_cases N:d<(cs.length:Int)
 case neg=>
  rw[decide_eq_false N]
  exact Z9 ⟨f,L d (by simp[M0,N])⟩
 rw[decide_eq_true N]
 refine J4 ?_
 obtain ⟨j,rfl,O⟩:=D7.1 (show M0 cs d=true by simp[M0,C,N])
 obtain ⟨vv,p1,p2,_⟩:=Sl.elO Q O
 refine ld g B rfl ?_
 refine ld g t rfl ?_
 refine Y3 Q O ?_
 (try simp only[↓M1,M1,Mb,reduceIte])
 refine ld g p1 rfl ?_
 exact k f (Yl O))
end Go.Proofs.YtjdiakhipmggjaaGreatDoor

namespace Go.Emb
open Go.RowKit Go.Hm
section
variable {α : Type} {P : Program} {R R' : Q6 → α → List Value → Prop} {sz : Nat} {e : TypeId} {σ σ0 σ' : Q6} {v u : Value} {xs ys : List α} {w w0 w' : World} {K : Value → World → Prop}
theorem X0s {t B:TypeId} {s:Nat} {z:Value} {cs:List Bool} [ts:TS P t e] [tz:TZ P e sz s z] [hr:Rep R] [hr':Rep R'] (O:Stp w0 σ0 w σ) (ha:V6 w0.heap.size e sz R σ w v xs) (L:X2 w σ') (U:Sl sz R' σ' u ys) (hR: ∀x cs,R' σ' x cs→R σ x cs) (N:(z.cells.size==sz&&decide (0<sz))=true)
 (hb:(xs.length+ys.length)*s≤140737488355328) (hm:xs.length+ys.length≤9223372036854775807)
 (h: ∀d w',w.grownBy w' v.ownBlock→Stp w0 σ0 w' σ→V6 w0.heap.size e sz R σ w' d (xs++ys)→(d.ownBlock=v.ownBlock∨ ∀k,d.ownBlock=some k→w.heap.size≤k)→K d w'):X3 P .append [t,t] B cs [v,u] w K:=by
 obtain ⟨cells,y,V,h3⟩:=ha
 obtain ⟨a,n,c,rfl,Y,X,n3,n4,n5⟩:=U.cells L
 obtain ⟨i,J,M,E,p⟩:=tz.info
 have q: ∀d w',(Builtin.append_ #[t,t] B #[v, .slice a ys.length n]).run P w= .ok d w'→w'.ownsRow w0.heap.size e sz d (xs.length+ys.length) (cells++c)→w.grownBy w' v.ownBlock→(d.ownBlock=v.ownBlock∨d.ownBlock=some w.heap.size)→X3 P .append [t,t] B cs [v, .slice a ys.length n] w K:=by
  intro d w' A f m hat
  have r:(builtin .append #[t,t] B cs.toArray #[v, .slice a ys.length n]).run P w= .ok (.value d) w':=by
   simp[builtin,A]
  unfold X3
  rw[A9];unfold T2
  rw[r]
  refine h d w' m (Stp.turn m O fun k o=>⟨(y.lt k o).1,V k o⟩) ⟨cells++c,by rw[List.length_append];exact f,?_,?_⟩ ?_
  ·intro k o
   rcases hat with hat | hat
   ·exact V k (hat▸o)
   ·rw[hat] at o;cases o;exact O.sat.none (Nat.le_refl _)
  ·intro j x C
   by_cases Q:j<xs.length
   ·rw[List.getElem?_append_left Q] at C
    rw[Ww cells c xs.length j y.1 Q]
    exact h3 j x C
   ·rw[List.getElem?_append_right (by omega)] at C
    have:=hR _ _ (n5 _ _ C)
    rw[show j*sz=cells.length+(j-xs.length)*sz by rw[y.1,←Nat.add_mul];congr 1;omega,List.drop_append]
    simpa [List.drop_eq_nil_of_le] using this
  ·rcases hat with hat | hat
   ·exact .inl hat
   ·right;intro k o;rw[hat] at o;cases o;exact Nat.le_refl _
 simp only[Bool.and_eq_true,beq_iff_eq,decide_eq_true_eq] at N
 cases a with
 | some b=>
  obtain ⟨d,w',g1,Z,g3,_,g5⟩:=run_append_own_at (P:=P) w w0.heap.size t B e i z sz s ts.h J p M E N.1 N.2 v xs.length cells y b ys.length n c X (n3 b rfl) n4 (by simp only[maxLen];omega) hb O.bel.size
  exact q d w' g1 Z g3 g5
 | none=>
  have hy:ys=[]:=List.eq_nil_of_length_eq_zero (by obtain ⟨a',W,e',q1,_,q3,_⟩:=U;injection e' with _ e2 e3;have:=Y rfl;subst e3;omega)
  have H:=Y rfl
  subst hy H
  have hn:c=[]:=List.eq_nil_of_length_eq_zero (by simpa using X)
  subst hn
  have f:=y
  rcases y.2 with ⟨rfl,h0⟩ | ⟨g,n,aa,rfl,af,hg,D,_⟩
  ·refine q (.slice none 0 0) w ?_ (by simpa using f) (World.grownBy.refl w _) (.inl rfl)
   simp[Builtin.append_,run_underlying ts.h,sizeOf,typeInfo,J,Builtin.lenOf,Builtin.firstCells]
  ·refine q _ w ?_ (by simpa using f) (World.grownBy.refl w _) (.inl rfl)
   simp[Builtin.append_,run_underlying ts.h,sizeOf,typeInfo,J,Builtin.lenOf,Builtin.firstCells,D,storeCells]
end
def Q5g {α:Type} (c:α) (ds:List Value) (_:Q6) (x:α) (cs:List Value):Prop:=x=c∧cs=ds∧ ∀u∈ds,u.oneCell'=true
instance {α:Type} (c:α) (ds:List Value):Rep (Q5g c ds):=⟨fun _ h=>h,fun h u hu=>h.2.2 u (h.2.1▸hu)⟩
end Go.Emb
namespace Go.Proofs.YtjdiakhipmggjaaGreatDoor
open Go.Emb Go.RowKit Go.Kd Go.Hm
variable {w w' : World} {K : Value → World → Prop} {σ σ' : Q6} {ds : List Value} {room : Int} {cs : List Cel} {l : List Cla}
theorem Q6O {b:Value} (c:Sl 2 S2 σ b cs) (r:Int):(D6 cs r).length≤U1:=by
 unfold D6
 split
 ·rename_i d
  obtain ⟨i,rfl,a⟩:=D7.1 d
  rw[L4 a]
  exact (Sl.elO c a).choose_spec.2.2
 ·exact Nat.zero_le _
theorem X0z {a:Value} (b:Sl 2 S2 σ a cs) (v:Val):(P2 W5 cs v).length≤U1:=by
 unfold P2
 split
 ·decide
 split
 ·decide
 split
 ·decide
 split
 ·decide
 split
 ·exact Q6O b _
 ·exact Nat.zero_le _
theorem Q9k {v:Val} {k:X0} (H:X2 w σ) (hh:D1 σ (Q4 l,room,cs) ds) (y:Wf l) (ok:Ok (Q4 l)) (g:(Q4 l).length≤1000) (E:v.s.length≤U1) (D:k.length≤U1) (h: ∀w' σ',Stp w σ w' σ'→K (.bool (S8 W5 (Q4 l) cs v k)) w'):Q1 P F.aO [.agg ds.toArray, .agg [I v.sort,I v.n,S v.s,I v.ref].toArray,S k] w K:=An (by
 have o:=hh
 obtain ⟨M,N,rfl,B,z⟩:=D1.out hh
 unfold Ov
 refine Y9 H fun J w0 σ0 f t=>?_
 refine Y9 f.sat fun q w1 σ1 c C=>?_
 have m:=f.trans c
 have d:=c.sat
 have j:=t.up c
 refine Y4 d j rfl ?_
 refine Y4 d C rfl ?_
 refine X3a d (W7 o ⟨m.le⟩) E fun U L a=>?_
 have b:=m.trans a
 refine Wl ?_
 unfold S8 at h
 have r:=X0z z v
 generalize P2 W5 cs v=A at*
 by_cases e:A=[]
 ·rw[decide_eq_true e] at h⊢
  (try simp only[↓M1,M1,Mb,reduceIte])
  exact h _ _ b
 ·rw[decide_eq_false e] at h⊢
  (try simp only[↓M1,M1,Mb,reduceIte])
  refine ld (i:=0) a.sat (j.up a) rfl ?_
  refine X1R a.sat (B.up b) y ok g r D fun Q O p=>?_
  (try simp only[↓M1,M1,Mb,reduceIte])
  exact h _ _ (b.trans p))
theorem Ri {o c:Nat} {a b:Value} {e:Int} {n:List Value} {w1:World} {σ1:Q6} (r:Stp w σ w1 σ1) (j:Y1 σ1 w1 o [a,I room,b]) (k:Y1 σ1 w1 c n) (q:n.length=3) (g:w.heap.size≤c) (m:D1 σ1 (l,room,cs) [a,I room,b]) (h: ∀w' σ',Stp w σ w' σ'→D1 σ' (l,room,cs) [a,I room,b]→K (.tuple #[.agg [a,I room,b].toArray,I e]) w'):
 Q2 P T.a (.pointer (some ⟨o,0,none⟩)) w1 fun d w=>
 Y0 P T.a (.pointer (some ⟨c,0,none⟩)) d w fun _u w=>
 Y7 P T.a (.pointer (some ⟨c,0,none⟩)) w fun p=>
 K (.tuple #[p,(.int .i64 e)]) w:=
 Sc j rfl (G7 k r g q rfl (Rep.one m) fun s f i=>V2 i rfl (h s σ1 f.stp m))
set_option maxHeartbeats 1000000 in
theorem Q9n {p L b7:Nat} {X cv x:Value} {k:X0} {vals:List Val} {zs:List Value} {w1:World} {σ1:Q6} (hS:Stp w σ w1 σ1) (Q:Y1 σ1 w1 p [X,I room,cv]) (ad:Y1 σ1 w1 L zs) (a2:Y1 σ1 w1 b7 [S k,x]) (hz:zs.length=3) (a6:w.heap.size≤p) (a8:w.heap.size≤L) (af:p≠L) (hl:Sl 8 V0 σ1 X l) (hc:Sl 2 S2 σ1 cv cs) (hx:Sl 4 M5 σ1 x vals) (hk:k.length≤U1) (bk:cs.length≤10000000)
 (h: ∀ak w' σ',Stp w σ w' σ'→D1 σ' (l,room,cs++[⟨k,vals⟩]) [X,I room,ak]→K (.tuple #[.agg [X,I room,ak].toArray,I 0]) w'):
 dr w1 fun n H=>
 Q5 n (fun q=> ∀w,H w→fieldAddr P T.a (.pointer (some ⟨p,0,none⟩)) 2 w (dk n q w)) fun q=>
 Q5 n (fun z=> ∀w,H w→buildSlice P T.g 0 [] w (dk n z w)) fun z=>
 Q5 n (fun s=> ∀d w,H w→q d w→Q2 P T.g d w (dk n s w)) fun s=>
 Q5 n (fun N=> ∀g i w,H w→z g w→s i w→X3 P .append [T.g,T.g] T.g [false,false] [g,i] w (dk n N w)) fun N=>
 Q5 n (fun r=> ∀w,H w→Q2 P T.o (.pointer (some ⟨b7,0,none⟩)) w (dk n r w)) fun r=>
 Q5 n (fun E=> ∀f w,H w→r f w→buildSlice P T.g 1 [(0,f)] w (dk n E w)) fun E=>
 ∀d g i U f W w,H w→q d w→z g w→s i w→N U w→r f w→E W w→
 X3 P .append [T.g,T.g] T.g [false,false] [U,W] w fun ar w=>
 fieldAddr P T.a (.pointer (some ⟨p,0,none⟩)) 2 w fun ba w=>
 Y0 P T.g ba ar w fun _u w=>
 Q2 P T.a (.pointer (some ⟨p,0,none⟩)) w fun bc w=>
 Y0 P T.a (.pointer (some ⟨L,0,none⟩)) bc w fun _u w=>
 Y7 P T.a (.pointer (some ⟨L,0,none⟩)) w fun r0=>
 K (.tuple #[r0,(.int .i64 0)]) w:=by
 have av:=hS.sat
 have ai:S2 σ1 ⟨k,vals⟩ [S k,x]:=⟨x,rfl,hx,hk⟩
 have bp:x.cells= #[x]:=by obtain ⟨a,c,rfl,_⟩:=hx;rfl
 have a9: ∀{w':World} {K:Value→World→Prop},Hst w1 σ1 w' σ1→K cv w'→Q2 P T.g (.pointer (some ((⟨p,0,none⟩:Addr).add 2))) w' K:=fun O hK=>Ye (Q.up O.stp) rfl hK
 have a4: ∀{w':World} {K:Value→World→Prop},Hst w1 σ1 w' σ1→K (.agg [S k,x].toArray) w'→Q2 P T.o (.pointer (some ⟨b7,0,none⟩)) w' K:=fun O hK=>Sc (a2.up O.stp) rfl hK
 refine U2 av ?_
 (repeat refine J7 Xa ?_)
 refine Q34 (R:=S2) (by decide) ?_
 refine J7 (V:=cv) (fun d w m e=>?_) ?_
 ·subst e;exact a9 m (N2 rfl)
 refine Q1A (w:=w1) (σ:=σ1) (R:=S2) (sz:=2) (e:=T.o) cs (fun g i w m a0 a5=>?_) ?_
 ·obtain ⟨k1,a1,e1⟩:=a0
  subst a5
  exact X2K k1 a1 e1 (hc.up m.stp) rfl (by omega) (by omega) fun v' w' hk ha=>Q3l m hk ha
 refine J7 (V:= .agg [S k,x].toArray) (fun w m=>?_) ?_
 ·exact a4 m (N2 rfl)
 refine Wi (w:=w1) (σ:=σ1) (Φ:=fun σ' v=>Sl 2 (Q5g (⟨k,vals⟩:Cel) [S k,x]) σ' v [⟨k,vals⟩]) (fun f w m e=>?_) ?_
 ·subst e
  refine P1 (R:=Q5g (⟨k,vals⟩:Cel) [S k,x]) (sz:=2) m.sat [.agg [S k,x].toArray] [⟨k,vals⟩] rfl rfl (by simp[Value.cells]) rfl ⟨⟨rfl,rfl,Rep.one (R:=S2) ai⟩,trivial⟩ fun v w2 σ2 ao be=>Rr m ao be
 rintro d g i U f W w2 bw rfl _ rfl ⟨bd,az⟩ rfl ⟨σ3,k3,s3⟩
 refine X0s bd az k3.sat s3 (fun y ds hy=>by obtain ⟨rfl,rfl,_⟩:=hy;exact ai) rfl (by simp;omega) (by simp;omega) fun v3 w3 bl a3 M _=>?_
 have hN:Stp w1 σ1 w3 σ1:=a3
 have B:=Q.up hN
 have aj:=ad.up hN
 have Z:=Ju M
 refine W4 ?_
 refine Ud B (by simp) Z.1 Z.2 fun Y u4 C=>?_
 have ac:=Q.lt
 have ae:V6 w1.heap.size T.o 2 S2 σ1 Y v3 (cs++[⟨k,vals⟩]):=M.kp (D:=fun j=>j=p) (.of_upd u4 rfl) fun j hj e=>by have:=(M.mem j hj).1;omega
 have A:=aj.upd u4 (fun e=>af e.symm)
 have t:Stp w σ Y σ1:=u4.stp (hS.trans hN) a6 B.1
 have ab:X2 Y σ1:=t.sat
 obtain ⟨σ5,s5,l5,f5,o5⟩:=(J8.of_acc ae).freeze ab
 have J: ∀j,j<w1.heap.size→σ5 j=σ1 j:=fun j hj=>o5 j fun e=>by have:=(ae.mem j e.symm).1;omega
 have aa:Y1 σ5 Y p [X,I room,v3]:=⟨(J p ac).trans C.1,C.2⟩
 have ag:Y1 σ5 Y L zs:=⟨(J L ad.lt).trans A.1,A.2⟩
 have a7:Stp w σ Y σ5:=⟨t.bel,s5,fun b o e=>l5.le b o (t.le b o e),fun b m=>(J b (Nat.lt_of_lt_of_le m hS.bel.size)).trans (t.old b m)⟩
 exact Ri a7 aa ag hz a8 ⟨X,v3,rfl,hl.lift l5,f5⟩ fun w' σ' hk hr=>h v3 w' σ' hk hr
end Go.Proofs.YtjdiakhipmggjaaGreatDoor

namespace Go.Proofs.YtjdiakhipmggjaaGreatDoor
open Go.Emb Go.RowKit Go.Kd Go.Hm
variable {w w' : World} {K : Value → World → Prop} {σ σ' : Q6} {ds : List Value} {room : Int} {cs : List Cel} {l : List Cla}
set_option maxHeartbeats 1000000 in
theorem X19 {k:X0} (hs:X2 w σ) (hh:D1 σ (l,room,cs) ds) (ok:Ok l) (hlen:l.length≤1000) (hk:k.length≤U1) (h0:0≤W6 room cs) (h1:room≤1048576)
 (h: ∀ds' w' σ',Stp w σ w' σ'→D1 σ' (l,room,(Zt l room cs k).1) ds'→K (.tuple #[.agg ds'.toArray,I (Zt l room cs k).2]) w'):Q1 P F.bc [.agg ds.toArray,S k] w K:=Gg (by
 have hcl:=Qf cs
 obtain ⟨lv,cv,rfl,hl,hc⟩:=D1.out hh
 unfold Lr
 refine Ev hs fun b0 w1 σ1 hb0 hk1 hm0=>?_
 refine M8 hk1.sat fun b4 w2 σ2 hb4 hk2 hm4=>?_
 have hS2:=hk1.trans hk2
 have hB4:=M9 hb4 hk1
 have hb04:b0≠b4:=by have:=hm0.lt;omega
 have hm02:=hm0.up hk2
 have hl2:=hl.up hS2
 have hh2:=W7 hh ⟨hS2.le⟩
 unfold W6 at h0
 refine W4 ?_
 refine Ye (i:=0) hm02 rfl ?_
 refine Q9A hk2.sat hl2 ?_
 refine We ?_
 unfold Zt at h
 cases ho:A0 l k with
 | false=>
  rw[ho] at h
  simp only[if_pos] at h
  refine J4 ?_
  exact Ri hS2 hm02 hm4 rfl hB4 hh2 fun w' σ' hk hr=>h _ w' σ' hk hr
 | true=>
  rw[ho] at h
  simp only[Bool.true_eq_false,if_false] at h
  refine Z9 ?_
  refine W4 ?_
  refine Ye (i:=0) hm02 rfl ?_
  refine Is hk2.sat hl2 ok.acy hlen ok.sm fun fv w3 σ3 hk3 hf=>?_
  have hS3:=hS2.trans hk3
  have hfl:=hf.max
  have hfl2:=Q0l ok.sm ok.len k
  refine Q8 hf ?_
  refine Xp ⟨by omega,by omega⟩ ?_
  refine Sc (hm02.up hk3) rfl ?_
  refine X00 hk3.sat (W7 hh2 ⟨hk3.le⟩) (by unfold W6;exact h0) h1 fun w4 σ4 hk4=>?_
  have hk34:=hk3.trans hk4
  have hS4:=hS3.trans hk4
  have hm04:=hm02.up hk34
  have hm44:=hm4.up hk34
  have hh4:=W7 hh2 ⟨hk34.le⟩
  have hf4:=hf.up hk4
  rw[Rn]
  by_cases hg:W6 room cs<1+((Y6 l k).length:Int)
  ·rw[if_pos hg] at h
   have e:decide (1+((Y6 l k).length:Int)>W6 room cs)=true:=decide_eq_true hg
   rw[e]
   refine J4 ?_
   exact Ri hS4 hm04 hm44 rfl hB4 hh4 fun w' σ' hk hr=>h _ w' σ' hk hr
  rw[if_neg hg] at h
  have e:decide (1+((Y6 l k).length:Int)>W6 room cs)=false:=decide_eq_false hg
  rw[e]
  refine Z9 ?_
  unfold W6 at hg
  refine W2 (cells:= #[S k, .slice none 0 0]) (by kernel_rfl) ?_
  refine M8 hk4.sat fun b7 w5 σ5 hb7 hk5 hm7=>?_
  have hS5:=hS4.trans hk5
  have hB7:=M9 hb7 hS4
  refine Mj (ds:=[S k, .slice none 0 0]) hm7 rfl rfl (by rw[List.all_toArray];rfl) fun w6 u6 hm76=>?_
  have hS6:=u6.stp hS5 hB7 hm7.1
  have hb07:b0≠b7:=by have:=hm04.lt;omega
  have hb47:b4≠b7:=by have:=hm44.lt;omega
  have hm06:=(hm04.up hk5).upd u6 hb07
  have hm46:=(hm44.up hk5).upd u6 hb47
  have hf6:=(hf4.up hk5)
  have hc6:Sl 2 S2 σ5 cv cs:=hc.up hS5
  have hl6:Sl 8 V0 σ5 lv l:=hl.up hS5
  refine U3 (Y6 l k).length (fun n w'=> ∃σ' x,Stp w σ w' σ'∧SLe σ5 σ'∧Y1 σ' w' b0 [lv,I room,cv]∧Y1 σ' w' b4 _∧Y1 σ' w' b7 [S k,x]∧V6 w.heap.size T.f 4 M5 σ' w' x (((Y6 l k).take n).map fun f=>L7 f.kind)∧x.ownBlock≠some b0∧x.ownBlock≠some b4∧x.ownBlock≠some b7)
   ⟨σ5, .slice none 0 0,hS6,SLe.refl _,hm06,hm46,hm76,V6.nil,by simp[Value.ownBlock],by simp[Value.ownBlock],by simp[Value.ownBlock]⟩ fun n w7 d hn hinv=>?_
  obtain ⟨σ7,x,hS7,le7,hm07,hm47,hm77,ha7,hx0,hx4,hx7⟩:=hinv
  have hf7:=hf6.lift le7
  have hs7:=hS7.sat
  refine Q8 hf7 ?_
  refine Z2 ?_
  refine Q7 (fun hcc=>?_) (fun hcc=>?_)
  ·have hn':n<(Y6 l k).length:=by simpa using hcc
   obtain ⟨p1,r1⟩:=hf7.elF hn'
   have hrd: ∀{w':World} {K:Value→World→Prop},Hst w7 σ7 w' σ7→K x w'→Q2 P T.l (.pointer (some ((⟨b7,0,none⟩:Addr).add 1))) w' K:=fun hst hK=>Ye (hm77.up hst.stp) rfl hK
   refine U2 hs7 ?_
   (repeat (apply J7;(· intros;(repeat (rename_i hx;subst hx));(repeat' (first | (with_reducible exact N2 rfl) | (with_reducible exact S1 (Stp.bel (by (repeat (first | exact Stp.refl (by (first | assumption | exact Stp.sat (by assumption) | exact Hst.sat (by assumption))) | assumption | refine Stp.trans ?_ (by first | assumption | exact Hst.stp (by assumption)))))) rfl) | (with_reducible intro _) | (simp only[↓M2,M2,Mb,reduceIte]) | (with_reducible refine hrd au ?_) | (with_reducible show Q2 _ _ _ _ _;first | refine X7 aS aL aR ?_ | refine Y4 aS aL aR ?_ | refine ld aS aL aR ?_) | (with_reducible show indexAddr _ _ _ _ _ _;refine Y3 aL au ?_) | (with_reducible show X3 _ _ _ _ _ _ _ _;refine Q8 aL ?_) | (with_reducible show F4 _ _ _ _ _ _;refine J0 aR ?_) | (with_reducible show pick _ _ _ _ _ _;refine L8 ?_) | (with_reducible show Q1 _ _ _ _ _;first | refine Q6j au ?_) | (apply G5;intro hh;(try simp only[hh,reduceIte,↓M2,M2,Mb,reduceIte]))));done)))
   refine Wi (w:=w7) (σ:=σ7) (Φ:=fun σ' v=>Sl 4 M5 σ' v [L7 (Y6 l k)[n].kind]) (fun t41 w hb e=>?_) ?_
   ·subst e
    exact P1 (R:=M5) (sz:=4) hb.sat [_] [L7 (Y6 l k)[n].kind] rfl rfl (by simp[Value.cells]) rfl ⟨Gu _,trivial⟩ fun v w2 σ2 hk2 hv2=>Rr hb hk2 hv2
   rintro t34 t38 t39 t35 t40 t41 t42 w8 hb8 rfl rfl rfl rfl rfl rfl ⟨σ8,hk8,s8⟩
   refine X0s (w0:=w) (hS7.trans hb8.stp) (ha7.up hb8.stp) hk8.sat s8 (fun y ds hy=>hy) rfl (by simp;omega) (by simp;omega) fun x9 w9 hg9 hS9 ha9 hat9=>?_
   have hm08:=(hm07.up hb8.stp).turn hg9 fun e=>hx0 e.symm
   have hm48:=(hm47.up hb8.stp).turn hg9 fun e=>hx4 e.symm
   have hm78:=(hm77.up hb8.stp).turn hg9 fun e=>hx7 e.symm
   have hsz:=hb8.stp.bel.size
   have hnew: ∀b,b<w7.heap.size→x.ownBlock≠some b→x9.ownBlock≠some b:=fun b hb hxb e=>by
    rcases hat9 with e2 | e2
    ·exact hxb (e2▸e)
    ·have:=e2 b e;omega
   have hsh:=Ju ha9
   refine W4 ?_
   refine Ud hm78 (by simp) hsh.1 hsh.2 fun w10 u10 hm710=>?_
   refine O4 ?_
   have hx97:=hnew b7 hm77.lt hx7
   refine Y5 hfl hn' ⟨σ7,x9,u10.stp hS9 hB7 hm78.1,le7,hm08.upd u10 hb07,hm48.upd u10 hb47,hm710,?_,hnew b0 hm07.lt hx0,hnew b4 hm47.lt hx4,hx97⟩
   have:=ha9.kp (D:=fun j=>j=b7) (.of_upd u10 rfl) fun j hj e=>hx97 (e▸hj)
   rw[List.take_add_one,List.getElem?_eq_getElem hn',List.map_append]
   exact this
  ·have hn': ¬n<(Y6 l k).length:=by simpa using hcc
   rw[List.take_of_length_le (by omega)] at ha7
   obtain ⟨σ9,hS9,hx9,le9,o9⟩:=ha7.keep hS7
   have mk: ∀{b:Nat} {zs:List Value},Y1 σ7 w7 b zs→x.ownBlock≠some b→Y1 σ9 w7 b zs:=fun hm hne=>⟨(o9 _ fun e=>hne e.symm).trans hm.1,hm.2⟩
   have le59:SLe σ5 σ9:=le7.more ⟨le9⟩
   refine Q9n hS9 (mk hm07 hx0) (mk hm47 hx4) (mk hm77 hx7) rfl hb0 hB4 hb04 (hl6.lift le59) (hc6.lift le59) hx9 hk (by omega) fun cv' w' σ' hk' hr=>h _ w' σ' hk' hr)
set_option maxHeartbeats 1000000 in
theorem X2e {k:X0} {n:Int} (hs:X2 w σ) (hh:D1 σ (l,room,cs) ds) (hk:k.length≤U1) (h0:0≤W6 room cs) (h1:room≤1048576)
 (h: ∀ds' w' σ',Stp w σ w' σ'→D1 σ' (l,room,(Zp l room cs k n).1) ds'→K (.tuple #[.agg ds'.toArray,I (Zp l room cs k n).2]) w'):Q1 P F.bm [.agg ds.toArray,S k,I n] w K:=Kk (by
 have hcl:=Qf cs
 have htn:=D9 cs
 obtain ⟨lv,cv,rfl,hl,hc⟩:=D1.out hh
 unfold Ml
 refine Ev hs fun b0 w1 σ1 hb0 hk1 hm0=>?_
 refine M8 hk1.sat fun b4 w2 σ2 hb4 hk2 hm4=>?_
 have hS2:=hk1.trans hk2
 have hB4:=M9 hb4 hk1
 have hb04:b0≠b4:=by have:=hm0.lt;omega
 have hm02:=hm0.up hk2
 have hl2:=hl.up hS2
 have hh2:=W7 hh ⟨hS2.le⟩
 unfold W6 at h0
 unfold Zp at h
 have hbad:F6 l k=false→Q2 P T.a (.pointer (some ⟨b0,0,none⟩)) w2 fun t14 w=>
  Y0 P T.a (.pointer (some ⟨b4,0,none⟩)) t14 w fun _u w=>
  Y7 P T.a (.pointer (some ⟨b4,0,none⟩)) w fun r0=>
  K (.tuple #[r0,(.int .i64 91)]) w:=fun ho=>by
  rw[ho] at h
  simp only[if_pos] at h
  exact Ri hS2 hm02 hm4 rfl hB4 hh2 fun w' σ' hk hr=>h _ w' σ' hk hr
 refine K2 ?_
 by_cases hnull:k=H7
 ·rw[show decide (k=[110,117,108,108])=true from decide_eq_true hnull]
  (try simp only[O6,E1,S3,W3,W8,W9,M4,M3,H6,Bool.not_true,Bool.not_false])
  exact hbad (by simp[F6,hnull])
 rw[show decide (k=[110,117,108,108])=false from decide_eq_false hnull]
 (try simp only[O6,E1,S3,W3,W8,W9,M4,M3,H6,Bool.not_true,Bool.not_false])
 refine W4 ?_
 refine Ye (i:=0) hm02 rfl ?_
 refine Dt hk2.sat hl2 hk ?_
 refine We ?_
 cases hkm:N1 l k with
 | false=>
  (try simp only[O6,E1,S3,W3,W8,W9,M4,M3,H6,Bool.not_true,Bool.not_false])
  exact hbad (by simp[F6,hkm])
 | true=>
  (try simp only[O6,E1,S3,W3,W8,W9,M4,M3,H6,Bool.not_true,Bool.not_false])
  refine Se k (Nat.le_trans hk (by decide)) ?_
  have hr:right k=true:=by
   have:=hkm
   simp only[N1,Bool.or_eq_true,Bool.and_eq_true,decide_eq_true_eq] at this
   rcases this with h1 | h1
   ·exact absurd h1 hnull
   ·exact h1.1
  have hdp:Ya k=(base k).2:=by unfold Ya;rw[if_pos hr]
  have hel:F6 l k=decide ((base k).2≤2):=by
   unfold F6;rw[hkm,decide_eq_false hnull,hdp];rfl
  refine Pr ?_
  by_cases hd2:(2:Int)<((base k).2:Int)
  ·rw[decide_eq_true hd2]
   refine J4 ?_
   exact hbad (by rw[hel,decide_eq_false_iff_not];omega)
  rw[decide_eq_false hd2]
  refine Z9 ?_
  have ho:F6 l k=true:=by rw[hel,decide_eq_true_eq];omega
  rw[ho] at h
  simp only[Bool.true_eq_false,if_false] at h
  refine Z2 ?_
  by_cases hn0:n<0
  ·rw[if_pos hn0] at h
   rw[decide_eq_true hn0]
   refine J4 ?_
   exact Ri hS2 hm02 hm4 rfl hB4 hh2 fun w' σ' hk hr=>h _ w' σ' hk hr
  rw[if_neg hn0] at h
  rw[decide_eq_false hn0]
  refine Z9 ?_
  refine Pr ?_
  have hbad2: ∀{w3 σ3},Stp w2 σ2 w3 σ3→W6 room cs≤n→Q2 P T.a (.pointer (some ⟨b0,0,none⟩)) w3 fun t14 w=>
   Y0 P T.a (.pointer (some ⟨b4,0,none⟩)) t14 w fun _u w=>
   Y7 P T.a (.pointer (some ⟨b4,0,none⟩)) w fun r0=>
   K (.tuple #[r0,(.int .i64 90)]) w:=fun {w3 σ3} hS hle=>by
   rw[if_pos hle] at h
   exact Ri (hS2.trans hS) (hm02.up hS) (hm4.up hS) rfl hB4 (W7 hh2 ⟨hS.le⟩) fun w' σ' hk hr=>h _ w' σ' hk hr
  by_cases hbig:(1048576:Int)<n
  ·rw[decide_eq_true hbig]
   (try simp only[O6,E1,S3,W3,W8,W9,M4,M3,H6,Bool.not_true,Bool.not_false])
   exact hbad2 (Stp.refl hk2.sat) (by unfold W6;omega)
  rw[decide_eq_false hbig]
  (try simp only[O6,E1,S3,W3,W8,W9,M4,M3,H6,Bool.not_true,Bool.not_false])
  refine Xp ⟨by omega,by omega⟩ ?_
  refine Sc hm02 rfl ?_
  refine X00 hk2.sat hh2 (by unfold W6;exact h0) h1 fun w4 σ4 hk4=>?_
  rw[Rn]
  by_cases hg:W6 room cs≤n
  ·rw[show decide (1+n>W6 room cs)=true from decide_eq_true (by omega)]
   refine J4 ?_
   exact hbad2 hk4 hg
  rw[if_neg hg] at h
  rw[show decide (1+n>W6 room cs)=false from decide_eq_false (by omega)]
  refine Z9 ?_
  have hS4:=hS2.trans hk4
  have hm04:=hm02.up hk4
  have hm44:=hm4.up hk4
  obtain ⟨m,rfl⟩:=Int.eq_ofNat_of_zero_le (Int.not_lt.1 hn0)
  rw[Int.toNat_natCast] at h
  unfold W6 at hg
  have hr38:=Gl hr
  refine Rk (by simp only[List.length_cons,List.length_nil];omega) ?_
  refine W2 (cells:= #[S (k++[91,93]), .slice none 0 0]) (by kernel_rfl) ?_
  refine M8 hk4.sat fun b7 w5 σ5 hb7 hk5 hm7=>?_
  have hS5:=hS4.trans hk5
  have hB7:=M9 hb7 hS4
  refine Mj (ds:=[S (k++[91,93]), .slice none 0 0]) hm7 rfl rfl (by rw[List.all_toArray];rfl) fun w6 u6 hm76=>?_
  have hS6:=u6.stp hS5 hB7 hm7.1
  have hb07:b0≠b7:=by have:=hm04.lt;omega
  have hb47:b4≠b7:=by have:=hm44.lt;omega
  have hm06:=(hm04.up hk5).upd u6 hb07
  have hm46:=(hm44.up hk5).upd u6 hb47
  have hc6:Sl 2 S2 σ5 cv cs:=hc.up hS5
  have hl6:Sl 8 V0 σ5 lv l:=hl.up hS5
  refine U3 m (fun n w'=> ∃σ' x,Stp w σ w' σ'∧SLe σ5 σ'∧Y1 σ' w' b0 [lv,I room,cv]∧Y1 σ' w' b4 _∧Y1 σ' w' b7 [S (k++[91,93]),x]∧V6 w.heap.size T.f 4 M5 σ' w' x (List.replicate n (L7 k))∧x.ownBlock≠some b0∧x.ownBlock≠some b4∧x.ownBlock≠some b7)
   ⟨σ5, .slice none 0 0,hS6,SLe.refl _,hm06,hm46,hm76,V6.nil,by simp[Value.ownBlock],by simp[Value.ownBlock],by simp[Value.ownBlock]⟩ fun n w7 d hn hinv=>?_
  obtain ⟨σ7,x,hS7,le7,hm07,hm47,hm77,ha7,hx0,hx4,hx7⟩:=hinv
  have hs7:=hS7.sat
  refine Z2 ?_
  refine Q7 (fun hcc=>?_) (fun hcc=>?_)
  ·have hn':n<m:=by simpa using hcc
   have hrd: ∀{w':World} {K:Value→World→Prop},Hst w7 σ7 w' σ7→K x w'→Q2 P T.l (.pointer (some ((⟨b7,0,none⟩:Addr).add 1))) w' K:=fun hst hK=>Ye (hm77.up hst.stp) rfl hK
   refine U2 hs7 ?_
   (repeat (apply J7;(· intros;(repeat (rename_i hx;subst hx));(repeat' (first | (with_reducible exact N2 rfl) | (with_reducible exact S1 (Stp.bel (by (repeat (first | exact Stp.refl (by (first | assumption | exact Stp.sat (by assumption) | exact Hst.sat (by assumption))) | assumption | refine Stp.trans ?_ (by first | assumption | exact Hst.stp (by assumption)))))) rfl) | (with_reducible intro _) | (simp only[↓M2,M2,Mb,reduceIte]) | (with_reducible refine hrd au ?_) | (with_reducible show Q2 _ _ _ _ _;first | refine X7 aS aL aR ?_ | refine Y4 aS aL aR ?_ | refine ld aS aL aR ?_) | (with_reducible show indexAddr _ _ _ _ _ _;refine Y3 aL au ?_) | (with_reducible show X3 _ _ _ _ _ _ _ _;refine Q8 aL ?_) | (with_reducible show F4 _ _ _ _ _ _;refine J0 aR ?_) | (with_reducible show pick _ _ _ _ _ _;refine L8 ?_) | (with_reducible show Q1 _ _ _ _ _;first | refine Q6j au ?_) | (apply G5;intro hh;(try simp only[hh,reduceIte,↓M2,M2,Mb,reduceIte]))));done)))
   refine Wi (w:=w7) (σ:=σ7) (Φ:=fun σ' v=>Sl 4 M5 σ' v [L7 k]) (fun t41 w hb e=>?_) ?_
   ·subst e
    exact P1 (R:=M5) (sz:=4) hb.sat [_] [L7 k] rfl rfl (by simp[Value.cells]) rfl ⟨Gu _,trivial⟩ fun v w2 σ2 hk2 hv2=>Rr hb hk2 hv2
   rintro t46 t47 t49 t50 w8 hb8 rfl rfl rfl ⟨σ8,hk8,s8⟩
   refine X0s (w0:=w) (hS7.trans hb8.stp) (ha7.up hb8.stp) hk8.sat s8 (fun y ds hy=>hy) rfl (by simp;omega) (by simp;omega) fun x9 w9 hg9 hS9 ha9 hat9=>?_
   have hm08:=(hm07.up hb8.stp).turn hg9 fun e=>hx0 e.symm
   have hm48:=(hm47.up hb8.stp).turn hg9 fun e=>hx4 e.symm
   have hm78:=(hm77.up hb8.stp).turn hg9 fun e=>hx7 e.symm
   have hsz:=hb8.stp.bel.size
   have hnew: ∀b,b<w7.heap.size→x.ownBlock≠some b→x9.ownBlock≠some b:=fun b hb hxb e=>by
    rcases hat9 with e2 | e2
    ·exact hxb (e2▸e)
    ·have:=e2 b e;omega
   have hsh:=Ju ha9
   refine W4 ?_
   refine Ud hm78 (by simp) hsh.1 hsh.2 fun w10 u10 hm710=>?_
   refine O4 ?_
   have hx97:=hnew b7 hm77.lt hx7
   refine Y5 (by omega) hn' ⟨σ7,x9,u10.stp hS9 hB7 hm78.1,le7,hm08.upd u10 hb07,hm48.upd u10 hb47,hm710,?_,hnew b0 hm07.lt hx0,hnew b4 hm47.lt hx4,hx97⟩
   have:=ha9.kp (D:=fun j=>j=b7) (.of_upd u10 rfl) fun j hj e=>hx97 (e▸hj)
   rw[List.replicate_succ']
   exact this
  ·have hn': ¬n<m:=by simpa using hcc
   have hnm:n=m:=by omega
   subst hnm
   obtain ⟨σ9,hS9,hx9,le9,o9⟩:=ha7.keep hS7
   have mk: ∀{b:Nat} {zs:List Value},Y1 σ7 w7 b zs→x.ownBlock≠some b→Y1 σ9 w7 b zs:=fun hm hne=>⟨(o9 _ fun e=>hne e.symm).trans hm.1,hm.2⟩
   have le59:SLe σ5 σ9:=le7.more ⟨le9⟩
   refine Q9n hS9 (mk hm07 hx0) (mk hm47 hx4) (mk hm77 hx7) rfl hb0 hB4 hb04 (hl6.lift le59) (hc6.lift le59) hx9 (Nat.le_trans (show (k++[91,93]).length≤40 by simp only[List.length_append,List.length_cons,List.length_nil];omega) (by decide)) (by omega) fun cv' w' σ' hk' hr=>h _ w' σ' hk' hr)
end Go.Proofs.YtjdiakhipmggjaaGreatDoor

namespace Go.Emb
open Go.RowKit Go.Hm
section
variable {α : Type} {P : Program} {R : Q6 → α → List Value → Prop} {B sz : Nat} {e : TypeId} {σ σ0 : Q6} {v u : Value} {xs : List α} {w w0 w' : World} {K : Value → World → Prop}
theorem X1j {t:TypeId} {b:Nat} {z:Value} [TS P t e] [TZ P e sz b z] (h:J8 B e sz R σ w v xs) {n:Nat} (o:n<xs.length) (j:K (.pointer (some (Vs sz v n))) w):indexAddr P t v (I n) w K:=by
 obtain ⟨a,f,rfl,p,m,k,d⟩:=h
 obtain ⟨g,i,c,rfl,q⟩:=d (by omega)
 rw[Sh (by omega) (by omega)]
 simpa [Vs] using j
theorem J8.elQ (h:J8 B e sz R σ w v xs) {n:Nat} (o:n<xs.length): ∃cs,cs.length=sz∧R σ xs[n] cs∧ ∀j u,cs[j]? =some u→w.cell? ((Vs sz v n).add j)=some u:=by
 obtain ⟨a,d,rfl,t,s,p,m⟩:=h
 obtain ⟨g,b,f,rfl,y,r,k,q,i⟩:=m (by omega)
 have hh:n*sz+sz≤d*sz:=by rw[←Nat.succ_mul];exact Nat.mul_le_mul_right _ (by omega)
 refine ⟨(f.toList.drop (b+n*sz)).take sz,by rw[List.length_take,List.length_drop,Array.length_toList];omega,i n _ (by simp[o]),fun j u c=>?_⟩
 rw[List.getElem?_take] at c
 split at c
 ·rw[List.getElem?_drop] at c
  have e:Vs sz (.slice (some ⟨g,b,none⟩) xs.length d) n=(⟨g,b,none⟩:Addr).add (n*sz):=rfl
  rw[e]
  unfold World.cell?
  rw[S7,S7,Qc,Qc,I8 (I8 rfl _)]
  simp only[k]
  simpa using c
 ·cases c
theorem X4s {t:TypeId} {c:Nat} {z:Value} [tz:TZ P t 1 c z] {b i:Nat} {cs:List Value} {v:Value} (d:w.heap[b]? =some (.cells cs.toArray e (0,0))) (g:i<cs.length) (j:v.cells= #[v]) (m:v.oneCell'=true)
 (h: ∀w',Upd w b w'→w'.heap[b]? =some (.cells (cs.set i v).toArray e (0,0))→K undef w'):Y0 P t (.pointer (some ((⟨b,0,none⟩:Addr).add i))) v w K:=by
 unfold Y0
 have a:(⟨b,0,none⟩:Addr).add i=⟨b,i,none⟩:=by unfold Addr.add;split<;>simp_all
 have:=run_storeCells_at P b i e [v] 0 cs.toArray w d (by simp;omega) (by simpa using m)
 simp only[Nat.add_zero] at this
 obtain ⟨k,hh⟩:=Nf (cs:=(cs.set i v).toArray) d
 have f:(List.take i cs.toArray.toList++[v]++List.drop (i+[v].length) cs.toArray.toList).toArray=(cs.set i v).toArray:=by
  rw[←Q7j g];simp
 rw[f] at this
 rw[Lh (w':=w.setRow b (cs.set i v).toArray) (by simp[Instr.storeAt,Instr.sureAddr,a,storeVar,L2 tz,j,this])]
 exact h _ k hh
theorem X3m {t:TypeId} {C n c:Nat} {z:Value} {x:α} [tz:TZ P t 1 C z] (hS:Stp w0 σ0 w σ) (Z:J8 w0.heap.size e sz R σ w v xs) (hn:n<xs.length) (hc:c<sz) (N:u.cells= #[u]) (V:u.oneCell'=true) (Y: ∀cs,cs.length=sz→R σ xs[n] cs→R σ x (cs.set c u))
 (h: ∀w',Kpt (fun k=>v.ownBlock=some k) w w'→Stp w0 σ0 w' σ→J8 w0.heap.size e sz R σ w' v (xs.set n x)→K undef w'):Y0 P t (.pointer (some ((Vs sz v n).add c))) u w K:=by
 obtain ⟨a,i,rfl,M,Q,f,X⟩:=Z
 obtain ⟨g,d,m,rfl,L,r,J,q4,H⟩:=X (by omega)
 have hh:n*sz+sz≤i*sz:=by rw[←Nat.succ_mul];exact Nat.mul_le_mul_right _ (by omega)
 have hm:Y1 σ w g m.toList:=⟨r,e,by simpa using J⟩
 have O:=Array.length_toList (xs:=m)
 have W:(Vs sz (.slice (some ⟨g,d,none⟩) xs.length i) n).add c=(⟨g,0,none⟩:Addr).add (d+n*sz+c):=by
  simp only[Vs,Q3H]
  unfold Addr.add
  split<;>split<;>simp_all<;>omega
 rw[W]
 refine X4s (e:=e) (by simpa using J) (by omega) N V fun w' s hg=>?_
 refine h w' (Kpt.of_upd s rfl) (s.stp hS L r) ⟨_,i,by rw[List.length_set],by rw[List.length_set];exact M,Q,fun b q=>⟨(f b q).1,(f b q).2.1,by rw[s.size];exact (f b q).2.2.1,(f b q).2.2.2⟩,fun _=>⟨g,d,_,rfl,L,r,hg,by simp;omega,fun j y p=>?_⟩⟩
 rw[List.toList_toArray]
 have o:j<xs.length:=by have:=(List.getElem?_eq_some_iff.1 p).1;simpa using this
 have U:j*sz+sz≤i*sz:=by rw[←Nat.succ_mul];exact Nat.mul_le_mul_right _ (by omega)
 rw[List.drop_set]
 by_cases E:j=n
 ·subst E
  rw[List.getElem?_set_self o] at p
  cases p
  rw[if_neg (by omega),List.take_set,show d+j*sz+c-(d+j*sz)=c by omega]
  exact Y _ (by rw[List.length_take,List.length_drop];omega) (H j _ (by simp[o]))
 ·rw[List.getElem?_set_ne (by omega)] at p
  have:=H j y p
  rcases Nat.lt_or_gt_of_ne E with D | hgt
  ·have A:j*sz+sz≤n*sz:=by rw[←Nat.succ_mul];exact Nat.mul_le_mul_right _ D
   rw[if_neg (by omega),List.take_set,List.set_eq_of_length_le (by rw[List.length_take];omega)]
   exact this
  ·have A:n*sz+sz≤j*sz:=by rw[←Nat.succ_mul];exact Nat.mul_le_mul_right _ hgt
   rw[if_pos (by omega)]
   exact this
end
end Go.Emb
namespace Go.Proofs.YtjdiakhipmggjaaGreatDoor
open Go.Emb Go.RowKit Go.Kd Go.Hm
variable {w w' : World} {K : Value → World → Prop} {σ σ' : Q6} {ds : List Value} {room : Int} {cs : List Cel} {l : List Cla}
theorem Q5W (d:Z6 cs≤1048576) {j:Nat} (a:j<cs.length):(cs[j].vals.length:Int)≤1048576:=by
 have e:Z6 cs=Z6 (cs.take j)+Z6 (cs.drop j):=by rw[←Qo,List.take_append_drop]
 have b:Z6 (cs.drop j)=(1+(cs[j].vals.length:Int))+Z6 (cs.drop (j+1)):=by
  rw[List.drop_eq_getElem_cons a];simp only[Z6,List.map_cons,List.sum_cons]
 have f:=D9 (cs.take j)
 have c:=D9 (cs.drop (j+1))
 omega
theorem X43 {d g:Nat} {p cv x:Value} {n:List Cel} {M:List Value} {w0 w1:World} {σ0 σ1:Q6} (hS:Stp w σ w0 σ0) (N:Stp w0 σ0 w1 σ1) (y:Y1 σ1 w1 d [p,I room,cv]) (W:Y1 σ1 w1 g M) (hz:M.length=3) (L:d<w0.heap.size) (J:g<w0.heap.size) (O:w.heap.size≤d) (U:w.heap.size≤g) (A:d≠g) (hl:Sl 8 V0 σ1 p l) (X:J8 w0.heap.size T.o 2 S2 σ1 w1 x n)
 (h: ∀z w' σ',Stp w σ w' σ'→D1 σ' (l,room,n) [p,I room,z]→K (.tuple #[.agg [p,I room,z].toArray,I 0]) w'):
 Y0 P T.g (.pointer (some ((⟨d,0,none⟩:Addr).add 2))) x w1 fun _u w=>
 Q2 P T.a (.pointer (some ⟨d,0,none⟩)) w fun H w=>
 Y0 P T.a (.pointer (some ⟨g,0,none⟩)) H w fun _u w=>
 Y7 P T.a (.pointer (some ⟨g,0,none⟩)) w fun r0=>
 K (.tuple #[r0,(.int .i64 0)]) w:=by
 have q:x.cells= #[x]∧x.oneCell'=true:=by obtain ⟨a,c,rfl,_⟩:=X;exact ⟨rfl,rfl⟩
 refine Ud y (by simp) q.1 q.2 fun t V k=>?_
 have C:J8 w0.heap.size T.o 2 S2 σ1 t x n:=X.kp (D:=fun j=>j=d) (.of_upd V rfl) fun j Y e=>by have:=(X.mem Y).1;omega
 have i:=W.upd V (fun e=>A e.symm)
 have f:Stp w σ t σ1:=V.stp (hS.trans N) O y.1
 obtain ⟨E,s5,l5,f5,o5⟩:=C.freeze f.sat
 have m: ∀j,j<w0.heap.size→E j=σ1 j:=fun j Y=>o5 j fun e=>by have:=(C.mem e.symm).1;omega
 have r:Y1 E t d [p,I room,x]:=⟨(m d L).trans k.1,k.2⟩
 have s:Y1 E t g M:=⟨(m g J).trans i.1,i.2⟩
 have Q:Stp w σ t E:=⟨f.bel,s5,fun b o e=>l5.le b o (f.le b o e),fun b Z=>(m b (Nat.lt_of_lt_of_le Z hS.bel.size)).trans (f.old b Z)⟩
 exact Ri Q r s hz U ⟨p,x,rfl,hl.lift l5,f5⟩ fun w' σ' N hr=>h x w' σ' N hr
set_option maxHeartbeats 2000000 in
theorem X42 {r i:Int} {v:Val} (hs:X2 w σ) (hh:D1 σ (Q4 l,room,cs) ds) (wf:Wf l) (ok:Ok (Q4 l)) (hlen:(Q4 l).length≤1000) (good: ∀c∈cs,GoodC W5 (Q4 l) cs c) (hl1:Z6 cs≤1048576) (hv:M5 σ v [I v.sort,I v.n,S v.s,I v.ref])
 (h: ∀ds' w' σ',Stp w σ w' σ'→D1 σ' (Q4 l,room,(H5 W5 (Q4 l) cs r i v).1) ds'→K (.tuple #[.agg ds'.toArray,I (H5 W5 (Q4 l) cs r i v).2]) w'):Q1 P F.bO [.agg ds.toArray,I r,I i, .agg [I v.sort,I v.n,S v.s,I v.ref].toArray] w K:=Q0t (by
 have hcl:=Qf cs
 obtain ⟨lv,cv,rfl,hl,hc⟩:=D1.out hh
 unfold Ea
 refine Ev hs fun b0 w1 σ1 hb0 hk1 hm0=>?_
 refine Y9 hk1.sat fun q w2 σ2 hk2 hq=>?_
 have hS2:=hk1.trans hk2
 refine M8 hk2.sat fun b4 w3 σ3 hb4 hk3 hm4=>?_
 have hS3:=hS2.trans hk3
 have hB4:=M9 hb4 hS2
 have hm02:=hm0.up hk2
 have hb04:b0≠b4:=by have:=hm02.lt;omega
 have hm03:=hm02.up hk3
 have hh3:=W7 hh ⟨hS3.le⟩
 have hq3:=hq.up hk3
 refine Sc hm03 rfl ?_
 refine Q7E hk3.sat hh3 fun w4 σ4 hk4=>?_
 have hS4:=hS3.trans hk4
 have hm04:=hm03.up hk4
 have hm44:=hm4.up hk4
 have hh4:=W7 hh3 ⟨hk4.le⟩
 have hq4:=hq3.up hk4
 unfold H5 at h
 refine Ut ?_
 by_cases h0:E2 cs r i=0
 case neg=>
  rw[decide_eq_false h0]
  rw[if_pos h0] at h
  refine J4 ?_
  exact Ri hS4 hm04 hm44 rfl hB4 hh4 fun w' σ' hk hr=>h _ w' σ' hk hr
 rw[decide_eq_true h0]
 rw[if_neg (fun hn=>hn h0)] at h
 refine Z9 ?_
 obtain ⟨j,m,rfl,rfl,hj,hm⟩:=Lb h0
 rw[L4 hj,Int.toNat_natCast] at h
 have hc4:=hc.up hS4
 obtain ⟨vv,p1,p2,p3⟩:=Sl.elO hc4 hj
 have hgc:=good cs[j] (List.getElem_mem hj)
 have hif:elem cs[j].kind=[]→m<(Y6 (Q4 l) cs[j].kind).length:=fun e=>by
  rcases hgc.is with h | h
  ·exact absurd e h
  ·rw[←h.2];exact hm
 have hs4:=hk4.sat
 have hr0: ∀{w':World} {K:Value→World→Prop},Hst w4 σ4 w' σ4→K (.agg [lv,I room,cv].toArray) w'→Q2 P T.a (.pointer (some ⟨b0,0,none⟩)) w' K:=fun hst hK=>Sc (hm04.up hst.stp) rfl hK
 have hr1: ∀{w':World} {K:Value→World→Prop},Hst w4 σ4 w' σ4→K cv w'→Q2 P T.g (.pointer (some ((⟨b0,0,none⟩:Addr).add 2))) w' K:=fun hst hK=>Ye (hm04.up hst.stp) rfl hK
 refine U2 hs4 ?_
 (repeat (apply J7;(· intros;(repeat (rename_i hx;subst hx));(repeat' (first | (with_reducible exact N2 rfl) | (with_reducible exact S1 (Stp.bel (by (repeat (first | exact Stp.refl (by (first | assumption | exact Stp.sat (by assumption) | exact Hst.sat (by assumption))) | assumption | refine Stp.trans ?_ (by first | assumption | exact Hst.stp (by assumption)))))) rfl) | (with_reducible intro _) | (simp only[↓M2,M2,Mb,reduceIte]) | (with_reducible refine hr0 au ?_) | (with_reducible refine hr1 au ?_) | (with_reducible show Q2 _ _ _ _ _;first | refine X7 aS aL aR ?_ | refine Y4 aS aL aR ?_ | refine ld aS aL aR ?_) | (with_reducible show indexAddr _ _ _ _ _ _;refine Y3 aL au ?_) | (with_reducible show X3 _ _ _ _ _ _ _ _;refine Q8 aL ?_) | (with_reducible show F4 _ _ _ _ _ _;refine J0 aR ?_) | (with_reducible show pick _ _ _ _ _ _;refine L8 ?_) | (with_reducible show Q1 _ _ _ _ _;first | refine X3t au au au au au au ?_) | (apply G5;intro hh;(try simp only[hh,reduceIte,↓M2,M2,Mb,reduceIte]))));done)))
 (intros;(repeat (rename_i hx;subst hx)))
 rename_i w5 hb5
 have hS5:=hS4.trans hb5.stp
 refine Q9k hb5.sat hh4 wf ok hlen hv.2.2.2.1 (Q2G ok p3 m) fun wA σA hkA=>?_
 have hk4A:=hb5.stp.trans hkA
 have hSA:=hS4.trans hk4A
 have hm0A:=hm04.up hk4A
 have hm4A:=hm44.up hk4A
 have hhA:=W7 hh4 ⟨hk4A.le⟩
 have hqA:=hq4.up hk4A
 have hsA:=hkA.sat
 refine We ?_
 cases hf:S8 W5 (Q4 l) cs v (Xk (Q4 l) cs[j].kind m) with
 | false=>
  rw[hf] at h
  simp only[Bool.false_eq_true,if_false] at h
  refine J4 ?_
  exact Ri hSA hm0A hm4A rfl hB4 hhA fun w' σ' hk hr=>h _ w' σ' hk hr
 | true=>
  rw[hf] at h
  simp only[if_true] at h
  refine Z9 ?_
  have hcA:=hc.up hSA
  have hlA:=hl.up hSA
  have hvl:=Q5W hl1 hj
  refine Et (R:=S2) (e:=T.o) (Stp.refl hsA) (by decide) fun x1 wA1 hkA1 ha1 _=>?_
  refine W4 ?_
  refine Ye (hm0A.up hkA1) rfl ?_
  refine Wh hkA1 ha1 (hcA.up hkA1) rfl (by simp;omega) (by simp;omega) fun x2 wB _ hkB ha2 _=>?_
  rw[List.nil_append] at ha2
  have hsB:=hkB.sat
  refine Et (R:=M5) (e:=T.f) (Stp.refl hsB) (by decide) fun y1 wB1 hkB1 hy1 _=>?_
  have hq2:=J8.of_acc (ha2.up hkB1)
  refine X1j hq2 hj ?_
  obtain ⟨cs5,hl5,⟨vv5,rfl,p5,_⟩,hcell⟩:=hq2.elQ hj
  refine W4 ?_
  refine Qd (hcell 1 vv5 rfl) ?_
  refine Wh hkB1 hy1 p5 rfl (by simp;omega) (by simp;omega) fun y2 wB2 _ hkB2 hy2 _=>?_
  rw[List.nil_append] at hy2
  refine Y4 hkB2.sat ((hqA.up hkB).up hkB2) rfl ?_
  refine Q2V (x:=v) hkB2 (J8.of_acc hy2) hm rfl (show M5 σA v _ from hv) (Rep.one (R:=M5) (σ:=σA) hv) fun p u w6 _ hb6 hy6=>?_
  obtain ⟨σ7,hk7,hs7,le7,_⟩:=hy6.keep hb6.stp
  have hkA7:=hkB.trans hk7
  have hq7:=J8.of_acc (ha2.up hk7)
  refine X1j hq7 hj ?_
  refine W4 ?_
  have hysh:y2.cells= #[y2]∧y2.oneCell'=true:=Ju hy2
  refine X3m (x:=(⟨cs[j].kind,cs[j].vals.set m v⟩:Cel)) hkA7 hq7 hj (by decide) hysh.1 hysh.2 (fun es _ hes=>by
   obtain ⟨v0,rfl,_,hkl⟩:=hes
   exact ⟨y2,rfl,hs7,hkl⟩) fun w8 _ hk8 hq8=>?_
  refine W4 ?_
  have hsv:F3 cs j m v=cs.set j ⟨cs[j].kind,cs[j].vals.set m v⟩:=by unfold F3;rw[L4 hj,Int.toNat_natCast,Int.toNat_natCast]
  rw[hsv] at h
  exact X43 hSA hk8 (hm0A.up hk8) (hm4A.up hk8) rfl hm0A.lt hm4A.lt hb0 hB4 hb04 (hlA.up hk8) hq8 fun cv' w' σ' hk hr=>h _ w' σ' hk hr)
end Go.Proofs.YtjdiakhipmggjaaGreatDoor

namespace Go.Proofs.YtjdiakhipmggjaaGreatDoor
open Go.Emb Go.RowKit Go.Kd Go.Hm
variable {w w' : World} {K : Value → World → Prop} {σ σ' : Q6} {ds : List Value} {room : Int} {cs : List Cel} {l : List Cla}
theorem Q5u {n c:Nat} {a b:Value} {m:List Value} {w1:World} {σ1:Q6} (q:Stp w σ w1 σ1) (i:Y1 σ1 w1 n [a,I room,b]) (j:Y1 σ1 w1 c m) (p:m.length=3) (f:w.heap.size≤c) (k:D1 σ1 (l,room,cs) [a,I room,b]) (h: ∀w' σ',Stp w σ w' σ'→D1 σ' (l,room,cs) [a,I room,b]→K (.agg [a,I room,b].toArray) w'):
 Q2 P T.a (.pointer (some ⟨n,0,none⟩)) w1 fun d w=>
 Y0 P T.a (.pointer (some ⟨c,0,none⟩)) d w fun _u w=>
 Y7 P T.a (.pointer (some ⟨c,0,none⟩)) w fun o=>
 K o w:=
 Sc i rfl (G7 j q f p rfl (Rep.one k) fun r e g=>V2 g rfl (h r σ1 e.stp k))
set_option maxHeartbeats 2000000 in
theorem X3L {n:Int} (hs:X2 w σ) (hh:D1 σ (l,room,cs) ds) (a0:Z6 cs≤1048576) (hn:Yi n)
 (h: ∀aj w' σ',Stp w σ w' σ'→D1 σ' (l,room,Pw cs n) aj→K (.agg aj.toArray) w'):Q1 P F.bQ [.agg ds.toArray,I n] w K:=Q1l (by
 have b2:=Qf cs
 obtain ⟨lv,cv,rfl,hl,hc⟩:=D1.out hh
 unfold Es
 refine Ev hs fun O w1 σ1 a5 Y ap=>?_
 refine M8 Y.sat fun b4 w2 σ2 bh W H=>?_
 have bf:=Y.trans W
 have ac:=M9 bh Y
 have am:O≠b4:=by have:=ap.lt;omega
 have aq:=ap.up W
 have bk:=W.sat
 refine Ur (fun z w'=>z=I (max n 0)∧w'=w2) ?_ ?_
 ·refine Z2 ?_
  by_cases e:n<0
  ·rw[decide_eq_true e]
   exact J4 ⟨by rw[show max n 0=0 by omega],rfl⟩
  ·rw[decide_eq_false e]
   exact Z9 ⟨by rw[show max n 0=n by omega],rfl⟩
 rintro z d0 w3 ⟨rfl,rfl⟩
 unfold Pw at h
 obtain ⟨m,ah⟩:=Int.eq_ofNat_of_zero_le (show 0≤max n 0 by omega)
 rw[ah,Int.toNat_natCast] at h
 rw[ah]
 have b5:(m:Int)≤9223372036854775807:=by have:=hn.2;omega
 refine U3 (min m cs.length) (fun i w'=> ∃σ',Stp w3 σ2 w' σ'∧(cs.take i).any (fun c=>c.vals.any (F7 m))=false) ⟨σ2,Stp.refl bk,rfl⟩ fun i w4 d hi A=>?_
 obtain ⟨σ4,q,ab⟩:=A
 have a:=aq.up q
 have s:=bf.trans q
 have E:=hc.up s
 refine Z2 ?_
 have Z: ¬i<min m cs.length→(cs.take m).any (fun c=>c.vals.any (F7 m))=false∧(m<cs.length→i=m):=fun ai=>by
  by_cases bj:m≤cs.length
  ·have:i=m:=by omega
   subst this;exact ⟨ab,fun _=>rfl⟩
  ·have e:cs.take m=cs.take i:=by rw[List.take_of_length_le (by omega),List.take_of_length_le (by omega)]
   rw[e];exact ⟨ab,fun h=>by omega⟩
 have U: ¬i<min m cs.length→jn (α:=Unit) w4 (fun av w=>
  fieldAddr P T.a (.pointer (some ⟨O,0,none⟩)) 2 w fun bo w=>
  Q2 P T.g bo w fun bi w=>
  X3 P .len [T.g] T.e [false] [bi] w fun bc w=>
  Q3 P .lss T.e (.tmp 52) (.tmp 55) (I (m:Int)) bc w fun a9 w=>
  X1 a9 (
   buildSlice P T.g 0 [] w fun bp w=>
   fieldAddr P T.a (.pointer (some ⟨O,0,none⟩)) 2 w fun a2 w=>
   Q2 P T.g a2 w fun bl w=>
   R7 P T.g bl none (some (I (m:Int))) none w fun a7 w=>
   X3 P .append [T.g,T.g] T.g [false,false] [bp,a7] w fun ba w=>
   fieldAddr P T.a (.pointer (some ⟨O,0,none⟩)) 2 w fun a6 w=>
   Y0 P T.g a6 ba w fun _u w=>
   av () w) (
   av () w)) fun b3 d_ w=>
  Q2 P T.a (.pointer (some ⟨O,0,none⟩)) w fun a3 w=>
  Y0 P T.a (.pointer (some ⟨b4,0,none⟩)) a3 w fun _u w=>
  Y7 P T.a (.pointer (some ⟨b4,0,none⟩)) w fun r0=>
  K r0 w:=fun ai=>by
  obtain ⟨u,_⟩:=Z ai
  rw[if_neg (by rw[u];simp)] at h
  refine U8 ?_
  refine W4 ?_
  refine Ye a rfl ?_
  refine Q8 E ?_
  refine Z2 ?_
  by_cases bj:m<cs.length
  ·rw[decide_eq_true (show (m:Int)<(cs.length:Int) by omega)]
   refine J4 ?_
   have a4:=q.sat
   refine Et (R:=S2) (e:=T.o) (Stp.refl a4) (by decide) fun x1 w5 f a8 _=>?_
   refine W4 ?_
   refine Ye (a.up f) rfl ?_
   refine Ei (E.up f) none (some (I m)) 0 m (.inl ⟨rfl,rfl⟩) (.inr rfl) (Nat.zero_le _) (by omega) fun v3 ar=>?_
   rw[List.drop_zero,Nat.sub_zero] at ar
   refine Wh f a8 ar rfl (by simp;omega) (by simp;omega) fun x2 w6 _ g C _=>?_
   rw[List.nil_append] at C
   have an:=Ju C
   have N:=a.up g
   refine W4 ?_
   refine Ud N (by simp) an.1 an.2 fun w7 u7 M=>?_
   intro d
   have ao:J8 w4.heap.size T.o 2 S2 σ4 w7 x2 (cs.take m):=(J8.of_acc C).kp (D:=fun j=>j=O) (.of_upd u7 rfl) fun j hj e=>by have:=(C.mem j hj).1;have:=a.lt;omega
   have Q:=((H.up q).up g).upd u7 (fun e=>am e.symm)
   have J:Stp w σ w7 σ4:=u7.stp (s.trans g) a5 N.1
   obtain ⟨σ8,s8,l8,f8,o8⟩:=ao.freeze J.sat
   have X: ∀j,j<w4.heap.size→σ8 j=σ4 j:=fun j hj=>o8 j fun e=>by have:=(ao.mem e.symm).1;omega
   have bd:Stp w σ w7 σ8:=⟨J.bel,s8,fun b o e=>l8.le b o (J.le b o e),fun b hb=>(X b (Nat.lt_of_lt_of_le hb s.bel.size)).trans (J.old b hb)⟩
   exact Q5u bd (cs:=cs.take m) (l:=l) (show Y1 σ8 w7 O [lv,I room,x2] from ⟨(X O a.lt).trans M.1,M.2⟩) ⟨(X b4 (H.up q).lt).trans Q.1,Q.2⟩ rfl ac ⟨lv,x2,rfl,(hl.up s).lift l8,f8⟩ fun w' σ' hk hr=>h _ w' σ' hk hr
  ·rw[decide_eq_false (show¬(m:Int)<(cs.length:Int) by omega)]
   refine Z9 ?_
   intro d
   rw[List.take_of_length_le (by omega)] at h
   exact Q5u s a (H.up q) rfl ac (W7 hh ⟨s.le⟩) fun w' σ' hk hr=>h _ w' σ' hk hr
 by_cases ck:i<m
 case neg=>
  rw[decide_eq_false (show¬(i:Int)<(m:Int) by omega)]
  (try simp only[O6,E1,S3,W3,W8,W9,M4,M3,H6,Bool.not_true,Bool.not_false])
  exact U (by omega)
 rw[decide_eq_true (show (i:Int)<(m:Int) by omega)]
 (try simp only[O6,E1,S3,W3,W8,W9,M4,M3,H6,Bool.not_true,Bool.not_false])
 refine W4 ?_
 refine Ye a rfl ?_
 refine Q8 E ?_
 refine Z2 ?_
 by_cases B:i<cs.length
 case neg=>
  rw[decide_eq_false (show¬(i:Int)<(cs.length:Int) by omega)]
  refine Z9 ?_
  exact U (by omega)
 rw[decide_eq_true (show (i:Int)<(cs.length:Int) by omega)]
 refine J4 ?_
 have cj:=Q5W a0 B
 refine U3 cs[i].vals.length (fun k w'=> ∃σ',Stp w4 σ4 w' σ'∧(cs[i].vals.take k).any (F7 m)=false) ⟨σ4,Stp.refl q.sat,rfl⟩ fun k w5 d hk A=>?_
 obtain ⟨σ5,f,y⟩:=A
 have v:=a.up f
 have aa:=E.up f
 have bm:=s.trans f
 have L:=f.sat
 obtain ⟨vv,p1,p2,p3⟩:=Sl.elO aa B
 refine W4 ?_
 refine Ye v rfl ?_
 refine Y3 aa B ?_
 refine W4 ?_
 refine ld L p1 rfl ?_
 refine Q8 p2 ?_
 refine Z2 ?_
 refine Q7 (fun V=>?_) (fun V=>?_)
 ·have r:k<cs[i].vals.length:=by simpa using V
  obtain ⟨p4,r4⟩:=Sl.elV p2 r
  refine W4 ?_
  refine Ye v rfl ?_
  refine Y3 aa B ?_
  refine W4 ?_
  refine ld L p1 rfl ?_
  refine Y3 p2 r ?_
  refine Y4 L p4 rfl ?_
  refine Y8 L (by rfl) rfl (Rep.one r4) fun q6 w6 σ6 g al=>?_
  have af:=bm.trans g
  have be:=L3 (p:=F7 m) r
  refine W4 ?_
  refine ld (i:=0) g.sat al rfl ?_
  refine P3 ?_
  have t:F7 m cs[i].vals[k]=false→ ∃σ',Stp w4 σ4 w6 σ'∧(cs[i].vals.take (k+1)).any (F7 m)=false:=fun e=>⟨σ6,f.trans g,by rw[be,y,e];rfl⟩
  by_cases e4:cs[i].vals[k].sort=4
  ·rw[decide_eq_true e4]
   (try simp only[O6,E1,S3,W3,W8,W9,M4,M3,H6,Bool.not_true,Bool.not_false])
   refine W4 ?_
   refine ld g.sat al rfl ?_
   refine P5 ?_
   by_cases eg:(m:Int)≤cs[i].vals[k].ref
   ·rw[decide_eq_true eg]
    refine J4 ?_
    have u:(cs.take m).any (fun c=>c.vals.any (F7 m))=true:=by
     refine List.any_eq_true.2 ⟨cs[i],List.mem_take_iff_getElem.2 ⟨i,by omega,rfl⟩,C0 r (by simp[F7,e4,eg])⟩
    rw[if_pos u] at h
    exact Q5u af (v.up g) ((H.up q).up (f.trans g)) rfl ac (W7 hh ⟨af.le⟩) fun w' σ' hk hr=>h _ w' σ' hk hr
   ·rw[decide_eq_false eg]
    refine Z9 ?_
    refine O4 ?_
    exact Y5 (by omega) r (t (by simp[F7,eg]))
  ·rw[decide_eq_false e4]
   (try simp only[O6,E1,S3,W3,W8,W9,M4,M3,H6,Bool.not_true,Bool.not_false])
   refine O4 ?_
   exact Y5 (by omega) r (t (by simp[F7,e4]))
 ·have r: ¬k<cs[i].vals.length:=by simpa using V
  rw[E0 r] at y
  refine O4 ?_
  refine Y5 (by omega) (by omega) ⟨σ5,q.trans f,?_⟩
  rw[L3 B,ab,y];rfl)
end Go.Proofs.YtjdiakhipmggjaaGreatDoor

namespace Go.Hm
open Go.Kd
def Q87:Ins:=⟨[105,110,116],1,[]⟩
def Q15:Ins:=⟨[114,101,116,117,114,110],0,[]⟩
def kA:X0:=[65]
def fX:Fld:=⟨[120],P7,false⟩
def Q1F:Fld:=⟨[110,101,120,116],kA,false⟩
def fL:Fld:=⟨[108],[65,91,93],false⟩
def mF:Hm.Met:=⟨[102],[P7,kA],P7,false,3,[Q87,Q15],[]⟩
def mG:Hm.Met:=⟨[103],[],[],false,1,[Q15],[]⟩
def cA:Cla:=⟨kA,U0,[],false,false,false,[fX,Q1F],[mF,mG]⟩
def cB:Cla:=⟨[66],kA,[[73]],false,false,false,[fL],[]⟩
def cI:Cla:=⟨[73],U0,[],true,true,false,[],[]⟩
def cD:Cla:=⟨[68],U0,[],false,true,false,[],[]⟩
def B3:List Cla:=[cA,cB,cI,cD]
end Go.Hm
namespace Go.Proofs.YtjdiakhipmggjaaGreatDoor
open Go.Emb Go.RowKit Go.Kd Go.Hm
variable {w w' : World} {K : Value → World → Prop} {σ σ' : Q6} {ds : List Value} {room : Int} {cs : List Cel} {l : List Cla} {hp tv : Value}
set_option maxRecDepth 100000 in
theorem Q2H:Ce D0 B3=none:=by decide+kernel
set_option maxHeartbeats 1000000 in
theorem Q4K (Y:X2 w σ) (h: ∀v w' σ',Stp w σ w' σ'→Sl 8 V0 σ' v B3→K v w'):Q1 P F.aA [] w K:=Ff (by
 unfold Vo
 refine W2 (cells:= #[S Q87.op,I 1,S []]) (by kernel_rfl) ?_
 refine W2 (cells:= #[S Q15.op,I 0,S []]) (by kernel_rfl) ?_
 refine P1 (R:=Qj) (sz:=3) Y [.agg #[S Q87.op,I 1,S []], .agg #[S Q15.op,I 0,S []]] [Q87,Q15] rfl rfl (by simp;exact ⟨rfl,rfl⟩) rfl ⟨⟨rfl,by decide,by decide,by decide⟩,⟨rfl,by decide,by decide,by decide⟩,trivial⟩ fun v1 w1 σ1 s d=>?_
 refine W2 (cells:= #[S fX.name,S fX.kind, .bool false]) (by kernel_rfl) ?_
 refine W2 (cells:= #[S Q1F.name,S Q1F.kind, .bool false]) (by kernel_rfl) ?_
 refine P1 (R:=R8) (sz:=3) s.sat [.agg #[S fX.name,S fX.kind, .bool false], .agg #[S Q1F.name,S Q1F.kind, .bool false]] [fX,Q1F] rfl rfl (by simp;exact ⟨rfl,rfl⟩) rfl ⟨⟨rfl,by decide,by decide⟩,⟨rfl,by decide,by decide⟩,trivial⟩ fun v2 w2 σ2 g f=>?_
 refine P1 (R:=U6) (sz:=1) g.sat [S P7,S kA] [P7,kA] rfl rfl (by simp;exact ⟨rfl,rfl⟩) rfl ⟨⟨rfl,by decide⟩,⟨rfl,by decide⟩,trivial⟩ fun v3 w3 σ3 e u=>?_
 have m:=d;have q:=f;have j:=u
 obtain ⟨E,N,rfl,_⟩:=m
 obtain ⟨Q,L,rfl,_⟩:=q
 obtain ⟨J,W,rfl,_⟩:=j
 have d:=(d.up g).up e
 have f:=f.up e
 refine W2 (cells:= #[S mF.name, .slice J 2 W,S P7, .bool false,I 3, .slice E 2 N, .slice none 0 0]) (by kernel_rfl) ?_
 refine W2 (cells:= #[S Q15.op,I 0,S []]) (by kernel_rfl) ?_
 refine P1 (R:=Qj) (sz:=3) e.sat [.agg #[S Q15.op,I 0,S []]] [Q15] rfl rfl (by simp;rfl) rfl ⟨⟨rfl,by decide,by decide,by decide⟩,trivial⟩ fun v4 w4 σ4 a y=>?_
 have k:=y
 obtain ⟨O,C,rfl,_⟩:=k
 refine W2 (cells:= #[S mG.name, .slice none 0 0,S [], .bool false,I 1, .slice O 1 C, .slice none 0 0]) (by kernel_rfl) ?_
 refine P1 (R:=E4) (sz:=7) a.sat [.agg #[S mF.name, .slice J 2 W,S P7, .bool false,I 3, .slice E 2 N, .slice none 0 0], .agg #[S mG.name, .slice none 0 0,S [], .bool false,I 1, .slice O 1 C, .slice none 0 0]] [mF,mG] rfl rfl (by simp;exact ⟨rfl,rfl⟩) rfl
  ⟨⟨_,_,_,rfl,u.up a,d.up a,Sl.nil,by decide,by decide,by decide⟩,⟨_,_,_,rfl,Sl.nil,y,Sl.nil,by decide,by decide,by decide⟩,trivial⟩ fun v5 w5 σ5 i t=>?_
 have n:=t
 obtain ⟨V,D,rfl,_⟩:=n
 refine W2 (cells:= #[S kA,S U0, .slice none 0 0, .bool false, .bool false, .bool false, .slice Q 2 L, .slice V 2 D]) (by kernel_rfl) ?_
 refine P1 (R:=U6) (sz:=1) i.sat [S [73]] [[73]] rfl rfl (by simp;rfl) rfl ⟨⟨rfl,by decide⟩,trivial⟩ fun v6 w6 σ6 c r=>?_
 have z:=r
 obtain ⟨M,H,rfl,_⟩:=z
 refine W2 (cells:= #[S fL.name,S fL.kind, .bool false]) (by kernel_rfl) ?_
 refine P1 (R:=R8) (sz:=3) c.sat [.agg #[S fL.name,S fL.kind, .bool false]] [fL] rfl rfl (by simp;rfl) rfl ⟨⟨rfl,by decide,by decide⟩,trivial⟩ fun v7 w7 Z b p=>?_
 have o:=p
 obtain ⟨U,X,rfl,_⟩:=o
 refine W2 (cells:= #[S cB.name,S kA, .slice M 1 H, .bool false, .bool false, .bool false, .slice U 1 X, .slice none 0 0]) (by kernel_rfl) ?_
 refine W2 (cells:= #[S cI.name,S U0, .slice none 0 0, .bool true, .bool true, .bool false, .slice none 0 0, .slice none 0 0]) (by kernel_rfl) ?_
 refine W2 (cells:= #[S cD.name,S U0, .slice none 0 0, .bool false, .bool true, .bool false, .slice none 0 0, .slice none 0 0]) (by kernel_rfl) ?_
 refine P1 (R:=V0) (sz:=8) b.sat [.agg #[S kA,S U0, .slice none 0 0, .bool false, .bool false, .bool false, .slice Q 2 L, .slice V 2 D], .agg #[S cB.name,S kA, .slice M 1 H, .bool false, .bool false, .bool false, .slice U 1 X, .slice none 0 0], .agg #[S cI.name,S U0, .slice none 0 0, .bool true, .bool true, .bool false, .slice none 0 0, .slice none 0 0], .agg #[S cD.name,S U0, .slice none 0 0, .bool false, .bool true, .bool false, .slice none 0 0, .slice none 0 0]] B3 rfl rfl (by simp;exact ⟨rfl,rfl,rfl,rfl⟩) rfl
  ⟨⟨_,_,_,rfl,Sl.nil,(((f.up a).up i).up c).up b,(t.up c).up b,by decide,by decide⟩,⟨_,_,_,rfl,r.up b,p,Sl.nil,by decide,by decide⟩,⟨_,_,_,rfl,Sl.nil,Sl.nil,Sl.nil,by decide,by decide⟩,⟨_,_,_,rfl,Sl.nil,Sl.nil,Sl.nil,by decide,by decide⟩,trivial⟩ fun v8 w8 σ8 B A=>?_
 exact h _ _ _ ((((((((s.trans g).trans e).trans a).trans i).trans c).trans b)).trans B) A)
end Go.Proofs.YtjdiakhipmggjaaGreatDoor

namespace Go.Emb
open Go.RowKit
end Go.Emb
namespace Go.Proofs.YtjdiakhipmggjaaGreatDoor
open Go.Emb Go.RowKit Go.Kd Go.Hm
variable {w : World} {K : Value → World → Prop} {σ : Q6} {l : List Cla}
end Go.Proofs.YtjdiakhipmggjaaGreatDoor

namespace Go.Proofs.YtjdiakhipmggjaaGreatDoor
open Go.Emb Go.RowKit Go.Kd Go.Hm
variable {w w' : World} {K : Value → World → Prop} {σ σ' : Q6} {ds : List Value} {room : Int} {cs : List Cel} {l : List Cla} {hp tv : Value}
theorem HeapIs.mono {B B':Nat} {D:Nat→Prop} (h:HeapIs B D σ w hp tv room cs) (hB:B'≤B):HeapIs B' D σ w hp tv room cs:=by
 obtain ⟨b,f,E,m,g,d,⟨vs,e,c,n,hD⟩,hE,a⟩:=h.ex
 exact ⟨b,f,E,m,Nat.le_trans hB g,d,⟨vs,e.mono hB,⟨c.1,fun i k j=>(c.2 i k j).mono hB⟩,n,hD⟩,hE,a⟩
theorem X3p {a:Addr} {n:Int} (i:X2 w σ)
 (g:(n<0∨1048576<n)→K (.tuple #[.pointer none,I 90]) w)
 (j:0≤n→n≤1048576→ ∀b w' σ' D,Stp w σ w' σ'→HeapIs w.heap.size D σ' w' (.pointer (some ⟨b,0,none⟩)) (.pointer (some a)) n []→K (.tuple #[.pointer (some ⟨b,0,none⟩),I 0]) w'):Q1 P F.cM [.pointer (some a),I n] w K:=Q7W (by
 unfold Q3b
 refine Z2 ?_
 by_cases e:n<0
 ·rw[decide_eq_true e]
  (try simp only[O6,E1,S3,W3,W8,W9,M4,M3,H6,Bool.not_true,Bool.not_false])
  exact g (.inl e)
 rw[decide_eq_false e]
 (try simp only[O6,E1,S3,W3,W8,W9,M4,M3,H6,Bool.not_true,Bool.not_false])
 refine Pr ?_
 by_cases c:(1048576:Int)<n
 ·rw[decide_eq_true c]
  exact J4 (g (.inr c))
 rw[decide_eq_false c]
 refine Z9 ?_
 refine W2 (cells:= #[.pointer (some a),I n,I 0, .slice none 0 0]) (by kernel_rfl) ?_
 refine Ev (cs:=[.pointer (some a),I n,I 0, .slice none 0 0]) i fun b w1 σ1 h f d=>?_
 exact j (by omega) (by omega) b w1 σ1 _ f ⟨b,_,_,rfl,h,d,RowsIs.nil,id,fun k=>Iff.rfl⟩)
theorem X0U:P.underlying T.aq=some (.int .u16):=by kernel_rfl
theorem X23: ∀c∈B3,Qn c:=X2I (by decide)
theorem Gn:Wf B3:=X41 Q2H
set_option maxHeartbeats 1000000 in
theorem Q7o {r:Int} (hs:X2 w σ) (hg:Glb σ) (hr:0≤r)
 (h: ∀b a D ds w' σ',Stp w σ w' σ'→HeapIs w.heap.size D σ' w' (.pointer (some ⟨b,0,none⟩)) (.pointer (some a)) (r % 301) []→D1 σ' (Q4 B3,r % 301,[]) ds→Tab σ' (.pointer (some a)) (Q4 B3)→Ok (Q4 B3)→K (.tuple #[.pointer (some ⟨b,0,none⟩), .agg ds.toArray]) w'):Q1 P F.ai [.int .u16 r] w K:=Po (by
 have hr0:=Int.emod_nonneg r (show (301:Int)≠0 by decide)
 have hr1:=Int.emod_lt_of_pos r (show (0:Int)<301 by decide)
 unfold Nt
 refine M8 hs fun b3 w1 σ1 hb3 hk1 hm1=>?_
 refine Q4K hk1.sat fun v w2 σ2 hk2 hv2=>?_
 refine X46 hk2.sat (hg.lift ⟨(hk1.trans hk2).le⟩) hv2 (by decide) X23 (fun i e _ _ hn=>by rw[Q2H] at hn;cases hn) fun tv w3 σ3 _ hk3 ht ok _=>?_
 obtain ⟨a,_,_,_,rfl,_⟩:=ht.ex
 have hS3:=(hk1.trans hk2).trans hk3
 refine J6 (vs:=[_,_,_]) rfl ?_
 refine J6 (vs:=[_,_,_]) rfl ?_
 refine J6 (vs:=[_,_,_]) rfl ?_
 refine Q4K hk3.sat fun v4 w4 σ4 hk4 hv4=>?_
 refine X2B hk4.sat hv4 (by decide) (fun i e _ _ hn=>by rw[Q2H] at hn;cases hn) fun lv w5 σ5 _ hk5 hlv ok5 _=>?_
 have hk35:=hk4.trans hk5
 have hS5:=hS3.trans hk35
 refine J6 (vs:=[_,_,_]) rfl ?_
 refine J6 (vs:=[_,_,_]) rfl ?_
 refine J6 (vs:=[_,_,_]) rfl ?_
 refine Q5D ⟨by decide,hr⟩ ?_
 rw[Kf X0U Q1K]
 have ew:IntKind.i64.wrap (r % 301)=r % 301:=F9 (n:=r % 301) (by omega) (by omega)
 rw[ew]
 simp only[decide_true,Bool.not_true,Bool.false_eq_true,reduceIte,↓M1,M1,Mb,reduceIte]
 refine X34 ?_
 simp only[decide_true,Bool.not_true,Bool.false_eq_true,reduceIte,↓M1,M1,Mb,reduceIte]
 refine X3p (n:=r % 301) hk5.sat (fun hx=>absurd hx (by omega)) fun _ _ b6 w6 σ6 D hk6 h6=>?_
 refine J6 (vs:=[_,_]) rfl ?_
 refine J6 (vs:=[_,_]) rfl ?_
 simp only[decide_true,Bool.not_true,↓M1,M1,Mb,reduceIte]
 refine W2 (cells:= #[lv,I (r % 301), .slice none 0 0]) (by obtain ⟨a5,c5,hle,_⟩:=id hlv;generalize (Q4 B3).length=n5 at hle;subst hle;kernel_rfl) ?_
 have hm6:=hm1.up ((hk2.trans hk3).trans (hk35.trans hk6))
 have hrh:D1 σ6 (Q4 B3,r % 301,[]) [lv,I (r % 301), .slice none 0 0]:=⟨_,_,rfl,hlv.up hk6,Sl.nil⟩
 refine Mj (ds:=[lv,I (r % 301), .slice none 0 0]) hm6 rfl rfl (by rw[List.all_toArray];exact List.all_eq_true.2 (Rep.one hrh)) fun w7 u7 hm7=>?_
 refine V2 hm7 rfl ?_
 have hS6:=hS5.trans hk6
 have hB3:=M9 hb3 (Stp.refl hs)
 have hS7:=u7.stp hS6 hB3 hm6.1
 have hb35:b3<w5.heap.size:=by
  have:=(hm1.up ((hk2.trans hk3).trans hk35)).lt
  exact this
 exact h b6 a D _ w7 σ6 hS7 ((h6.nx (Nxt.of_upd hk6.sat u7 hm6.1) fun k hk e=>by have:=(h6.mem hk).1;omega).mono hS5.bel.size) hrh (ht.lift ⟨(hk35.trans hk6).le⟩) ok)
theorem X4e {x:ActH} {ds:List Value} (j:X2 w σ) (c:Bx σ x ds) (h: ∀w',Below w.heap.size w w'→K (.bool (decide (x.s.length≤100)&&decide (x.v.s.length≤5000))) w'):Q1 P F.aC [.agg ds.toArray] w K:=Q1f (by
 have f:=c
 obtain ⟨rfl,k,m⟩:=c
 unfold Eh
 refine Y9 j fun q w1 σ1 a d=>?_
 refine W4 ?_
 refine ld (i:=1) a.sat d rfl ?_
 refine Cg (by kernel_rfl) ?_
 refine Q53 ?_
 cases e:decide ((x.s.length:Int)≤100) with
 | false=>
  have b:decide (x.s.length≤100)=false:=by rw[←e];congr 1;simp only[eq_iff_iff];omega
  rw[b] at h
  (try simp only[↓M1,M1,Mb,reduceIte])
  exact h _ a.bel
 | true=>
  have b:decide (x.s.length≤100)=true:=by rw[←e];congr 1;simp only[eq_iff_iff];omega
  rw[b] at h
  (try simp only[O6,E1,S3,W3,W8,W9,M4,M3,H6,Bool.not_true,Bool.not_false])
  (repeat refine Hd.h ?_)
  refine ld (i:=6) a.sat d rfl ?_
  (repeat refine Hd.h ?_)
  refine Cg (by kernel_rfl) ?_
  (repeat refine Hd.h ?_)
  refine Q53 ?_
  (repeat refine Hd.h ?_)
  have g:decide ((x.v.s.length:Int)≤5000)=decide (x.v.s.length≤5000):=by congr 1;simp only[eq_iff_iff];omega
  rw[g]
  exact h _ a.bel)
end Go.Proofs.YtjdiakhipmggjaaGreatDoor

namespace Go.Proofs.YtjdiakhipmggjaaGreatDoor
open Go.Emb Go.RowKit Go.Kd Go.Hm
variable {w w' : World} {K : Value → World → Prop} {σ σ' : Q6} {ds : List Value} {room : Int} {cs : List Cel} {l : List Cla} {hp tv : Value}
def zfK:X0:=[90,101,114,111,70,97,117,108,116]
def zf1:List Cel:=[⟨zfK,[⟨3,0,[],0⟩]⟩]
def zf2:List Cel:=zf1++[⟨P7++[91,93],List.replicate 3 ⟨1,0,[],0⟩⟩]
theorem X0n:Zt (Q4 B3) 10 [] zfK=(zf1,0):=by decide
theorem X0M:Zp (Q4 B3) 10 zf1 P7 3=(zf2,0):=by decide
theorem Q3M:W5 []=true:=by decide+kernel
theorem Q7w:GoodH W5 (Q4 B3) 10 zf2:=by
 have b:=GoodH.obj Gn Q3M (GoodH.empty (ok:=W5) (l:=Q4 B3) (show (0:Int)≤10 by decide)) zfK
 rw[X0n] at b
 have a:=GoodH.arr Gn Q3M b P7 3
 rw[X0M] at a
 exact a
theorem X4l:P.underlying T.a5=some (.pointer T.p):=by kernel_rfl
theorem X0H (d:Nat) (o:Option Addr):(Op.equalIn (d+1) T.a5 (.pointer o) (.pointer none)).run P w= .ok o.isNone w:=by
 cases o<;>simp[Op.equalIn,run_underlying X4l]
theorem Q93 {a:Addr} {c b:Operand} (h:K (.bool false) w):Q3 P .eql T.a5 c b (.pointer (some a)) (.pointer none) w K:=by
 have e:(Op.equal T.a5 (.pointer (some a)) (.pointer none)).run P w= .ok false w:=X0H 9999 _
 unfold Q3
 rw[X9 (v:= .bool false) (w':=w) (by simp[eqGuard,Go.binOp,e])]
 exact h
theorem X32 {a:Addr} {c b:Operand} (h:K (.bool true) w):Q3 P .neq T.r c b (.pointer (some a)) (.pointer none) w K:=by
 have e:(Op.equal T.r (.pointer (some a)) (.pointer none)).run P w= .ok false w:=Q5J 9999 _
 unfold Q3
 rw[X9 (v:= .bool true) (w':=w) (by simp[eqGuard,Go.binOp,e])]
 exact h
set_option maxHeartbeats 1000000 in
theorem Q7k (hs:X2 w σ) (U:Glb σ) (h: ∀w' σ',Stp w σ w' σ'→K (.bool true) w'):Q1 P F.ah [] w K:=Iy (by
 unfold Nh
 refine Q7o hs U (by decide) fun b a D ds w1 σ1 g J q ht ok=>?_
 refine J6 (vs:=[_,_]) rfl ?_
 refine J6 (vs:=[_,_]) rfl ?_
 refine M8 g.sat fun b2 w2 X u i z=>?_
 have Y:=M9 u g
 refine Mj z rfl (by obtain ⟨lv,cv,rfl,_⟩:=D1.out q;rfl) (by rw[List.all_toArray];exact List.all_eq_true.2 (Rep.one q)) fun w3 u3 W=>?_
 have R:=g.trans i
 have h2:=J.up i
 have d:Stp w1 σ1 w3 X:=u3.stp i u z.1
 have Q:=J.up d
 have s:=g.trans d
 rw[show (10 % 301:Int)=10 from rfl] at Q
 refine Q93 ?_
 (try simp only[O6,E1,S3,W3,W8,W9,M4,M3,H6,Bool.not_true,Bool.not_false])
 have v:=ht.lift ⟨d.le⟩
 refine Q6u d.sat s.bel.size Q v ok (k:=zfK) (by decide) (by decide) (by decide) fun w4 σ4 D4 H C V=>?_
 simp only[X0n] at C
 have p:=v.lift H.le
 refine J6 (vs:=[_,_]) rfl ?_
 refine J6 (vs:=[_,_]) rfl ?_
 have E: ∀{k},D k→w.heap.size≤k:=fun t=>(J.mem t).1
 have y:=H.stp' s fun k t=>E t
 refine Q7A H.sat y.bel.size C p (e:=P7) (n:=3) (by decide) (by decide) (by decide) fun w5 σ5 D5 O N ac=>?_
 simp only[X0M] at N
 have B:=p.lift O.le
 have m:=O.stp' y fun k t=>(C.mem t).1
 refine J6 (vs:=[_,_]) rfl ?_
 refine J6 (vs:=[_,_]) rfl ?_
 obtain ⟨σf,M,j,r,_⟩:=N.freeze m.sat
 simp only[X0n,X0M,show atM [] 0=0 from rfl,show atM zf1 0=1 from rfl,decide_true,↓M1,M1,Mb,reduceIte]
 refine Q7M M r Q7w.left (by decide) fun w6 A=>?_
 have f:=Stp.of_below M A
 simp only[show W6 10 zf2=4 from by decide,decide_true,↓M1,M1,Mb,reduceIte]
 have c:=r
 refine X2U f.sat c ?_
 simp only[show ((zf2.length:Nat):Int)=2 from by decide,decide_true,↓M1,M1,Mb,reduceIte]
 refine Q7L f.sat c ?_
 refine K2 ?_
 simp only[show D6 zf2 0=zfK from by decide,show decide (zfK=[90,101,114,111,70,97,117,108,116])=true from by decide,↓M1,M1,Mb,reduceIte]
 refine X1N f.sat c ?_
 simp only[show Q5h zf2 1=3 from by decide,decide_true,↓M1,M1,Mb,reduceIte]
 have L:=(U.lift ⟨m.le⟩).lift j
 refine X2m f.sat L c (B.lift j) ok Q7w.cells fun Z σ7 o=>?_
 simp only[↓M1,M1,Mb,reduceIte]
 refine X0K o.sat (c.lift ⟨o.le⟩) ?_
 refine X32 ?_
 (try simp only[↓M1,M1,Mb,reduceIte])
 exact h Z σ5 (m.trans ((f.trans o).weak j.le)))
end Go.Proofs.YtjdiakhipmggjaaGreatDoor

namespace Go.Emb
open Go.RowKit Go.Hm
variable {P : Program} {w w0 w1 w' w'' : World} {K : Value → World → Prop} {σ σ0 σ1 σ' : Q6} {b n : Nat} {ds : List Value} {v V : Value}
structure VarT (b : Nat) (ds : List Value) (w w' : World) : Prop where
  kp : Kpt (fun j => j = b) w w'
  var : (b < w.heap.size → w'.heap[b]? = w.heap[b]?) ∨ ∃ e, w'.heap[b]? = some (.cells ds.toArray e (0, 0))
structure VarB (w0 : World) (σ0 : Q6) (w1 : World) (σ : Q6) (b n : Nat) (w' : World) : Prop where
  hst : Hst w0 σ0 w' σ
  kp : Kpt (fun j => j = b) w1 w'
  var : ∃ cs, cs.length = n ∧ Y1 σ w' b cs
theorem VarT.of_below (h:Below w.heap.size w w'):VarT b ds w w':=⟨.of_below h, .inl fun a=>h.block b a⟩
theorem VarT.of_upd (h:Upd w b w') (a:Y1 σ w' b ds):VarT b ds w w':=⟨.of_upd h rfl, .inr a.2⟩
theorem VarB.step (c:w0.heap.size≤b) (f:ds.length=n) (h:VarB w0 σ0 w1 σ b n w) (k:VarT b ds w w'):VarB w0 σ0 w1 σ b n w':=by
 obtain ⟨cs,g,a⟩:=h.var
 refine ⟨⟨h.hst.stp.kp k.kp fun j d=>by subst d;exact ⟨c,a.1⟩⟩,h.kp.trans k.kp,?_⟩
 rcases k.var with e | e
 ·exact ⟨cs,g,a.1,by rw[e a.lt];exact a.2⟩
 ·exact ⟨ds,f,a.1,e⟩
theorem Q5P {A:(World→World→Prop)→(World→Prop)→Prop} (ds:List Value) {cs:List Value} (a:Stp w0 σ0 w σ) (c:w0.heap.size≤b) (g:Y1 σ w b cs) (i:cs.length=n) (e:ds.length=n)
 (h:A (VarT b ds) (VarB w0 σ0 w σ b n)):dr w A:=
 Im _ _ ⟨⟨a.trans (Stp.of_below a.sat (Below.refl _ _).drew)⟩, .of_below (Below.refl _ _).drew,cs,i,g⟩ (fun _ _ f d=>f.step c e d) h
theorem G0 (h:V=v):dk (VarT b ds) (fun v _=>V=v) w v w:=⟨.of_below (Below.refl _ _),h⟩
theorem Zi (a:Below w.heap.size w w') (h:V=v):dk (VarT b ds) (fun v _=>V=v) w v w':=⟨.of_below a,h⟩
theorem Ui {t:TypeId} {c:Nat} {z:Value} [tz:TZ P t n c z] {a:(List Value→Value→World→Prop)→Prop} {φ:Value→World→Prop} (g:ds.length=n) (q: ∀u∈ds,u.oneCell'=true) (r: ∀v w,φ v w→ .agg ds.toArray=v)
 (i:a (fun _ _ w=>Y1 σ w b ds)) (f:σ b=none):Rt (VarT b ds) (fun F=> ∀x w,VarB w0 σ0 w1 σ b n w→φ x w→Y0 P t (.pointer (some ⟨b,0,none⟩)) x w (dk (VarT b ds) (F [x]) w)) a:=by
 refine Q46 _ (fun xs v w w' h k=>?_) (fun x w m s=>?_) i
 ·rcases k.var with e | e
  ·exact ⟨f,by rw[e h.lt];exact h.2⟩
  ·exact ⟨f,e⟩
 ·have:=r x w s
  subst this
  obtain ⟨cs,o,p⟩:=m.var
  exact Mj p o g (by rw[List.all_toArray];exact List.all_eq_true.2 q) fun w' j d=>⟨.of_upd j d,d⟩
theorem Vw {c d:Bool} {V:Value} {a:World→(Value→World→Prop)→Prop} (h:c=d→a w (dk (VarT b ds) (fun v _=>V=v) w)):Q0 (.bool c) d w a (dk (VarT b ds) (fun v _=>(if c=d then V else undef)=v) w):=by
 by_cases e:c=d
 ·simp only[e,if_true]
  subst e
  have:=h rfl
  cases c
  ·rw[W8];exact this
  ·rw[W3];exact this
 ·simp only[e,if_false]
  cases c<;>cases d<;>first | exact absurd rfl e | (rw[S3];exact G0 rfl) | (rw[E1];exact G0 rfl)
theorem VarB.hs (h:VarB w0 σ0 w1 σ b n w):Hst w0 σ0 w σ:=h.hst
end Go.Emb
namespace Go.Proofs.YtjdiakhipmggjaaGreatDoor
open Go.Emb Go.RowKit Go.Kd Go.Hm
variable {w w' : World} {K : Value → World → Prop} {σ σ' : Q6} {ds : List Value} {room : Int} {cs : List Cel} {l : List Cla} {hp tv : Value}
theorem Q3R {c:Nat} {g f:World} {e:Q6} {x:List Cla×Int×List Cel} {d m:List Value} (p:Stp w σ g e) (hB:w.heap.size≤c) (o:Y1 e g c m) (u:Upd g c f) (h:Y1 e f c d):
 ∃a,Stp w σ f a∧Z4 a ⟨c,0,none⟩ d∧SLe e a∧ ∀k,k≠c→a k=e k:=by
 obtain ⟨a,r,i,q,j⟩:=h.keep (u.stp p hB o.1) hB
 exact ⟨a,r,i,⟨q⟩,j⟩
end Go.Proofs.YtjdiakhipmggjaaGreatDoor

namespace Go.Emb
open Go.RowKit Go.Hm
variable {P : Program} {w w0 w1 w' w'' : World} {K : Value → World → Prop} {σ σ0 σ1 σ' : Q6} {b n : Nat} {ds : List Value} {v V : Value}
theorem Z4.tail {q:Addr} {xs ys:List Value} (h:Z4 σ q (xs++ys)):Z4 σ (q.add xs.length) ys:=by
 obtain ⟨g,a,e,z,d,f⟩:=h
 cases xs with
 | nil=>exact ⟨by simp[Addr.add,g],a,e,z,by simpa [Addr.add] using d,fun i u c=>by simpa [Addr.add] using f i u c⟩
 | cons x xs=>
  refine ⟨by simp[Addr.add,g],a,e,z,by simpa [Addr.add] using d,fun i u c=>?_⟩
  have:=f ((x::xs).length+i) u (by rw[List.getElem?_append_right (by omega)];simpa using c)
  simpa [Addr.add,Nat.add_assoc] using this
theorem J8.down {α:Type} {R:Q6→α→List Value→Prop} {B sz:Nat} {e:TypeId} {v:Value} {xs:List α} (h:J8 B e sz R σ' w v xs) (J:SLe σ σ') (A: ∀x cs,R σ' x cs→R σ x cs):J8 B e sz R σ w v xs:=by
 obtain ⟨a,m,rfl,E,z,c,C⟩:=h
 have p: ∀k,σ' k=none→σ k=none:=fun k y=>by
  cases e:σ k with
  | none=>rfl
  | some o=>have:=J.le k o e;rw[y] at this;cases this
 refine ⟨a,m,rfl,E,z,fun b d=>⟨(c b d).1,(c b d).2.1,(c b d).2.2.1,p _ (c b d).2.2.2⟩,fun r=>?_⟩
 obtain ⟨g,j,f,rfl,L,s,u,q,t⟩:=C r
 exact ⟨g,j,f,rfl,L,p _ s,u,q,fun i x H=>A _ _ (t i x H)⟩
end Go.Emb
namespace Go.Proofs.YtjdiakhipmggjaaGreatDoor
open Go.Emb Go.RowKit Go.Kd Go.Hm
variable {w w' w0 w1 : World} {K : Value → World → Prop} {σ σ' σ0 : Q6} {ds : List Value} {room : Int} {cs cs' : List Cel} {l : List Cla} {hp tv : Value} {B b : Nat} {D : Nat → Prop} {V v : Value}
theorem X0Q {ok:X0→Bool} {r i:Int} {v:Val}:H5 ok l (H5 ok l cs r i v).1 r i v=H5 ok l cs r i v:=by
 by_cases k:E2 cs r i=0
 case neg=>
  have e:H5 ok l cs r i v=(cs,E2 cs r i):=by unfold H5;rw[if_pos k]
  rw[e];exact e
 cases g:S8 ok l cs v (Xk l (Wm cs r).kind i.toNat) with
 | false=>
  have e:H5 ok l cs r i v=(cs,91):=by unfold H5;rw[if_neg (fun h=>h k),g];rfl
  rw[e];exact e
 | true=>
  have e:H5 ok l cs r i v=(F3 cs r i v,0):=by unfold H5;rw[if_neg (fun h=>h k),g];rfl
  rw[e]
  obtain ⟨j,m,rfl,rfl,a,y⟩:=Lb k
  have q:M0 cs (j:Int)=true:=D7.2 ⟨j,rfl,a⟩
  have c:F3 cs j m v=cs.set j ⟨cs[j].kind,cs[j].vals.set m v⟩:=by unfold F3;rw[L4 a,Int.toNat_natCast,Int.toNat_natCast]
  have s:(F3 cs j m v).length=cs.length:=by rw[c];simp
  have d:j<(F3 cs j m v).length:=by rw[s];exact a
  have f:Wm (F3 cs j m v) j=⟨cs[j].kind,cs[j].vals.set m v⟩:=by
   rw[L4 d];simp only[c,List.getElem_set_self]
  have p:M0 (F3 cs j m v) (j:Int)=true:=D7.2 ⟨j,rfl,d⟩
  have t:E2 (F3 cs j m v) j m=0:=by
   unfold E2
   rw[p,f]
   simp only[if_true,List.length_set]
   rw[if_pos ⟨by omega,by omega⟩]
  have o:S8 ok l (F3 cs j m v) v (Xk l (Wm (F3 cs j m v) j).kind (m:Int).toNat)=true:=by
   rw[f]
   rw[L4 a] at g
   exact Hx (fun _ _=>Q31 q) g
  have u:F3 (F3 cs j m v) j m v=F3 cs j m v:=by
   unfold F3 at f⊢
   rw[f]
   simp only[Int.toNat_natCast,List.set_set]
   rw[L4 a]
  unfold H5
  rw[if_neg (fun h=>h t),o,u];rfl
theorem RowsIs.down {a:Value} (h:RowsIs B D σ' w a cs) (d:SLe σ σ'):RowsIs B D σ w a cs:=by
 obtain ⟨vs,j,c,g,hD⟩:=h.ex
 exact ⟨vs,j.down d fun _ _ h=>h,⟨c.1,fun i f e=>(c.2 i f e).down d fun _ _ h=>h⟩,g,hD⟩
theorem HeapIs.down (h:HeapIs B D σ' w hp tv room cs) (a:SLe σ σ'):HeapIs B D σ w hp tv room cs:=by
 obtain ⟨b,d,E,rfl,hB,c,f,hE,hD⟩:=h.ex
 refine ⟨b,d,E,rfl,hB,⟨?_,c.2⟩,f.down a,hE,hD⟩
 cases e:σ b with
 | none=>rfl
 | some o=>have:=a.le b o e;rw[c.1] at this;cases this
structure SetT (B : Nat) (D : Nat → Prop) (σ : Q6) (hp tv : Value) (room : Int) (cs' : List Cel) (b : Nat) (ds : List Value) (w w' : World) : Prop where
  kp : Kpt (fun j => j = b ∨ D j) w w'
  var : (b < w.heap.size → w'.heap[b]? = w.heap[b]?) ∨ ∃ e, w'.heap[b]? = some (.cells ds.toArray e (0, 0))
  hp : (∀ j, D j → j < w.heap.size → w'.heap[j]? = w.heap[j]?) ∨ HeapIs B D σ w' hp tv room cs'
structure SetB (B : Nat) (D : Nat → Prop) (hp tv : Value) (room : Int) (cs cs' : List Cel) (w0 : World) (σ0 : Q6) (w1 : World) (σ : Q6) (b n : Nat) (w' : World) : Prop where
  hst : Hst w0 σ0 w' σ
  kp : Kpt (fun j => j = b ∨ D j) w1 w'
  var : ∃ zs, zs.length = n ∧ Y1 σ w' b zs
  hp : HeapIs B D σ w' hp tv room cs ∨ HeapIs B D σ w' hp tv room cs'
theorem SetB.hs {n:Nat} (h:SetB B D hp tv room cs cs' w0 σ0 w1 σ b n w):Hst w0 σ0 w σ:=h.hst
theorem SetT.of_below (h:Below w.heap.size w w'):SetT B D σ hp tv room cs' b ds w w':=⟨.of_below h, .inl fun a=>h.block b a, .inl fun j _ c=>h.block j c⟩
theorem HeapIs.same (h:HeapIs B D σ w hp tv room cs) (k:Kpt (fun j=>j=b∨D j) w w') (d:X2 w' σ) (c: ¬D b) (f: ∀j,D j→j<w.heap.size→w'.heap[j]? =w.heap[j]?):HeapIs B D σ w' hp tv room cs:=
 h.nx (F:=fun j=>j=b) ⟨⟨k.os,k.tape,k.output,k.size,fun j a g=>by
  by_cases e:D j
  ·exact f j e a
  ·exact k.block j a fun h=>h.elim g e⟩,SLe.refl _,fun _ _=>rfl,d⟩ fun j a e=>c (e▸a)
theorem SetB.step {n:Nat} (g:w0.heap.size≤b) (hB:w0.heap.size≤B) (d: ¬D b) (o:ds.length=n) (h:SetB B D hp tv room cs cs' w0 σ0 w1 σ b n w) (k:SetT B D σ hp tv room cs' b ds w w'):SetB B D hp tv room cs cs' w0 σ0 w1 σ b n w':=by
 obtain ⟨i,m,c⟩:=h.var
 have f: ∀j,D j→w0.heap.size≤j∧σ j=none:=fun j hj=>by
  rcases h.hp with h | h
  ·exact ⟨Nat.le_trans hB (h.mem hj).1,(h.mem hj).2.2⟩
  ·exact ⟨Nat.le_trans hB (h.mem hj).1,(h.mem hj).2.2⟩
 have a:Stp w0 σ0 w' σ:=h.hst.stp.kp k.kp fun j hj=>by
  rcases hj with rfl | hj
  ·exact ⟨g,c.1⟩
  ·exact f j hj
 refine ⟨⟨a⟩,h.kp.trans k.kp,?_,?_⟩
 ·rcases k.var with e | e
  ·exact ⟨i,m,c.1,by rw[e c.lt];exact c.2⟩
  ·exact ⟨ds,o,c.1,e⟩
 ·rcases k.hp with e | e
  ·rcases h.hp with h3 | h3
   ·exact .inl (h3.same k.kp a.sat d e)
   ·exact .inr (h3.same k.kp a.sat d e)
  ·exact .inr e
theorem X2V {n:Nat} {A:(World→World→Prop)→(World→Prop)→Prop} (cs':List Cel) (ds:List Value) {c:List Value} (d:Stp w0 σ0 w σ) (e:w0.heap.size≤b) (hB:w0.heap.size≤B) (a: ¬D b) (k:Y1 σ w b c) (j:c.length=n) (g:ds.length=n) (hh:HeapIs B D σ w hp tv room cs)
 (h:A (SetT B D σ hp tv room cs' b ds) (SetB B D hp tv room cs cs' w0 σ0 w σ b n)):dr w A:=
 Im _ _ ⟨⟨d.trans (Stp.of_below d.sat (Below.refl _ _).drew)⟩, .of_below (Below.refl _ _).drew,⟨c,j,k⟩, .inl (hh.up (Stp.of_below d.sat (Below.refl _ _).drew))⟩ (fun _ _ i f=>i.step e hB a g f) h
theorem Q5j (h:V=v):dk (SetT B D σ hp tv room cs' b ds) (fun v _=>V=v) w v w:=⟨.of_below (Below.refl _ _),h⟩
theorem X1Y (a:Below w.heap.size w w') (h:V=v):dk (SetT B D σ hp tv room cs' b ds) (fun v _=>V=v) w v w':=⟨.of_below a,h⟩
theorem X12 {n:Nat} {t:TypeId} {c:Nat} {z:Value} [tz:TZ P t n c z] {a:(List Value→Value→World→Prop)→Prop} {φ:Value→World→Prop} (o:ds.length=n) (y: ∀u∈ds,u.oneCell'=true) (A: ∀v w,φ v w→ .agg ds.toArray=v)
 (p:a (fun _ _ w=>Y1 σ w b ds)) (i:σ b=none) (d: ¬D b):Rt (SetT B D σ hp tv room cs' b ds) (fun G=> ∀x w,SetB B D hp tv room cs cs' w0 σ0 w1 σ b n w→φ x w→Y0 P t (.pointer (some ⟨b,0,none⟩)) x w (dk (SetT B D σ hp tv room cs' b ds) (G [x]) w)) a:=by
 refine Q46 _ (fun xs v w w' h k=>?_) (fun x w q E=>?_) p
 ·rcases k.var with e | e
  ·exact ⟨i,by rw[e h.lt];exact h.2⟩
  ·exact ⟨i,e⟩
 ·have:=A x w E
  subst this
  obtain ⟨H,r,s⟩:=q.var
  exact Mj s r o (by rw[List.all_toArray];exact List.all_eq_true.2 y) fun w' g f=>⟨⟨.of_upd g (.inl rfl), .inr f.2, .inl fun j m C=>g.block j fun e=>d (e▸m)⟩,f⟩
theorem X1M {n:Nat} {x:Val} {r i:Int} {a:(Value→World→Prop)→Prop} {J O M:Value→World→Prop} (R:Glb σ) (Q:Tab σ tv l) (ok:Ok l) (y: ∀c∈cs,GoodC W5 l cs c) (m: ∀c∈(H5 W5 l cs r i x).1,GoodC W5 l (H5 W5 l cs r i x).1 c) (L:M5 σ x [I x.sort,I x.n,S x.s,I x.ref]) (z: ¬D b) (hσ:σ b=none)
 (h1: ∀v w,J v w→I r=v) (h2: ∀v w,O v w→I i=v) (h3: ∀v w,M v w→Value.agg [I x.sort,I x.n,S x.s,I x.ref].toArray=v)
 (U:a (fun v w=>I (H5 W5 l cs r i x).2=v∧X2 w σ∧HeapIs B D σ w hp tv room (H5 W5 l cs r i x).1)):
 Q5 (SetT B D σ hp tv room (H5 W5 l cs r i x).1 b ds) (fun G=> ∀E H C w,SetB B D hp tv room cs (H5 W5 l cs r i x).1 w0 σ0 w1 σ b n w→J E w→O H w→M C w→Q1 P F.b3 [hp,E,H,C] w (dk (SetT B D σ hp tv room (H5 W5 l cs r i x).1 b ds) G w)) a:=by
 refine E5 _ (fun v w w' h k=>?_) (fun E H C w A X e2 e3=>?_) U
 ·obtain ⟨e,Z,h4⟩:=h
  have g:X2 w' σ:=Kpt.sat Z k.kp fun j p=>p.elim (fun e=>e▸hσ) fun p=>(h4.mem p).2.2
  rcases k.hp with e2 | e2
  ·exact ⟨e,g,h4.same k.kp g z e2⟩
  ·exact ⟨e,g,e2⟩
 ·have:=h1 _ _ X
  have:=h2 _ _ e2
  have:=h3 _ _ e3
  subst_vars
  have u: ∀{d t},Nxt D w σ d t→HeapIs B D t d hp tv room (H5 W5 l cs r i x).1→SetT B D σ hp tv room (H5 W5 l cs r i x).1 b ds w d∧I (H5 W5 l cs r i x).2=I (H5 W5 l cs r i x).2∧X2 d σ∧HeapIs B D σ d hp tv room (H5 W5 l cs r i x).1:=fun {d t} N h4=>by
   have f:=h4.down N.le
   have q:b<w.heap.size:=by obtain ⟨zs,_,W⟩:=A.var;exact W.lt
   exact ⟨⟨N.kp.mono fun _ _ p=> .inr p, .inl fun _=>N.kp.block b q z, .inr f⟩,rfl,fun k o e=>N.sat k o (N.le.le k o e),f⟩
  rcases A.hp with h4 | h4
  ·exact X1e A.hst.sat R h4 Q ok y L fun d t N f=>u N f
  ·have Y:=X0Q (ok:=W5) (l:=l) (cs:=cs) (r:=r) (i:=i) (v:=x)
   refine X1e A.hst.sat R h4 Q ok m L fun d t N f=>?_
   rw[Y] at f⊢
   exact u N f
end Go.Proofs.YtjdiakhipmggjaaGreatDoor

namespace Go.Proofs.YtjdiakhipmggjaaGreatDoor
open Go.Emb Go.RowKit Go.Kd Go.Hm
variable {w w' : World} {K : Value → World → Prop} {σ σ' : Q6} {ds : List Value} {room : Int} {cs : List Cel} {l : List Cla} {hp tv : Value}
theorem Vl {B d:Nat} {D i:Nat→Prop} {m c:World} {b:Q6} {h g:List Cel} {a:List Value} {G:Bool→Prop} {f:Bool} (hG:G f) (N:Nxt D w σ m b) (s:HeapIs B i b m hp tv room h) (o: ∀j,i j→D j∨w.heap.size≤j) (p: ¬i d) (v:w.heap.size≤d)
 (A:Kpt (fun j=>j=d) m c) (q:X2 c b) (u:Y1 b c d a) (n:a.length=3) (t:D1 b (Q4 l,room,g) a)
 (hh: ∀a f w' σ' D',G f→Nxt D w σ w' σ'→HeapIs B D' σ' w' hp tv room h→(∀j,D' j→D j∨w.heap.size≤j)→D1 σ' (Q4 l,room,g) a→K (.tuple #[.agg a.toArray, .bool f]) w'):
 Y7 P T.a (.pointer (some ⟨d,0,none⟩)) c fun y=>K (.tuple #[y, .bool f]) c:=by
 refine V2 u n ?_
 have r:Nxt (fun j=>j=d) m b c b:=⟨A,SLe.refl _,fun _ _=>rfl,q⟩
 exact hh a f c b i hG (N.chain r fun j C e=>by omega) (s.nx r fun k z e=>p (e▸z)) o t
set_option maxHeartbeats 2000000 in
theorem X4i {B:Nat} {D:Nat→Prop} {x:ActH} {xs:List Value} {cr:List Cel} (hs:X2 w σ) (hg:Glb σ) (hB:B≤w.heap.size) (h:HeapIs B D σ w hp tv room cs) (hr:D1 σ (Q4 l,room,cr) ds) (ht:Tab σ tv (Q4 l)) (wf:Wf l) (ok:Ok (Q4 l)) (hlen:(Q4 l).length≤1000)
 (good:GoodH W5 (Q4 l) room cs) (goodr:GoodH W5 (Q4 l) room cr) (h1:room≤1048576) (hx:Bx σ x xs) (hD0: ∀k,D k→B≤k)
 (hh: ∀ds' bb w' σ' D',(cr=cs→bb=true)→Nxt D w σ w' σ'→HeapIs B D' σ' w' hp tv room (B5 W5 (Q4 l) room cs x)→(∀j,D' j→D j∨w.heap.size≤j)→D1 σ' (Q4 l,room,B5 W5 (Q4 l) room cr x) ds'→K (.tuple #[.agg ds'.toArray, .bool bb]) w'):Q1 P F.aj [hp, .agg ds.toArray, .agg xs.toArray] w K:=Q1U (by
 have hx0:=hx
 have hr0:=hr
 obtain ⟨lv,cv,rfl,hl,hc⟩:=D1.out hr
 obtain ⟨rfl,⟨b1,b2,b3,b4⟩,hv⟩:=hx
 have hcl:=Qf cs
 have hlf:=good.left
 unfold W6 at hlf
 have hclr:=Qf cr
 have hlr:=goodr.left
 unfold W6 at hlr
 unfold Ho
 refine Y9 hs fun q4 w1 σ1 hk1 hq4=>?_
 refine Y9 hk1.sat fun q5 w2 σ2 hk2 hq5=>?_
 have hS2:=hk1.trans hk2
 refine M8 hk2.sat fun b6 w3 σ3 hb6 hk3 hm6=>?_
 have hS3:=hS2.trans hk3
 have hB6:=M9 hb6 hS2
 have hq43:=(hq4.up hk2).up hk3
 have hq53:=hq5.up hk3
 have h3:=h.up hS3
 have hr3:=W7 hr0 ⟨hS3.le⟩
 have ht3:=ht.lift ⟨hS3.le⟩
 have hg3:=hg.lift ⟨hS3.le⟩
 refine W4 ?_
 refine ld (i:=0) hk3.sat hq53 rfl ?_
 refine P3 ?_
 have hDl: ∀k,D k→k<w.heap.size:=fun k hk=>(h.mem hk).2.1
 have htk:Z6 cs≤1048576:=by omega
 have htr:Z6 cr≤1048576:=by omega
 by_cases e0:x.kind=0
 ·rw[decide_eq_true e0]
  have ea:B5 W5 (Q4 l) room cs x=(Zt (Q4 l) room cs x.s).1:=by unfold B5;rw[if_pos e0]
  have er:B5 W5 (Q4 l) room cr x=(Zt (Q4 l) room cr x.s).1:=by unfold B5;rw[if_pos e0]
  rw[ea,er] at hh
  refine J4 ?_
  refine Y4 hk3.sat hq43 rfl ?_
  refine W4 ?_
  refine ld (i:=1) hk3.sat hq53 rfl ?_
  refine X19 hk3.sat hr3 ok hlen b2 goodr.left h1 fun ds' w4 σ4 hk4 hr4=>?_
  refine J6 (vs:=[_,_]) rfl ?_
  refine J6 (vs:=[_,_]) rfl ?_
  have hS4:=hS3.trans hk4
  refine M8 hk4.sat fun b8 w5 σ5 hb8 hk5 hm8=>?_
  have hS5:=hS4.trans hk5
  have hB8:=M9 hb8 hS4
  have hr5:=W7 hr4 ⟨hk5.le⟩
  obtain ⟨lv',cv',hde,_,_⟩:=D1.out hr4
  subst hde
  refine Mj (ds:=[lv',I room,cv']) hm8 rfl rfl (by rw[List.all_toArray];exact List.all_eq_true.2 (Rep.one hr5)) fun w6 u6 hm86=>?_
  obtain ⟨σ7,hS7,hq8,l57,o7⟩:=Q3R (x:=(Q4 l,room,(Zt (Q4 l) room cr x.s).1)) hS5 hB8 hm8 u6 hm86
  have l37:SLe σ3 σ7:=(SLe.more ⟨hk4.le⟩ ⟨hk5.le⟩).more l57
  have hb68:b6≠b8:=by have:=(hm6.up hk4).lt;omega
  have hm66:=((hm6.up hk4).up hk5).upd u6 hb68
  have hm67:Y1 σ7 w6 b6 _:=⟨(o7 b6 hb68).trans hm66.1,hm66.2⟩
  have hq57:=hq53.lift l37
  have hq47:=hq43.lift l37
  refine W4 ?_
  refine ld (i:=1) hS7.sat hq57 rfl ?_
  refine Q6u hS7.sat (Nat.le_trans hB hS7.bel.size) (h.up hS7) (ht.lift ⟨hS7.le⟩) ok b2 good.left h1 fun w8 σ8 D8 N8 h8 hD8=>?_
  refine J6 (vs:=[_,_]) rfl ?_
  refine J6 (vs:=[_,_]) rfl ?_
  have N:=(Nxt.of_stp (D:=D) hS7).chain N8 fun k _ e=>e
  have hm68:=hm67.nx N8 fun e=>by have:=hDl _ e;omega
  have hne8: ¬D8 b6:=fun e=>by
   have:=hm67.lt
   rcases hD8 _ e with e | e
   ·have:=hDl _ e;omega
   ·omega
  have hD8': ∀j,D8 j→D j∨w.heap.size≤j:=fun j hj=>(hD8 j hj).imp id fun e=>Nat.le_trans hS7.bel.size e
  have hq48:=hq47.lift N8.le
  have hq88:=hq8.lift N8.le
  have hc8:Sl 2 S2 σ8 cv cr:=hc.lift N.le
  have hr8:=W7 hr5 (l57.more N8.le)
  have hsame:cr=cs→(Zt (Q4 l) room cr x.s).2=(Zt (Q4 l) room cs x.s).2:=fun h=>by rw[h]
  generalize (Zt (Q4 l) room cs x.s).2=e at*
  generalize (Zt (Q4 l) room cr x.s).2=f at*
  refine Q5P (w0:=Tb w8) (σ0:=fun _=>none) (n:=3) [lv',I room,cv'] (Yo N8.sat) (Nat.zero_le _) hm68 rfl rfl ?_
  unfold atM
  by_cases hfe:f=e
  case neg=>
   have hz0:decide (f=e)=false:=decide_eq_false hfe
   (repeat (apply J7;(· intros;(have hzz:=VarB.hs (by assumption));(repeat (rename_i hx;subst hx));(try simp only[hz0,decide_true,Bool.not_true,Bool.not_false,Bool.false_eq_true,Bool.true_eq_false,reduceIte,↓M2,M2,Mb,reduceIte]);(repeat' (first | (with_reducible exact G0 rfl) | (with_reducible exact Zi (Stp.bel (by (repeat (first | exact Stp.refl (by (first | assumption | exact Stp.sat (by assumption) | exact Hst.sat (by assumption))) | assumption | refine Stp.trans ?_ (by first | assumption | exact Hst.stp (by assumption)))))) rfl) | (with_reducible intro _) | (simp only[↓M2,M2,Mb,reduceIte]) | (with_reducible show Q2 _ _ _ _ _;first | refine X7 aS aL aR ?_ | refine Y4 aS aL aR ?_ | refine ld aS aL aR ?_) | (with_reducible show indexAddr _ _ _ _ _ _;refine Y3 aL au ?_) | (with_reducible show X3 _ _ _ _ _ _ _ _;refine Q8 aL ?_) | (with_reducible show F4 _ _ _ _ _ _;refine J0 aR ?_) | (with_reducible show pick _ _ _ _ _ _;refine L8 ?_) | (apply Vw;intro hh;(try simp only[hh,reduceIte,↓M2,M2,Mb,reduceIte]))));done)))
   refine Ui (φ:=fun v _=>Value.agg [lv',I room,cv'].toArray=v) rfl (Rep.one hr5) (fun v w h=>h) ?_ hm68.1
   intros
   rename_i hm9
   (repeat (rename_i hx;subst hx))
   rename_i w9 hb9
   exact Vl (G:=fun b=>cr=cs→b=true) (fun h=>absurd (hsame h) hfe) N h8 hD8' hne8 hB6 hb9.kp hb9.hst.sat hm9 rfl hr8 hh
  subst hfe
  by_cases e1:f=0
  ·subst e1
   simp only[reduceIte]
   have hz0:decide True=true:=decide_true _
   (repeat (apply J7;(· intros;(have hzz:=VarB.hs (by assumption));(repeat (rename_i hx;subst hx));(try simp only[hz0,decide_true,Bool.not_true,Bool.not_false,Bool.false_eq_true,Bool.true_eq_false,reduceIte,↓M2,M2,Mb,reduceIte]);(repeat' (first | (with_reducible exact G0 rfl) | (with_reducible exact Zi (Stp.bel (by (repeat (first | exact Stp.refl (by (first | assumption | exact Stp.sat (by assumption) | exact Hst.sat (by assumption))) | assumption | refine Stp.trans ?_ (by first | assumption | exact Hst.stp (by assumption)))))) rfl) | (with_reducible intro _) | (simp only[↓M2,M2,Mb,reduceIte]) | (with_reducible show Q2 _ _ _ _ _;first | refine X7 aS aL aR ?_ | refine Y4 aS aL aR ?_ | refine ld aS aL aR ?_) | (with_reducible show indexAddr _ _ _ _ _ _;refine Y3 aL au ?_) | (with_reducible show X3 _ _ _ _ _ _ _ _;refine Q8 aL ?_) | (with_reducible show F4 _ _ _ _ _ _;refine J0 aR ?_) | (with_reducible show pick _ _ _ _ _ _;refine L8 ?_) | (apply Vw;intro hh;(try simp only[hh,reduceIte,↓M2,M2,Mb,reduceIte]))));done)))
   refine Ui (φ:=fun v _=>Value.agg [lv',I room,cv'].toArray=v) rfl (Rep.one hr5) (fun v w h=>h) ?_ hm68.1
   intros
   rename_i hm9
   (repeat (rename_i hx;subst hx))
   rename_i w9 hb9
   exact Vl (G:=fun b=>cr=cs→b=true) (fun h=>by rw[h];exact decide_eq_true rfl) N h8 hD8' hne8 hB6 hb9.kp hb9.hst.sat hm9 rfl hr8 hh
  ·simp only[if_neg e1]
   have hz0:decide (f=0)=false:=decide_eq_false e1
   (repeat (apply J7;(· intros;(have hzz:=VarB.hs (by assumption));(repeat (rename_i hx;subst hx));(try simp only[hz0,decide_true,Bool.not_true,Bool.not_false,Bool.false_eq_true,Bool.true_eq_false,reduceIte,↓M2,M2,Mb,reduceIte]);(repeat' (first | (with_reducible exact G0 rfl) | (with_reducible exact Zi (Stp.bel (by (repeat (first | exact Stp.refl (by (first | assumption | exact Stp.sat (by assumption) | exact Hst.sat (by assumption))) | assumption | refine Stp.trans ?_ (by first | assumption | exact Hst.stp (by assumption)))))) rfl) | (with_reducible intro _) | (simp only[↓M2,M2,Mb,reduceIte]) | (with_reducible show Q2 _ _ _ _ _;first | refine X7 aS aL aR ?_ | refine Y4 aS aL aR ?_ | refine ld aS aL aR ?_) | (with_reducible show indexAddr _ _ _ _ _ _;refine Y3 aL au ?_) | (with_reducible show X3 _ _ _ _ _ _ _ _;refine Q8 aL ?_) | (with_reducible show F4 _ _ _ _ _ _;refine J0 aR ?_) | (with_reducible show pick _ _ _ _ _ _;refine L8 ?_) | (apply Vw;intro hh;(try simp only[hh,reduceIte,↓M2,M2,Mb,reduceIte]))));done)))
   refine Ui (φ:=fun v _=>Value.agg [lv',I room,cv'].toArray=v) rfl (Rep.one hr5) (fun v w h=>h) ?_ hm68.1
   intros
   rename_i hm9
   (repeat (rename_i hx;subst hx))
   rename_i w9 hb9
   exact Vl (G:=fun b=>cr=cs→b=true) (fun _=>rfl) N h8 hD8' hne8 hB6 hb9.kp hb9.hst.sat hm9 rfl hr8 hh
 rw[decide_eq_false e0]
 refine Z9 ?_
 refine P3 ?_
 by_cases e1k:x.kind=1
 ·rw[decide_eq_true e1k]
  have ea:B5 W5 (Q4 l) room cs x=(Zp (Q4 l) room cs x.s x.n).1:=by unfold B5;rw[if_neg e0,if_pos e1k]
  have er:B5 W5 (Q4 l) room cr x=(Zp (Q4 l) room cr x.s x.n).1:=by unfold B5;rw[if_neg e0,if_pos e1k]
  rw[ea,er] at hh
  refine J4 ?_
  refine Y4 hk3.sat hq43 rfl ?_
  refine W4 ?_
  refine ld (i:=1) hk3.sat hq53 rfl ?_
  refine W4 ?_
  refine ld (i:=2) hk3.sat hq53 rfl ?_
  refine X2e hk3.sat hr3 b2 goodr.left h1 fun ds' w4 σ4 hk4 hr4=>?_
  refine J6 (vs:=[_,_]) rfl ?_
  refine J6 (vs:=[_,_]) rfl ?_
  have hS4:=hS3.trans hk4
  refine M8 hk4.sat fun b8 w5 σ5 hb8 hk5 hm8=>?_
  have hS5:=hS4.trans hk5
  have hB8:=M9 hb8 hS4
  have hr5:=W7 hr4 ⟨hk5.le⟩
  obtain ⟨lv',cv',hde,_,_⟩:=D1.out hr4
  subst hde
  refine Mj (ds:=[lv',I room,cv']) hm8 rfl rfl (by rw[List.all_toArray];exact List.all_eq_true.2 (Rep.one hr5)) fun w6 u6 hm86=>?_
  obtain ⟨σ7,hS7,hq8,l57,o7⟩:=Q3R (x:=(Q4 l,room,(Zp (Q4 l) room cr x.s x.n).1)) hS5 hB8 hm8 u6 hm86
  have l37:SLe σ3 σ7:=(SLe.more ⟨hk4.le⟩ ⟨hk5.le⟩).more l57
  have hb68:b6≠b8:=by have:=(hm6.up hk4).lt;omega
  have hm66:=((hm6.up hk4).up hk5).upd u6 hb68
  have hm67:Y1 σ7 w6 b6 _:=⟨(o7 b6 hb68).trans hm66.1,hm66.2⟩
  have hq57:=hq53.lift l37
  have hq47:=hq43.lift l37
  refine W4 ?_
  refine ld (i:=1) hS7.sat hq57 rfl ?_
  refine W4 ?_
  refine ld (i:=2) hS7.sat hq57 rfl ?_
  refine Q7A hS7.sat (Nat.le_trans hB hS7.bel.size) (h.up hS7) (ht.lift ⟨hS7.le⟩) b2 good.left h1 fun w8 σ8 D8 N8 h8 hD8=>?_
  refine J6 (vs:=[_,_]) rfl ?_
  refine J6 (vs:=[_,_]) rfl ?_
  have N:=(Nxt.of_stp (D:=D) hS7).chain N8 fun k _ e=>e
  have hm68:=hm67.nx N8 fun e=>by have:=hDl _ e;omega
  have hne8: ¬D8 b6:=fun e=>by
   have:=hm67.lt
   rcases hD8 _ e with e | e
   ·have:=hDl _ e;omega
   ·omega
  have hD8': ∀j,D8 j→D j∨w.heap.size≤j:=fun j hj=>(hD8 j hj).imp id fun e=>Nat.le_trans hS7.bel.size e
  have hq48:=hq47.lift N8.le
  have hq88:=hq8.lift N8.le
  have hc8:Sl 2 S2 σ8 cv cr:=hc.lift N.le
  have hr8:=W7 hr5 (l57.more N8.le)
  have hsame:cr=cs→(Zp (Q4 l) room cr x.s x.n).2=(Zp (Q4 l) room cs x.s x.n).2:=fun h=>by rw[h]
  generalize (Zp (Q4 l) room cs x.s x.n).2=e at*
  generalize (Zp (Q4 l) room cr x.s x.n).2=f at*
  refine Q5P (w0:=Tb w8) (σ0:=fun _=>none) (n:=3) [lv',I room,cv'] (Yo N8.sat) (Nat.zero_le _) hm68 rfl rfl ?_
  unfold atM
  by_cases hfe:f=e
  case neg=>
   have hz0:decide (f=e)=false:=decide_eq_false hfe
   (repeat (apply J7;(· intros;(have hzz:=VarB.hs (by assumption));(repeat (rename_i hx;subst hx));(try simp only[hz0,decide_true,Bool.not_true,Bool.not_false,Bool.false_eq_true,Bool.true_eq_false,reduceIte,↓M2,M2,Mb,reduceIte]);(repeat' (first | (with_reducible exact G0 rfl) | (with_reducible exact Zi (Stp.bel (by (repeat (first | exact Stp.refl (by (first | assumption | exact Stp.sat (by assumption) | exact Hst.sat (by assumption))) | assumption | refine Stp.trans ?_ (by first | assumption | exact Hst.stp (by assumption)))))) rfl) | (with_reducible intro _) | (simp only[↓M2,M2,Mb,reduceIte]) | (with_reducible show Q2 _ _ _ _ _;first | refine X7 aS aL aR ?_ | refine Y4 aS aL aR ?_ | refine ld aS aL aR ?_) | (with_reducible show indexAddr _ _ _ _ _ _;refine Y3 aL au ?_) | (with_reducible show X3 _ _ _ _ _ _ _ _;refine Q8 aL ?_) | (with_reducible show F4 _ _ _ _ _ _;refine J0 aR ?_) | (with_reducible show pick _ _ _ _ _ _;refine L8 ?_) | (apply Vw;intro hh;(try simp only[hh,reduceIte,↓M2,M2,Mb,reduceIte]))));done)))
   refine Ui (φ:=fun v _=>Value.agg [lv',I room,cv'].toArray=v) rfl (Rep.one hr5) (fun v w h=>h) ?_ hm68.1
   intros
   rename_i hm9
   (repeat (rename_i hx;subst hx))
   rename_i w9 hb9
   exact Vl (G:=fun b=>cr=cs→b=true) (fun h=>absurd (hsame h) hfe) N h8 hD8' hne8 hB6 hb9.kp hb9.hst.sat hm9 rfl hr8 hh
  subst hfe
  by_cases e1:f=0
  ·subst e1
   simp only[reduceIte]
   have hz0:decide True=true:=decide_true _
   (repeat (apply J7;(· intros;(have hzz:=VarB.hs (by assumption));(repeat (rename_i hx;subst hx));(try simp only[hz0,decide_true,Bool.not_true,Bool.not_false,Bool.false_eq_true,Bool.true_eq_false,reduceIte,↓M2,M2,Mb,reduceIte]);(repeat' (first | (with_reducible exact G0 rfl) | (with_reducible exact Zi (Stp.bel (by (repeat (first | exact Stp.refl (by (first | assumption | exact Stp.sat (by assumption) | exact Hst.sat (by assumption))) | assumption | refine Stp.trans ?_ (by first | assumption | exact Hst.stp (by assumption)))))) rfl) | (with_reducible intro _) | (simp only[↓M2,M2,Mb,reduceIte]) | (with_reducible show Q2 _ _ _ _ _;first | refine X7 aS aL aR ?_ | refine Y4 aS aL aR ?_ | refine ld aS aL aR ?_) | (with_reducible show indexAddr _ _ _ _ _ _;refine Y3 aL au ?_) | (with_reducible show X3 _ _ _ _ _ _ _ _;refine Q8 aL ?_) | (with_reducible show F4 _ _ _ _ _ _;refine J0 aR ?_) | (with_reducible show pick _ _ _ _ _ _;refine L8 ?_) | (apply Vw;intro hh;(try simp only[hh,reduceIte,↓M2,M2,Mb,reduceIte]))));done)))
   refine Ui (φ:=fun v _=>Value.agg [lv',I room,cv'].toArray=v) rfl (Rep.one hr5) (fun v w h=>h) ?_ hm68.1
   intros
   rename_i hm9
   (repeat (rename_i hx;subst hx))
   rename_i w9 hb9
   exact Vl (G:=fun b=>cr=cs→b=true) (fun h=>by rw[h];exact decide_eq_true rfl) N h8 hD8' hne8 hB6 hb9.kp hb9.hst.sat hm9 rfl hr8 hh
  ·simp only[if_neg e1]
   have hz0:decide (f=0)=false:=decide_eq_false e1
   (repeat (apply J7;(· intros;(have hzz:=VarB.hs (by assumption));(repeat (rename_i hx;subst hx));(try simp only[hz0,decide_true,Bool.not_true,Bool.not_false,Bool.false_eq_true,Bool.true_eq_false,reduceIte,↓M2,M2,Mb,reduceIte]);(repeat' (first | (with_reducible exact G0 rfl) | (with_reducible exact Zi (Stp.bel (by (repeat (first | exact Stp.refl (by (first | assumption | exact Stp.sat (by assumption) | exact Hst.sat (by assumption))) | assumption | refine Stp.trans ?_ (by first | assumption | exact Hst.stp (by assumption)))))) rfl) | (with_reducible intro _) | (simp only[↓M2,M2,Mb,reduceIte]) | (with_reducible show Q2 _ _ _ _ _;first | refine X7 aS aL aR ?_ | refine Y4 aS aL aR ?_ | refine ld aS aL aR ?_) | (with_reducible show indexAddr _ _ _ _ _ _;refine Y3 aL au ?_) | (with_reducible show X3 _ _ _ _ _ _ _ _;refine Q8 aL ?_) | (with_reducible show F4 _ _ _ _ _ _;refine J0 aR ?_) | (with_reducible show pick _ _ _ _ _ _;refine L8 ?_) | (apply Vw;intro hh;(try simp only[hh,reduceIte,↓M2,M2,Mb,reduceIte]))));done)))
   refine Ui (φ:=fun v _=>Value.agg [lv',I room,cv'].toArray=v) rfl (Rep.one hr5) (fun v w h=>h) ?_ hm68.1
   intros
   rename_i hm9
   (repeat (rename_i hx;subst hx))
   rename_i w9 hb9
   exact Vl (G:=fun b=>cr=cs→b=true) (fun _=>rfl) N h8 hD8' hne8 hB6 hb9.kp hb9.hst.sat hm9 rfl hr8 hh
 rw[decide_eq_false e1k]
 refine Z9 ?_
 refine P3 ?_
 have hv43:Z4 σ3 (q5.add 4) [I x.v.sort,I x.v.n,S x.v.s,I x.v.ref]:=hq53.tail (xs:=[_,_,_,_])
 have hvr:M5 σ x.v [I x.v.sort,I x.v.n,S x.v.s,I x.v.ref]:=⟨rfl,hv⟩
 by_cases e2k:x.kind=2
 ·rw[decide_eq_true e2k]
  have ea:B5 W5 (Q4 l) room cs x=(H5 W5 (Q4 l) cs x.ref x.n x.v).1:=by unfold B5;rw[if_neg e0,if_neg e1k,if_pos e2k]
  have er:B5 W5 (Q4 l) room cr x=(H5 W5 (Q4 l) cr x.ref x.n x.v).1:=by unfold B5;rw[if_neg e0,if_neg e1k,if_pos e2k]
  rw[ea,er] at hh
  have good':=(GoodH.set good x.ref x.n x.v).cells
  refine J4 ?_
  refine Y4 hk3.sat hq43 rfl ?_
  refine W4 ?_
  refine ld (i:=3) hk3.sat hq53 rfl ?_
  refine W4 ?_
  refine ld (i:=2) hk3.sat hq53 rfl ?_
  refine W4 ?_
  refine Y4 hk3.sat hv43 rfl ?_
  refine X42 hk3.sat hr3 wf ok hlen goodr.cells htr ⟨rfl,hv⟩ fun ds' w4 σ4 hk4 hr4=>?_
  refine J6 (vs:=[_,_]) rfl ?_
  refine J6 (vs:=[_,_]) rfl ?_
  have hS4:=hS3.trans hk4
  refine M8 hk4.sat fun b8 w5 σ5 hb8 hk5 hm8=>?_
  have hS5:=hS4.trans hk5
  have hB8:=M9 hb8 hS4
  have hr5:=W7 hr4 ⟨hk5.le⟩
  obtain ⟨lv',cv',hde,_,_⟩:=D1.out hr4
  subst hde
  refine Mj (ds:=[lv',I room,cv']) hm8 rfl rfl (by rw[List.all_toArray];exact List.all_eq_true.2 (Rep.one hr5)) fun w6 u6 hm86=>?_
  obtain ⟨σ7,hS7,hq8,l57,o7⟩:=Q3R (x:=(Q4 l,room,(H5 W5 (Q4 l) cr x.ref x.n x.v).1)) hS5 hB8 hm8 u6 hm86
  have l37:SLe σ3 σ7:=(SLe.more ⟨hk4.le⟩ ⟨hk5.le⟩).more l57
  have hb68:b6≠b8:=by have:=(hm6.up hk4).lt;omega
  have hm66:=((hm6.up hk4).up hk5).upd u6 hb68
  have hm67:Y1 σ7 w6 b6 _:=⟨(o7 b6 hb68).trans hm66.1,hm66.2⟩
  have hq57:=hq53.lift l37
  have hv47:=hv43.lift l37
  have hr7:=W7 hr5 l57
  have hbD: ¬D b6:=fun e=>by have:=hDl _ e;omega
  refine X2V (w0:=Tb w6) (σ0:=fun _=>none) (n:=3) (H5 W5 (Q4 l) cs x.ref x.n x.v).1 [lv',I room,cv'] (Yo hS7.sat) (Nat.zero_le _) (Nat.zero_le _) hbD hm67 rfl rfl (h.up hS7) ?_
  (repeat (apply J7;(· intros;(have hzz:=SetB.hs (by assumption));(repeat (rename_i hx;subst hx));(repeat' (first | (with_reducible exact Q5j rfl) | (with_reducible exact X1Y (Stp.bel (by (repeat (first | exact Stp.refl (by (first | assumption | exact Stp.sat (by assumption) | exact Hst.sat (by assumption))) | assumption | refine Stp.trans ?_ (by first | assumption | exact Hst.stp (by assumption)))))) rfl) | (with_reducible intro _) | (simp only[↓M2,M2,Mb,reduceIte]) | (with_reducible show Q2 _ _ _ _ _;first | refine X7 aS aL aR ?_ | refine Y4 aS aL aR ?_ | refine ld aS aL aR ?_) | (with_reducible show indexAddr _ _ _ _ _ _;refine Y3 aL au ?_) | (with_reducible show X3 _ _ _ _ _ _ _ _;refine Q8 aL ?_) | (with_reducible show F4 _ _ _ _ _ _;refine J0 aR ?_) | (with_reducible show pick _ _ _ _ _ _;refine L8 ?_)));done)))
  refine X1M (hg.lift ⟨hS7.le⟩) (ht.lift ⟨hS7.le⟩) ok good.cells good' ⟨rfl,hv⟩ hbD hm67.1 (fun _ _ h=>h) (fun _ _ h=>h) (fun _ _ h=>h) ?_
  refine J7 (V:= .bool (decide ((H5 W5 (Q4 l) cs x.ref x.n x.v).2=(H5 W5 (Q4 l) cr x.ref x.n x.v).2))) (fun t w hb ht=>?_) ?_
  ·obtain ⟨rfl,_,_⟩:=ht
   refine P3 ?_
   exact Q5j rfl
  refine X12 (φ:=fun v _=>Value.agg [lv',I room,cv'].toArray=v) rfl (Rep.one hr5) (fun v w h=>h) ?_ hm67.1 hbD
  intros
  rename_i hm9
  (repeat (rename_i hx;subst hx))
  rename_i hset
  (repeat (rename_i hx;subst hx))
  rename_i w9 hb9
  obtain ⟨_,hs9,h9⟩:=hset
  refine V2 hm9 rfl ?_
  have Nb:Nxt (fun j=>j=b6∨D j) w6 σ7 w9 σ7:=⟨hb9.kp,SLe.refl _,fun _ _=>rfl,hs9⟩
  exact hh _ _ w9 σ7 D (fun h=>by rw[h];exact decide_eq_true rfl) ((Nxt.of_stp (D:=D) hS7).chain Nb fun j hj e=>e.elim (fun e=>by omega) id) h9 (fun j hj=> .inl hj) hr7
 rw[decide_eq_false e2k]
 refine Z9 ?_
 refine P3 ?_
 by_cases e3k:x.kind=3
 ·rw[decide_eq_true e3k]
  have ea:B5 W5 (Q4 l) room cs x=cs:=by unfold B5;rw[if_neg e0,if_neg e1k,if_neg e2k,if_neg (by omega)]
  have er:B5 W5 (Q4 l) room cr x=cr:=by unfold B5;rw[if_neg e0,if_neg e1k,if_neg e2k,if_neg (by omega)]
  rw[ea,er] at hh
  refine J4 ?_
  refine Y4 hk3.sat hq43 rfl ?_
  refine W4 ?_
  refine ld (i:=3) hk3.sat hq53 rfl ?_
  refine W4 ?_
  refine ld (i:=2) hk3.sat hq53 rfl ?_
  refine X3X hk3.sat hr3 fun w4 σ4 hk4=>?_
  refine J6 (vs:=[_,_]) rfl ?_
  refine J6 (vs:=[_,_]) rfl ?_
  refine Y8 (sz:=4) hk4.sat aR aR Sy fun q8 w5 σ5 hk5 hq8=>?_
  have hk35:=hk4.trans hk5
  have hS5:=hS3.trans hk35
  have h5:=h.up hS5
  have hq55:=hq53.lift ⟨hk35.le⟩
  refine W4 ?_
  refine ld (i:=3) hk35.sat hq55 rfl ?_
  refine W4 ?_
  refine ld (i:=2) hk35.sat hq55 rfl ?_
  obtain ⟨σf,sf,lef,hsl,of⟩:=h5.freeze hk35.sat
  refine X3n sf hsl fun w6 σ6 hk6=>?_
  refine J6 (vs:=[_,_]) rfl ?_
  refine J6 (vs:=[_,_]) rfl ?_
  refine Y8 (sz:=4) hk6.sat aR aR Sy fun q9 w7 σ7 hk7 hq9=>?_
  have hk57:=hk6.trans hk7
  have hS57:=hk57.weak lef.le
  have hS7:=hS5.trans hS57
  have l57:SLe σ5 σ7:=lef.more ⟨hk57.le⟩
  have hbD: ¬D b6:=fun e=>by have:=hDl _ e;omega
  have hm65:=hm6.up hk35
  have hm6f:Y1 σf w5 b6 _:=⟨(of b6 hbD).trans hm65.1,hm65.2⟩
  have hm67:=hm6f.up hk57
  have hq47:=(hq43.lift ⟨hk35.le⟩).lift l57
  have hq87:=hq8.lift l57
  refine Q5P (w0:=Tb w7) (σ0:=fun _=>none) (n:=3) [lv,I room,cv] (Yo hk57.sat) (Nat.zero_le _) hm67 rfl rfl ?_
  have n5:σ5 b6=none:=hm65.1
  have hq97:=hq9
  by_cases hge:Hj cr x.ref x.n=Hj cs x.ref x.n
  ·have hz0:decide True=true:=decide_true _
   (repeat (apply J7;(· intros;(have hzz:=VarB.hs (by assumption));(repeat (rename_i hx;subst hx));(try simp only[hz0,decide_true,Bool.not_true,Bool.not_false,Bool.false_eq_true,Bool.true_eq_false,reduceIte,↓M2,M2,Mb,reduceIte]);(repeat' (first | (with_reducible exact G0 rfl) | (with_reducible exact Zi (Stp.bel (by (repeat (first | exact Stp.refl (by (first | assumption | exact Stp.sat (by assumption) | exact Hst.sat (by assumption))) | assumption | refine Stp.trans ?_ (by first | assumption | exact Hst.stp (by assumption)))))) rfl) | (with_reducible intro _) | (simp only[↓M2,M2,Mb,reduceIte]) | (with_reducible show Q2 _ _ _ _ _;first | refine X7 aS aL aR ?_ | refine Y4 aS aL aR ?_ | refine ld aS aL aR ?_) | (with_reducible show indexAddr _ _ _ _ _ _;refine Y3 aL au ?_) | (with_reducible show X3 _ _ _ _ _ _ _ _;refine Q8 aL ?_) | (with_reducible show F4 _ _ _ _ _ _;refine J0 aR ?_) | (with_reducible show pick _ _ _ _ _ _;refine L8 ?_) | (apply Vw;intro hh;(try simp only[hh,reduceIte,↓M2,M2,Mb,reduceIte]))));done)))
   refine J7 (V:= .bool true) (by
    intros
    (repeat (rename_i hx;subst hx))
    refine Dp ?_
    exact G0 (by rw[hge,decide_eq_true rfl])) ?_
   (repeat (apply J7;(· intros;(have hzz:=VarB.hs (by assumption));(repeat (rename_i hx;subst hx));(try simp only[hz0,decide_true,Bool.not_true,Bool.not_false,Bool.false_eq_true,Bool.true_eq_false,reduceIte,↓M2,M2,Mb,reduceIte]);(repeat' (first | (with_reducible exact G0 rfl) | (with_reducible exact Zi (Stp.bel (by (repeat (first | exact Stp.refl (by (first | assumption | exact Stp.sat (by assumption) | exact Hst.sat (by assumption))) | assumption | refine Stp.trans ?_ (by first | assumption | exact Hst.stp (by assumption)))))) rfl) | (with_reducible intro _) | (simp only[↓M2,M2,Mb,reduceIte]) | (with_reducible show Q2 _ _ _ _ _;first | refine X7 aS aL aR ?_ | refine Y4 aS aL aR ?_ | refine ld aS aL aR ?_) | (with_reducible show indexAddr _ _ _ _ _ _;refine Y3 aL au ?_) | (with_reducible show X3 _ _ _ _ _ _ _ _;refine Q8 aL ?_) | (with_reducible show F4 _ _ _ _ _ _;refine J0 aR ?_) | (with_reducible show pick _ _ _ _ _ _;refine L8 ?_) | (apply Vw;intro hh;(try simp only[hh,reduceIte,↓M2,M2,Mb,reduceIte]))));done)))
   refine Ui (φ:=fun v _=>Value.agg [lv,I room,cv].toArray=v) rfl (Rep.one hr3) (fun v w h=>h) ?_ hm67.1
   intros
   rename_i hm9
   (repeat (rename_i hx;subst hx))
   rename_i w9 hb9
   exact Vl (G:=fun b=>cr=cs→b=true) (fun h=>by rw[h];exact decide_eq_true rfl) (Nxt.of_stp (D:=D) hS7) (h5.up hS57) (fun j hj=> .inl hj) hbD hB6 hb9.kp (fun k o e=>hb9.hst.sat k o (l57.le k o e)) ⟨n5,hm9.2⟩ rfl (W7 hr0 ⟨hS7.le⟩) hh
  ·have hz0:decide True=true:=decide_true _
   (repeat (apply J7;(· intros;(have hzz:=VarB.hs (by assumption));(repeat (rename_i hx;subst hx));(try simp only[hz0,decide_true,Bool.not_true,Bool.not_false,Bool.false_eq_true,Bool.true_eq_false,reduceIte,↓M2,M2,Mb,reduceIte]);(repeat' (first | (with_reducible exact G0 rfl) | (with_reducible exact Zi (Stp.bel (by (repeat (first | exact Stp.refl (by (first | assumption | exact Stp.sat (by assumption) | exact Hst.sat (by assumption))) | assumption | refine Stp.trans ?_ (by first | assumption | exact Hst.stp (by assumption)))))) rfl) | (with_reducible intro _) | (simp only[↓M2,M2,Mb,reduceIte]) | (with_reducible show Q2 _ _ _ _ _;first | refine X7 aS aL aR ?_ | refine Y4 aS aL aR ?_ | refine ld aS aL aR ?_) | (with_reducible show indexAddr _ _ _ _ _ _;refine Y3 aL au ?_) | (with_reducible show X3 _ _ _ _ _ _ _ _;refine Q8 aL ?_) | (with_reducible show F4 _ _ _ _ _ _;refine J0 aR ?_) | (with_reducible show pick _ _ _ _ _ _;refine L8 ?_) | (apply Vw;intro hh;(try simp only[hh,reduceIte,↓M2,M2,Mb,reduceIte]))));done)))
   refine J7 (V:= .bool false) (by
    intros
    (repeat (rename_i hx;subst hx))
    refine Dp ?_
    exact G0 (by rw[decide_eq_false hge])) ?_
   (repeat (apply J7;(· intros;(have hzz:=VarB.hs (by assumption));(repeat (rename_i hx;subst hx));(try simp only[hz0,decide_true,Bool.not_true,Bool.not_false,Bool.false_eq_true,Bool.true_eq_false,reduceIte,↓M2,M2,Mb,reduceIte]);(repeat' (first | (with_reducible exact G0 rfl) | (with_reducible exact Zi (Stp.bel (by (repeat (first | exact Stp.refl (by (first | assumption | exact Stp.sat (by assumption) | exact Hst.sat (by assumption))) | assumption | refine Stp.trans ?_ (by first | assumption | exact Hst.stp (by assumption)))))) rfl) | (with_reducible intro _) | (simp only[↓M2,M2,Mb,reduceIte]) | (with_reducible show Q2 _ _ _ _ _;first | refine X7 aS aL aR ?_ | refine Y4 aS aL aR ?_ | refine ld aS aL aR ?_) | (with_reducible show indexAddr _ _ _ _ _ _;refine Y3 aL au ?_) | (with_reducible show X3 _ _ _ _ _ _ _ _;refine Q8 aL ?_) | (with_reducible show F4 _ _ _ _ _ _;refine J0 aR ?_) | (with_reducible show pick _ _ _ _ _ _;refine L8 ?_) | (apply Vw;intro hh;(try simp only[hh,reduceIte,↓M2,M2,Mb,reduceIte]))));done)))
   refine Ui (φ:=fun v _=>Value.agg [lv,I room,cv].toArray=v) rfl (Rep.one hr3) (fun v w h=>h) ?_ hm67.1
   intros
   rename_i hm9
   (repeat (rename_i hx;subst hx))
   rename_i w9 hb9
   exact Vl (G:=fun b=>cr=cs→b=true) (fun h=>absurd (by rw[h]) hge) (Nxt.of_stp (D:=D) hS7) (h5.up hS57) (fun j hj=> .inl hj) hbD hB6 hb9.kp (fun k o e=>hb9.hst.sat k o (l57.le k o e)) ⟨n5,hm9.2⟩ rfl (W7 hr0 ⟨hS7.le⟩) hh
 rw[decide_eq_false e3k]
 refine Z9 ?_
 refine P3 ?_
 by_cases e4k:x.kind=4
 ·rw[decide_eq_true e4k]
  have ea:B5 W5 (Q4 l) room cs x=Pw cs x.ref:=by unfold B5;rw[if_neg e0,if_neg e1k,if_neg e2k,if_pos e4k]
  have er:B5 W5 (Q4 l) room cr x=Pw cr x.ref:=by unfold B5;rw[if_neg e0,if_neg e1k,if_neg e2k,if_pos e4k]
  rw[ea,er] at hh
  refine J4 ?_
  refine W4 ?_
  refine ld (i:=3) hk3.sat hq53 rfl ?_
  refine X3E hk3.sat h3 htk b4 fun w4 σ4 D4 N4 h4 hD4=>?_
  have hq54:=hq53.lift N4.le
  have hq44:=hq43.lift N4.le
  refine Y4 N4.sat hq44 rfl ?_
  refine W4 ?_
  refine ld (i:=3) N4.sat hq54 rfl ?_
  refine X3L N4.sat (W7 hr3 N4.le) htr b4 fun ds' w5 σ5 hk5 hr5=>?_
  have hbD: ¬D b6:=fun e=>by have:=hDl _ e;omega
  have hm65:=(hm6.nx N4 hbD).up hk5
  obtain ⟨lv',cv',hde,_,_⟩:=D1.out hr5
  subst hde
  refine Mj (ds:=[lv',I room,cv']) hm65 rfl rfl (by rw[List.all_toArray];exact List.all_eq_true.2 (Rep.one hr5)) fun w6 u6 hm66=>?_
  have N:=(Nxt.of_stp (D:=D) hS3).chain (N4.trans (Nxt.of_stp hk5)) fun j _ e=>e
  exact Vl (G:=fun b=>cr=cs→b=true) (fun _=>rfl) N (h4.up hk5) (fun j hj=> .inl (hD4 j hj)) (fun e=>hbD (hD4 _ e)) hB6 (Kpt.of_upd u6 rfl) (u6.stp (Yo hk5.sat) (Nat.zero_le _) hm65.1).sat hm66 rfl hr5 hh
 rw[decide_eq_false e4k]
 refine Z9 ?_
 have ea:B5 W5 (Q4 l) room cs x=cs:=by unfold B5;rw[if_neg e0,if_neg e1k,if_neg e2k,if_neg e4k]
 have er:B5 W5 (Q4 l) room cr x=cr:=by unfold B5;rw[if_neg e0,if_neg e1k,if_neg e2k,if_neg e4k]
 rw[ea,er] at hh
 refine Y4 hk3.sat hq43 rfl ?_
 refine Mj (ds:=[lv,I room,cv]) hm6 rfl rfl (by rw[List.all_toArray];exact List.all_eq_true.2 (Rep.one hr3)) fun w6 u6 hm66=>?_
 have hbD: ¬D b6:=fun e=>by have:=hDl _ e;omega
 exact Vl (G:=fun b=>cr=cs→b=true) (fun _=>rfl) (Nxt.of_stp (D:=D) hS3) h3 (fun j hj=> .inl hj) hbD hB6 (Kpt.of_upd u6 rfl) (u6.stp (Yo hk3.sat) (Nat.zero_le _) hm6.1).sat hm66 rfl hr3 hh)
end Go.Proofs.YtjdiakhipmggjaaGreatDoor

namespace Go.Emb
theorem X4j {w:World} {A:World→Prop} (h:A w.drew):sq w A:=by rw[Q8X];exact h
end Go.Emb
namespace Go.Proofs.YtjdiakhipmggjaaGreatDoor
open Go.Emb Go.RowKit Go.Kd Go.Hm
variable {w w' w0 : World} {K : Value → World → Prop} {σ σ' σ0 : Q6} {room : Int} {cs cr : List Cel} {hp tv : Value} {b6 : Nat}
structure RunG (w0 : World) (σ0 : Q6) (w : World) (σ : Q6) (hp tv : Value) (b6 : Nat) (room : Int) (cs cr : List Cel) : Prop where
  stp : Stp w0 σ0 w σ
  ex : ∃ D ds, HeapIs w0.heap.size D σ w hp tv room cs ∧ ¬ D b6 ∧ Y1 σ w b6 ds ∧ D1 σ (Q4 B3, room, cr) ds
  bge : w0.heap.size ≤ b6
  tab : Tab σ tv (Q4 B3)
  ok : Ok (Q4 B3)
  good : GoodH W5 (Q4 B3) room cs
  goodr : GoodH W5 (Q4 B3) room cr
  rm : room ≤ 1048576
abbrev Run (w0:World) (σ0:Q6) (w:World) (σ:Q6) (hp tv:Value) (b6:Nat) (room:Int) (cs:List Cel):Prop:=RunG w0 σ0 w σ hp tv b6 room cs cs
theorem RunG.up (R:RunG w0 σ0 w σ hp tv b6 room cs cr) (k:Stp w σ w' σ'):RunG w0 σ0 w' σ' hp tv b6 room cs cr:=by
 obtain ⟨D,ds,d,a,c,b⟩:=R.ex
 exact ⟨R.stp.trans k,⟨D,ds,d.up k,a,c.up k,W7 b ⟨k.le⟩⟩,R.bge,R.tab.lift ⟨k.le⟩,R.ok,R.good,R.goodr,R.rm⟩
theorem RunG.below (R:RunG w0 σ0 w σ hp tv b6 room cs cr) (k:Below w.heap.size w w'):RunG w0 σ0 w' σ hp tv b6 room cs cr:=R.up (Stp.of_below R.stp.sat k)
theorem RunG.freeze (R:RunG w0 σ0 w σ hp tv b6 room cs cr): ∃a ds,X2 w a∧SLe σ a∧S4 a hp tv room cs∧Y1 a w b6 ds∧D1 a (Q4 B3,room,cr) ds∧Tab a tv (Q4 B3):=by
 obtain ⟨D,ds,h,f,d,g⟩:=R.ex
 obtain ⟨a,e,b,c,of⟩:=h.freeze R.stp.sat
 exact ⟨a,ds,e,b,c,⟨(of b6 f).trans d.1,d.2⟩,W7 g b,R.tab.lift b⟩
theorem RunG.freezeL (R:RunG w0 σ0 w σ hp tv b6 room cs cr): ∃a ds,X2 w a∧SLe σ a∧S4 a hp tv room cs∧Z4 a ⟨b6,0,none⟩ ds∧D1 a (Q4 B3,room,cr) ds∧Tab a tv (Q4 B3):=by
 obtain ⟨a,ds,e,c,d,k,h,f⟩:=R.freeze
 obtain ⟨j,g,b,i,l⟩:=k.freeze e
 exact ⟨j,ds,g,c.more b,d.lift b,i,W7 h b,f.lift b⟩
theorem RunG.thaw {a:Q6} (R:RunG w0 σ0 w σ hp tv b6 room cs cr) (b:SLe σ a) (k:Stp w a w' σ'):RunG w0 σ0 w' σ hp tv b6 room cs cr:=R.up (k.weak b.le)
theorem RunG.act {x:ActH} {c0 ds:List Value} {D:Nat→Prop} (R:RunG w0 σ0 w σ hp tv b6 room cs cr) (u:Glb σ0) (j:HeapIs w0.heap.size D σ w hp tv room cs) (l: ¬D b6) (m:Y1 σ w b6 ds) (o:D1 σ (Q4 B3,room,cr) ds) (t:Bx σ x c0)
 (h: ∀a b w' σ' D',HeapIs w0.heap.size D' σ' w' hp tv room (B5 W5 (Q4 B3) room cs x)→ ¬D' b6→Y1 σ' w' b6 ds→D1 σ' (Q4 B3,room,B5 W5 (Q4 B3) room cr x) a→Stp w0 σ0 w' σ'→SLe σ σ'→(cr=cs→b=true)→K (.tuple #[.agg a.toArray, .bool b]) w'):Q1 P F.aj [hp, .agg ds.toArray, .agg c0.toArray] w K:=by
 refine X4i R.stp.sat (u.lift ⟨R.stp.le⟩) R.stp.bel.size j o R.tab Gn R.ok (by decide) R.good R.goodr R.rm t (fun k g=>(j.mem g).1) fun a b q p r c i n d f=>?_
 have s:=m.lt
 exact h a b q p r n (fun e=>(d _ e).elim l fun e=>by omega) (m.nx i l) f (i.stp' R.stp fun k g=>(j.mem g).1) i.le c
theorem X3q {r:Int} (h:(Lit.int .u16 r).wf=true):0≤r:=by
 simp[Lit.wf,IntKind.min,IntKind.max,IntKind.signed,IntKind.bits] at h
 omega
theorem X1H {o:Operand} {r:Int} {A:Value→Value→Value→World→Prop} (Q:X2 w σ) (M:Glb σ) (O:0≤r)
 (h: ∀a b b6 w' σ',Run w σ w' σ' (.pointer (some a)) (.pointer (some b)) b6 (r % 301) []→A (.pointer (some a)) (.pointer (some ⟨b6,0,none⟩)) (.bool false) w'):
 Q1 P F.ai [.int .u16 r] w fun n w=>ext P n 0 w fun m w=>ext P n 1 w fun p w=>W0 P T.a w fun E w=>Y0 P T.a E p w fun _u w=>Q1 P F.ah [] w fun q w=>J9 P .not q w fun f w=>Q0 f false w (fun w J=>J m w) fun u w=>Q0 f false w (Q3 P .eql T.a5 o (.const (.pointer none)) u (.pointer none)) fun v w=>pick P f (.bool true) v w fun B w=>A m E B w:=by
 have j:=Int.emod_nonneg r (show (301:Int)≠0 by decide)
 have R:=Int.emod_lt_of_pos r (show (0:Int)<301 by decide)
 refine Q7o Q M O fun b a D ds w1 σ1 g L d V ok=>?_
 refine J6 (vs:=[_,_]) rfl ?_
 refine J6 (vs:=[_,_]) rfl ?_
 refine M8 g.sat fun N w2 C k t l=>?_
 have y:=M9 k g
 refine Mj l rfl (by obtain ⟨X,Y,rfl,_⟩:=D1.out d;rfl) (by rw[List.all_toArray];exact List.all_eq_true.2 (Rep.one d)) fun H U s=>?_
 have c:Stp w1 σ1 H C:=U.stp t k l.1
 have i:=g.trans c
 have W:Run w σ H C (.pointer (some ⟨b,0,none⟩)) (.pointer (some a)) N (r % 301) []:=⟨i,⟨D,ds,L.up c,fun e=>by have:=(L.mem e).2.1;omega,s,W7 d ⟨c.le⟩⟩,y,V.lift ⟨c.le⟩,ok,GoodH.empty j,GoodH.empty j,by omega⟩
 refine Q7k c.sat (M.lift ⟨i.le⟩) fun Z σ4 z=>?_
 simp only[Bool.not_true,↓M1,M1,Mb,reduceIte]
 refine Q93 ?_
 exact h _ _ _ _ _ (W.up z)
theorem X3R {J:World→Prop} {i:Nat} {xs:List ActH} {v:Value} (hg:Glb σ0) (U:Sl 8 Bx σ0 v xs) (y:i<xs.length) (R:Run w0 σ0 w σ hp tv b6 room cs)
 (h: ∀w' σ' f,Run w0 σ0 w' σ' hp tv b6 room f→f=cs∨f=B5 W5 (Q4 B3) room cs xs[i]→J w'):
 indexAddr P T.z v (I i) w fun p w=>Q2 P T.m p w fun A w=>Q1 P F.aC [A] w fun t w=>X1 t (sq w fun w=>indexAddr P T.z v (I i) w fun o w=>Q2 P T.a (.pointer (some ⟨b6,0,none⟩)) w fun m w=>Q2 P T.m o w fun n w=>Q1 P F.aj [hp,m,n] w fun g w=>ext P g 0 w fun z w=>ext P g 1 w fun Z w=>Y0 P T.a (.pointer (some ⟨b6,0,none⟩)) z w fun _u w=>J w) (J w):=by
 have d:=U.up R.stp
 obtain ⟨c0,L,E,Q⟩:=d.el y
 refine Y3 d y ?_
 refine Y4 R.stp.sat L E ?_
 refine X4e R.stp.sat Q fun w1 u=>?_
 have O:=R.below u
 refine Q7 (fun _=>?_) (fun _=>h _ _ _ O (.inl rfl))
 refine X4j ?_
 have a:=O.below (Below.refl _ _).drew
 obtain ⟨D,ds,Y,X,M,r⟩:=a.ex
 refine Y3 d y ?_
 refine Sc M (by obtain ⟨C,H,rfl,_⟩:=D1.out r;rfl) ?_
 refine Y4 a.stp.sat L E ?_
 refine a.act hg Y X M r Q fun q bb w3 σ3 D3 V l b c j s _=>?_
 refine J6 (vs:=[_,_]) rfl ?_
 refine J6 (vs:=[_,_]) rfl ?_
 refine Mj b (by obtain ⟨C,H,rfl,_⟩:=D1.out r;rfl) (by obtain ⟨C,H,rfl,_⟩:=D1.out c;rfl) (by rw[List.all_toArray];exact List.all_eq_true.2 (Rep.one c)) fun w4 N B=>?_
 have G:=GoodH.act Gn Q3M a.good xs[i]
 exact h _ _ _ ⟨N.stp j a.bge b.1,⟨D3,q,V.nx (Nxt.of_upd j.sat N b.1) fun k W e=>l (e▸W),l,B,c⟩,a.bge,a.tab.lift s,a.ok,G,G,a.rm⟩ (.inr rfl)
theorem X3i {o1 o2 V H Q M:Operand} {B:Int} {E:World→Prop} {xs:List ActH} {v:Value} (Y:Glb σ0) (C:Sl 8 Bx σ0 v xs) (R:Run w0 σ0 w σ hp tv b6 room cs)
 (h: ∀w' σ' c,Run w0 σ0 w' σ' hp tv b6 room c→E w'):
 lp (α:=Value) (.int .i64 0) w fun a x W w=>X3 P .len [T.z] T.e [false] [v] w fun u w=>Q3 P .lss T.e o1 o2 x u w fun b w=>Q0 b true w (fun w J=>J x w) fun r w=>Q0 b true w (Q3 P .lss T.e V H r (.int .i64 B)) fun p w=>pick P b p (.bool false) w fun s w=>X1 s (jn (α:=Unit) w (fun J w=>
  indexAddr P T.z v x w fun o w=>Q2 P T.m o w fun y w=>Q1 P F.aC [y] w fun q w=>X1 q (sq w fun w=>indexAddr P T.z v x w fun n w=>Q2 P T.a (.pointer (some ⟨b6,0,none⟩)) w fun l w=>Q2 P T.m n w fun m w=>Q1 P F.aj [hp,l,m] w fun e w=>ext P e 0 w fun t w=>ext P e 1 w fun U w=>Y0 P T.a (.pointer (some ⟨b6,0,none⟩)) t w fun _u w=>J () w) (J () w))
  fun z W w=>Q3 P .add T.e Q M x (.int .i64 1) w fun A w=>a A w) (E w):=by
 refine U3 xs.length (fun i w'=> ∃σ' c,Run w0 σ0 w' σ' hp tv b6 room c) ⟨σ,cs,R⟩ fun i w1 d hi N=>?_
 obtain ⟨σ1,O,j⟩:=N
 have f:=C.up j.stp
 have k:=f.max
 refine Q8 f ?_
 refine Z2 ?_
 cases D:decide ((i:Int)<(xs.length:Nat)) with
 | false=>
  (try simp only[↓M1,M1,Mb,reduceIte])
  exact h _ _ _ j
 | true=>
  (try simp only[↓M1,M1,Mb,reduceIte])
  have g:i<xs.length:=by simpa using D
  refine Q7 (fun _=>?_) (fun _=>h _ _ _ j)
  refine U8 ?_
  refine X3R Y C g j fun w2 σ2 L X _=>fun Z=>?_
  (try simp only[↓M1,M1,Mb,reduceIte])
  exact Y5 k g ⟨_,_,X⟩
end Go.Proofs.YtjdiakhipmggjaaGreatDoor

namespace Go.Proofs.YtjdiakhipmggjaaGreatDoor
open Go.Emb Go.RowKit Go.Kd Go.Hm
variable {w w' w0 : World} {K : Value → World → Prop} {σ σ' σ0 : Q6} {room : Int} {cs : List Cel} {hp tv : Value} {b6 : Nat}
end Go.Proofs.YtjdiakhipmggjaaGreatDoor

namespace Go.Proofs.YtjdiakhipmggjaaGreatDoor
open Go.Emb Go.RowKit Go.Kd Go.Hm
variable {w w' w0 : World} {K : Value → World → Prop} {σ σ' σ0 : Q6} {room : Int} {cs : List Cel} {hp tv : Value} {b6 : Nat}
def Q2D:List X0:=[[105,110,116],[98,111,111,108],[116,101,120,116],[110,117,108,108],[65],[66],[73],[79,98,106,101,99,116],[65,91,93],[105,110,116,91,93],[90],[]]
set_option maxHeartbeats 1000000 in
theorem Q8e {r:Int} {v:Value} {xs:List ActH} {x:Val} {ds:List Value} (hs:X2 w σ) (hg:Glb σ) (hr:(Lit.int .u16 r).wf=true) (hv:Sl 8 Bx σ v xs) (hx:M5 σ x ds)
 (h: ∀w' σ',Stp w σ w' σ'→K (.bool true) w'):Q1 P F.cd [.int .u16 r,v, .agg ds.toArray] w K:=Ba (by
 have hr0:0≤r:=X3q hr
 obtain ⟨rfl,y1,y2,y3,y4⟩:=hx
 unfold Vb
 refine Y9 hs fun q w0 σ0 hk0 hq=>?_
 have hg0:=hg.lift ⟨hk0.le⟩
 have hv0:=hv.up hk0
 refine X1H hk0.sat hg0 hr0 fun a b b6 w1 σ1 R1=>?_
 have hq1:=hq.lift ⟨R1.stp.le⟩
 (repeat refine Hd.h ?_)
 refine ld (i:=2) R1.stp.sat hq1 rfl ?_
 (repeat refine Hd.h ?_)
 refine Cg (by kernel_rfl) ?_
 (repeat refine Hd.h ?_)
 refine Pr ?_
 (repeat refine Hd.h ?_)
 refine Q7 (fun hc=>?_) (fun hc=>?_)
 ·refine Q7k R1.stp.sat (hg0.lift ⟨R1.stp.le⟩) fun w2 σ2 hk2=>?_
  exact h _ _ (hk0.trans (R1.stp.trans hk2))
 refine X3i hg0 hv0 R1 fun w2 σ2 cs2 R2=>?_
 refine P1 (R:=U6) (sz:=1) R2.stp.sat (Q2D.map S) Q2D rfl rfl (by simp[Q2D];exact ⟨rfl,rfl,rfl,rfl,rfl,rfl,rfl,rfl,rfl,rfl,rfl,rfl⟩) rfl ⟨⟨rfl,by decide⟩,⟨rfl,by decide⟩,⟨rfl,by decide⟩,⟨rfl,by decide⟩,⟨rfl,by decide⟩,⟨rfl,by decide⟩,⟨rfl,by decide⟩,⟨rfl,by decide⟩,⟨rfl,by decide⟩,⟨rfl,by decide⟩,⟨rfl,by decide⟩,⟨rfl,by decide⟩,trivial⟩ fun vk w3 σ3 hk3 hvk=>?_
 have R3:=R2.up hk3
 obtain ⟨σf,ds,sf,lef,hsl,lb,hrf,htf⟩:=R3.freezeL
 have hqf:=(hq.lift ⟨R3.stp.le⟩).lift lef
 have hgf:=(hg0.lift ⟨R3.stp.le⟩).lift lef
 have hvf:=hvk.lift lef
 have ok:=R3.ok
 have wf7:=Gn
 have hl7:(Q4 B3).length≤1000:=by decide
 obtain ⟨lv,cv,rfl,_,_⟩:=D1.out hrf
 refine U3 Q2D.length (fun n w'=>Stp w3 σf w' σf) (Stp.refl sf) fun i w4 d hi hk=>?_
 refine Q8 hvf ?_
 refine Z2 ?_
 refine Q7 (fun hc=>?_) (fun hc=>?_)
 ·have hi':i<Q2D.length:=by simpa using hc
  obtain ⟨e1,e2⟩:=Sl.elS hvf hi'
  refine U2 hk.sat ?_
  (repeat (apply J7;(· intros;(repeat (rename_i hx;subst hx));(repeat' (first | (with_reducible exact N2 rfl) | (with_reducible exact S1 (Stp.bel (by (repeat (first | exact Stp.refl (by (first | assumption | exact Stp.sat (by assumption) | exact Hst.sat (by assumption))) | assumption | refine Stp.trans ?_ (by first | assumption | exact Hst.stp (by assumption)))))) rfl) | (with_reducible intro _) | (simp only[↓M2,M2,Mb,reduceIte]) | (with_reducible show Q2 _ _ _ _ _;first | refine X7 aS aL aR ?_ | refine Y4 aS aL aR ?_ | refine ld aS aL aR ?_) | (with_reducible show indexAddr _ _ _ _ _ _;refine Y3 aL au ?_) | (with_reducible show X3 _ _ _ _ _ _ _ _;refine Q8 aL ?_) | (with_reducible show F4 _ _ _ _ _ _;refine J0 aR ?_) | (with_reducible show pick _ _ _ _ _ _;refine L8 ?_) | (with_reducible show Q1 _ _ _ _ _;first | refine Q5d au au au au au au au ?_ | refine Q9k au au au au au au au ?_ | refine Q5y au ?_) | (apply G5;intro hh;(try simp only[hh,reduceIte,↓M2,M2,Mb,reduceIte]))));done)))
  (intros;(repeat (rename_i hx;subst hx));(try simp only[↓M2,M2,Mb,reduceIte]))
  rename_i w5 hb5
  have e9:(!(S8 W5 (Q4 B3) cs2 x Q2D[i]==S8 W5 (Q4 B3) cs2 x Q2D[i]))=false:=by simp
  simp only[e9,↓M1,M1,Mb,reduceIte]
  refine Q6j hb5.sat fun w6 σ6 hk6=>?_
  (repeat refine Hd.h ?_)
  refine X1F ?_
  simp only[decide_true,Bool.not_true,↓M1,M1,Mb,reduceIte]
  exact Y5 (by decide) hi' (hk.trans (hb5.stp.trans (hk6.weak fun _ _ h=>h)))
 ·refine U2 hk.sat ?_
  (repeat (apply J7;(· intros;(repeat (rename_i hx;subst hx));(repeat' (first | (with_reducible exact N2 rfl) | (with_reducible exact S1 (Stp.bel (by (repeat (first | exact Stp.refl (by (first | assumption | exact Stp.sat (by assumption) | exact Hst.sat (by assumption))) | assumption | refine Stp.trans ?_ (by first | assumption | exact Hst.stp (by assumption)))))) rfl) | (with_reducible intro _) | (simp only[↓M2,M2,Mb,reduceIte]) | (with_reducible show Q2 _ _ _ _ _;first | refine X7 aS aL aR ?_ | refine Y4 aS aL aR ?_ | refine ld aS aL aR ?_) | (with_reducible show indexAddr _ _ _ _ _ _;refine Y3 aL au ?_) | (with_reducible show X3 _ _ _ _ _ _ _ _;refine Q8 aL ?_) | (with_reducible show F4 _ _ _ _ _ _;refine J0 aR ?_) | (with_reducible show pick _ _ _ _ _ _;refine L8 ?_) | (with_reducible show Q1 _ _ _ _ _;first | refine X2P au au au au ?_) | (apply G5;intro hh;(try simp only[hh,reduceIte,↓M2,M2,Mb,reduceIte]))));done)))
  (intros;(repeat (rename_i hx;subst hx));(try simp only[↓M2,M2,Mb,reduceIte]))
  rename_i w5 hb5
  refine X3a hb5.sat hrf y3 fun w6 σ6 hk6=>?_
  refine K2 ?_
  rw[decide_eq_true rfl]
  exact h _ _ (hk0.trans (R3.thaw lef (hk.trans (hb5.stp.trans hk6))).stp))
end Go.Proofs.YtjdiakhipmggjaaGreatDoor

namespace Go.Proofs.YtjdiakhipmggjaaGreatDoor.heapFits
open Go.ChangeShapes Go.WideShapes Go.ChangeAt Go.RowKit
open Go.Emb
theorem own : ownKnob Tryz.prog.godebug = none := by kernel_rfl
theorem lay : laidOutB Tryz.prog = true := by kernel_rfl
set_option maxRecDepth 100000 in
theorem X2G (os : Os) (started : os.Started) (H : Type) (enc : TypeId × Value → H) :
    ReturnsInHanded {} Tryz.checked os 4 .any (fun w args => (Rows.heapFitsSpec.pre enc Tryz.prog Tryz.f4 [] false w args ∧ laidMetH Tryz.prog laidAll w) ∧ sizedMet enc Tryz.prog Tryz.f4 (OpenSpec.ofChange Rows.heapFitsSpec) false w args) (Rows.heapFitsSpec.post enc Tryz.prog Tryz.f4 false true false false) := by
  refine returnsInHanded_of_change_and (C := Tryz.checked) (X := fun w _ => laidMetH Tryz.prog laidAll w) (fun _ _ _ hh h => h.of_heap hh) own started (by kernel_rfl) Tryz.func4
    (ChangeSpec.witness_shaped (enc := enc) (C := Tryz.checked) (os := os) (X := fun w _ => laidMetH Tryz.prog laidAll w) false (World.laidAll Tryz.prog os laidAll) #[.int .u16 0, .slice none 0 0, .agg #[.int .i64 0, .int .i64 0, .string ByteArray.empty, .int .i64 0]] 8 (World.laidAll_os _ _ _)
      (World.shaped_of_ZipB (by kernel_rfl) (by kernel_rfl)) (by kernel_rfl) (by kernel_rfl) (by kernel_rfl) (by rw [MakeChecks.laidMetH_plain _ _ _ (by kernel_rfl)]; exact laidMet_laidAll _ (by kernel_rfl) (by kernel_rfl))) ?_
  intro W base args ds gs before hval0 hW _ hsz0 hL _
  have hsz : (DataW.weightsEach Tryz.prog (Tryz.f4.params.toList ++ Rows.heapFitsSpec.plain.varTypes Tryz.prog) (ds ++ gs)).all (· ≤ reachBytes) = true := hsz0
  have hval : ∀ (j : Nat) t v, Tryz.f4.params[j]? = some t → args[j]? = some v → Value.okWide Tryz.prog W .any base t v := hval0
  have hW' := hW
  obtain ⟨p, q, hA0, hV, rfl, hfz, hnd⟩ := hW
  have hA : DataW.TrodAll enc Tryz.prog W 0 (fun _ => true) true Tryz.f4.params.toList args.toList ds p := hA0
  have hlt := DataW.TrodAll.lt hA
  rw [Tryz.params4] at hA hval hsz
  obtain ⟨v0, vs0, d0, ds0, p0, q0, hargs, rfl, rfl, h0, r0⟩ := trodAll_cons hA
  obtain ⟨v1, vs1, d1, ds1, p1, q1, rfl, rfl, rfl, h1, r1⟩ := trodAll_cons r0
  obtain ⟨v2, vs2, d2, ds2, p2, q2, rfl, rfl, rfl, h2, r2⟩ := trodAll_cons r1
  obtain ⟨rfl, rfl, rfl⟩ := trodAll_nil r2
  obtain rfl : args = #[v0, v1, v2] := by cases args; simp_all
  obtain ⟨rfl, rfl⟩ := trodVars_none hV
  have g0 : ∀ x ∈ p0, x.block < W.heap.size := fun x hx => hlt x (by simp [hx])
  have k0 := fun (W' : World) (bel : Below W.heap.size W W') => Below.trod lay (by kernel_rfl) (of_decide_eq_true (by kernel_rfl)) h0 bel g0
  obtain ⟨a0, rfl, _, _, w0⟩ := open_int Tryz.underlying43 (hval 0 43 v0 rfl rfl) h0
  have g1 : ∀ x ∈ p1, x.block < W.heap.size := fun x hx => hlt x (by simp [hx])
  have k1 := fun (W' : World) (bel : Below W.heap.size W W') => Below.trod lay (by kernel_rfl) (of_decide_eq_true (by kernel_rfl)) h1 bel g1
  obtain ⟨l1, e1⟩ := X1X (hval 1 44 v1 rfl rfl) h1 (Q9F hsz (j := 1) (t := 44) rfl rfl)
  have g2 : ∀ x ∈ p2, x.block < W.heap.size := fun x hx => hlt x (by simp [hx])
  have k2 := fun (W' : World) (bel : Below W.heap.size W W') => Below.trod lay (by kernel_rfl) (of_decide_eq_true (by kernel_rfl)) h2 bel g2
  obtain ⟨y2, c2, rfl, e2⟩ := X35 (hval 2 33 v2 rfl rfl) h2 (Q9F hsz (j := 2) (t := 33) rfl rfl)
  have hc : Q1 Tryz.prog 4 [.int .u16 a0, v1, .agg (List.toArray c2)] W (fun e w' => e = .bool true ∧ Below W.heap.size W w') := Q8e Q9N (X2T hL) w0 e1 e2 (fun w' σ' hb => ⟨rfl, hb.bel⟩)
  refine (Q3Z Tryz.func4 (by kernel_rfl) (by kernel_rfl) hc).mono fun e W' he => ?_
  obtain ⟨v, rfl⟩ : ∃ v, e = .returned v := by cases e <;> first | exact ⟨_, rfl⟩ | exact he.elim
  obtain ⟨rfl, bel⟩ := he
  exact ⟨_, rfl, _, _, _, [], _, [], hW', trodAll_mk1 (shut_bool Tryz.underlying4 _), (trodAll_cons_mk (k0 W' bel) (trodAll_cons_mk (k1 W' bel) (trodAll_cons_mk (k2 W' bel) trodAll_mk0))), rfl, bel.frame _, fun h => by cases h⟩
theorem over : Rows.heapFitsRow.holds Tryz.pinned (OpenSpec.ofChange Rows.heapFitsSpec) :=
  OpenClaim.holds_of_wide 4 Tryz.f4 rfl rfl rfl rfl rfl rfl rfl ⟨rfl, rfl, rfl, rfl, rfl⟩ rfl rfl rfl rfl rfl (by kernel_rfl) Tryz.func4 (by kernel_rfl)
    (of_decide_eq_true (by kernel_rfl)) (by unfold Func.isWrapper; first | (rw [if_pos (by decide +kernel)]; kernel_rfl) | (rw [if_neg (by decide +kernel)]; exact ⟨rfl, rfl⟩))
    (fun os started H enc _ => X2G os started H enc)
end Go.Proofs.YtjdiakhipmggjaaGreatDoor.heapFits
namespace Go.Proofs.YtjdiakhipmggjaaGreatDoor
theorem Q3U : Rows.HeapFitsSaid := heapFits.over
end Go.Proofs.YtjdiakhipmggjaaGreatDoor
